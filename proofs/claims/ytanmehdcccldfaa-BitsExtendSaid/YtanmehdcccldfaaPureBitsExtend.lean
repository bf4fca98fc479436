import Derived.Test.YtanmehdcccldfaaLw
import Derived.Test.YtanmehdcccldfaaRe
import Derived.Test.YtanmehdcccldfaaPx26
import Derived.Test.YtanmehdcccldfaaPx25
import Derived.Test.YtanmehdcccldfaaPx24
/- A word of another width has the specified bits; extending and cutting back changes nothing. -/
namespace Go.Proofs.Ytanmehdcccldfaa.Pure
set_option linter.unusedVariables false
set_option linter.unusedSimpArgs false
set_option linter.unusedSectionVars false
open Go.RowKit Go.Proofs.Ytanmehdcccldfaa.P Go.Proofs.YtanmehdcccldfaaW.PrintWords Wd Im Lw Bl Re

/-- What is extended: the word, or the number that it stands for. -/
def src (n : Nat) (x : Int) (s : Bool) : Int := if s then sg n x else x % 2 ^ n
theorem extend_eq (w v x : Int) (s : Bool) (hx : 0 ≤ x ∧ x < 18446744073709551616) : bits_Extend.f w v x s = some (src (nn w) x s % 2 ^ nn v) := by
  unfold bits_Extend.f src
  cases s
  · rw [if_neg (by decide), fit_eq w hx, Option.bind_some, fit_eq v (mod_U (nn_le w) x)]; rfl
  · rw [if_pos rfl, signed_eq w hx, Option.bind_some, from_eq]; rfl
theorem src_low {n : Nat} {x : Int} {s : Bool} {i : Nat} (h : i < n) : src n x s / 2 ^ i % 2 = x / 2 ^ i % 2 := by
  have h0 : x % 2 ^ n / 2 ^ i % 2 = x / 2 ^ i % 2 := by
    have e : x % 2 ^ n = x + (-(x / 2 ^ n)) * 2 ^ n := by
      have := Int.mul_ediv_add_emod x (2 ^ n)
      grind
    obtain ⟨d, rfl⟩ : ∃ d, n = i + 1 + d := ⟨n - i - 1, by omega⟩
    have hj := pow_pos i
    rw [e]
    generalize -(x / 2 ^ (i + 1 + d)) = q
    rw [Int.pow_add, Int.pow_succ, show x + q * (2 ^ i * 2 * 2 ^ d) = x + (2 * (q * 2 ^ d)) * 2 ^ i by grind, Int.add_mul_ediv_right _ _ (by omega)]
    omega
  unfold src sg
  split
  · split
    · exact h0
    · rw [sub_pow_bit _ h]; exact h0
  · exact h0
theorem src_high {n : Nat} {x : Int} {s : Bool} {i : Nat} (h : n ≤ i) : src n x s / 2 ^ i % 2 = if s = true ∧ 1 ≤ n ∧ 2 ^ (n - 1) ≤ x % 2 ^ n then 1 else 0 := by
  have hm := mod_lt n x
  have hz := small_bit hm.1 hm.2 h
  unfold src sg
  cases s
  · simp; exact hz
  · rcases Nat.eq_zero_or_pos n with h0 | h0
    · subst h0
      simp [Int.emod_one]
    · by_cases c : 2 ^ (n - 1) ≤ x % 2 ^ n
      · simp [c, h0]
        have e := neg_bit (n := n) (x := x % 2 ^ n - 2 ^ n) (by omega) (by omega) h
        rw [if_neg (by omega), e, if_pos (show 1 ≤ n from h0)]
      · simp [c]
        rw [if_pos (by omega)]; exact hz
theorem rextend_loop (v : Int) (n : Nat) (x : Int) (s : Bool) (fill : Int) (hf : fill = if s = true ∧ 1 ≤ n ∧ 2 ^ (n - 1) ≤ x % 2 ^ n then 1 else 0) (d : Nat) : ∀ (k i : Nat), i + d = nn v → d + 65 < k →
    jacquardref01_Extend.l0 k v (bitsL n x) fill (bitsL i (src n x s)) i = some (src n x s % 2 ^ nn v) := by
  have hn := nn_le v
  induction d with
  | zero =>
    intro k i hi hk
    obtain ⟨k, rfl⟩ : ∃ m, k = m + 1 := ⟨k - 1, by omega⟩
    have : i = nn v := by omega
    rw [jacquardref01_Extend.l0, width_eq, Option.bind_some, if_neg (by omega), this]
    rcases Nat.lt_or_ge 64 k with h | h
    · rw [wordL _ _ hn h]; rfl
    · omega
  | succ d ih =>
    intro k i hi hk
    obtain ⟨k, rfl⟩ : ∃ m, k = m + 1 := ⟨k - 1, by omega⟩
    have h2 := ih k (i + 1) (by omega) (by omega)
    rw [bitsL_succ] at h2
    rw [jacquardref01_Extend.l0, width_eq, Option.bind_some, if_pos (by omega), bitsL_length, bitsL_length, wrap64_id (by omega) (by omega)]
    by_cases c : i < n
    · rw [if_pos (by omega), if_pos (by omega), if_pos (by omega), rd_bitsL (by omega) (by omega), Int.toNat_natCast, ← src_low (s := s) c]
      simpa using h2
    · have hf' : fill = src n x s / 2 ^ i % 2 := hf.trans (src_high (s := s) (x := x) (show n ≤ i by omega)).symm
      rw [← hf'] at h2
      rw [if_neg (by omega), if_pos (by omega)]
      simpa using h2
theorem rextend_eq (w v x : Int) (s : Bool) (hx : 0 ≤ x ∧ x < 18446744073709551616) (k : Nat) (hk : 133 < k) : jacquardref01_Extend.f k w v x s = some (src (nn w) x s % 2 ^ nn v) := by
  have hn := nn_le v
  obtain ⟨k, rfl⟩ : ∃ m, k = m + 2 := ⟨k - 2, by omega⟩
  have L : ∀ fill, (fill = if s = true ∧ 1 ≤ nn w ∧ 2 ^ (nn w - 1) ≤ x % 2 ^ nn w then 1 else 0) → jacquardref01_Extend.j1 (k + 1) v (bitsL (nn w) x) fill = some (src (nn w) x s % 2 ^ nn v) := by
    intro fill hf
    have := rextend_loop v (nn w) x s fill hf (nn v) k 0 (by omega) (by omega)
    rw [jacquardref01_Extend.j1]
    simpa [bitsL] using this
  have J : ∀ b : Bool, (b = decide (s = true ∧ 1 ≤ nn w ∧ 2 ^ (nn w - 1) ≤ x % 2 ^ nn w)) → jacquardref01_Extend.j0 (k + 2) v (bitsL (nn w) x) 0 b = some (src (nn w) x s % 2 ^ nn v) := by
    intro b hb
    rw [jacquardref01_Extend.j0]
    by_cases c : s = true ∧ 1 ≤ nn w ∧ 2 ^ (nn w - 1) ≤ x % 2 ^ nn w
    · rw [decide_eq_true c] at hb
      rw [if_pos hb]; exact L 1 (by rw [if_pos c])
    · rw [decide_eq_false c] at hb
      rw [if_neg (by rw [hb]; decide)]; exact L 0 (by rw [if_neg c])
  unfold jacquardref01_Extend.f
  rw [bits_eq w x hx (by omega), Option.bind_some]
  cases s
  · rw [if_neg (by decide)]; exact J false (by simp)
  · rw [if_pos rfl, rneg_eq w x hx (by omega), Option.bind_some]; exact J _ (by simp)
theorem BitsExtend : jacquardlaw01_BitsExtend.Pure := by
  intro w v x s _ _ hx
  rw [wf_u64] at hx
  refine ⟨0 + 200, ?_⟩
  generalize 0 = k
  unfold jacquardlaw01_BitsExtend.f
  rw [show k + 200 = (k + 197) + 3 by omega, awake_eq (k + 197), Option.bind_some, if_pos rfl, extend_eq w v x s hx, Option.bind_some, rextend_eq w v x s hx _ (by omega), Option.bind_some, if_pos rfl]
  have e0 : jacquardlaw01_BitsExtend.j0 (k + 197 + 3) x s w v (src (nn w) x s % 2 ^ nn v) true = some true := by rw [show k + 197 + 3 = (k + 199) + 1 by omega, jacquardlaw01_BitsExtend.j0, if_pos rfl]
  by_cases h1 : v < w
  · rw [if_pos h1, e0]
  rw [if_neg h1]
  by_cases h2 : w < 1
  · rw [if_pos h2, e0]
  rw [if_neg h2]
  by_cases h3 : v > 64
  · rw [decide_eq_true h3, e0]
  rw [decide_eq_false h3]
  have hw := nn_of (w := w) (by omega) (by omega)
  have hv := nn_of (w := v) (by omega) (by omega)
  have hm := mod_lt (nn w) x
  have hle : (2 : Int) ^ nn w ≤ 2 ^ nn v := by
    have := Nat.pow_le_pow_right (n := 2) (by decide) (show nn w ≤ nn v by omega)
    have h2 : ((2 ^ nn w : Nat) : Int) ≤ ((2 ^ nn v : Nat) : Int) := Int.ofNat_le.2 this
    rw [Int.natCast_pow, Int.natCast_pow] at h2
    exact h2
  have hle2 : (2 : Int) ^ (nn w - 1) ≤ 2 ^ (nn v - 1) := by
    have := Nat.pow_le_pow_right (n := 2) (by decide) (show nn w - 1 ≤ nn v - 1 by omega)
    have h2 : ((2 ^ (nn w - 1) : Nat) : Int) ≤ ((2 ^ (nn v - 1) : Nat) : Int) := Int.ofNat_le.2 this
    rw [Int.natCast_pow, Int.natCast_pow] at h2
    exact h2
  have hy := mod_U (nn_le v) (src (nn w) x s)
  have hsr := sg_range (n := nn w) (by omega) x
  have hss : sg (nn v) (sg (nn w) x % 2 ^ nn v) = sg (nn w) x := by
    rw [sg_fit]
    have hp := pow_succ' (n := nn v) (by omega)
    have hpp := pow_pos (nn v - 1)
    generalize sg (nn w) x = y at *
    unfold sg
    by_cases h : 0 ≤ y
    · rw [mod_small h (by omega), if_pos (by omega)]
    · have e : y % 2 ^ nn v = y + 2 ^ nn v := by rw [← Int.add_emod_right]; exact mod_small (by omega) (by omega)
      rw [e, if_neg (by omega)]; omega
  have fin : jacquardlaw01_BitsExtend.j1 (k + 198 + 1) x s w v (src (nn w) x s % 2 ^ nn v) false = some true := by
    rw [jacquardlaw01_BitsExtend.j1, if_neg (by decide), extend_eq v w _ s hy, Option.bind_some, fit_eq w hx, Option.bind_some]
    congr 1
    rw [beq_iff_eq]
    unfold src
    cases s
    · simp only [Bool.false_eq_true, if_false]
      rw [Int.emod_emod_of_dvd _ (Int.dvd_refl _), mod_small hm.1 (show x % 2 ^ nn w < 2 ^ nn v by omega), Int.emod_emod_of_dvd _ (Int.dvd_refl _)]
    · simp only [if_true]
      rw [hss, sg_mod]
  rw [show k + 197 + 3 = (k + 199) + 1 by omega, jacquardlaw01_BitsExtend.j0, if_neg (by decide), signed_eq v hy, signed_eq w hx, fit_eq w hx]
  simp only [Option.bind_some]
  cases s
  · have e : src (nn w) x false % 2 ^ nn v = x % 2 ^ nn w := by unfold src; simp only [Bool.false_eq_true, if_false]; exact mod_small hm.1 (by omega)
    rw [if_neg (by decide), show (src (nn w) x false % 2 ^ nn v != x % 2 ^ nn w) = false by rw [e]; simp]
    exact fin
  · have e : sg (nn v) (src (nn w) x true % 2 ^ nn v) = sg (nn w) x := by unfold src; simp only [if_true]; exact hss
    rw [if_pos rfl, if_pos e]
    exact fin
end Go.Proofs.Ytanmehdcccldfaa.Pure
