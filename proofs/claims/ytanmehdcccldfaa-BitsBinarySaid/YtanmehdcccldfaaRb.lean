import Derived.Test.YtanmehdcccldfaaRe
import Derived.Test.YtanmehdcccldfaaIm
import Derived.Test.YtanmehdcccldfaaPx18
import Derived.Test.YtanmehdcccldfaaPx19
import Derived.Test.YtanmehdcccldfaaPx20
import Derived.Test.YtanmehdcccldfaaPx21
import Derived.Test.YtanmehdcccldfaaPx17
/- The reference's binary operators come to the same values. -/
namespace Go.Proofs.Ytanmehdcccldfaa.Rb
set_option linter.unusedVariables false
set_option linter.unusedSimpArgs false
set_option linter.unusedSectionVars false
open Go.RowKit Go.Proofs.Ytanmehdcccldfaa.P Go.Proofs.YtanmehdcccldfaaW.PrintWords Wd Bl Re Im

theorem bit_append {l : List Int} {b : Int} (hl : Bit l) (hb : b = 0 ∨ b = 1) : Bit (l ++ [b]) := by
  intro x hx
  rcases List.mem_append.1 hx with h | h
  · exact hl x h
  · rw [List.mem_singleton.1 h]; exact hb
theorem val_take_succ {l : List Int} {i : Nat} (h : i < l.length) : val (l.take (i + 1)) = val (l.take i) + 2 ^ i * rd l i := by
  have e : l.take (i + 1) = l.take i ++ [l[i]] := by simp
  have e2 : rd l i = l[i] := by
    unfold rd
    rw [Int.toNat_natCast, List.getD_eq_getElem?_getD, List.getElem?_eq_getElem h]; rfl
  rw [e, val_append, List.length_take, show min i l.length = i by omega, e2]
  simp [val]
theorem rd_bit {l : List Int} (hl : Bit l) {i : Nat} (h : i < l.length) : rd l i = 0 ∨ rd l i = 1 := by
  unfold rd
  rw [Int.toNat_natCast, List.getD_eq_getElem?_getD, List.getElem?_eq_getElem h]
  exact hl _ (List.getElem_mem h)
theorem add_loop (a b : List Int) (ha : Bit a) (hb : Bit b) (hl : a.length = b.length) (hl2 : a.length ≤ 64) (c0 : Int) (d : Nat) : ∀ (k i : Nat) (c : Int) (acc : List Int), i + d = a.length → d < k → Bit acc → acc.length = i → (c = 0 ∨ c = 1) →
    val acc + 2 ^ i * c = val (a.take i) + val (b.take i) + c0 → ∃ r, jacquardref01_add.l0 k a b c acc i = some r ∧ Bit r ∧ r.length = a.length ∧ ∃ c', val r + 2 ^ a.length * c' = val a + val b + c0 := by
  induction d with
  | zero =>
    intro k i c acc hi hk hB hL hc h
    obtain ⟨k, rfl⟩ : ∃ m, k = m + 1 := ⟨k - 1, by omega⟩
    refine ⟨acc, by rw [jacquardref01_add.l0, if_neg (by omega)], hB, by omega, c, ?_⟩
    have : i = a.length := by omega
    subst this
    rw [List.take_of_length_le (Nat.le_refl _), List.take_of_length_le (by omega)] at h
    exact h
  | succ d ih =>
    intro k i c acc hi hk hB hL hc h
    obtain ⟨k, rfl⟩ : ∃ m, k = m + 1 := ⟨k - 1, by omega⟩
    have r1 := rd_bit ha (i := i) (by omega)
    have r2 := rd_bit hb (i := i) (by omega)
    have t1 := val_take_succ (l := a) (i := i) (by omega)
    have t2 := val_take_succ (l := b) (i := i) (by omega)
    rw [jacquardref01_add.l0, if_pos (by omega), if_pos (by omega), if_pos (by omega), if_pos (by omega), wrap64_id (n := (i : Int) + 1) (by omega) (by omega)]
    generalize rd a i = u at *
    generalize rd b i = v at *
    have e1 : wrap64 (wrap64 (u + v) + c) = u + v + c := by rw [wrap64_id (n := u + v) (by omega) (by omega), wrap64_id (by omega) (by omega)]
    rw [e1, Int.tdiv_eq_ediv_of_nonneg (by omega), Int.tmod_eq_emod_of_nonneg (by omega), wrap64_id (n := (u + v + c) / 2) (by omega) (by omega)]
    have := ih k (i + 1) ((u + v + c) / 2) (acc ++ [(u + v + c) % 2]) (by omega) (by omega) (bit_append hB (by omega)) (by simp [hL]) (by omega) (by
      rw [t1, t2, val_append, hL, Int.pow_succ]
      simp only [val]
      have e : u + v + c = 2 * ((u + v + c) / 2) + (u + v + c) % 2 := by omega
      generalize (u + v + c) / 2 = q at *
      generalize (u + v + c) % 2 = m at *
      have : 2 ^ i * c = 2 ^ i * (2 * q + m - u - v) := by rw [show 2 * q + m - u - v = c by omega]
      grind)
    simpa using this
theorem add_eq (n : Nat) (hn : n ≤ 64) (x y c0 : Int) (hc : c0 = 0 ∨ c0 = 1) {k : Nat} (hk : 64 < k) : ∃ r, jacquardref01_add.f k (bitsL n x) (bitsL n y) c0 = some r ∧ jacquardref01_Word.f k r = some ((x + y + c0) % 2 ^ n) := by
  obtain ⟨r, h1, h2, h3, c', h4⟩ := add_loop (bitsL n x) (bitsL n y) (bitsL_bit _ _) (bitsL_bit _ _) (by simp [bitsL_length]) (by simp [bitsL_length, hn]) c0 n k 0 c0 [] (by simp [bitsL_length]) (by omega) (by intro x hx; simp at hx) rfl hc (by simp [val])
  rw [bitsL_length] at h3 h4
  refine ⟨r, by unfold jacquardref01_add.f; exact h1, ?_⟩
  rw [word_eq h2 (by omega) hk]
  have hr := val_range h2
  rw [h3] at hr
  rw [val_bitsL, val_bitsL] at h4
  congr 1
  have e : (x + y + c0) % 2 ^ n = (x % 2 ^ n + y % 2 ^ n + c0) % 2 ^ n := by
    rw [Int.add_emod (x + y), Int.add_emod (x % 2 ^ n + y % 2 ^ n), ← Int.add_emod x y]
  rw [e, ← h4, Int.add_mul_emod_self_left, mod_small hr.1 hr.2]
theorem shl_loop (n : Nat) (hn : n ≤ 64) (x : Int) (s : Nat) (hs : s ≤ 64) (d : Nat) : ∀ (k i : Nat), i + d = n → d + 65 < k → jacquardref01_Shl.l0 k s (bitsL n x) (bitsL i (x * 2 ^ s)) i = some (x * 2 ^ s % 2 ^ n) := by
  induction d with
  | zero =>
    intro k i hi hk
    obtain ⟨k, rfl⟩ : ∃ m, k = m + 1 := ⟨k - 1, by omega⟩
    have : i = n := by omega
    rw [jacquardref01_Shl.l0, bitsL_length, if_neg (by omega), this, wordL _ _ hn (by omega)]; rfl
  | succ d ih =>
    intro k i hi hk
    obtain ⟨k, rfl⟩ : ∃ m, k = m + 1 := ⟨k - 1, by omega⟩
    have h2 := ih k (i + 1) (by omega) (by omega)
    rw [bitsL_succ, shl_bit] at h2
    rw [jacquardref01_Shl.l0, bitsL_length, if_pos (by omega), wrap64_id (n := (i : Int) + 1) (by omega) (by omega), bitsL_length]
    by_cases c : s ≤ i
    · rw [if_pos c] at h2
      rw [if_pos (by omega), wrap64_id (n := (i : Int) - s) (by omega) (by omega), if_pos (by omega), if_pos (by omega), if_pos (by omega), rd_bitsL (by omega) (by omega), show ((i : Int) - s).toNat = i - s by omega]
      simpa using h2
    · rw [if_neg c] at h2
      rw [if_neg (by omega), if_pos (by omega)]
      simpa using h2
theorem rshl_eq (w x : Int) (hx : 0 ≤ x ∧ x < 18446744073709551616) (s : Nat) (hs : s ≤ 64) {k : Nat} (hk : 130 < k) : jacquardref01_Shl.f k w x s = some (x * 2 ^ s % 2 ^ nn w) := by
  have hn := nn_le w
  have := shl_loop (nn w) hn x s hs (nn w) k 0 (by omega) (by omega)
  unfold jacquardref01_Shl.f
  rw [bits_eq w x hx (by omega), Option.bind_some]
  simpa [bitsL] using this
theorem shr_loop (n : Nat) (hn : n ≤ 64) (x y : Int) (s : Nat) (hs : s ≤ 64) (fill : Int) (hlo : ∀ i : Nat, i + s < n → x / 2 ^ (i + s) % 2 = y / 2 ^ s / 2 ^ i % 2) (hhi : ∀ i : Nat, n ≤ i + s → fill = y / 2 ^ s / 2 ^ i % 2) (d : Nat) :
    ∀ (k i : Nat), i + d = n → d + 65 < k → jacquardref01_shr.l0 k s fill (bitsL n x) (bitsL i (y / 2 ^ s)) i = some (y / 2 ^ s % 2 ^ n) := by
  induction d with
  | zero =>
    intro k i hi hk
    obtain ⟨k, rfl⟩ : ∃ m, k = m + 1 := ⟨k - 1, by omega⟩
    have : i = n := by omega
    rw [jacquardref01_shr.l0, bitsL_length, if_neg (by omega), this, wordL _ _ hn (by omega)]; rfl
  | succ d ih =>
    intro k i hi hk
    obtain ⟨k, rfl⟩ : ∃ m, k = m + 1 := ⟨k - 1, by omega⟩
    have h2 := ih k (i + 1) (by omega) (by omega)
    rw [bitsL_succ] at h2
    rw [jacquardref01_shr.l0, bitsL_length, if_pos (by omega), wrap64_id (n := (i : Int) + s) (by omega) (by omega), wrap64_id (n := (i : Int) + 1) (by omega) (by omega), bitsL_length]
    by_cases c : i + s < n
    · rw [← hlo i c] at h2
      rw [if_pos (by omega), if_pos (by omega), if_pos (by omega), rd_bitsL (by omega) (by omega), show ((i : Int) + s).toNat = i + s by omega]
      simpa using h2
    · rw [← hhi i (by omega)] at h2
      rw [if_neg (by omega), if_pos (by omega)]
      simpa using h2
theorem rshr_eq (w x y : Int) (hx : 0 ≤ x ∧ x < 18446744073709551616) (s : Nat) (hs : s ≤ 64) (fill : Int) (hlo : ∀ i : Nat, i + s < nn w → x / 2 ^ (i + s) % 2 = y / 2 ^ s / 2 ^ i % 2) (hhi : ∀ i : Nat, nn w ≤ i + s → fill = y / 2 ^ s / 2 ^ i % 2)
    {k : Nat} (hk : 130 < k) : jacquardref01_shr.f k w x s fill = some (y / 2 ^ s % 2 ^ nn w) := by
  have hn := nn_le w
  have := shr_loop (nn w) hn x y s hs fill hlo hhi (nn w) k 0 (by omega) (by omega)
  unfold jacquardref01_shr.f
  rw [bits_eq w x hx (by omega), Option.bind_some]
  simpa [bitsL] using this
theorem mul_loop (w a0 b : Int) (hw : 1 ≤ nn w) (hb0 : 0 ≤ b) (d : Nat) : ∀ (k i : Nat), i + d = nn w → d + 135 < k →
    jacquardref01_mul.l0 k w (a0 * 2 ^ i % 2 ^ nn w) (bitsL (nn w) b) (a0 * (b % 2 ^ i) % 2 ^ nn w) i = some (a0 * (b % 2 ^ nn w) % 2 ^ nn w) := by
  have hn := nn_le w
  induction d with
  | zero =>
    intro k i hi hk
    obtain ⟨k, rfl⟩ : ∃ m, k = m + 1 := ⟨k - 1, by omega⟩
    have : i = nn w := by omega
    rw [jacquardref01_mul.l0, bitsL_length, if_neg (by omega), this]
  | succ d ih =>
    intro k i hi hk
    obtain ⟨k, rfl⟩ : ∃ m, k = m + 1 := ⟨k - 1, by omega⟩
    have h2 := ih k (i + 1) (by omega) (by omega)
    have hm1 := mod_U hn (a0 * 2 ^ i)
    have hm2 := mod_U hn (a0 * (b % 2 ^ i))
    have hs := rshl_eq w (a0 * 2 ^ i % 2 ^ nn w) hm1 1 (by decide) (k := k) (by omega)
    have es : a0 * 2 ^ i % 2 ^ nn w * 2 ^ 1 % 2 ^ nn w = a0 * 2 ^ (i + 1) % 2 ^ nn w := by
      rw [Int.mul_emod, Int.emod_emod_of_dvd _ (Int.dvd_refl _), ← Int.mul_emod, Int.pow_succ, Int.mul_assoc]; rfl
    rw [es] at hs
    rw [jacquardref01_mul.l0, bitsL_length, if_pos (by omega), if_pos (by omega), rd_bitsL (by omega) (by omega), Int.toNat_natCast, wrap64_id (by omega) (by omega)]
    have hms := mod_succ i b
    have hc : b / 2 ^ i % 2 = 0 ∨ b / 2 ^ i % 2 = 1 := by omega
    rcases hc with hc | hc
    · rw [hc, if_neg (by decide), show (1 : Int) = ((1 : Nat) : Int) from rfl, hs, Option.bind_some]
      rw [hc] at hms
      rw [show b % 2 ^ (i + 1) = b % 2 ^ i by omega] at h2
      simpa using h2
    · rw [hc, if_pos rfl, bits_eq w _ hm2 (by omega), Option.bind_some, bits_eq w _ hm1 (by omega), Option.bind_some]
      obtain ⟨r, h3, h4⟩ := add_eq (nn w) hn (a0 * (b % 2 ^ i) % 2 ^ nn w) (a0 * 2 ^ i % 2 ^ nn w) 0 (.inl rfl) (k := k) (by omega)
      rw [h3, Option.bind_some, h4, Option.bind_some, show (1 : Int) = ((1 : Nat) : Int) from rfl, hs, Option.bind_some]
      rw [hc] at hms
      have e : (a0 * (b % 2 ^ i) % 2 ^ nn w + a0 * 2 ^ i % 2 ^ nn w + 0) % 2 ^ nn w = a0 * (b % 2 ^ (i + 1)) % 2 ^ nn w := by
        rw [Int.add_zero, ← Int.add_emod, hms]
        congr 1
        grind
      rw [e]
      simpa using h2
theorem rmul_eq (w a b : Int) (hw : 1 ≤ nn w) (ha0 : 0 ≤ a) (ha : a < 2 ^ nn w) (hb0 : 0 ≤ b) (hb : b < 2 ^ nn w) {k : Nat} (hk : 200 < k) : jacquardref01_mul.f k w a b = some (a * b % 2 ^ nn w) := by
  have hn := nn_le w
  have hp := pow_le hn
  have := mul_loop w a b hw hb0 (nn w) k 0 (by omega) (by omega)
  unfold jacquardref01_mul.f
  rw [bits_eq w b ⟨hb0, by omega⟩ (by omega), Option.bind_some]
  simpa [Int.emod_one, mod_small ha0 ha, mod_small hb0 hb] using this
end Go.Proofs.Ytanmehdcccldfaa.Rb
