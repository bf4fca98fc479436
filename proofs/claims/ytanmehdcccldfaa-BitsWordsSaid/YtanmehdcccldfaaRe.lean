import Derived.Test.YtanmehdcccldfaaBl
import Derived.Test.YtanmehdcccldfaaPx17
import Derived.Test.YtanmehdcccldfaaPx18
/- What the reference's small functions on words come to. -/
namespace Go.Proofs.Ytanmehdcccldfaa.Re
set_option linter.unusedVariables false
set_option linter.unusedSimpArgs false
set_option linter.unusedSectionVars false
open Go.RowKit Go.Proofs.Ytanmehdcccldfaa.P Go.Proofs.YtanmehdcccldfaaW.PrintWords Wd Bl

theorem width_eq (w : Int) : jacquardref01_Width.f w = some (nn w : Int) := by unfold jacquardref01_Width.f; rw [nn_int]
theorem ones_loop (w : Int) (d : Nat) : ∀ (k : Nat) (i : Nat), i + d = nn w → d < k → jacquardref01_Ones.l0 k w (2 ^ i - 1) i = some (2 ^ nn w - 1) := by
  have hn := nn_le w
  induction d with
  | zero =>
    intro k i hi hk
    obtain ⟨k, rfl⟩ : ∃ m, k = m + 1 := ⟨k - 1, by omega⟩
    rw [jacquardref01_Ones.l0, width_eq, Option.bind_some, if_neg (by omega)]
    have : i = nn w := by omega
    rw [this]
  | succ d ih =>
    intro k i hi hk
    obtain ⟨k, rfl⟩ : ∃ m, k = m + 1 := ⟨k - 1, by omega⟩
    rw [jacquardref01_Ones.l0, width_eq, Option.bind_some, if_pos (by omega)]
    have h2 := ih k (i + 1) (by omega) (by omega)
    have hp := pow_pos i
    have hp2 := pow_le (n := i + 1) (by omega)
    rw [Int.pow_succ] at hp2
    have e : IntKind.u64.wrap (IntKind.u64.wrap (2 * (2 ^ i - 1)) + 1) = 2 ^ (i + 1) - 1 := by
      rw [wrap_u64, wrap_u64, Int.pow_succ]; omega
    rw [e, wrap64_id (by omega) (by omega)]
    simpa using h2
theorem ones_eq (w : Int) {k : Nat} (hk : 64 < k) : jacquardref01_Ones.f k w = some (2 ^ nn w - 1) := by
  have hn := nn_le w
  have := ones_loop w (nn w) k 0 (by omega) (by omega)
  unfold jacquardref01_Ones.f
  simpa using this
theorem bits_loop (w x : Int) (hx : 0 ≤ x ∧ x < 18446744073709551616) (d : Nat) : ∀ (k : Nat) (i : Nat), i + d = nn w → d < k → jacquardref01_Bits.l0 k w (x / 2 ^ i) (bitsL i x) i = some (bitsL (nn w) x) := by
  have hn := nn_le w
  induction d with
  | zero =>
    intro k i hi hk
    obtain ⟨k, rfl⟩ : ∃ m, k = m + 1 := ⟨k - 1, by omega⟩
    rw [jacquardref01_Bits.l0, width_eq, Option.bind_some, if_neg (by omega)]
    have : i = nn w := by omega
    rw [this]
  | succ d ih =>
    intro k i hi hk
    obtain ⟨k, rfl⟩ : ∃ m, k = m + 1 := ⟨k - 1, by omega⟩
    rw [jacquardref01_Bits.l0, width_eq, Option.bind_some, if_pos (by omega), if_pos (by rw [bitsL_length]; omega)]
    have h2 := ih k (i + 1) (by omega) (by omega)
    have hp := pow_pos i
    have h0 : 0 ≤ x / 2 ^ i := Int.ediv_nonneg hx.1 (by omega)
    have h1 : x / 2 ^ i ≤ x := Int.ediv_le_self _ hx.1
    have h3 : x / 2 ^ i / 2 = x / 2 ^ (i + 1) := by rw [Int.ediv_ediv_of_nonneg (by omega), Int.pow_succ]
    have e1 : IntKind.u64.wrap (Int.tdiv (x / 2 ^ i) 2) = x / 2 ^ (i + 1) := by
      rw [Int.tdiv_eq_ediv_of_nonneg h0, wrap_u64]; omega
    have e2 : wrap64 (Int.tmod (x / 2 ^ i) 2) = x / 2 ^ i % 2 := by
      rw [Int.tmod_eq_emod_of_nonneg h0]; exact wrap64_id (by omega) (by omega)
    rw [e1, e2, wrap64_id (by omega) (by omega), ← bitsL_succ]
    simpa using h2
theorem bits_eq (w x : Int) (hx : 0 ≤ x ∧ x < 18446744073709551616) {k : Nat} (hk : 64 < k) : jacquardref01_Bits.f k w x = some (bitsL (nn w) x) := by
  have hn := nn_le w
  have := bits_loop w x hx (nn w) k 0 (by omega) (by omega)
  unfold jacquardref01_Bits.f
  simpa [bitsL] using this
theorem word_loop (l : List Int) (hb : Bit l) (hl : l.length ≤ 64) (d : Nat) : ∀ (k : Nat) (i : Int), i + 1 = d → d ≤ l.length → d < k → jacquardref01_Word.l0 k l (val (l.drop d)) i = some (val l) := by
  induction d with
  | zero =>
    intro k i hi _ hk
    obtain ⟨k, rfl⟩ : ∃ m, k = m + 1 := ⟨k - 1, by omega⟩
    rw [jacquardref01_Word.l0, if_neg (by omega)]; rfl
  | succ d ih =>
    intro k i hi hd hk
    obtain ⟨k, rfl⟩ : ∃ m, k = m + 1 := ⟨k - 1, by omega⟩
    rw [jacquardref01_Word.l0, if_pos (by omega), if_pos (by omega), if_pos (by omega)]
    have hdl : d < l.length := by omega
    have e0 : l.drop d = l[d] :: l.drop (d + 1) := List.drop_eq_getElem_cons hdl
    have e1 : rd l i = l[d] := by
      unfold rd
      rw [show i.toNat = d by omega, List.getD_eq_getElem?_getD, List.getElem?_eq_getElem hdl]; rfl
    have hbd : Bit (l.drop (d + 1)) := fun x hx => hb x (List.mem_of_mem_drop hx)
    have hr := val_range hbd
    rw [List.length_drop] at hr
    have hp := pow_le63 (n := l.length - (d + 1)) (by omega)
    have hb1 := hb l[d] (List.getElem_mem hdl)
    have e2 : IntKind.u64.wrap (IntKind.u64.wrap (2 * val (l.drop (d + 1))) + IntKind.u64.wrap (rd l i)) = val (l.drop d) := by
      rw [e0, e1, wrap_u64, wrap_u64, wrap_u64]
      simp only [val]
      omega
    rw [e2, wrap64_id (by omega) (by omega)]
    exact ih k (i - 1) (by omega) (by omega) (by omega)
theorem word_eq {l : List Int} (hb : Bit l) (hl : l.length ≤ 64) {k : Nat} (hk : 64 < k) : jacquardref01_Word.f k l = some (val l) := by
  unfold jacquardref01_Word.f
  have := word_loop l hb hl l.length k ((l.length : Int) - 1) (by omega) (Nat.le_refl _) (by omega)
  rw [List.drop_length] at this
  rw [wrap64_id (by omega) (by omega)]
  exact this
theorem wordL (m : Nat) (y : Int) (hm : m ≤ 64) {k : Nat} (hk : 64 < k) : jacquardref01_Word.f k (bitsL m y) = some (y % 2 ^ m) := by
  rw [word_eq (bitsL_bit m y) (by rw [bitsL_length]; exact hm) hk, val_bitsL]
theorem rfit_eq (w x : Int) (hx : 0 ≤ x ∧ x < 18446744073709551616) {k : Nat} (hk : 64 < k) : jacquardref01_Fit.f k w x = some (x % 2 ^ nn w) := by
  unfold jacquardref01_Fit.f
  rw [bits_eq w x hx hk, Option.bind_some, wordL _ _ (nn_le w) hk]; rfl
theorem rneg_eq (w x : Int) (hx : 0 ≤ x ∧ x < 18446744073709551616) {k : Nat} (hk : 64 < k) : jacquardref01_Negative.f k w x = some (decide (1 ≤ nn w ∧ 2 ^ (nn w - 1) ≤ x % 2 ^ nn w)) := by
  have hn := nn_le w
  unfold jacquardref01_Negative.f
  rw [bits_eq w x hx hk, Option.bind_some, bitsL_length]
  by_cases h : 1 ≤ nn w
  · have e : wrap64 ((nn w : Int) - 1) = ((nn w - 1 : Nat) : Int) := by rw [wrap64_id (by omega) (by omega)]; omega
    rw [if_pos (by omega), e, if_pos (by omega), if_pos (by omega), rd_bitsL (by omega) (by omega), Int.toNat_natCast, bit_high h]
    by_cases c : 2 ^ (nn w - 1) ≤ x % 2 ^ nn w
    · rw [if_pos c, decide_eq_true ⟨h, c⟩]; rfl
    · rw [if_neg c, decide_eq_false (fun h' => c h'.2)]; rfl
  · rw [if_neg (by omega), decide_eq_false (fun h' => h h'.1)]
theorem neg_mod {n : Nat} (x : Int) : (-(x % 2 ^ n)) % 2 ^ n = (-x) % 2 ^ n := by
  rw [← Int.zero_sub, ← Int.zero_sub x, Int.sub_emod, Int.emod_emod_of_dvd _ (Int.dvd_refl _), ← Int.sub_emod]
theorem minus_eq (w x : Int) (hx : 0 ≤ x ∧ x < 18446744073709551616) {k : Nat} (hk : 64 < k) : jacquardref01_Minus.f k w x = some ((-x) % 2 ^ nn w) := by
  have hn := nn_le w
  have hp := pow_le hn
  have hpp := pow_pos (nn w)
  have hm := mod_lt (nn w) x
  unfold jacquardref01_Minus.f
  rw [ones_eq w hk, Option.bind_some, rfit_eq w x hx hk, Option.bind_some]
  rw [rfit_eq w _ (by rw [wrap_u64, wrap_u64]; omega) hk, Option.bind_some, wrap_mod hn]
  rw [wrap_u64, show (2 ^ nn w - 1 - x % 2 ^ nn w) % 18446744073709551616 + 1 = -(x % 2 ^ nn w) + 2 ^ nn w by omega, Int.add_emod_right, neg_mod]
theorem neg_mod_of {n : Nat} {x : Int} (h : 1 ≤ x % 2 ^ n) : (-x) % 2 ^ n = 2 ^ n - x % 2 ^ n := by
  have hm := mod_lt n x
  rw [← neg_mod, ← Int.add_emod_right]
  rw [mod_small (by omega) (by omega)]; omega
theorem rsigned_eq (w x : Int) (hx : 0 ≤ x ∧ x < 18446744073709551616) {k : Nat} (hk : 64 < k) : jacquardref01_Signed.f k w x = some (sg (nn w) x) := by
  have hn := nn_le w
  have hm := mod_lt (nn w) x
  unfold jacquardref01_Signed.f
  rw [rneg_eq w x hx hk, Option.bind_some]
  by_cases h : 1 ≤ nn w ∧ 2 ^ (nn w - 1) ≤ x % 2 ^ nn w
  · have hp := pow_succ' h.1
    have hpp := pow_pos (nn w - 1)
    have h63 := pow_le63 (n := nn w - 1) (by omega)
    rw [if_pos (decide_eq_true h), minus_eq w x hx hk, Option.bind_some, neg_mod_of (by omega)]
    unfold sg
    rw [if_neg (by omega), wrap_u64]
    congr 1
    unfold wrap64
    omega
  · rw [if_neg (by simpa using h), rfit_eq w x hx hk, Option.bind_some]
    unfold sg
    rcases Nat.eq_zero_or_pos (nn w) with h0 | h0
    · rw [h0]; simp [Int.emod_one]; rw [wrap64_id (by decide) (by decide)]
    · have h63 := pow_le63 (n := nn w - 1) (by omega)
      rw [if_pos (by omega), wrap64_id (by omega) (by omega)]
end Go.Proofs.Ytanmehdcccldfaa.Re
