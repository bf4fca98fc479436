import Derived.Test.YtoddafkffchnjaaIm
import Derived.Test.YtoddafkffchnjaaDf
/- Intervals: what the small functions of package interval and of its reference come to. -/
namespace Go.Proofs.Ytoddafkffchnjaa.Iv
set_option linter.unusedVariables false
set_option linter.unusedSimpArgs false
set_option linter.unusedSectionVars false
open Go.RowKit Go.Proofs.Ytoddafkffchnjaa.P Go.Proofs.YtoddafkffchnjaaW.PrintWords Wd Im

theorem good_eq (w : Int) : interval_good.f w = some (decide (1 ≤ w ∧ w ≤ 64)) := by
  unfold interval_good.f
  by_cases h : w ≥ 1
  · rw [if_pos h]; congr 1; simp; omega
  · rw [if_neg h]; congr 1; simp; omega
theorem ends_eq {w : Int} (h : 1 ≤ w ∧ w ≤ 64) : interval_ends.f w = some (-2 ^ (nn w - 1), 2 ^ (nn w - 1) - 1) := by
  have hn := nn_of (w := w) (by omega) h.2
  have hp := pow_le63 (n := nn w - 1) (by omega)
  have hpp := pow_pos (nn w - 1)
  have e : wrap64 (w - 1) = ((nn w - 1 : Nat) : Int) := by rw [wrap64_id (by omega) (by omega)]; omega
  unfold interval_ends.f
  rw [e, if_pos (by omega)]
  have hm : min ((nn w - 1 : Nat) : Int).toNat (IntKind.bits .i64) = nn w - 1 := by show min _ 64 = _; omega
  unfold shl
  rw [hm, IntKind.wrap_i64, IntKind.wrap_i64]
  congr 1
  refine Prod.ext ?_ ?_
  · show _ = _; simp only []; omega
  · show _ = _; simp only []; unfold wrap64; omega
def Valid (w lo hi l m : Int) : Prop := (1 ≤ w ∧ w ≤ 64) ∧ lo ≤ hi ∧ hi ≤ 2 ^ nn w - 1 ∧ -2 ^ (nn w - 1) ≤ l ∧ l ≤ m ∧ m ≤ 2 ^ (nn w - 1) - 1
instance (w lo hi l m : Int) : Decidable (Valid w lo hi l m) := by unfold Valid; infer_instance
theorem valid_eq (w lo hi l m : Int) : interval_Valid.f w lo hi l m = some (decide (Valid w lo hi l m)) := by
  unfold interval_Valid.f
  rw [good_eq, Option.bind_some]
  by_cases h : 1 ≤ w ∧ w ≤ 64
  · rw [if_pos (decide_eq_true h), ends_eq h, Option.bind_some, mask_eq]
    simp only [Option.bind_some]
    by_cases h1 : lo ≤ hi <;> by_cases h2 : hi ≤ 2 ^ nn w - 1 <;> by_cases h3 : -2 ^ (nn w - 1) ≤ l <;> by_cases h4 : l ≤ m <;> simp [Valid, h, h1, h2, h3, h4]
  · rw [if_neg (by simpa using h)]
    rw [decide_eq_false (fun h' => h h'.1)]
def Contains (w lo hi l m x : Int) : Prop := (1 ≤ w ∧ w ≤ 64) ∧ x ≤ 2 ^ nn w - 1 ∧ lo ≤ x ∧ x ≤ hi ∧ l ≤ sg (nn w) x ∧ sg (nn w) x ≤ m
instance (w lo hi l m x : Int) : Decidable (Contains w lo hi l m x) := by unfold Contains; infer_instance
theorem contains_eq (w lo hi l m : Int) {x : Int} (hx : 0 ≤ x ∧ x < 18446744073709551616) : interval_Contains.f w lo hi l m x = some (decide (Contains w lo hi l m x)) := by
  unfold interval_Contains.f
  rw [good_eq, Option.bind_some]
  by_cases h : 1 ≤ w ∧ w ≤ 64
  · rw [if_pos (decide_eq_true h), mask_eq, Option.bind_some, signed_eq w hx]
    simp only [Option.bind_some]
    by_cases h1 : x > 2 ^ nn w - 1
    · rw [if_pos h1, decide_eq_false (fun h' => absurd h'.2.1 (by omega))]
    · rw [if_neg h1]
      have h1' : x ≤ 2 ^ nn w - 1 := by omega
      by_cases h2 : lo ≤ x <;> by_cases h3 : x ≤ hi <;> by_cases h4 : l ≤ sg (nn w) x <;> simp [Contains, h, h1', h2, h3, h4]
  · rw [if_neg (by simpa using h), decide_eq_false (fun h' => h h'.1)]
theorem top_eq (w : Int) : interval_Top.f w = some (if 1 ≤ w ∧ w ≤ 64 then (0, 2 ^ nn w - 1, -2 ^ (nn w - 1), 2 ^ (nn w - 1) - 1) else (0, 0, 0, 0)) := by
  unfold interval_Top.f
  rw [good_eq, Option.bind_some]
  by_cases h : 1 ≤ w ∧ w ≤ 64
  · rw [if_pos (decide_eq_true h), ends_eq h, Option.bind_some, mask_eq, Option.bind_some, if_pos h]
  · rw [if_neg (by simpa using h), if_neg h]
theorem of_eq (w : Int) {x : Int} (hx : 0 ≤ x ∧ x < 18446744073709551616) : interval_Of.f w x = some (if 1 ≤ w ∧ w ≤ 64 then (x % 2 ^ nn w, x % 2 ^ nn w, sg (nn w) x, sg (nn w) x) else (0, 0, 0, 0)) := by
  unfold interval_Of.f
  rw [good_eq, Option.bind_some]
  by_cases h : 1 ≤ w ∧ w ≤ 64
  · rw [if_pos (decide_eq_true h), fit_eq w hx, Option.bind_some, signed_eq w hx, Option.bind_some, if_pos h]
  · rw [if_neg (by simpa using h), if_neg h]

/-! ### The reference -/
theorem mask_loop (w : Int) (h : w ≤ 64) (d : Nat) : ∀ (k i : Nat), (i : Int) + d = w → d < k → jacquardref12_Mask.l0 k w (2 ^ i - 1) i = some (2 ^ (i + d) - 1) := by
  induction d with
  | zero =>
    intro k i hi hk
    obtain ⟨k, rfl⟩ : ∃ m, k = m + 1 := ⟨k - 1, by omega⟩
    rw [jacquardref12_Mask.l0, if_neg (by omega)]; rfl
  | succ d ih =>
    intro k i hi hk
    obtain ⟨k, rfl⟩ : ∃ m, k = m + 1 := ⟨k - 1, by omega⟩
    have h2 := ih k (i + 1) (by omega) (by omega)
    have hp := pow_pos i
    have hp2 := pow_le (n := i + 1) (by omega)
    rw [Int.pow_succ] at hp2
    have e : IntKind.u64.wrap (IntKind.u64.wrap ((2 ^ i - 1) * 2) + 1) = 2 ^ (i + 1) - 1 := by rw [wrap_u64, wrap_u64, Int.pow_succ]; omega
    rw [jacquardref12_Mask.l0, if_pos (by omega), e, wrap64_id (by omega) (by omega)]
    rw [show i + (d + 1) = i + 1 + d by omega]
    simpa using h2
theorem rmask_eq {w : Int} (h : 0 ≤ w ∧ w ≤ 64) {k : Nat} (hk : 64 < k) : jacquardref12_Mask.f k w = some (2 ^ nn w - 1) := by
  have hn := nn_of h.1 h.2
  have := mask_loop w h.2 (nn w) k 0 (by omega) (by omega)
  unfold jacquardref12_Mask.f
  simpa using this
theorem umax_eq {w : Int} (h : 0 ≤ w ∧ w ≤ 64) {k : Nat} (hk : 64 < k) : jacquardref13_Umax.f k w = some (2 ^ nn w - 1) := by unfold jacquardref13_Umax.f; rw [rmask_eq h hk]; rfl
theorem smax_eq {w : Int} (h : 1 ≤ w ∧ w ≤ 64) {k : Nat} (hk : 64 < k) : jacquardref13_Smax.f k w = some (2 ^ (nn w - 1) - 1) := by
  have hn := nn_of (w := w) (by omega) h.2
  have hp := pow_succ' (n := nn w) (by omega)
  have hp2 := pow_le63 (n := nn w - 1) (by omega)
  have hpp := pow_pos (nn w - 1)
  unfold jacquardref13_Smax.f
  rw [umax_eq (by omega) hk, Option.bind_some]
  congr 1; unfold wrap64; omega
theorem smin_eq {w : Int} (h : 1 ≤ w ∧ w ≤ 64) {k : Nat} (hk : 64 < k) : jacquardref13_Smin.f k w = some (-2 ^ (nn w - 1)) := by
  have hn := nn_of (w := w) (by omega) h.2
  have hp2 := pow_le63 (n := nn w - 1) (by omega)
  have hpp := pow_pos (nn w - 1)
  unfold jacquardref13_Smin.f
  rw [smax_eq h hk, Option.bind_some]
  congr 1; unfold wrap64; omega
theorem rvalid_eq (w lo hi l m : Int) {k : Nat} (hk : 64 < k) : jacquardref13_Valid.f k w lo hi l m = some (decide (Valid w lo hi l m)) := by
  unfold jacquardref13_Valid.f
  by_cases h1 : w ≥ 1
  · rw [if_pos h1]
    by_cases h2 : w ≤ 64
    · have h : 1 ≤ w ∧ w ≤ 64 := ⟨h1, h2⟩
      rw [if_pos h2, umax_eq (by omega) hk, smin_eq h hk, smax_eq h hk]
      simp only [Option.bind_some]
      by_cases h1 : lo ≤ hi <;> by_cases h2 : hi ≤ 2 ^ nn w - 1 <;> by_cases h3 : -2 ^ (nn w - 1) ≤ l <;> by_cases h4 : l ≤ m <;> simp [Valid, h, h1, h2, h3, h4]
    · rw [if_neg h2, decide_eq_false (fun h' => h2 h'.1.2)]
  · rw [if_neg h1, decide_eq_false (fun h' => h1 h'.1.1)]
theorem bit_eq {x i : Int} (hx : 0 ≤ x ∧ x < 18446744073709551616) (hi : 0 ≤ i ∧ i ≤ 64) : jacquardref12_Bit.f x i = some (x / 2 ^ i.toNat % 2) := by
  unfold jacquardref12_Bit.f
  have hp := pow_pos i.toNat
  have h0 : 0 ≤ x / 2 ^ i.toNat := Int.ediv_nonneg hx.1 (by omega)
  have h1 : x / 2 ^ i.toNat ≤ x := Int.ediv_le_self _ hx.1
  have hm : min i.toNat (IntKind.bits .u64) = i.toNat := by show min _ 64 = _; omega
  rw [if_pos hi.1]
  unfold shr
  rw [hm, and_one (by omega), wrap64_id (by omega) (by omega)]
theorem rsg_eq {w x : Int} (h : 1 ≤ w ∧ w ≤ 64) (hx0 : 0 ≤ x) (hx1 : x < 2 ^ nn w) {k : Nat} (hk : 64 < k) : jacquardref12_Signed.f k w x = some (sg (nn w) x) := by
  have hn := nn_of (w := w) (by omega) h.2
  have hn1 : 1 ≤ nn w := by omega
  have hp := pow_le (nn_le w)
  have hs := pow_succ' hn1
  have hpp := pow_pos (nn w - 1)
  have hp63 := pow_le63 (n := nn w - 1) (by omega)
  unfold jacquardref12_Signed.f
  rw [wrap64_id (by omega) (by omega), bit_eq ⟨hx0, by omega⟩ (by omega), Option.bind_some, show (w - 1).toNat = nn w - 1 by omega]
  unfold sg
  rw [mod_small hx0 hx1]
  have hq : x / 2 ^ (nn w - 1) % 2 = if 2 ^ (nn w - 1) ≤ x then 1 else 0 := by
    have h0 : 0 ≤ x / 2 ^ (nn w - 1) := Int.ediv_nonneg hx0 (by omega)
    have h1 : x / 2 ^ (nn w - 1) < 2 := Int.ediv_lt_of_lt_mul (by omega) (by omega)
    split
    · have : 1 ≤ x / 2 ^ (nn w - 1) := Int.le_ediv_of_mul_le (by omega) (by omega)
      omega
    · have : x / 2 ^ (nn w - 1) < 1 := Int.ediv_lt_of_lt_mul (by omega) (by omega)
      omega
  rw [hq]
  by_cases c : 2 ^ (nn w - 1) ≤ x
  · rw [if_pos c, if_pos rfl, rmask_eq (by omega) hk, Option.bind_some, compl (nn_le w), or_compl (nn_le w) hx0 hx1, if_neg (by omega)]
    congr 1; unfold wrap64; omega
  · rw [if_neg c, if_neg (by decide), if_pos (by omega), wrap64_id (by omega) (by omega)]
end Go.Proofs.Ytoddafkffchnjaa.Iv
