import Derived.Test.YtbiohdgeclokmaaWd
import Derived.Test.YtbiohdgeclokmaaPx2
/- What the functions of package bits come to, in plain arithmetic of words. -/
namespace Go.Proofs.Ytbiohdgeclokmaa.Im
set_option linter.unusedVariables false
set_option linter.unusedSimpArgs false
set_option linter.unusedSectionVars false
open Go.RowKit Go.Proofs.Ytbiohdgeclokmaa.P Go.Proofs.YtbiohdgeclokmaaW.PrintWords Wd

theorem limit_eq (w : Int) : bits_limit.f w = some (nn w : Int) := by unfold bits_limit.f; rw [nn_int]
theorem mask_eq (w : Int) : bits_Mask.f w = some (2 ^ nn w - 1) := by
  unfold bits_Mask.f
  rw [limit_eq, Option.bind_some]
  have h := nn_le w
  by_cases h0 : nn w = 0
  · rw [if_pos (by omega), h0]; rfl
  · rw [if_neg (by omega), if_pos (by unfold wrap64; omega), shr_ones h]
theorem fit_eq (w : Int) {x : Int} (hx : 0 ≤ x ∧ x < 18446744073709551616) : bits_Fit.f w x = some (x % 2 ^ nn w) := by
  unfold bits_Fit.f
  rw [mask_eq, Option.bind_some, and_mask (nn_le w) hx]
theorem negative_eq (w : Int) {x : Int} (hx : 0 ≤ x) (hx1 : x < 2 ^ nn w) : bits_negative.f w x = some (decide (2 ^ (nn w - 1) ≤ x)) := by
  unfold bits_negative.f
  rw [limit_eq, Option.bind_some]
  have h := nn_le w
  by_cases h0 : nn w = 0
  · rw [if_neg (by omega), h0]
    rw [h0] at hx1
    have : ¬ ((2 : Int) ^ (0 - 1) ≤ x) := by simp at hx1 ⊢; omega
    rw [decide_eq_false this]
  · have e : wrap64 ((nn w : Int) - 1) = ((nn w - 1 : Nat) : Int) := by unfold wrap64; omega
    rw [if_pos (by omega), if_pos (by rw [e]; omega), e]
    have hs : shr .u64 x ((nn w - 1 : Nat) : Int) = x / 2 ^ (nn w - 1) := by
      unfold shr
      rw [show min ((nn w - 1 : Nat) : Int).toNat (IntKind.bits .u64) = nn w - 1 by show min _ 64 = _; omega]
    have hp := pow_pos (nn w - 1)
    have hp2 := pow_succ' (n := nn w) (by omega)
    have hp3 := pow_le h
    have hd : 0 ≤ x / 2 ^ (nn w - 1) := Int.ediv_nonneg hx (by omega)
    have hd2 : x / 2 ^ (nn w - 1) < 2 := Int.ediv_lt_of_lt_mul (by omega) (by omega)
    rw [hs, and_one ⟨hd, by omega⟩, Int.emod_eq_of_lt hd hd2]
    congr 1
    by_cases hc : 2 ^ (nn w - 1) ≤ x
    · have : 1 ≤ x / 2 ^ (nn w - 1) := Int.le_ediv_of_mul_le (by omega) (by omega)
      rw [decide_eq_true hc, show x / 2 ^ (nn w - 1) = 1 by omega]; rfl
    · have : x / 2 ^ (nn w - 1) < 1 := Int.ediv_lt_of_lt_mul (by omega) (by omega)
      rw [decide_eq_false hc, show x / 2 ^ (nn w - 1) = 0 by omega]; rfl
theorem signed_eq (w : Int) {x : Int} (hx : 0 ≤ x ∧ x < 18446744073709551616) : bits_Signed.f w x = some (sg (nn w) x) := by
  unfold bits_Signed.f
  have h := nn_le w
  obtain ⟨m0, m1⟩ := mod_lt (nn w) x
  have hp := pow_pos (nn w)
  have hp3 := pow_le h
  rw [fit_eq w hx, Option.bind_some, negative_eq w m0 m1, Option.bind_some]
  by_cases hc : 2 ^ (nn w - 1) ≤ x % 2 ^ nn w
  · rw [if_pos (decide_eq_true hc), mask_eq, Option.bind_some, compl h, or_compl h m0 m1]
    have hn : 1 ≤ nn w := by
      rcases Nat.eq_zero_or_pos (nn w) with h0 | h0
      · rw [h0] at hc m1; simp at hc m1 <;> omega
      · exact h0
    have hp2 := pow_succ' hn
    have := pow_le63 (n := nn w - 1) (by omega)
    unfold sg wrap64
    rw [if_neg (by omega)]
    congr 1; omega
  · rw [if_neg (by simpa using hc)]
    unfold sg
    rw [if_pos (by omega), wrap64_id (by omega) (by
      rcases Nat.eq_zero_or_pos (nn w) with h0 | h0
      · rw [h0] at m1 ⊢; simp at m1 ⊢ <;> omega
      · have := pow_le63 (n := nn w - 1) (by omega)
        omega)]
theorem from_eq (w x : Int) : bits_From.f w x = some (x % 2 ^ nn w) := by
  unfold bits_From.f
  rw [fit_eq w (by rw [wrap_u64]; omega), Option.bind_some, wrap_mod (nn_le w)]
end Go.Proofs.Ytbiohdgeclokmaa.Im
