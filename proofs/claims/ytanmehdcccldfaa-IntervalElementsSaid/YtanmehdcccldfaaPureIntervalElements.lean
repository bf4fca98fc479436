import Derived.Test.YtanmehdcccldfaaIv
import Derived.Test.YtanmehdcccldfaaPx8
import Derived.Test.YtanmehdcccldfaaPx2
import Derived.Test.YtanmehdcccldfaaPx6
import Derived.Test.YtanmehdcccldfaaPx7
/- Top, Of, Valid and Contains are as specified, for any width, range and word; Top contains all words, and Of exactly one. -/
namespace Go.Proofs.Ytanmehdcccldfaa.Pure
set_option linter.unusedVariables false
set_option linter.unusedSimpArgs false
set_option linter.unusedSectionVars false
open Go.RowKit Go.Proofs.Ytanmehdcccldfaa.P Go.Proofs.YtanmehdcccldfaaW.PrintWords Wd Im Iv

theorem eawake_eq : jacquardlaw13_awake.f = some true := by
  unfold jacquardlaw13_awake.f
  rw [top_eq, of_eq 4 (by decide)]
  decide +kernel
theorem rcontains_eq (w lo hi l m : Int) {x : Int} (hx : 0 ≤ x ∧ x < 18446744073709551616) {k : Nat} (hk : 66 < k) : jacquardref13_Contains.f k w lo hi l m x = some (decide (Contains w lo hi l m x)) := by
  unfold jacquardref13_Contains.f
  by_cases c1 : w < 1
  · rw [if_pos c1, decide_eq_false (fun h => by have := h.1; omega)]
  rw [if_neg c1]
  by_cases c2 : w > 64
  · rw [if_pos c2, decide_eq_false (fun h => by have := h.1; omega)]
  have h : 1 ≤ w ∧ w ≤ 64 := by omega
  rw [if_neg c2, umax_eq (by omega) (by omega), Option.bind_some]
  by_cases c3 : x > 2 ^ nn w - 1
  · rw [if_pos c3, decide_eq_false (fun h => by have := h.2.1; omega)]
  rw [if_neg c3, rsg_eq h hx.1 (by omega) (by omega), Option.bind_some]
  have c3' : x ≤ 2 ^ nn w - 1 := by omega
  by_cases h2 : lo ≤ x <;> by_cases h3 : x ≤ hi <;> by_cases h4 : l ≤ sg (nn w) x <;> simp [Contains, h, c3', h2, h3, h4]
theorem rtop_eq (w : Int) {k : Nat} (hk : 66 < k) : jacquardref13_Top.f k w = some (if 1 ≤ w ∧ w ≤ 64 then (0, 2 ^ nn w - 1, -2 ^ (nn w - 1), 2 ^ (nn w - 1) - 1) else (0, 0, 0, 0)) := by
  obtain ⟨k, rfl⟩ : ∃ j, k = j + 1 := ⟨k - 1, by omega⟩
  unfold jacquardref13_Top.f
  by_cases c1 : w < 1
  · rw [if_pos c1, jacquardref13_Top.j0, if_pos rfl, if_neg (by omega)]
  rw [if_neg c1]
  by_cases c2 : w > 64
  · rw [decide_eq_true c2, jacquardref13_Top.j0, if_pos rfl, if_neg (by omega)]
  have h : 1 ≤ w ∧ w ≤ 64 := by omega
  rw [decide_eq_false c2, jacquardref13_Top.j0, if_neg (by decide), umax_eq (by omega) (by omega), Option.bind_some, smin_eq h (by omega), Option.bind_some, smax_eq h (by omega), Option.bind_some, if_pos h]
theorem rof_eq (w : Int) {x : Int} (hx : 0 ≤ x ∧ x < 18446744073709551616) {k : Nat} (hk : 66 < k) : jacquardref13_Of.f k w x = some (if 1 ≤ w ∧ w ≤ 64 then (x % 2 ^ nn w, x % 2 ^ nn w, sg (nn w) x, sg (nn w) x) else (0, 0, 0, 0)) := by
  obtain ⟨k, rfl⟩ : ∃ j, k = j + 1 := ⟨k - 1, by omega⟩
  unfold jacquardref13_Of.f
  by_cases c1 : w < 1
  · rw [if_pos c1, jacquardref13_Of.j0, if_pos rfl, if_neg (by omega)]
  rw [if_neg c1]
  by_cases c2 : w > 64
  · rw [decide_eq_true c2, jacquardref13_Of.j0, if_pos rfl, if_neg (by omega)]
  have h : 1 ≤ w ∧ w ≤ 64 := by omega
  have hm := mod_lt (nn w) x
  rw [decide_eq_false c2, jacquardref13_Of.j0, if_neg (by decide), umax_eq (by omega) (by omega), Option.bind_some, and_mask (nn_le w) hx, rsg_eq h hm.1 hm.2 (by omega), Option.bind_some, if_pos h, sg_fit]
theorem IntervalElements : jacquardlaw13_IntervalElements.Pure := by
  intro w lo hi l m u v _ hlo hhi hl hm hu hv
  rw [wf_u64] at hlo hhi hu hv
  refine ⟨0 + 100, ?_⟩
  generalize 0 = k
  unfold jacquardlaw13_IntervalElements.f
  rw [eawake_eq, Option.bind_some, if_pos rfl, valid_eq, Option.bind_some, rvalid_eq w lo hi l m (by omega), Option.bind_some, if_neg (by simp), contains_eq w lo hi l m hu, Option.bind_some, rcontains_eq w lo hi l m hu (by omega), Option.bind_some, if_neg (by simp)]
  rw [top_eq, Option.bind_some, rtop_eq w (by omega), Option.bind_some, if_neg (by simp), of_eq w hu, Option.bind_some, rof_eq w hu (by omega), Option.bind_some]
  generalize (if 1 ≤ w ∧ w ≤ 64 then (u % 2 ^ nn w, u % 2 ^ nn w, sg (nn w) u, sg (nn w) u) else (0, 0, 0, 0)) = t
  rw [show ((!(t.1 == t.1) || (!(t.2.1 == t.2.1) || (!(t.2.2.1 == t.2.2.1) || (!(t.2.2.2 == t.2.2.2)))))) = false by simp]
  rw [show k + 100 = (k + 98) + 2 by omega, jacquardlaw13_IntervalElements.j0, if_neg (by decide)]
  by_cases c1 : w < 1
  · rw [if_pos c1, jacquardlaw13_IntervalElements.j1, if_pos rfl]
  rw [if_neg c1]
  by_cases c2 : w > 64
  · rw [decide_eq_true c2, jacquardlaw13_IntervalElements.j1, if_pos rfl]
  have h : 1 ≤ w ∧ w ≤ 64 := by omega
  have hn := nn_of (w := w) (by omega) h.2
  have hn1 : 1 ≤ nn w := by omega
  have hp := pow_le (nn_le w)
  have hs := pow_succ' hn1
  have hpp := pow_pos (nn w - 1)
  have mu := mod_lt (nn w) u
  have mv := mod_lt (nn w) v
  have ru := sg_range hn1 u
  have rv := sg_range hn1 v
  have hu' : 0 ≤ u % 2 ^ nn w ∧ u % 2 ^ nn w < 18446744073709551616 := by omega
  have hv' : 0 ≤ v % 2 ^ nn w ∧ v % 2 ^ nn w < 18446744073709551616 := by omega
  rw [decide_eq_false c2, jacquardlaw13_IntervalElements.j1, if_neg (by decide), rmask_eq (by omega) (by omega), Option.bind_some, Option.bind_some, and_mask (nn_le w) hu, and_mask (nn_le w) hv, of_eq w hu', if_pos h, Option.bind_some, sg_fit, mod_small mu.1 mu.2]
  dsimp only
  rw [valid_eq, Option.bind_some, if_pos (decide_eq_true ⟨h, by omega⟩), top_eq, if_pos h, Option.bind_some]
  dsimp only
  rw [valid_eq, Option.bind_some, if_pos (decide_eq_true ⟨h, by omega⟩), contains_eq _ _ _ _ _ hu', Option.bind_some, if_pos (decide_eq_true ⟨h, by rw [sg_fit]; omega⟩), contains_eq _ _ _ _ _ hv', Option.bind_some]
  congr 1
  by_cases e : u % 2 ^ nn w = v % 2 ^ nn w
  · have es := sg_of_mod e
    rw [decide_eq_true (show Contains w _ _ _ _ _ from ⟨h, by rw [sg_fit]; omega⟩)]
    simp [e]
  · rw [decide_eq_false (fun h' : Contains w _ _ _ _ _ => by have a := h'.2.2.1; have b := h'.2.2.2.1; omega)]
    simp [e]
end Go.Proofs.Ytanmehdcccldfaa.Pure
