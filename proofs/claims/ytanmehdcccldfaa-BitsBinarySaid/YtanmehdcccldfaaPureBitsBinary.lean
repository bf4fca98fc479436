import Derived.Test.YtanmehdcccldfaaRd
import Derived.Test.YtanmehdcccldfaaLw
import Derived.Test.YtanmehdcccldfaaPx22
/- Every binary operator has the specified result on words of any width; other operators and widths return ErrArg. -/
namespace Go.Proofs.Ytanmehdcccldfaa.Pure
set_option linter.unusedVariables false
set_option linter.unusedSimpArgs false
set_option linter.unusedSectionVars false
open Go.RowKit Go.Proofs.Ytanmehdcccldfaa.P Go.Proofs.YtanmehdcccldfaaW.PrintWords Wd Im Lw Rd
theorem BitsBinary : jacquardlaw01_BitsBinary.Pure := by
  intro op w x y _ _ hx hy
  rw [wf_u64] at hx hy
  refine ⟨0 + 500, ?_⟩
  generalize 0 = k
  unfold jacquardlaw01_BitsBinary.f
  have hb := binary_eq (k + 497) op w x y hx hy
  rw [show k + 497 + 3 = k + 500 by omega] at hb
  rw [show k + 500 = (k + 497) + 3 by omega, awake_eq (k + 497), Option.bind_some, if_pos rfl, show k + 497 + 3 = k + 500 by omega, hb, Option.bind_some, risBinary_eq, Option.bind_some, right_eq]
  by_cases ho : 2 ≤ op ∧ op ≤ 20
  · rw [if_pos (decide_eq_true ho), Option.bind_some]
    by_cases hw : 1 ≤ w ∧ w ≤ 64
    · rw [if_pos (decide_eq_true hw), rbinary_eq ho hw hx hy (by omega)]
      have hv : 2 ≤ op ∧ op ≤ 20 ∧ 1 ≤ w ∧ w ≤ 64 := ⟨ho.1, ho.2, hw.1, hw.2⟩
      simp [hv]
    · have hv : ¬ (2 ≤ op ∧ op ≤ 20 ∧ 1 ≤ w ∧ w ≤ 64) := fun h => hw h.2.2
      rw [if_neg (by simpa using hw)]; simp only [if_neg hv]; simp
  · have hv : ¬ (2 ≤ op ∧ op ≤ 20 ∧ 1 ≤ w ∧ w ≤ 64) := fun h => ho ⟨h.1, h.2.1⟩
    rw [if_neg (by simpa using ho)]; simp only [if_neg hv]; simp
end Go.Proofs.Ytanmehdcccldfaa.Pure
