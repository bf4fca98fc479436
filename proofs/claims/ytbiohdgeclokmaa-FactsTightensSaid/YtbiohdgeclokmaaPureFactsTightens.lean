import Derived.Test.YtbiohdgeclokmaaFu
import Derived.Test.YtbiohdgeclokmaaPx17
import Derived.Test.YtbiohdgeclokmaaPx5
/- facts.Tighten is as specified; what it gives is a part of the fact, and contains the same words. -/
namespace Go.Proofs.Ytbiohdgeclokmaa.Pure
set_option linter.unusedVariables false
set_option linter.unusedSimpArgs false
set_option linter.unusedSectionVars false
open Go.RowKit Go.Proofs.Ytbiohdgeclokmaa.P Go.Proofs.YtbiohdgeclokmaaW.PrintWords Wd Im Iv Tg Ft

theorem ftawake_eq : jacquardlaw14_awake.f = some true := by decide +kernel
theorem FactsTightens : jacquardlaw14_FactsTightens.Pure := by
  intro w z o lo hi l m x _ hz ho hlo hhi hl hm hx
  rw [wf_u64] at hz ho hlo hx
  obtain ⟨z, rfl⟩ := Int.eq_ofNat_of_zero_le hz.1
  obtain ⟨o, rfl⟩ := Int.eq_ofNat_of_zero_le ho.1
  obtain ⟨x, rfl⟩ := Int.eq_ofNat_of_zero_le hx.1
  have hz : z < 18446744073709551616 := by omega
  have ho : o < 18446744073709551616 := by omega
  have hx : x < 18446744073709551616 := by omega
  refine ⟨0 + 300, ?_⟩
  generalize 0 = k
  obtain ⟨r, e1, e2, hP⟩ := tighten_main w (lo := lo) (hi := hi) (l := l) (m := m) hz ho hlo.1 k
  unfold jacquardlaw14_FactsTightens.f
  rw [ftawake_eq, Option.bind_some, if_pos rfl, e1, Option.bind_some, e2, Option.bind_some, if_neg (by simp), show (r.2.2.2.2.2.2 != r.2.2.2.2.2.2) = false by simp, show k + 300 = (k + 299) + 1 by omega, jacquardlaw14_FactsTightens.j0, if_neg (by decide), rfvalid_eq hz ho w lo hi l m (by omega), Option.bind_some]
  by_cases hv : FV w z o lo hi l m
  · rw [if_pos (decide_eq_true hv)]
    rcases hP.2 hv with ⟨rfl, hn⟩ | ⟨z', o', a, b, c, d, rfl, h1, h2, h3, h4, h5, h6, h7, h8, hK⟩
    · rw [if_neg (by decide), fcontains_eq hz ho w lo hi l m hx, Option.bind_some, decide_eq_false (hn x hx)]; rfl
    · have hz' := up (nn_le w) h1
      have ho' := up (nn_le w) h2
      dsimp only
      rw [if_pos rfl, fleq_true hz ho hz' ho' h3 h4 ⟨h5, h6, h7, h8⟩, Option.bind_some, if_pos rfl, fcontains_eq hz' ho' w a b c d hx, Option.bind_some, fcontains_eq hz ho w lo hi l m hx, Option.bind_some]
      have : decide (FC w z' o' a b c d x) = decide (FC w z o lo hi l m x) := by rw [Bool.eq_iff_iff]; simp only [decide_eq_true_eq]; exact hK x hx
      rw [this]; simp
  · rw [if_neg (by simpa using hv), hP.1 hv]; rfl
end Go.Proofs.Ytbiohdgeclokmaa.Pure
