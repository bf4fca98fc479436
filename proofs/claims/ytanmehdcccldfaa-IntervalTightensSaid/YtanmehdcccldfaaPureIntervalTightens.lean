import Derived.Test.YtanmehdcccldfaaTg
import Derived.Test.YtanmehdcccldfaaPx15
import Derived.Test.YtanmehdcccldfaaPx2
import Derived.Test.YtanmehdcccldfaaPx9
/- Tighten is as specified, keeps exactly the words that a range contains, and changes nothing the second time. -/
namespace Go.Proofs.Ytanmehdcccldfaa.Pure
set_option linter.unusedVariables false
set_option linter.unusedSimpArgs false
set_option linter.unusedSectionVars false
open Go.RowKit Go.Proofs.Ytanmehdcccldfaa.P Go.Proofs.YtanmehdcccldfaaW.PrintWords Wd Im Iv Tg

instance (n : Nat) (lo hi l m x : Int) : Decidable (In n lo hi l m x) := by unfold In; infer_instance
theorem tawake_eq : jacquardlaw13_awake.f = some true := by
  unfold jacquardlaw13_awake.f
  rw [top_eq, of_eq 4 (by decide)]
  decide +kernel
theorem tleq_eq (a b c d a' b' c' d' : Int) : interval_Leq.f a b c d a' b' c' d' = some (decide (a ≥ a' ∧ b ≤ b' ∧ c ≥ c' ∧ d ≤ d')) := by
  unfold interval_Leq.f
  by_cases h1 : a ≥ a' <;> by_cases h2 : b ≤ b' <;> by_cases h3 : c ≥ c' <;> by_cases h4 : d ≤ d' <;> simp [h1, h2, h3, h4]
theorem IntervalTightens : jacquardlaw13_IntervalTightens.Pure := by
  intro w lo hi l m x _ hlo hhi hl hm hx
  rw [wf_u64] at hlo hhi hx
  rw [wf_i64] at hl hm
  refine ⟨0 + 100, ?_⟩
  generalize 0 = k
  have e1 := tighten_eq w lo hi l m hlo.1 ⟨hl.1, hm.2⟩ (k + 97)
  have e2 := rtighten_eq w lo hi l m hlo.1 ⟨hl.1, hm.2⟩ (k := k + 100) (by omega)
  rw [show k + 97 + 3 = k + 100 by omega] at e1
  unfold jacquardlaw13_IntervalTightens.f
  rw [tawake_eq, Option.bind_some, if_pos rfl, e1, Option.bind_some, e2, Option.bind_some]
  generalize hT : (if Valid w lo hi l m then Tg.tight (nn w) lo hi l m else (0, 0, 0, 0, false)) = t
  rw [if_neg (by simp), show (t.2.2.2.2 != t.2.2.2.2) = false by simp, show k + 100 = (k + 99) + 1 by omega, jacquardlaw13_IntervalTightens.j0, if_neg (by decide), valid_eq, Option.bind_some]
  by_cases hv : Valid w lo hi l m
  · rw [if_pos hv] at hT
    have hn := nn_of (w := w) (by have := hv.1; omega) hv.1.2
    have hn1 : 1 ≤ nn w := by have := hv.1; omega
    have hs := pow_succ' hn1
    have hp := pow_pos (nn w - 1)
    rw [if_pos (decide_eq_true hv)]
    have big : ¬ x < 2 ^ nn w → ∀ a b c d, decide (Contains w a b c d x) = false := fun h a b c d => decide_eq_false (fun h' => h (by have := h'.2.1; omega))
    have small : x < 2 ^ nn w → ∀ a b c d, decide (Contains w a b c d x) = decide (In (nn w) a b c d x) := by
      intro h a b c d
      rw [Bool.eq_iff_iff]
      simp only [decide_eq_true_eq]
      exact ⟨fun h' => h'.2.2, fun h' => ⟨hv.1, by omega, h'⟩⟩
    rcases tight_form hn1 hlo.1 (Bd.of hv) with ⟨h1, h2⟩ | ⟨a, b, c, d, h1, h2, h3, h4, h5, h6, h7, h8, h9⟩
    · rw [h1] at hT
      subst hT
      rw [if_neg (by decide), contains_eq w lo hi l m hx, Option.bind_some]
      by_cases hx2 : x < 2 ^ nn w
      · rw [small hx2, decide_eq_false (h2 x hx.1 hx2)]; rfl
      · rw [big hx2]; rfl
    · rw [h1] at hT
      subst hT
      have hv2 : Valid w a b c d := ⟨hv.1, h2.h1, h2.h2, h2.h3, h2.h4, h2.h5⟩
      have e3 := tighten_eq w a b c d h3 ⟨by have := h2.h3; omega, by have := h2.h5; omega⟩ (k + 96)
      rw [show k + 96 + 3 = k + 99 by omega, if_pos hv2, h8] at e3
      simp only [if_true, e3, Option.bind_some, tleq_eq, contains_eq w _ _ _ _ hx]
      rw [if_pos (decide_eq_true ⟨h4, h5, h6, h7⟩)]
      have e4 : decide (Contains w a b c d x) = decide (Contains w lo hi l m x) := by
        by_cases hx2 : x < 2 ^ nn w
        · rw [small hx2, small hx2, Bool.eq_iff_iff]; simp only [decide_eq_true_eq]; exact h9 x hx.1 hx2
        · rw [big hx2, big hx2]
      rw [if_pos (by rw [e4]; simp), if_pos (by simp)]
  · rw [if_neg hv] at hT
    subst hT
    rw [if_neg (by simpa using hv), if_neg (by decide)]
    rfl
end Go.Proofs.Ytanmehdcccldfaa.Pure
