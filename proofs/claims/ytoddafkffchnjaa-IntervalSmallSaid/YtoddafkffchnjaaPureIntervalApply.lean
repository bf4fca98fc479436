import Derived.Test.YtoddafkffchnjaaAv
import Derived.Test.YtoddafkffchnjaaDf
/- IntervalApply in plain Lean. -/
namespace Go.Proofs.Ytoddafkffchnjaa.Pure
set_option linter.unusedVariables false
set_option linter.unusedSimpArgs false
set_option linter.unusedSectionVars false
open Go.RowKit Go.Proofs.Ytoddafkffchnjaa.P Go.Proofs.YtoddafkffchnjaaW.PrintWords Wd Im Iv Tg Lw0 Ap Cm Cn Ev Rf Aq Ar As At Au Av
theorem awake_eq : jacquardlaw13_awake.f = some true := by
  unfold jacquardlaw13_awake.f
  rw [top_eq, Option.bind_some, of_eq 4 (by decide)]
  decide
theorem few_eq (op w : Int) (ws : List Int) (args : List S30) (num : Int) : jacquardlaw13_few.f op w ws args num = some (decide ((ws.length : Int) ≤ 8 ∧ (args.length : Int) ≤ 8)) := by
  unfold jacquardlaw13_few.f
  by_cases c : (ws.length : Int) ≤ 8
  · rw [if_pos c]; congr 1; rw [decide_eq_decide]; exact ⟨fun h => ⟨c, h⟩, fun h => h.2⟩
  · rw [if_neg c, decide_eq_false (fun h => c h.1)]
theorem IntervalApply : jacquardlaw13_IntervalApply.Pure := by
  intro op w ws args num h1 h2 h3 h4 h5
  refine ⟨200, ?_⟩
  unfold jacquardlaw13_IntervalApply.f
  rw [awake_eq, Option.bind_some, if_pos rfl, few_eq, Option.bind_some]
  by_cases c : (ws.length : Int) ≤ 8 ∧ (args.length : Int) ≤ 8
  · have hwf : ∀ a ∈ args, Wf a := fun a ha => by
      obtain ⟨p0, p1, p2, p3⟩ := h4.2 a ha
      exact ⟨(wf_u64 _).1 p0, (wf_i64 _).1 p2, (wf_i64 _).1 p3⟩
    obtain ⟨r, e1, e2⟩ := both (op := op) (w := w) (num := num) (ws := ws) (args := args) (by omega) (by omega) hwf ((wf_u64 _).1 h5)
    rw [if_pos (decide_eq_true c), e1, Option.bind_some, e2, Option.bind_some]
    simp
  · rw [if_neg (by simpa using c)]
end Go.Proofs.Ytoddafkffchnjaa.Pure
