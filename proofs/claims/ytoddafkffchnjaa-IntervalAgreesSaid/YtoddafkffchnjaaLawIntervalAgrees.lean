-- made by a program of this work (wip/mkprint.py, wip/mp.sh) out of the translation
import Derived.Test.YtoddafkffchnjaaRows
import Derived.Test.YtoddafkffchnjaaS
import Derived.Test.YtoddafkffchnjaaPureIntervalAgrees
import Derived.WalkKit
import Derived.ProofKit
import Derived.OpenShut
import Derived.ShutString
import Derived.ChangeOld
import Derived.Below
import Derived.SizedLaws
import Derived.Carry
namespace Go.Proofs.Ytoddafkffchnjaa.intervalAgrees
open Go.ChangeShapes Go.WideShapes Go.ChangeAt Go.RowKit Go.Proofs.Ytoddafkffchnjaa.P Go.Proofs.YtoddafkffchnjaaW.PrintWords Go.Vm
open Go.ChangeMaps (open_string shut_string)
set_option linter.unusedVariables false
theorem own : ownKnob Try.prog.godebug = none := by kernel_rfl
theorem laidOut : laidOutB Try.prog = true := by kernel_rfl
set_option maxRecDepth 100000 in
theorem lifted (os : Os) (started : os.Started) (H : Type) (enc : TypeId × Value → H) :
    ReturnsInHanded {} Try.checked os 5 .any (Rows.intervalAgreesSpec.pre6 enc Try.prog Try.f5 Rows.intervalAgreesRow.domain false) (Rows.intervalAgreesSpec.post enc Try.prog Try.f5 false true false false) := by
  refine returnsInHanded_of_change_sized (C := Try.checked) own started (by kernel_rfl) Try.func5
    (ChangeSpec.witness6 (enc := enc) (C := Try.checked) false ⟨#[], #[(.agg #[(.int .u16 0), (.int .u16 0)]), (.agg #[(.int .u16 0), (.int .u16 0)]), (.int .i64 0)], []⟩ 8 (by kernel_rfl) (by kernel_rfl) (by kernel_rfl) (by kernel_rfl)) ?_
  intro W base args ds gs before hval0 hW hcnd hsz0 _
  have hsz : (DataW.weightsEach Try.prog (Try.f5.params.toList ++ Rows.intervalAgreesSpec.plain.varTypes Try.prog) (ds ++ gs)).all (· ≤ reachBytes) = true := hsz0
  have hval : ∀ (j : Nat) t v, Try.f5.params[j]? = some t → args[j]? = some v → Value.okWide Try.prog W .any base t v := hval0
  have hW' := hW
  obtain ⟨p, q, hA0, hV, rfl, hfz, hnd⟩ := hW
  have hA : DataW.TrodAll enc Try.prog W 0 (fun _ => true) true Try.f5.params.toList args.toList ds p := hA0
  rw [Try.params5] at hA hval hsz
  obtain ⟨v0, vs0, d0, ds0, p0, q0, hargs, rfl, rfl, h0, r0⟩ := trodAll_cons hA
  obtain ⟨v1, vs1, d1, ds1, p1, q1, rfl, rfl, rfl, h1, r1⟩ := trodAll_cons r0
  obtain ⟨v2, vs2, d2, ds2, p2, q2, rfl, rfl, rfl, h2, r2⟩ := trodAll_cons r1
  obtain ⟨rfl, rfl, rfl⟩ := trodAll_nil r2
  obtain rfl : args = #[v0, v1, v2] := by cases args; simp_all
  obtain ⟨rfl, rfl⟩ := trodVars_none hV
  have k0 := h0
  have lt0 : ∀ x ∈ p0, x.block < W.heap.size := by obtain ⟨m, hm⟩ := k0; exact DataW.trod_lt m _ _ _ hm
  obtain ⟨⟨a0_0, a0_1⟩, hk0, ⟨w0_0, w0_1⟩⟩ := open_agg (.inr ⟨_, _, Try.underlying41⟩) (hval 0 41 v0 rfl rfl) h0 hsz (j := 0) rfl rfl (opens_array Try.underlying41 (by kernel_rfl) (by kernel_rfl) (opensFs_cons (by kernel_rfl) rfl (opens_int Try.underlying40) (opensFs_one (by kernel_rfl) (opens_int Try.underlying40))))
  have k1 := h1
  have lt1 : ∀ x ∈ p1, x.block < W.heap.size := by obtain ⟨m, hm⟩ := k1; exact DataW.trod_lt m _ _ _ hm
  obtain ⟨⟨a1_0, a1_1⟩, hk1, ⟨w1_0, w1_1⟩⟩ := open_agg (.inr ⟨_, _, Try.underlying41⟩) (hval 1 41 v1 rfl rfl) h1 hsz (j := 1) rfl rfl (opens_array Try.underlying41 (by kernel_rfl) (by kernel_rfl) (opensFs_cons (by kernel_rfl) rfl (opens_int Try.underlying40) (opensFs_one (by kernel_rfl) (opens_int Try.underlying40))))
  have k2 := h2
  have lt2 : ∀ x ∈ p2, x.block < W.heap.size := by obtain ⟨m, hm⟩ := k2; exact DataW.trod_lt m _ _ _ hm
  obtain ⟨a2, rfl, rfl, rfl, w2⟩ := open_int Try.underlying3 (hval 2 3 v2 rfl rfl) h2
  clear hA0 hval0 hsz0 hsz
  obtain ⟨k, hf⟩ := Pure.IntervalAgrees a0_0 a0_1 a1_0 a1_1 a2 w0_0 w0_1 w1_0 w1_1 w2
  refine (jacquardlaw13_IntervalAgrees.law a0_0 a0_1 a1_0 a1_1 a2 hf W _ (RepL.cons (r1 := nil0) (r2 := nil0) hk0 (RepL.cons (r1 := nil0) (r2 := nil0) hk1 (RepL.cons (r1 := nil0) (r2 := nil0) Rep.of_scalar RepL.nil (fun _ => rfl)) (fun _ => rfl)) (fun _ => rfl))).mono fun e W' ⟨he, bel0⟩ => ?_
  have bel : Below W.heap.size W W' := bel0
  subst he
  exact ⟨_, rfl, _, _, _, [], _, [], hW', trodAll_mk1 (shut_bool Try.underlying4 _), (trodAll_cons_mk (Below.trod laidOut (by kernel_rfl) (of_decide_eq_true (by kernel_rfl)) k0 bel lt0) (trodAll_cons_mk (Below.trod laidOut (by kernel_rfl) (of_decide_eq_true (by kernel_rfl)) k1 bel lt1) (trodAll_cons_mk (Below.trod laidOut (by kernel_rfl) (of_decide_eq_true (by kernel_rfl)) k2 bel lt2) trodAll_mk0))), rfl, bel.frame _, fun h => by cases h⟩
theorem over : Rows.intervalAgreesRow.holds Try.pinned (OpenSpec.ofChange Rows.intervalAgreesSpec) :=
  OpenClaim.holds_of_wide 5 Try.f5 rfl rfl rfl rfl rfl rfl rfl ⟨rfl, rfl, rfl, rfl, rfl⟩ rfl rfl rfl rfl rfl (by kernel_rfl) Try.func5 (by kernel_rfl)
    (of_decide_eq_true (by kernel_rfl)) (by unfold Func.isWrapper; first | (rw [if_pos (by decide +kernel)]; kernel_rfl) | (rw [if_neg (by decide +kernel)]; exact ⟨rfl, rfl⟩))
    (fun os started H enc _ => lifted os started H enc)
theorem proved : Rows.IntervalAgreesSaid := over
#print axioms proved
end Go.Proofs.Ytoddafkffchnjaa.intervalAgrees
namespace Go.Proofs.Ytoddafkffchnjaa
/-- The row, under a short name, for the claim. -/
theorem intervalAgrees_holds : Rows.IntervalAgreesSaid := intervalAgrees.proved
end Go.Proofs.Ytoddafkffchnjaa
