-- made by a program of this work (wip/mkprint.py, wip/mp.sh) out of the translation
import Derived.Test.YtoddafkffchnjaaRows
import Derived.Test.YtoddafkffchnjaaMl
import Derived.WalkKit
import Derived.ProofKit
import Derived.OpenShut
import Derived.ShutString
import Derived.ChangeOld
import Derived.Below
import Derived.SizedLaws
import Derived.Carry
namespace Go.Proofs.Ytoddafkffchnjaa.intervalSmall
open Go.ChangeShapes Go.WideShapes Go.ChangeAt Go.RowKit Go.Proofs.Ytoddafkffchnjaa.P Go.Proofs.YtoddafkffchnjaaW.PrintWords Go.Vm
open Go.ChangeMaps (open_string shut_string)
set_option linter.unusedVariables false
theorem own : ownKnob Try.prog.godebug = none := by kernel_rfl
theorem laidOut : laidOutB Try.prog = true := by kernel_rfl
set_option maxRecDepth 100000 in
theorem lifted (os : Os) (started : os.Started) (H : Type) (enc : TypeId × Value → H) :
    ReturnsInHanded {} Try.checked os 7 .any (Rows.intervalSmallSpec.pre6 enc Try.prog Try.f7 Rows.intervalSmallRow.domain false) (Rows.intervalSmallSpec.post enc Try.prog Try.f7 false true false false) := by
  refine returnsInHanded_of_change_sized (C := Try.checked) own started (by kernel_rfl) Try.func7
    (ChangeSpec.witness6 (enc := enc) (C := Try.checked) false ⟨#[], #[(.agg #[(.int .i64 0), (.int .i64 0), (.slice none 0 0), (.slice none 0 0), (.int .u64 0)])], []⟩ 8 (by kernel_rfl) (by kernel_rfl) (by kernel_rfl) (by kernel_rfl)) ?_
  intro W base args ds gs before hval0 hW hcnd hsz0 _
  have hsz : (DataW.weightsEach Try.prog (Try.f7.params.toList ++ Rows.intervalSmallSpec.plain.varTypes Try.prog) (ds ++ gs)).all (· ≤ reachBytes) = true := hsz0
  have hval : ∀ (j : Nat) t v, Try.f7.params[j]? = some t → args[j]? = some v → Value.okWide Try.prog W .any base t v := hval0
  have hW' := hW
  obtain ⟨p, q, hA0, hV, rfl, hfz, hnd⟩ := hW
  have hA : DataW.TrodAll enc Try.prog W 0 (fun _ => true) true Try.f7.params.toList args.toList ds p := hA0
  rw [Try.params7] at hA hval hsz
  obtain ⟨v0, vs0, d0, ds0, p0, q0, hargs, rfl, rfl, h0, r0⟩ := trodAll_cons hA
  obtain ⟨rfl, rfl, rfl⟩ := trodAll_nil r0
  obtain rfl : args = #[v0] := by cases args; simp_all
  obtain ⟨rfl, rfl⟩ := trodVars_none hV
  have k0 := h0
  have lt0 : ∀ x ∈ p0, x.block < W.heap.size := by obtain ⟨m, hm⟩ := k0; exact DataW.trod_lt m _ _ _ hm
  obtain ⟨⟨a0_0, a0_1, l0_2, l0_3, a0_4⟩, hk0, ⟨w0_0, w0_1, w0_2, w0_3, w0_4⟩⟩ := open_agg (.inl ⟨_, Try.underlying26⟩) (hval 0 26 v0 rfl rfl) h0 hsz (j := 0) rfl rfl (opens_struct Try.underlying26 (by kernel_rfl) (by kernel_rfl) (opensFs_cons (by kernel_rfl) rfl (opens_int Try.underlying3) (opensFs_cons (by kernel_rfl) rfl (opens_int Try.underlying3) (opensFs_cons (by kernel_rfl) rfl (opens_slice (B := 8) Try.underlying22 (by kernel_rfl) (by kernel_rfl) (opens_int Try.underlying3)) (opensFs_cons (by kernel_rfl) rfl (opens_slice (B := 32) Try.underlying23 (by kernel_rfl) (by kernel_rfl) (opens_iso (fun x : S30 => (x.f0, x.f1, x.f2, x.f3)) (fun a => ⟨a.1, a.2.1, a.2.2.1, a.2.2.2⟩) (fun _ => rfl) (opens_struct Try.underlying30 (by kernel_rfl) (by kernel_rfl) (opensFs_cons (by kernel_rfl) rfl (opens_int Try.underlying24) (opensFs_cons (by kernel_rfl) rfl (opens_int Try.underlying24) (opensFs_cons (by kernel_rfl) rfl (opens_int Try.underlying2) (opensFs_one (by kernel_rfl) (opens_int Try.underlying2)))))))) (opensFs_one (by kernel_rfl) (opens_int Try.underlying24)))))))
  clear hA0 hval0 hsz0 hsz
  refine (jacquardlaw13_IntervalSmall.law a0_0 a0_1 l0_2 l0_3 a0_4 w0_3.2 w0_4 W _ (RepL.cons (r1 := nil0) (r2 := nil0) hk0 RepL.nil (fun _ => rfl))).mono fun e W' ⟨he, bel0⟩ => ?_
  have bel : Below W.heap.size W W' := bel0
  subst he
  exact ⟨_, rfl, _, _, _, [], _, [], hW', trodAll_mk1 (shut_bool Try.underlying4 _), (trodAll_cons_mk (Below.trod laidOut (by kernel_rfl) (of_decide_eq_true (by kernel_rfl)) k0 bel lt0) trodAll_mk0), rfl, bel.frame _, fun h => by cases h⟩
theorem over : Rows.intervalSmallRow.holds Try.pinned (OpenSpec.ofChange Rows.intervalSmallSpec) :=
  OpenClaim.holds_of_wide 7 Try.f7 rfl rfl rfl rfl rfl rfl rfl ⟨rfl, rfl, rfl, rfl, rfl⟩ rfl rfl rfl rfl rfl (by kernel_rfl) Try.func7 (by kernel_rfl)
    (of_decide_eq_true (by kernel_rfl)) (by unfold Func.isWrapper; first | (rw [if_pos (by decide +kernel)]; kernel_rfl) | (rw [if_neg (by decide +kernel)]; exact ⟨rfl, rfl⟩))
    (fun os started H enc _ => lifted os started H enc)
theorem proved : Rows.IntervalSmallSaid := over
#print axioms proved
end Go.Proofs.Ytoddafkffchnjaa.intervalSmall
namespace Go.Proofs.Ytoddafkffchnjaa
/-- The row, under a short name, for the claim. -/
theorem intervalSmall_holds : Rows.IntervalSmallSaid := intervalSmall.proved
end Go.Proofs.Ytoddafkffchnjaa
