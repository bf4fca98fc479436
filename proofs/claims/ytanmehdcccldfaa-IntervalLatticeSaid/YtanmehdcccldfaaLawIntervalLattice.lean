-- made by a program of this work (wip/mkprint.py, wip/mp.sh) out of the translation
import Derived.Test.YtanmehdcccldfaaRows
import Derived.Test.YtanmehdcccldfaaPx10
import Derived.Test.YtanmehdcccldfaaOpen
import Derived.Test.YtanmehdcccldfaaPureIntervalLattice
import Derived.WalkKit
import Derived.ProofKit
import Derived.OpenShut
import Derived.ShutString
import Derived.ChangeOld
import Derived.Below
import Derived.SizedLaws
import Derived.Carry
namespace Go.Proofs.Ytanmehdcccldfaa.intervalLattice
open Go.ChangeShapes Go.WideShapes Go.ChangeAt Go.RowKit Go.Proofs.Ytanmehdcccldfaa.P Go.Proofs.YtanmehdcccldfaaW.PrintWords Opens
open Go.ChangeMaps (open_string shut_string)
set_option linter.unusedVariables false
theorem own : ownKnob Try.prog.godebug = none := by kernel_rfl
theorem laidOut : laidOutB Try.prog = true := by kernel_rfl
set_option maxRecDepth 100000 in
theorem lifted (os : Os) (started : os.Started) (H : Type) (enc : TypeId × Value → H) :
    ReturnsInHanded {} Try.checked os 4 .any (Rows.intervalLatticeSpec.pre6 enc Try.prog Try.f4 Rows.intervalLatticeRow.domain false) (Rows.intervalLatticeSpec.post enc Try.prog Try.f4 false true false false) := by
  refine returnsInHanded_of_change_sized (C := Try.checked) own started (by kernel_rfl) Try.func4
    (ChangeSpec.witness6 (enc := enc) (C := Try.checked) false ⟨#[], #[(.agg #[(.int .u64 0), (.int .u64 0), (.int .i64 0), (.int .i64 0)]), (.agg #[(.int .u64 0), (.int .u64 0), (.int .i64 0), (.int .i64 0)]), (.int .u64 0)], []⟩ 8 (by kernel_rfl) (by kernel_rfl) (by kernel_rfl) (by kernel_rfl)) ?_
  intro W base args ds gs before hval0 hW hcnd hsz0 _
  have hsz : (DataW.weightsEach Try.prog (Try.f4.params.toList ++ Rows.intervalLatticeSpec.plain.varTypes Try.prog) (ds ++ gs)).all (· ≤ reachBytes) = true := hsz0
  have hval : ∀ (j : Nat) t v, Try.f4.params[j]? = some t → args[j]? = some v → Value.okWide Try.prog W .any base t v := hval0
  have hW' := hW
  obtain ⟨p, q, hA0, hV, rfl, hfz, hnd⟩ := hW
  have hA : DataW.TrodAll enc Try.prog W 0 (fun _ => true) true Try.f4.params.toList args.toList ds p := hA0
  rw [Try.params4] at hA hval hsz
  obtain ⟨v0, vs0, d0, ds0, p0, q0, hargs, rfl, rfl, h0, r0⟩ := trodAll_cons hA
  obtain ⟨v1, vs1, d1, ds1, p1, q1, rfl, rfl, rfl, h1, r1⟩ := trodAll_cons r0
  obtain ⟨v2, vs2, d2, ds2, p2, q2, rfl, rfl, rfl, h2, r2⟩ := trodAll_cons r1
  obtain ⟨rfl, rfl, rfl⟩ := trodAll_nil r2
  obtain rfl : args = #[v0, v1, v2] := by cases args; simp_all
  obtain ⟨rfl, rfl⟩ := trodVars_none hV
  have k0 := h0
  have lt0 : ∀ x ∈ p0, x.block < W.heap.size := by obtain ⟨m, hm⟩ := k0; exact DataW.trod_lt m _ _ _ hm
  obtain ⟨⟨a0_0, a0_1, a0_2, a0_3⟩, cs0, rfl, hk0, ⟨w0_0, w0_1, w0_2, w0_3⟩⟩ := open_agg (.inl ⟨_, Try.underlying24⟩) (hval 0 24 v0 rfl rfl) h0 hsz (j := 0) rfl rfl (opens_struct Try.underlying24 (by kernel_rfl) (by kernel_rfl) (opensFs_cons (by kernel_rfl) rfl (opens_int Try.underlying22) (opensFs_cons (by kernel_rfl) rfl (opens_int Try.underlying22) (opensFs_cons (by kernel_rfl) rfl (opens_int Try.underlying2) (opensFs_one (by kernel_rfl) (opens_int Try.underlying2))))))
  obtain ⟨_, _, rfl, rfl, ⟨_, _, rfl, rfl, ⟨_, _, rfl, rfl, rfl⟩⟩⟩ := hk0
  have k1 := h1
  have lt1 : ∀ x ∈ p1, x.block < W.heap.size := by obtain ⟨m, hm⟩ := k1; exact DataW.trod_lt m _ _ _ hm
  obtain ⟨⟨a1_0, a1_1, a1_2, a1_3⟩, cs1, rfl, hk1, ⟨w1_0, w1_1, w1_2, w1_3⟩⟩ := open_agg (.inl ⟨_, Try.underlying24⟩) (hval 1 24 v1 rfl rfl) h1 hsz (j := 1) rfl rfl (opens_struct Try.underlying24 (by kernel_rfl) (by kernel_rfl) (opensFs_cons (by kernel_rfl) rfl (opens_int Try.underlying22) (opensFs_cons (by kernel_rfl) rfl (opens_int Try.underlying22) (opensFs_cons (by kernel_rfl) rfl (opens_int Try.underlying2) (opensFs_one (by kernel_rfl) (opens_int Try.underlying2))))))
  obtain ⟨_, _, rfl, rfl, ⟨_, _, rfl, rfl, ⟨_, _, rfl, rfl, rfl⟩⟩⟩ := hk1
  have k2 := h2
  have lt2 : ∀ x ∈ p2, x.block < W.heap.size := by obtain ⟨m, hm⟩ := k2; exact DataW.trod_lt m _ _ _ hm
  obtain ⟨a2, rfl, rfl, rfl, w2⟩ := open_int Try.underlying22 (hval 2 22 v2 rfl rfl) h2
  clear hA0 hval0 hsz0 hsz
  obtain ⟨k, hf⟩ := Pure.IntervalLattice a0_0 a0_1 a0_2 a0_3 a1_0 a1_1 a1_2 a1_3 a2 w0_0 w0_1 w0_2 w0_3 w1_0 w1_1 w1_2 w1_3 w2
  refine (jacquardlaw13_IntervalLattice.calls k a0_0 a0_1 a0_2 a0_3 a1_0 a1_1 a1_2 a1_3 a2 true W  hf).mono fun e W' ⟨he, bel0⟩ => ?_
  have bel : Below W.heap.size W W' := bel0
  subst he
  exact ⟨_, rfl, _, _, _, [], _, [], hW', trodAll_mk1 (shut_bool Try.underlying4 _), (trodAll_cons_mk (Below.trod laidOut (by kernel_rfl) (of_decide_eq_true (by kernel_rfl)) k0 bel lt0) (trodAll_cons_mk (Below.trod laidOut (by kernel_rfl) (of_decide_eq_true (by kernel_rfl)) k1 bel lt1) (trodAll_cons_mk (Below.trod laidOut (by kernel_rfl) (of_decide_eq_true (by kernel_rfl)) k2 bel lt2) trodAll_mk0))), rfl, bel.frame _, fun h => by cases h⟩
theorem over : Rows.intervalLatticeRow.holds Try.pinned (OpenSpec.ofChange Rows.intervalLatticeSpec) :=
  OpenClaim.holds_of_wide 4 Try.f4 rfl rfl rfl rfl rfl rfl rfl ⟨rfl, rfl, rfl, rfl, rfl⟩ rfl rfl rfl rfl rfl (by kernel_rfl) Try.func4 (by kernel_rfl)
    (of_decide_eq_true (by kernel_rfl)) (by unfold Func.isWrapper; first | (rw [if_pos (by decide +kernel)]; kernel_rfl) | (rw [if_neg (by decide +kernel)]; exact ⟨rfl, rfl⟩))
    (fun os started H enc _ => lifted os started H enc)
theorem proved : Rows.IntervalLatticeSaid := over
#print axioms proved
end Go.Proofs.Ytanmehdcccldfaa.intervalLattice
namespace Go.Proofs.Ytanmehdcccldfaa
/-- The row, under a short name, for the claim. -/
theorem intervalLattice_holds : Rows.IntervalLatticeSaid := intervalLattice.proved
end Go.Proofs.Ytanmehdcccldfaa
