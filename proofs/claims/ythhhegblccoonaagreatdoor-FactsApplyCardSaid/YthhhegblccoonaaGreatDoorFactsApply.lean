-- made by a program of this work (wip/mkprint.py, wip/mp.sh) out of the translation
import Derived.Test.YthhhegblccoonaaGreatDoorRows
import Derived.Test.YthhhegblccoonaaGreatDoorS
import Derived.Test.YthhhegblccoonaaGreatDoorQ2
import Derived.Test.YthhhegblccoonaaGreatDoorV1
import Derived.Test.YthhhegblccoonaaGreatDoorCards
import Derived.Test.YthhhegblccoonaaGreatDoorTie
import Derived.SevenTiedAt
import Derived.LaidMore
import Derived.Lib.LaidTab
import Derived.WalkKit
import Derived.ProofKit
import Derived.OpenShut
import Derived.ShutString
import Derived.ChangeOld
import Derived.Below
import Derived.SizedLaws
import Derived.Carry
namespace Go.Proofs.YthhhegblccoonaaGreatDoor.factsApply
open Go.ChangeShapes Go.WideShapes Go.ChangeAt Go.RowKit Go.Proofs.YthhhegblccoonaaGreatDoor.P Go.Proofs.YthhhegblccoonaaGreatDoorW.PrintWords Go.Vm
open Go.ChangeMaps (open_string shut_string)
set_option linter.unusedVariables false
theorem own : ownKnob Tryz.prog.godebug = none := by kernel_rfl
theorem laidOut : laidOutB Tryz.prog = true := by kernel_rfl
theorem gT : Tryz.prog.globalNamed "math/bits.deBruijn64tab" = some 0 := by kernel_rfl
theorem tT : (Tryz.prog.globals[0]?).map (·.type) = some 131 := by kernel_rfl
def tab : List Int := [0, 1, 56, 2, 57, 49, 28, 3, 61, 58, 42, 50, 38, 29, 17, 4, 62, 47, 59, 36, 45, 43, 51, 22, 53, 39, 33, 30, 24, 18, 12, 5, 63, 55, 48, 27, 60, 41, 37, 16, 46, 35, 44, 21, 52, 32, 23, 11, 54, 26, 40, 15, 34, 20, 31, 10, 25, 14, 19, 9, 13, 8, 7, 6]
/-- The heap that the initialisers leave meets the condition. -/
theorem door_met (os : Os) (args : Array Value) : laidMetH Tryz.prog Rows.factsApplyRow.laid ((World.doorLaid Tryz.prog 14 os).forCall (fun _ _ => 0) ⟨#[], args, []⟩).memory :=
  laidMetH_of_parts3 (fuel := 8) (laidMet_of_run' 8 (by kernel_rfl) (by kernel_rfl)) (by kernel_rfl) (by kernel_rfl)
/-- What the condition says to the evaluator. -/
theorem held_of_laid {W : World} (h : laidMetH Tryz.prog Rows.factsApplyRow.laid W) : Held W (limOf W) := by
  rw [MakeChecks.laidMetH_plain _ _ _ (by kernel_rfl)] at h
  have h' : laidMet Tryz.prog [("math/bits.deBruijn64tab", Lib.tabData .u8 tab)] W := h
  have hT := Lib.tabIs_of_head gT tT Tryz.underlying131 Tryz.underlying5 (by kernel_rfl) (by kernel_rfl) h'
  unfold Lib.TabIs World.var? at hT
  rw [gT, Option.bind_some] at hT
  split at hT
  · rename_i c ty fz hc
    have hc2 : c = (tab.map fun z => Value.int .u8 z).toArray := Option.some.inj hT
    intro g cs hg
    have hg0 : g = 0 ∧ cs = tab.map fun z => V.sc (.int .u8 z) := by
      unfold Globs.gl globs at hg
      simp only at hg
      split at hg
      · exact ⟨rfl, (Option.some.inj hg).symm⟩
      · cases hg
    obtain ⟨rfl, rfl⟩ := hg0
    have hlen : (tab.map fun z => V.sc (.int .u8 z)).length = 64 := rfl
    have hsz : c.size = 64 := by rw [hc2]; rfl
    have hl : c.toList = tab.map fun z => Value.int .u8 z := by rw [hc2]
    have hlt : (c.toList.drop 0).take 64 = tab.map fun z => Value.int .u8 z := by rw [hl]; rfl
    have rep : ∀ l : List Int, RepL W (limOf W) (l.map fun z => V.sc (.int .u8 z)) [] (l.map fun z => Value.int .u8 z) nil0 := by
      intro l
      induction l with
      | nil => simp [RepL, nil0]
      | cons z l ih => exact RepL.cons (r1 := nil0) (r2 := nil0) (by simp [Rep, nil0]) ih (fun _ => rfl)
    simp only [Rep]
    refine ⟨fun _ => rfl, 0, 0, c, ty, fz, rfl, hc, by rw [hlen, hsz]; decide, by rw [hlen]; simp [limOf, hc, hsz], ?_, ?_⟩
    · rw [hlen, hlt]
      intro y hy
      obtain ⟨z, _, rfl⟩ := List.mem_map.1 hy
      rfl
    · rw [hlen, hlt]; exact rep tab
  · cases hT
set_option maxRecDepth 100000 in
theorem lifted (os : Os) (started : os.Started) (H : Type) (enc : TypeId × Value → H) :
    ReturnsInHanded {} Tryz.checked os 3 .any (fun w args => (Rows.factsApplySpec.pre enc Tryz.prog Tryz.f3 [] false w args ∧ laidMetH Tryz.prog Rows.factsApplyRow.laid w) ∧ sizedMet enc Tryz.prog Tryz.f3 (OpenSpec.ofChange Rows.factsApplySpec) false w args)
      (Rows.factsApplySpec.post enc Tryz.prog Tryz.f3 false true false false) := by
  refine returnsInHanded_of_change_and (C := Tryz.checked) (X := fun w _ => laidMetH Tryz.prog Rows.factsApplyRow.laid w) (fun _ _ _ hh h => h.of_heap hh) own started (by kernel_rfl) Tryz.func3
    (ChangeSpec.witness_shaped (enc := enc) (C := Tryz.checked) (os := os) (X := fun w _ => laidMetH Tryz.prog Rows.factsApplyRow.laid w) false (World.doorLaid Tryz.prog 14 os) #[(.agg #[(.int .i64 0), (.int .i64 0), (.slice none 0 0), (.slice none 0 0), (.int .u64 0)])] 8 rfl (World.shaped_of_RefB (by kernel_rfl) (by kernel_rfl)) (by kernel_rfl) (by kernel_rfl) (by kernel_rfl) (door_met os _)) ?_
  intro W base args ds gs before hval0 hW _ hsz0 hL _
  have hsz : (DataW.weightsEach Tryz.prog (Tryz.f3.params.toList ++ Rows.factsApplySpec.plain.varTypes Tryz.prog) (ds ++ gs)).all (· ≤ reachBytes) = true := hsz0
  have hval : ∀ (j : Nat) t v, Tryz.f3.params[j]? = some t → args[j]? = some v → Value.okWide Tryz.prog W .any base t v := hval0
  have hW' := hW
  obtain ⟨p, q, hA0, hV, rfl, hfz, hnd⟩ := hW
  have hA : DataW.TrodAll enc Tryz.prog W 0 (fun _ => true) true Tryz.f3.params.toList args.toList ds p := hA0
  rw [Tryz.params3] at hA hval hsz
  obtain ⟨v0, vs0, d0, ds0, p0, q0, hargs, rfl, rfl, h0, r0⟩ := trodAll_cons hA
  obtain ⟨rfl, rfl, rfl⟩ := trodAll_nil r0
  obtain rfl : args = #[v0] := by cases args; simp_all
  obtain ⟨rfl, rfl⟩ := trodVars_none hV
  have k0 := h0
  have lt0 : ∀ x ∈ p0, x.block < W.heap.size := by obtain ⟨m, hm⟩ := k0; exact DataW.trod_lt m _ _ _ hm
  obtain ⟨⟨a0_0, a0_1, l0_2, l0_3, a0_4⟩, hk0, ⟨w0_0, w0_1, w0_2, w0_3, w0_4⟩⟩ := open_agg (.inl ⟨_, Tryz.underlying26⟩) (hval 0 26 v0 rfl rfl) h0 hsz (j := 0) rfl rfl (opens_struct Tryz.underlying26 (by kernel_rfl) (by kernel_rfl) (opensFs_cons (by kernel_rfl) rfl (opens_int Tryz.underlying3) (opensFs_cons (by kernel_rfl) rfl (opens_int Tryz.underlying3) (opensFs_cons (by kernel_rfl) rfl (opens_slice (B := 8) Tryz.underlying22 (by kernel_rfl) (by kernel_rfl) (opens_int Tryz.underlying3)) (opensFs_cons (by kernel_rfl) rfl (opens_slice (B := 48) Tryz.underlying23 (by kernel_rfl) (by kernel_rfl) (opens_iso (fun x : S30 => (x.f0, x.f1, x.f2, x.f3, x.f4, x.f5)) (fun a => ⟨a.1, a.2.1, a.2.2.1, a.2.2.2.1, a.2.2.2.2.1, a.2.2.2.2.2⟩) (fun _ => rfl) (opens_struct Tryz.underlying30 (by kernel_rfl) (by kernel_rfl) (opensFs_cons (by kernel_rfl) rfl (opens_int Tryz.underlying24) (opensFs_cons (by kernel_rfl) rfl (opens_int Tryz.underlying24) (opensFs_cons (by kernel_rfl) rfl (opens_int Tryz.underlying24) (opensFs_cons (by kernel_rfl) rfl (opens_int Tryz.underlying24) (opensFs_cons (by kernel_rfl) rfl (opens_int Tryz.underlying2) (opensFs_one (by kernel_rfl) (opens_int Tryz.underlying2)))))))))) (opensFs_one (by kernel_rfl) (opens_int Tryz.underlying24)))))))
  clear hA0 hval0 hsz0 hsz
  have hf := Pure.FactsApply a0_0 a0_1 l0_2 l0_3 a0_4 w0_0 w0_1 w0_2 w0_3 w0_4
  refine (jacquardlaw14_FactsApply.law a0_0 a0_1 l0_2 l0_3 a0_4 hf W _ (RepL.cons (r1 := nil0) (r2 := nil0) hk0 RepL.nil (fun _ => rfl)) (held_of_laid hL)).mono fun e W' ⟨he, bel0⟩ => ?_
  have bel : Below W.heap.size W W' := bel0
  subst he
  exact ⟨_, rfl, _, _, _, [], _, [], hW', trodAll_mk1 (shut_bool Tryz.underlying4 _), (trodAll_cons_mk (Below.trod laidOut (by kernel_rfl) (of_decide_eq_true (by kernel_rfl)) k0 bel lt0) trodAll_mk0), rfl, bel.frame _, fun h => by cases h⟩
theorem over : Rows.factsApplyRow.holds Tryz.pinned (OpenSpec.ofChange Rows.factsApplySpec) :=
  OpenClaim.holds_of_wide 3 Tryz.f3 rfl rfl rfl rfl rfl rfl rfl ⟨rfl, rfl, rfl, rfl, rfl⟩ rfl rfl rfl rfl rfl (by kernel_rfl) Tryz.func3 (by kernel_rfl)
    (of_decide_eq_true (by kernel_rfl)) (by unfold Func.isWrapper; first | (rw [if_pos (by decide +kernel)]; kernel_rfl) | (rw [if_neg (by decide +kernel)]; exact ⟨rfl, rfl⟩))
    (fun os started H enc _ => lifted os started H enc)
theorem proved : Rows.FactsApplySaid := over
#print axioms proved
end Go.Proofs.YthhhegblccoonaaGreatDoor.factsApply
namespace Go.Proofs.YthhhegblccoonaaGreatDoor
/-- The tied card: the row, its one listed variable tied to the program's text. -/
theorem factsApply_card_holds : Rows.FactsApplyCardSaid :=
  Claim7.holds_tied_plain_at .later [] [.data] true (true, "f1625153256e0936521a1f0c51dbd613520899ec59b5f4be6431ae7f3e6186ea") false
    factsApply.proved (fun _ h => by cases h) (by kernel_rfl) (fun _ h => by cases h) factsApply_row_tie rfl ⟨rfl, rfl⟩ (by kernel_rfl) rfl
    (fun f fn hf hfn => by
      obtain rfl : f = 3 := Option.some.inj ((show Tryz.prog.funcNamed "jacquard/jacquardlaw14.FactsApply" = some 3 by kernel_rfl).symm.trans hf) |>.symm
      obtain rfl : fn = Tryz.f3 := (Option.some.inj (Tryz.func3.symm.trans hfn)).symm
      exact ⟨by kernel_rfl, fun j t ht => by
        have hall : (Tryz.f3.params.toList.all fun u => !Tryz.prog.wantsStandIn u) = true := by kernel_rfl
        have hm : t ∈ Tryz.f3.params.toList := by simpa using Array.mem_of_getElem? ht
        exact (show Tryz.prog.wantsStandIn t = false by simpa using List.all_eq_true.1 hall t hm)⟩)
    (by kernel_rfl)
#print axioms factsApply_card_holds
end Go.Proofs.YthhhegblccoonaaGreatDoor
