/- What the evaluator makes of the functions' code (207 s). -/
import Derived.Test.YthhhegblccoonaaGreatDoorO
namespace Go.Vm
open Go.Proofs Go.Proofs.YthhhegblccoonaaGreatDoor Go.Proofs.YthhhegblccoonaaGreatDoor.P Go.RowKit Go.Proofs.YthhhegblccoonaaGreatDoorW.PrintWords Go.Proofs.YthhhegblccoonaaGreatDoorW.PrintLast Go.Proofs.YthhhegblccoonaaGreatDoorW.PrintMore
set_option linter.unusedVariables false
set_option linter.unusedSimpArgs false
set_option maxRecDepth 100000
set_option maxHeartbeats 40000000
theorem e15 : Ev 15 h15 Tryz.f15 := run jacquardref12_Eval.f.eq_1 jacquardref12_Eval.j0.eq_1
theorem e54 : Ev 54 h54 Tryz.f54 := by
  intro G C U K op ok cmp neg not wrap mn' mx' idx len get cut app byte lp k q hG hC hU hK hA hlp hQ hk
  delta orc
  refine On.I fun a0 => On.a <| On.I fun a1_0 => On.I fun a1_1 => On.a <| On.I fun a2_0 => On.I fun a2_1 => On.I fun a3 => On.r hC fun r R H0 hR => ?_
  exact runL (fun (y : Int × Int × Int × Int) st => ⟨(st.s.set 3 (V.i y.1)).set 15 (V.i y.2.1), st.h.set 3 [V.u y.2.2.1, V.u y.2.2.2]⟩)
    (fun (n : Nat) (y : Int × Int × Int × Int) => Go n fun q => knownbits_add.l0 q y.1 a0 y.2.1 a1_0 a1_1 a2_0 a2_1 y.2.2.1 y.2.2.2 = some r) knownbits_add.f.eq_1 (an knownbits_add.j1.eq_1 (an knownbits_add.j1.eq_2 (an knownbits_add.j2.eq_1 knownbits_add.j2.eq_2))) (an knownbits_add.l0.eq_1 knownbits_add.l0.eq_2)
theorem e8 : Ev 8 h8 Tryz.f8 := by
  intro G C U K op ok cmp neg not wrap mn' mx' idx len get cut app byte lp k q hG hC hU hK hA hlp hQ hk
  delta orc
  refine On.I fun a0 => On.I fun a1 => On.l fun l2 cl2 hul2 => On.l fun l3 cl3 hul3 => On.I fun a4 => On.r hC fun r R H0 hR => ?_
  exact runL (fun (y : List (List V) × List (List V) × Int × Int × Int × Int × Int × Int × Int) st => ⟨((st.s.set 13 (V.i y.2.2.1)).set 11 (V.sl true y.1)).set 12 (V.sl true y.2.1), st.h.set 0 [V.u y.2.2.2.1, V.u y.2.2.2.2.1, V.u y.2.2.2.2.2.1, V.u y.2.2.2.2.2.2.1, V.i y.2.2.2.2.2.2.2.1, V.i y.2.2.2.2.2.2.2.2]⟩)
    (fun (n : Nat) (y : List (List V) × List (List V) × Int × Int × Int × Int × Int × Int × Int) => Go n fun q => Wi U c45 y.1 fun z0 => Wi U c48 y.2.1 fun z1 => jacquardref14_Apply.l0 q a0 a1 l2 l3 a4 z0 z1 y.2.2.1 = some r) jacquardref14_Apply.f.eq_1 (an jacquardref14_Apply.j0.eq_1 jacquardref14_Apply.j0.eq_2) (an jacquardref14_Apply.l0.eq_1 jacquardref14_Apply.l0.eq_2)
theorem e102 : Ev 102 h102 Tryz.f102 := run knownbits_divide.f.eq_1 (an knownbits_divide.j1.eq_1 knownbits_divide.j0.eq_1)
theorem e50 : Ev 50 h50 Tryz.f50 := run bits_Len64.f.eq_1 bits_Len64.j0.eq_1
theorem e60 : Ev 60 h60 Tryz.f60 := run knownbits_vague.f.eq_1 trivial
theorem e127 : Ev 127 h127 Tryz.f127 := by
  intro G C U K op ok cmp neg not wrap mn' mx' idx len get cut app byte lp k q hG hC hU hK hA hlp hQ hk
  delta orc
  refine On.I fun a0 => On.a <| On.I fun a1_0 => On.I fun a1_1 => On.r hC fun r R H0 hR => ?_
  exact runL (fun (y : Int) st => ⟨st.s.set 5 (V.i y), st.h⟩)
    (fun (n : Nat) (y : Int) => Go n fun q => jacquardref12_low.l0 q a0 y a1_0 a1_1 = some r) jacquardref12_low.f.eq_1 trivial (an jacquardref12_low.l0.eq_1 jacquardref12_low.l0.eq_2)
theorem e109 : Ev 109 h109 Tryz.f109 := run (fun a0 => (congrFun bits_OnesCount64.ce _).trans (bits_OnesCount64.f.eq_1 a0)) trivial
theorem e48 : Ev 48 h48 Tryz.f48 := run bits_Signed.f.eq_1 trivial
theorem e85 : Ev 85 h85 Tryz.f85 := run jacquardref12_Known.f.eq_1 trivial
theorem e101 : Ev 101 h101 Tryz.f101 := run bits_From.f.eq_1 trivial
theorem e137 : Ev 137 h137 Tryz.f137 := run jacquardref13_within.f.eq_1 trivial
theorem e131 : Ev 131 h131 Tryz.f131 := run jacquardref13_product.f.eq_1 trivial
theorem e28 : Ev 28 h28 Tryz.f28 := run jacquardref14_fact.f.eq_1 trivial
end Go.Vm
