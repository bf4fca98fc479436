/- What the evaluator makes of the functions' code (208 s). -/
import Derived.Test.YthhhegblccoonaaGreatDoorO
namespace Go.Vm
open Go.Proofs Go.Proofs.YthhhegblccoonaaGreatDoor Go.Proofs.YthhhegblccoonaaGreatDoor.P Go.RowKit Go.Proofs.YthhhegblccoonaaGreatDoorW.PrintWords Go.Proofs.YthhhegblccoonaaGreatDoorW.PrintLast Go.Proofs.YthhhegblccoonaaGreatDoorW.PrintMore
set_option linter.unusedVariables false
set_option linter.unusedSimpArgs false
set_option maxRecDepth 100000
set_option maxHeartbeats 40000000
theorem e51 : Ev 51 h51 Tryz.f51 := by
  intro G C U K op ok cmp neg not wrap mn' mx' idx len get cut app byte lp k q hG hC hU hK hA hlp hQ hk
  delta orc
  refine On.I fun a0 => On.I fun a1 => On.l fun l2 cl2 hul2 => On.r hC fun r R H0 hR => ?_
  exact runL (fun (y : Int) st => ⟨st.s.set 15 (V.i y), st.h⟩)
    (fun (n : Nat) (y : Int) => Go n fun q => knownbits_shaped.l0 q a0 a1 l2 l2 (l2.length : Int) y = some r) knownbits_shaped.f.eq_1 (an knownbits_shaped.j1.eq_1 (an knownbits_shaped.j1.eq_2 (an knownbits_shaped.j2.eq_1 (an knownbits_shaped.j2.eq_2 (an knownbits_shaped.j3.eq_1 knownbits_shaped.j3.eq_2))))) (an knownbits_shaped.l0.eq_1 knownbits_shaped.l0.eq_2)
theorem e23 : Ev 23 h23 Tryz.f23 := by
  intro G C U K op ok cmp neg not wrap mn' mx' idx len get cut app byte lp k q hG hC hU hK hA hlp hQ hk
  delta orc
  refine On.I fun a0 => On.I fun a1 => On.l fun l2 cl2 hul2 => On.l fun l3 cl3 hul3 => On.I fun a4 => On.r hC fun r R H0 hR => ?_
  exact runL (fun (y : Bool × List (List V) × Int × Int × Int × Int × Int) st => ⟨((st.s.set 11 (V.b y.1)).set 43 (V.i y.2.2.1)).set 12 (V.sl true y.2.1), st.h.set 0 [V.u y.2.2.2.1, V.u y.2.2.2.2.1, V.i y.2.2.2.2.2.1, V.i y.2.2.2.2.2.2]⟩)
    (fun (n : Nat) (y : Bool × List (List V) × Int × Int × Int × Int × Int) => Go n fun q => Wi U c48 y.2.1 fun z1 => interval_Apply.l0 q a0 a1 l2 y.1 z1 l3 (l3.length : Int) y.2.2.1 = some r) interval_Apply.f.eq_1 (an interval_Apply.j0.eq_1 interval_Apply.j0.eq_2) (an interval_Apply.l0.eq_1 interval_Apply.l0.eq_2)
theorem e7 : Ev 7 h7 Tryz.f7 := by
  intro G C U K op ok cmp neg not wrap mn' mx' idx len get cut app byte lp k q hG hC hU hK hA hlp hQ hk
  delta orc
  refine On.I fun a0 => On.I fun a1 => On.l fun l2 cl2 hul2 => On.l fun l3 cl3 hul3 => On.I fun a4 => On.r hC fun r R H0 hR => ?_
  exact runL (fun (y : List (List V) × List (List V) × Int × Int × Int × Int × Int × Int × Int) st => ⟨((st.s.set 26 (V.i y.2.2.1)).set 11 (V.sl true y.1)).set 12 (V.sl true y.2.1), st.h.set 0 [V.u y.2.2.2.1, V.u y.2.2.2.2.1, V.u y.2.2.2.2.2.1, V.u y.2.2.2.2.2.2.1, V.i y.2.2.2.2.2.2.2.1, V.i y.2.2.2.2.2.2.2.2]⟩)
    (fun (n : Nat) (y : List (List V) × List (List V) × Int × Int × Int × Int × Int × Int × Int) => Go n fun q => Wi U c45 y.1 fun z0 => Wi U c48 y.2.1 fun z1 => facts_Apply.l0 q a0 a1 l2 a4 z0 z1 l3 (l3.length : Int) y.2.2.1 = some r) facts_Apply.f.eq_1 trivial (an facts_Apply.l0.eq_1 facts_Apply.l0.eq_2)
theorem e81 : Ev 81 h81 Tryz.f81 := by
  intro G C U K op ok cmp neg not wrap mn' mx' idx len get cut app byte lp k q hG hC hU hK hA hlp hQ hk
  delta orc
  refine On.I fun a0 => On.I fun a1 => On.a <| On.I fun a2_0 => On.I fun a2_1 => On.a <| On.I fun a3_0 => On.I fun a3_1 => On.r hC fun r R H0 hR => ?_
  exact runL (fun (y : Int × Int × Int × Int) st => ⟨(st.s.set 12 (V.i y.1)).set 9 (V.i y.2.2.2), st.h.set 3 [V.u y.2.1, V.u y.2.2.1]⟩)
    (fun (n : Nat) (y : Int × Int × Int × Int) => Go n fun q => jacquardref12_right.l0 q a1 y.2.2.2 y.1 y.2.1 y.2.2.1 = some r) jacquardref12_right.f.eq_1 (an jacquardref12_right.j1.eq_1 jacquardref12_right.j1.eq_2) (an jacquardref12_right.l0.eq_1 jacquardref12_right.l0.eq_2)
theorem e77 : Ev 77 h77 Tryz.f77 := by
  intro G C U K op ok cmp neg not wrap mn' mx' idx len get cut app byte lp k q hG hC hU hK hA hlp hQ hk
  delta orc
  refine On.I fun a0 => On.a <| On.I fun a1_0 => On.I fun a1_1 => On.a <| On.I fun a2_0 => On.I fun a2_1 => On.r hC fun r R H0 hR => ?_
  exact runL (fun (y : Int × Int × Int × Int × Int) st => ⟨((st.s.set 10 (V.i y.1)).set 8 (V.i y.2.2.2.1)).set 9 (V.u y.2.2.2.2), st.h.set 3 [V.u y.2.1, V.u y.2.2.1]⟩)
    (fun (n : Nat) (y : Int × Int × Int × Int × Int) => Go n fun q => jacquardref12_product.l0 q y.2.2.2.1 y.2.2.2.2 y.1 y.2.1 y.2.2.1 = some r) jacquardref12_product.f.eq_1 trivial (an jacquardref12_product.l0.eq_1 jacquardref12_product.l0.eq_2)
theorem e134 : Ev 134 h134 Tryz.f134 := run jacquardref13_minus.f.eq_1 jacquardref13_minus.j0.eq_1
theorem e55 : Ev 55 h55 Tryz.f55 := run knownbits_product.eq_c trivial
theorem e149 : Ev 149 h149 Tryz.f149 := run interval_computer_truth.f.eq_1 interval_computer_truth.j0.eq_1
theorem e129 : Ev 129 h129 Tryz.f129 := run jacquardref12_decided.f.eq_1 trivial
theorem e74 : Ev 74 h74 Tryz.f74 := run jacquardref12_Exact.f.eq_1 trivial
theorem e64 : Ev 64 h64 Tryz.f64 := run knownbits_Join.f.eq_1 trivial
theorem e107 : Ev 107 h107 Tryz.f107 := run knownbits_tail.eq_c trivial
theorem e18 : Ev 18 h18 Tryz.f18 := run facts_known.f.eq_1 trivial
theorem e47 : Ev 47 h47 Tryz.f47 := run bits_Mask.f.eq_1 trivial
theorem e97 : Ev 97 h97 Tryz.f97 := run interval_good.f.eq_1 trivial
theorem e99 : Ev 99 h99 Tryz.f99 := run bits_limit.f.eq_1 trivial
end Go.Vm
