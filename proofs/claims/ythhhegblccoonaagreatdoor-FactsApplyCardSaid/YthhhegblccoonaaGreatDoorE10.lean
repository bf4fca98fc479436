/- What the evaluator makes of the functions' code (209 s). -/
import Derived.Test.YthhhegblccoonaaGreatDoorO
namespace Go.Vm
open Go.Proofs Go.Proofs.YthhhegblccoonaaGreatDoor Go.Proofs.YthhhegblccoonaaGreatDoor.P Go.RowKit Go.Proofs.YthhhegblccoonaaGreatDoorW.PrintWords Go.Proofs.YthhhegblccoonaaGreatDoorW.PrintLast Go.Proofs.YthhhegblccoonaaGreatDoorW.PrintMore
set_option linter.unusedVariables false
set_option linter.unusedSimpArgs false
set_option maxRecDepth 100000
set_option maxHeartbeats 40000000
theorem e66 : Ev 66 h66 Tryz.f66 := by
  intro G C U K op ok cmp neg not wrap mn' mx' idx len get cut app byte lp k q hG hC hU hK hA hlp hQ hk
  delta orc
  refine On.I fun a0 => On.I fun a1 => On.l fun l2 cl2 hul2 => On.r hC fun r R H0 hR => ?_
  exact runL (fun (y : Int) st => ⟨st.s.set 15 (V.i y), st.h⟩)
    (fun (n : Nat) (y : Int) => Go n fun q => interval_shaped.l0 q a0 a1 l2 l2 (l2.length : Int) y = some r) interval_shaped.f.eq_1 (an interval_shaped.j1.eq_1 interval_shaped.j1.eq_2) (an interval_shaped.l0.eq_1 interval_shaped.l0.eq_2)
theorem e124 : Ev 124 h124 Tryz.f124 := run interval_computer_compare.f.eq_1 interval_computer_compare.j0.eq_1
theorem e73 : Ev 73 h73 Tryz.f73 := run jacquardref13_Tighten.f.eq_1 (an jacquardref13_Tighten.j1.eq_1 jacquardref13_Tighten.j0.eq_1)
theorem e123 : Ev 123 h123 Tryz.f123 := run interval_computer_convert.f.eq_1 interval_computer_convert.j0.eq_1
theorem e80 : Ev 80 h80 Tryz.f80 := by
  intro G C U K op ok cmp neg not wrap mn' mx' idx len get cut app byte lp k q hG hC hU hK hA hlp hQ hk
  delta orc
  refine On.I fun a0 => On.a <| On.I fun a1_0 => On.I fun a1_1 => On.a <| On.I fun a2_0 => On.I fun a2_1 => On.r hC fun r R H0 hR => ?_
  exact runLL (fun (y : Int × Int × Int) st => ⟨st.s.set 8 (V.i y.1), st.h.set 3 [V.u y.2.1, V.u y.2.2]⟩)
    (fun (n : Nat) (y : Int × Int × Int) => Go n fun q => jacquardref12_remainder.l0 q a0 y.1 a1_0 a1_1 a2_0 a2_1 y.2.1 y.2.2 = some r)
    (fun (y : Int × Int × Int × Int) st => ⟨(st.s.set 9 (V.i y.1)).set 8 (V.sc (.int .i64 y.2.2.2)), st.h.set 3 [V.u y.2.1, V.u y.2.2.1]⟩)
    (fun (n : Nat) (y : Int × Int × Int × Int) => Go n fun q => jacquardref12_remainder.l1 q a0 y.2.2.2 y.1 a1_0 a1_1 a2_0 a2_1 y.2.1 y.2.2.1 = some r) jacquardref12_remainder.f.eq_1 (an jacquardref12_remainder.j1.eq_1 jacquardref12_remainder.j1.eq_2) (an jacquardref12_remainder.l0.eq_1 (an jacquardref12_remainder.l0.eq_2 (an jacquardref12_remainder.l1.eq_1 jacquardref12_remainder.l1.eq_2)))
theorem e139 : Ev 139 h139 Tryz.f139 := run bits_shift.f.eq_1 trivial
theorem e58 : Ev 58 h58 Tryz.f58 := run knownbits_remainder.eq_c trivial
theorem e142 : Ev 142 h142 Tryz.f142 := run interval_computer_sum.f.eq_1 trivial
theorem e35 : Ev 35 h35 Tryz.f35 := run knownbits_Valid.f.eq_1 trivial
theorem e75 : Ev 75 h75 Tryz.f75 := run jacquardref12_Of.f.eq_1 trivial
theorem e43 : Ev 43 h43 Tryz.f43 := run jacquardref12_Signed.f.eq_1 trivial
theorem e21 : Ev 21 h21 Tryz.f21 := run facts_fact.f.eq_1 trivial
theorem e26 : Ev 26 h26 Tryz.f26 := run jacquardref14_span.f.eq_1 trivial
theorem e150 : Ev 150 h150 Tryz.f150 := run jacquardref13_size.f.eq_1 trivial
theorem e112 : Ev 112 h112 Tryz.f112 := run bits_IsCompare.f.eq_1 trivial
theorem e136 : Ev 136 h136 Tryz.f136 := run jacquardref13_four.f.eq_1 trivial
end Go.Vm
