/- What the evaluator makes of the functions' code (208 s). -/
import Derived.Test.YthhhegblccoonaaGreatDoorO
namespace Go.Vm
open Go.Proofs Go.Proofs.YthhhegblccoonaaGreatDoor Go.Proofs.YthhhegblccoonaaGreatDoor.P Go.RowKit Go.Proofs.YthhhegblccoonaaGreatDoorW.PrintWords Go.Proofs.YthhhegblccoonaaGreatDoorW.PrintLast Go.Proofs.YthhhegblccoonaaGreatDoorW.PrintMore
set_option linter.unusedVariables false
set_option linter.unusedSimpArgs false
set_option maxRecDepth 100000
set_option maxHeartbeats 40000000
theorem e118 : Ev 118 h118 Tryz.f118 := run interval_computer_mul.f.eq_1 (an interval_computer_mul.j1.eq_1 interval_computer_mul.j0.eq_1)
theorem e121 : Ev 121 h121 Tryz.f121 := run interval_computer_shift.f.eq_1 trivial
theorem e135 : Ev 135 h135 Tryz.f135 := run jacquardref13_times.f.eq_1 jacquardref13_times.j0.eq_1
theorem e128 : Ev 128 h128 Tryz.f128 := by
  intro G C U K op ok cmp neg not wrap mn' mx' idx len get cut app byte lp k q hG hC hU hK hA hlp hQ hk
  delta orc
  refine On.I fun a0 => On.a <| On.I fun a1_0 => On.I fun a1_1 => On.I fun a2 => On.I fun a3 => On.r hC fun r R H0 hR => ?_
  exact runL (fun (y : Int × Int × Int) st => ⟨st.s.set 10 (V.i y.1), st.h.set 2 [V.u y.2.1, V.u y.2.2]⟩)
    (fun (n : Nat) (y : Int × Int × Int) => Go n fun q => jacquardref12_shifted.l0 q a0 a2 a3 y.1 a1_0 a1_1 y.2.1 y.2.2 = some r) jacquardref12_shifted.f.eq_1 (an jacquardref12_shifted.j1.eq_1 jacquardref12_shifted.j1.eq_2) (an jacquardref12_shifted.l0.eq_1 jacquardref12_shifted.l0.eq_2)
theorem e36 : Ev 36 h36 Tryz.f36 := run interval_Valid.f.eq_1 trivial
theorem e79 : Ev 79 h79 Tryz.f79 := by
  intro G C U K op ok cmp neg not wrap mn' mx' idx len get cut app byte lp k q hG hC hU hK hA hlp hQ hk
  delta orc
  refine On.I fun a0 => On.a <| On.I fun a1_0 => On.I fun a1_1 => On.I fun a2 => On.r hC fun r R H0 hR => ?_
  exact runL (fun (y : Int) st => ⟨st.s.set 7 (V.i y), st.h⟩)
    (fun (n : Nat) (y : Int) => Go n fun q => jacquardref12_lead.l0 q a0 a2 y a1_0 a1_1 = some r) jacquardref12_lead.f.eq_1 trivial (an jacquardref12_lead.l0.eq_1 jacquardref12_lead.l0.eq_2)
theorem e87 : Ev 87 h87 Tryz.f87 := run jacquardref13_Of.f.eq_1 jacquardref13_Of.j0.eq_1
theorem e11 : Ev 11 h11 Tryz.f11 := run jacquardref14_Valid.f.eq_1 trivial
theorem e19 : Ev 19 h19 Tryz.f19 := run facts_span.f.eq_1 trivial
theorem e24 : Ev 24 h24 Tryz.f24 := run jacquardref14_Top.f.eq_1 trivial
theorem e56 : Ev 56 h56 Tryz.f56 := run knownbits_high.f.eq_1 trivial
theorem e65 : Ev 65 h65 Tryz.f65 := run knownbits_mask.f.eq_1 trivial
theorem e93 : Ev 93 h93 Tryz.f93 := run jacquardref13_Umax.f.eq_1 trivial
end Go.Vm
