/- What the evaluator makes of the functions' code (207 s). -/
import Derived.Test.YthhhegblccoonaaGreatDoorO
namespace Go.Vm
open Go.Proofs Go.Proofs.YthhhegblccoonaaGreatDoor Go.Proofs.YthhhegblccoonaaGreatDoor.P Go.RowKit Go.Proofs.YthhhegblccoonaaGreatDoorW.PrintWords Go.Proofs.YthhhegblccoonaaGreatDoorW.PrintLast Go.Proofs.YthhhegblccoonaaGreatDoorW.PrintMore
set_option linter.unusedVariables false
set_option linter.unusedSimpArgs false
set_option maxRecDepth 100000
set_option maxHeartbeats 40000000
theorem e116 : Ev 116 h116 Tryz.f116 := run interval_computer_add.f.eq_1 (an interval_computer_add.j1.eq_1 interval_computer_add.j0.eq_1)
theorem e53 : Ev 53 h53 Tryz.f53 := run knownbits_value.f.eq_1 (an knownbits_value.j2.eq_1 (an knownbits_value.j1.eq_1 knownbits_value.j0.eq_1))
theorem e49 : Ev 49 h49 Tryz.f49 := run interval_Tighten.f.eq_1 (an interval_Tighten.j2.eq_1 (an interval_Tighten.j1.eq_1 interval_Tighten.j0.eq_1))
theorem e59 : Ev 59 h59 Tryz.f59 := run knownbits_shifted.f.eq_1 trivial
theorem e146 : Ev 146 h146 Tryz.f146 := run interval_computer_times.f.eq_1 trivial
theorem e3 : Ev 3 h3 Tryz.f3 := run jacquardlaw14_FactsApply.f.eq_1 trivial
theorem e40 : Ev 40 h40 Tryz.f40 := by
  intro G C U K op ok cmp neg not wrap mn' mx' idx len get cut app byte lp k q hG hC hU hK hA hlp hQ hk
  delta orc
  refine On.I fun a0 => On.I fun a1 => On.I fun a2 => On.I fun a3 => On.r hC fun r R H0 hR => ?_
  exact runL (fun (y : Int × Int) st => ⟨(st.s.set 9 (V.u y.1)).set 10 (V.i y.2), st.h⟩)
    (fun (n : Nat) (y : Int × Int) => Go n fun q => jacquardref12_shift.l0 q a0 a1 a2 a3 y.1 y.2 = some r) jacquardref12_shift.f.eq_1 trivial (an jacquardref12_shift.l0.eq_1 jacquardref12_shift.l0.eq_2)
theorem e78 : Ev 78 h78 Tryz.f78 := by
  intro G C U K op ok cmp neg not wrap mn' mx' idx len get cut app byte lp k q hG hC hU hK hA hlp hQ hk
  delta orc
  refine On.I fun a0 => On.I fun a1 => On.I fun a2 => On.r hC fun r R H0 hR => ?_
  exact runL (fun (y : Int × Int × Int) st => ⟨st.s.set 8 (V.i y.1), st.h.set 1 [V.u y.2.1, V.u y.2.2]⟩)
    (fun (n : Nat) (y : Int × Int × Int) => Go n fun q => jacquardref12_zeros.l0 q a0 a1 a2 y.1 y.2.1 y.2.2 = some r) jacquardref12_zeros.f.eq_1 trivial (an jacquardref12_zeros.l0.eq_1 jacquardref12_zeros.l0.eq_2)
theorem e138 : Ev 138 h138 Tryz.f138 := run bits_divide.f.eq_1 trivial
theorem e45 : Ev 45 h45 Tryz.f45 := run interval_Of.f.eq_1 trivial
theorem e46 : Ev 46 h46 Tryz.f46 := run interval_Top.f.eq_1 trivial
theorem e89 : Ev 89 h89 Tryz.f89 := run jacquardref13_Join.f.eq_1 trivial
theorem e68 : Ev 68 h68 Tryz.f68 := run interval_ends.f.eq_1 trivial
theorem e42 : Ev 42 h42 Tryz.f42 := run jacquardref12_truth.f.eq_1 trivial
theorem e100 : Ev 100 h100 Tryz.f100 := run bits_negative.f.eq_1 trivial
end Go.Vm
