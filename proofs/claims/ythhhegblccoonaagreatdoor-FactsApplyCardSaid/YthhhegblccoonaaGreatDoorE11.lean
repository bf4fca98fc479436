/- What the evaluator makes of the functions' code (209 s). -/
import Derived.Test.YthhhegblccoonaaGreatDoorO
namespace Go.Vm
open Go.Proofs Go.Proofs.YthhhegblccoonaaGreatDoor Go.Proofs.YthhhegblccoonaaGreatDoor.P Go.RowKit Go.Proofs.YthhhegblccoonaaGreatDoorW.PrintWords Go.Proofs.YthhhegblccoonaaGreatDoorW.PrintLast Go.Proofs.YthhhegblccoonaaGreatDoorW.PrintMore
set_option linter.unusedVariables false
set_option linter.unusedSimpArgs false
set_option maxRecDepth 100000
set_option maxHeartbeats 40000000
theorem e20 : Ev 20 h20 Tryz.f20 := run facts_Tighten.f.eq_1 (an facts_Tighten.j2.eq_1 (an facts_Tighten.j1.eq_1 facts_Tighten.j0.eq_1))
theorem e91 : Ev 91 h91 Tryz.f91 := run jacquardref13_unsigned.f.eq_1 (an jacquardref13_unsigned.j0.eq_1 jacquardref13_unsigned.j1.eq_1)
theorem e86 : Ev 86 h86 Tryz.f86 := run jacquardref12_compare.f.eq_1 jacquardref12_compare.j0.eq_1
theorem e76 : Ev 76 h76 Tryz.f76 := by
  intro G C U K op ok cmp neg not wrap mn' mx' idx len get cut app byte lp k q hG hC hU hK hA hlp hQ hk
  delta orc
  refine On.I fun a0 => On.a <| On.I fun a1_0 => On.I fun a1_1 => On.a <| On.I fun a2_0 => On.I fun a2_1 => On.I fun a3 => On.r hC fun r R H0 hR => ?_
  exact runL (fun (y : Int × Int × Int × Int) st => ⟨(st.s.set 3 (V.i y.1)).set 10 (V.i y.2.1), st.h.set 3 [V.u y.2.2.1, V.u y.2.2.2]⟩)
    (fun (n : Nat) (y : Int × Int × Int × Int) => Go n fun q => jacquardref12_add.l0 q a0 y.1 y.2.1 a1_0 a1_1 a2_0 a2_1 y.2.2.1 y.2.2.2 = some r) jacquardref12_add.f.eq_1 (an jacquardref12_add.j1.eq_1 (an jacquardref12_add.j1.eq_2 (an jacquardref12_add.j2.eq_1 (an jacquardref12_add.j2.eq_2 (an jacquardref12_add.j3.eq_1 jacquardref12_add.j3.eq_2))))) (an jacquardref12_add.l0.eq_1 jacquardref12_add.l0.eq_2)
theorem e67 : Ev 67 h67 Tryz.f67 := run interval_value.f.eq_1 interval_value.j0.eq_1
theorem e105 : Ev 105 h105 Tryz.f105 := run knownbits_compare.f.eq_1 trivial
theorem e145 : Ev 145 h145 Tryz.f145 := run bits_Mul64.f.eq_1 trivial
theorem e39 : Ev 39 h39 Tryz.f39 := run jacquardref12_divide.f.eq_1 trivial
theorem e125 : Ev 125 h125 Tryz.f125 := run jacquardref13_same.f.eq_1 trivial
theorem e70 : Ev 70 h70 Tryz.f70 := run jacquardref13_Top.f.eq_1 jacquardref13_Top.j0.eq_1
theorem e71 : Ev 71 h71 Tryz.f71 := run jacquardref12_Limits.f.eq_1 trivial
theorem e16 : Ev 16 h16 Tryz.f16 := run facts_Of.f.eq_1 trivial
theorem e61 : Ev 61 h61 Tryz.f61 := run knownbits_one.f.eq_1 trivial
theorem e104 : Ev 104 h104 Tryz.f104 := run knownbits_signed.f.eq_1 trivial
theorem e96 : Ev 96 h96 Tryz.f96 := run knownbits_good.f.eq_1 trivial
theorem e94 : Ev 94 h94 Tryz.f94 := run jacquardref13_Smin.f.eq_1 trivial
end Go.Vm
