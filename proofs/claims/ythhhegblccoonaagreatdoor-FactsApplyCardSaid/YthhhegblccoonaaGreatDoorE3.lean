/- What the evaluator makes of the functions' code (207 s). -/
import Derived.Test.YthhhegblccoonaaGreatDoorO
namespace Go.Vm
open Go.Proofs Go.Proofs.YthhhegblccoonaaGreatDoor Go.Proofs.YthhhegblccoonaaGreatDoor.P Go.RowKit Go.Proofs.YthhhegblccoonaaGreatDoorW.PrintWords Go.Proofs.YthhhegblccoonaaGreatDoorW.PrintLast Go.Proofs.YthhhegblccoonaaGreatDoorW.PrintMore
set_option linter.unusedVariables false
set_option linter.unusedSimpArgs false
set_option maxRecDepth 100000
set_option maxHeartbeats 40000000
theorem e92 : Ev 92 h92 Tryz.f92 := run jacquardref13_signed.f.eq_1 (an jacquardref13_signed.j0.eq_1 (an jacquardref13_signed.j1.eq_1 (an jacquardref13_signed.j2.eq_1 (an jacquardref13_signed.j3.eq_1 jacquardref13_signed.j4.eq_1))))
theorem e72 : Ev 72 h72 Tryz.f72 := run jacquardref12_SignedLimits.f.eq_1 trivial
theorem e103 : Ev 103 h103 Tryz.f103 := run knownbits_shift.f.eq_1 trivial
theorem e13 : Ev 13 h13 Tryz.f13 := run facts_Valid.f.eq_1 trivial
theorem e44 : Ev 44 h44 Tryz.f44 := run knownbits_Of.f.eq_1 trivial
theorem e114 : Ev 114 h114 Tryz.f114 := run bits_Extend.f.eq_1 trivial
theorem e82 : Ev 82 h82 Tryz.f82 := run jacquardref12_Join.f.eq_1 trivial
theorem e95 : Ev 95 h95 Tryz.f95 := run jacquardref13_Smax.f.eq_1 trivial
theorem e25 : Ev 25 h25 Tryz.f25 := run jacquardref14_bits.f.eq_1 trivial
theorem e98 : Ev 98 h98 Tryz.f98 := run bits_Fit.f.eq_1 trivial
end Go.Vm
