/- What the evaluator makes of the functions' code (208 s). -/
import Derived.Test.YthhhegblccoonaaGreatDoorO
namespace Go.Vm
open Go.Proofs Go.Proofs.YthhhegblccoonaaGreatDoor Go.Proofs.YthhhegblccoonaaGreatDoor.P Go.RowKit Go.Proofs.YthhhegblccoonaaGreatDoorW.PrintWords Go.Proofs.YthhhegblccoonaaGreatDoorW.PrintLast Go.Proofs.YthhhegblccoonaaGreatDoorW.PrintMore
set_option linter.unusedVariables false
set_option linter.unusedSimpArgs false
set_option maxRecDepth 100000
set_option maxHeartbeats 40000000
theorem e30 : Ev 30 h30 Tryz.f30 := by
  intro G C U K op ok cmp neg not wrap mn' mx' idx len get cut app byte lp k q hG hC hU hK hA hlp hQ hk
  delta orc
  refine On.I fun a0 => On.I fun a1 => On.l fun l2 cl2 hul2 => On.l fun l3 cl3 hul3 => On.I fun a4 => On.r hC fun r R H0 hR => ?_
  exact runL (fun (y : List (List V) × List (List V) × Bool × Int × Int × Int × Int × Int) st => ⟨(((st.s.set 13 (V.b y.2.2.1)).set 14 (V.i y.2.2.2.1)).set 11 (V.sl true y.1)).set 12 (V.sl true y.2.1), st.h.set 0 [V.u y.2.2.2.2.1, V.u y.2.2.2.2.2.1, V.i y.2.2.2.2.2.2.1, V.i y.2.2.2.2.2.2.2]⟩)
    (fun (n : Nat) (y : List (List V) × List (List V) × Bool × Int × Int × Int × Int × Int) => Go n fun q => Wi U c48 y.1 fun z0 => Wi U (cI .u64) y.2.1 fun z1 => jacquardref13_Apply.l0 q a0 a1 l2 l3 a4 z0 z1 y.2.2.1 y.2.2.2.1 = some r) jacquardref13_Apply.f.eq_1 (an jacquardref13_Apply.j0.eq_1 (an jacquardref13_Apply.j0.eq_2 (an jacquardref13_Apply.j4.eq_1 (an jacquardref13_Apply.j4.eq_2 (an jacquardref13_Apply.j2.eq_1 (an jacquardref13_Apply.j2.eq_2 (an jacquardref13_Apply.j3.eq_1 jacquardref13_Apply.j3.eq_2))))))) (an jacquardref13_Apply.l0.eq_1 jacquardref13_Apply.l0.eq_2)
theorem e151 : Ev 151 h151 Tryz.f151 := run bits_signed.f.eq_1 trivial
theorem e63 : Ev 63 h63 Tryz.f63 := run knownbits_flip.f.eq_1 trivial
theorem e122 : Ev 122 h122 Tryz.f122 := run interval_Join.f.eq_1 trivial
theorem e17 : Ev 17 h17 Tryz.f17 := run facts_Top.f.eq_1 trivial
theorem e83 : Ev 83 h83 Tryz.f83 := run jacquardref12_both.f.eq_1 trivial
theorem e41 : Ev 41 h41 Tryz.f41 := run jacquardref12_Bit.f.eq_1 trivial
theorem e57 : Ev 57 h57 Tryz.f57 := run knownbits_lead.f.eq_1 trivial
theorem e113 : Ev 113 h113 Tryz.f113 := run bits_IsBinary.f.eq_1 trivial
end Go.Vm
