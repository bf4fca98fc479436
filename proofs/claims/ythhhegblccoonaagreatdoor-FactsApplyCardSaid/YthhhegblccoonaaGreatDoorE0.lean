/- What the evaluator makes of the functions' code (900 s). -/
import Derived.Test.YthhhegblccoonaaGreatDoorO
namespace Go.Vm
open Go.Proofs Go.Proofs.YthhhegblccoonaaGreatDoor Go.Proofs.YthhhegblccoonaaGreatDoor.P Go.RowKit Go.Proofs.YthhhegblccoonaaGreatDoorW.PrintWords Go.Proofs.YthhhegblccoonaaGreatDoorW.PrintLast Go.Proofs.YthhhegblccoonaaGreatDoorW.PrintMore
set_option linter.unusedVariables false
set_option linter.unusedSimpArgs false
set_option maxRecDepth 100000
set_option maxHeartbeats 40000000
theorem e22 : Ev 22 h22 Tryz.f22 := by
  intro G C U K op ok cmp neg not wrap mn' mx' idx len get cut app byte lp k q hG hC hU hK hA hlp hQ hk
  delta orc
  refine On.I fun a0 => On.I fun a1 => On.l fun l2 cl2 hul2 => On.l fun l3 cl3 hul3 => On.I fun a4 => On.r hC fun r R H0 hR => ?_
  exact runC (fun (y : Bool × List (List V) × Int × Int × Int) st => ⟨((st.s.set 11 (V.b y.1)).set 41 (V.i y.2.2.1)).set 12 (V.sl true y.2.1), st.h.set 0 [V.u y.2.2.2.1, V.u y.2.2.2.2]⟩)
    (fun (n : Nat) (y : Bool × List (List V) × Int × Int × Int) => Go n fun q => Wi U (cI .u64) y.2.1 fun z1 => knownbits_Apply.l0 q a0 a1 l2 l3 a4 y.1 z1 l3 (l3.length : Int) y.2.2.1 = some r) knownbits_Apply.f.eq_1 (an knownbits_Apply.j0.eq_1 (an knownbits_Apply.j0.eq_2 (an knownbits_Apply.j2.eq_1 (an knownbits_Apply.j2.eq_2 (an knownbits_Apply.j3.eq_1 (an knownbits_Apply.j3.eq_2 (an knownbits_Apply.j4.eq_1 (an knownbits_Apply.j4.eq_2 (an knownbits_Apply.j5.eq_1 knownbits_Apply.j5.eq_2))))))))) (an knownbits_Apply.l0.eq_1 knownbits_Apply.l0.eq_2)
end Go.Vm
