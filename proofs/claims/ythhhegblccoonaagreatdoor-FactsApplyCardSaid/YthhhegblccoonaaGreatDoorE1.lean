/- What the evaluator makes of the functions' code (330 s). -/
import Derived.Test.YthhhegblccoonaaGreatDoorO
namespace Go.Vm
open Go.Proofs Go.Proofs.YthhhegblccoonaaGreatDoor Go.Proofs.YthhhegblccoonaaGreatDoor.P Go.RowKit Go.Proofs.YthhhegblccoonaaGreatDoorW.PrintWords Go.Proofs.YthhhegblccoonaaGreatDoorW.PrintLast Go.Proofs.YthhhegblccoonaaGreatDoorW.PrintMore
set_option linter.unusedVariables false
set_option linter.unusedSimpArgs false
set_option maxRecDepth 100000
set_option maxHeartbeats 40000000
theorem e29 : Ev 29 h29 Tryz.f29 := by
  intro G C U K op ok cmp neg not wrap mn' mx' idx len get cut app byte lp k q hG hC hU hK hA hlp hQ hk
  delta orc
  refine On.I fun a0 => On.I fun a1 => On.l fun l2 cl2 hul2 => On.l fun l3 cl3 hul3 => On.I fun a4 => On.r hC fun r R H0 hR => ?_
  exact runLL (fun (y : Bool × List (List V) × Int × Int × Int) st => ⟨((st.s.set 12 (V.b y.1)).set 14 (V.i y.2.2.1)).set 13 (V.sl true y.2.1), st.h.set 0 [V.u y.2.2.2.1, V.u y.2.2.2.2]⟩)
    (fun (n : Nat) (y : Bool × List (List V) × Int × Int × Int) => Go n fun q => Wi U (cI .u64) y.2.1 fun z1 => jacquardref12_Apply.l0 q a0 a1 l2 l3 a4 y.1 z1 y.2.2.1 0 0 = some r)
    (fun (y : Int × Int × Int) st => ⟨st.s.set 18 (V.i y.1), st.h.set 4 [V.u y.2.1, V.u y.2.2]⟩)
    (fun (n : Nat) (y : Int × Int × Int) => Go n fun q => jacquardref12_Apply.l1 q a1 l2 y.1 ((rd_T45 l3 0).f0) ((rd_T45 l3 0).f1) y.2.1 y.2.2 = some r) jacquardref12_Apply.f.eq_1 (an jacquardref12_Apply.j0.eq_1 (an jacquardref12_Apply.j0.eq_2 (an jacquardref12_Apply.j2.eq_1 (an jacquardref12_Apply.j2.eq_2 (an jacquardref12_Apply.j3.eq_1 (an jacquardref12_Apply.j3.eq_2 (an jacquardref12_Apply.j4.eq_1 (an jacquardref12_Apply.j4.eq_2 (an jacquardref12_Apply.j5.eq_1 jacquardref12_Apply.j5.eq_2))))))))) (an jacquardref12_Apply.l0.eq_1 (an jacquardref12_Apply.l0.eq_2 (an jacquardref12_Apply.l1.eq_1 jacquardref12_Apply.l1.eq_2)))
end Go.Vm
