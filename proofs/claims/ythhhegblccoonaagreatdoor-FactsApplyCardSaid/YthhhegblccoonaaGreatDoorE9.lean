/- What the evaluator makes of the functions' code (207 s). -/
import Derived.Test.YthhhegblccoonaaGreatDoorO
namespace Go.Vm
open Go.Proofs Go.Proofs.YthhhegblccoonaaGreatDoor Go.Proofs.YthhhegblccoonaaGreatDoor.P Go.RowKit Go.Proofs.YthhhegblccoonaaGreatDoorW.PrintWords Go.Proofs.YthhhegblccoonaaGreatDoorW.PrintLast Go.Proofs.YthhhegblccoonaaGreatDoorW.PrintMore
set_option linter.unusedVariables false
set_option linter.unusedSimpArgs false
set_option maxRecDepth 100000
set_option maxHeartbeats 40000000
theorem e9 : Ev 9 h9 Tryz.f9 := by
  intro G C U K op ok cmp neg not wrap mn' mx' idx len get cut app byte lp k q hG hC hU hK hA hlp hQ hk
  delta orc
  refine On.I fun a0 => On.I fun a1 => On.l fun l2 cl2 hul2 => On.r hC fun r R H0 hR => ?_
  exact runL (fun (y : Int) st => ⟨st.s.set 7 (V.i y), st.h⟩)
    (fun (n : Nat) (y : Int) => Go n fun q => jacquardref12_Shape.l0 q a0 a1 l2 y = some r) jacquardref12_Shape.f.eq_1 (an jacquardref12_Shape.j0.eq_1 (an jacquardref12_Shape.j0.eq_2 (an jacquardref12_Shape.j2.eq_1 (an jacquardref12_Shape.j2.eq_2 (an jacquardref12_Shape.j3.eq_1 (an jacquardref12_Shape.j3.eq_2 (an jacquardref12_Shape.j4.eq_1 jacquardref12_Shape.j4.eq_2))))))) (an jacquardref12_Shape.l0.eq_1 jacquardref12_Shape.l0.eq_2)
theorem e117 : Ev 117 h117 Tryz.f117 := run interval_computer_sub.f.eq_1 (an interval_computer_sub.j1.eq_1 interval_computer_sub.j0.eq_1)
theorem e62 : Ev 62 h62 Tryz.f62 := run knownbits_less.f.eq_1 knownbits_less.j0.eq_1
theorem e90 : Ev 90 h90 Tryz.f90 := run jacquardref13_cast.f.eq_1 jacquardref13_cast.j0.eq_1
theorem e133 : Ev 133 h133 Tryz.f133 := run jacquardref13_plus.f.eq_1 jacquardref13_plus.j0.eq_1
theorem e147 : Ev 147 h147 Tryz.f147 := by
  intro G C U K op ok cmp neg not wrap mn' mx' idx len get cut app byte lp k q hG hC hU hK hA hlp hQ hk
  delta orc
  refine On.p <| On.I fun a1 => On.l fun l2 cl2 hul2 => On.h <| On.I fun s0_0 => On.I fun s0_1 => On.I fun s0_2 => On.I fun s0_3 => On.I fun s0_4 => On.I fun s0_5 => On.I fun s0_6 => On.I fun s0_7 => On.r hC fun r R H0 hR => ?_
  exact runL (fun (y : Int × Int × Int) st => ⟨((st.s.set 6 (V.i y.1)).set 7 (V.i y.2.1)).set 14 (V.i y.2.2), st.h⟩)
    (fun (n : Nat) (y : Int × Int × Int) => Go n fun q => interval_computer_corners.l0 q y.1 y.2.1 l2 (l2.length : Int) y.2.2 s0_0 s0_1 s0_2 s0_3 s0_4 s0_5 s0_6 s0_7 = some r) interval_computer_corners.f.eq_1 trivial (an interval_computer_corners.l0.eq_1 interval_computer_corners.l0.eq_2)
theorem e126 : Ev 126 h126 Tryz.f126 := by
  intro G C U K op ok cmp neg not wrap mn' mx' idx len get cut app byte lp k q hG hC hU hK hA hlp hQ hk
  delta orc
  refine On.I fun a0 => On.a <| On.I fun a1_0 => On.I fun a1_1 => On.r hC fun r R H0 hR => ?_
  exact runL (fun (y : Int) st => ⟨st.s.set 5 (V.i y), st.h⟩)
    (fun (n : Nat) (y : Int) => Go n fun q => jacquardref12_tail.l0 q a0 y a1_0 a1_1 = some r) jacquardref12_tail.f.eq_1 trivial (an jacquardref12_tail.l0.eq_1 jacquardref12_tail.l0.eq_2)
theorem e31 : Ev 31 h31 Tryz.f31 := run jacquardref12_Valid.f.eq_1 trivial
theorem e52 : Ev 52 h52 Tryz.f52 := run knownbits_Exact.f.eq_1 trivial
theorem e110 : Ev 110 h110 Tryz.f110 := run knownbits_most.f.eq_1 trivial
theorem e6 : Ev 6 h6 Tryz.f6 := run jacquardlaw14_few.f.eq_1 trivial
theorem e120 : Ev 120 h120 Tryz.f120 := run interval_computer_u.f.eq_1 trivial
theorem e111 : Ev 111 h111 Tryz.f111 := run knownbits_least.f.eq_1 trivial
theorem e132 : Ev 132 h132 Tryz.f132 := by
  intro G C U K op ok cmp neg not wrap mn' mx' idx len get cut app byte lp k q hG hC hU hK hA hlp hQ hk
  delta orc
  refine On.I fun a0 => On.r hC fun r R H0 hR => ?_
  exact runL (fun (y : Int) st => ⟨st.s.set 3 (V.u y), st.h⟩)
    (fun (n : Nat) (y : Int) => Go n fun q => jacquardref13_ones.l0 q a0 y = some r) jacquardref13_ones.f.eq_1 trivial (an jacquardref13_ones.l0.eq_1 jacquardref13_ones.l0.eq_2)
end Go.Vm
