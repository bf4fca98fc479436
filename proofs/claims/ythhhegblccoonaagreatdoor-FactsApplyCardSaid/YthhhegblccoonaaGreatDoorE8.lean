/- What the evaluator makes of the functions' code (207 s). -/
import Derived.Test.YthhhegblccoonaaGreatDoorO
namespace Go.Vm
open Go.Proofs Go.Proofs.YthhhegblccoonaaGreatDoor Go.Proofs.YthhhegblccoonaaGreatDoor.P Go.RowKit Go.Proofs.YthhhegblccoonaaGreatDoorW.PrintWords Go.Proofs.YthhhegblccoonaaGreatDoorW.PrintLast Go.Proofs.YthhhegblccoonaaGreatDoorW.PrintMore
set_option linter.unusedVariables false
set_option linter.unusedSimpArgs false
set_option maxRecDepth 100000
set_option maxHeartbeats 40000000
theorem e119 : Ev 119 h119 Tryz.f119 := run interval_computer_divide.f.eq_1 (an interval_computer_divide.j4.eq_1 (an interval_computer_divide.j3.eq_1 (an interval_computer_divide.j2.eq_1 (an interval_computer_divide.j1.eq_1 interval_computer_divide.j0.eq_1))))
theorem e69 : Ev 69 h69 Tryz.f69 := run interval_computer_compute.f.eq_1 (an interval_computer_compute.j2.eq_1 (an interval_computer_compute.j1.eq_1 interval_computer_compute.j0.eq_1))
theorem e27 : Ev 27 h27 Tryz.f27 := by
  intro G C U K op ok cmp neg not wrap mn' mx' idx len get cut app byte lp k q hG hC hU hK hA hlp hQ hk
  delta orc
  refine On.I fun a0 => On.a <| On.I fun a1_0 => On.I fun a1_1 => On.I fun a1_2 => On.I fun a1_3 => On.I fun a1_4 => On.I fun a1_5 => On.r hC fun r R H0 hR => ?_
  exact runL (fun (y : Int × Int × Int × Int × Int × Int × Int) st => ⟨st.s.set 15 (V.i y.1), (st.h.set 5 [V.u y.2.1, V.u y.2.2.1]).set 4 [V.u y.2.2.2.1, V.u y.2.2.2.2.1, V.i y.2.2.2.2.2.1, V.i y.2.2.2.2.2.2]⟩)
    (fun (n : Nat) (y : Int × Int × Int × Int × Int × Int × Int) => Go n fun q => jacquardref14_Tighten.l0 q y.1 0 0 0 0 0 0 y.2.2.2.1 y.2.2.2.2.1 y.2.2.2.2.2.1 y.2.2.2.2.2.2 y.2.1 y.2.2.1 = some r) jacquardref14_Tighten.f.eq_1 (an jacquardref14_Tighten.j1.eq_1 jacquardref14_Tighten.j1.eq_2) (an jacquardref14_Tighten.l0.eq_1 jacquardref14_Tighten.l0.eq_2)
theorem e115 : Ev 115 h115 Tryz.f115 := run bits_Binary.f.eq_1 (an bits_Binary.j2.eq_1 (an bits_Binary.j1.eq_1 bits_Binary.j0.eq_1))
theorem e140 : Ev 140 h140 Tryz.f140 := run bits_compare.f.eq_1 trivial
theorem e106 : Ev 106 h106 Tryz.f106 := run (fun a0 => (congrFun bits_TrailingZeros64.ce _).trans (bits_TrailingZeros64.f.eq_1 a0)) trivial
theorem e32 : Ev 32 h32 Tryz.f32 := run jacquardref13_Valid.f.eq_1 trivial
theorem e144 : Ev 144 h144 Tryz.f144 := run interval_computer_less.f.eq_1 trivial
theorem e5 : Ev 5 h5 Tryz.f5 := run jacquardlaw14_awake.f.eq_1 trivial
theorem e84 : Ev 84 h84 Tryz.f84 := run jacquardref12_put.f.eq_1 trivial
theorem e148 : Ev 148 h148 Tryz.f148 := run interval_computer_within.f.eq_1 trivial
theorem e143 : Ev 143 h143 Tryz.f143 := run interval_computer_s.f.eq_1 trivial
theorem e10 : Ev 10 h10 Tryz.f10 := by
  intro G C U K op ok cmp neg not wrap mn' mx' idx len get cut app byte lp k q hG hC hU hK hA hlp hQ hk
  delta orc
  refine On.I fun a0 => On.r hC fun r R H0 hR => ?_
  exact runL (fun (y : Int × Int) st => ⟨(st.s.set 3 (V.u y.1)).set 4 (V.i y.2), st.h⟩)
    (fun (n : Nat) (y : Int × Int) => Go n fun q => jacquardref12_Mask.l0 q a0 y.1 y.2 = some r) jacquardref12_Mask.f.eq_1 trivial (an jacquardref12_Mask.l0.eq_1 jacquardref12_Mask.l0.eq_2)
theorem e152 : Ev 152 h152 Tryz.f152 := run bits_one.f.eq_1 trivial
theorem e108 : Ev 108 h108 Tryz.f108 := run bits_LeadingZeros64.f.eq_1 trivial
end Go.Vm
