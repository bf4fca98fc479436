-- made by a program of this work (wip/mkprint.py, wip/mp.sh) out of the translation
import Derived.Test.YtbiohdgeclokmaaPx0
import Derived.Test.YtbiohdgeclokmaaPx1
import Derived.Test.YtbiohdgeclokmaaPx2
import Derived.Test.YtbiohdgeclokmaaPx5
import Derived.Test.YtbiohdgeclokmaaPx6
import Derived.Test.YtbiohdgeclokmaaPx7
import Derived.Test.YtbiohdgeclokmaaPx8
import Derived.Test.YtbiohdgeclokmaaPx9
namespace Go.Proofs.Ytbiohdgeclokmaa.P
open Go.RowKit Go.Proofs.YtbiohdgeclokmaaW.PrintWords Go.Proofs.YtbiohdgeclokmaaW.PrintLast Go.Proofs.YtbiohdgeclokmaaW.PrintMore
attribute [local go_sem] max2_int min2_int max_two min_two max_three min_three max_four min_four   -- for this text's walks alone
set_option linter.unusedVariables false
set_option linter.unusedSimpArgs false

attribute [local go_sem high] eqA50
/-! ### jacquardlaw14_FactsElements: function 9 -/
mutual
def jacquardlaw14_FactsElements.j0 : Nat → Int → Int → Bool → Int → Int → Int → Int → Int → Int → Int → Int → Int → Int → Int → Int → Option (Bool)
 | 0, _, _, _, _, _, _, _, _, _, _, _, _, _, _, _ => none
 | k + 1, x0, x2, x72, x582000, x582001, x582002, x582003, x582004, x582005, x583000, x583001, x583002, x583003, x583004, x583005 => if x72 = true then (some false) else ((facts_Meet.f k x0 x582000 x582001 x582002 x582003 x582004 x582005 x583000 x583001 x583002 x583003 x583004 x583005).bind fun bt625 => ((jacquardref14_Meet.f k x0 x582000 x582001 x582002 x582003 x582004 x582005 x583000 x583001 x583002 x583003 x583004 x583005).bind fun bt633 => (if (!(bt625.1 == bt633.1) || (!(bt625.2.1 == bt633.2.1) || (!(bt625.2.2.1 == bt633.2.2.1) || (!(bt625.2.2.2.1 == bt633.2.2.2.1) || (!(bt625.2.2.2.2.1 == bt633.2.2.2.2.1) || (!(bt625.2.2.2.2.2.1 == bt633.2.2.2.2.2.1))))))) = true then (jacquardlaw14_FactsElements.j1 k x0 x2 bt625.2.2.2.2.2.2 true x582000 x582001 x582002 x582003 x582004 x582005 x583000 x583001 x583002 x583003 x583004 x583005 bt625.1 bt625.2.1 bt625.2.2.1 bt625.2.2.2.1 bt625.2.2.2.2.1 bt625.2.2.2.2.2.1) else (jacquardlaw14_FactsElements.j1 k x0 x2 bt625.2.2.2.2.2.2 (bt625.2.2.2.2.2.2 != bt633.2.2.2.2.2.2) x582000 x582001 x582002 x582003 x582004 x582005 x583000 x583001 x583002 x583003 x583004 x583005 bt625.1 bt625.2.1 bt625.2.2.1 bt625.2.2.2.1 bt625.2.2.2.2.1 bt625.2.2.2.2.2.1))))
def jacquardlaw14_FactsElements.j1 : Nat → Int → Int → Bool → Bool → Int → Int → Int → Int → Int → Int → Int → Int → Int → Int → Int → Int → Int → Int → Int → Int → Int → Int → Option (Bool)
 | 0, _, _, _, _, _, _, _, _, _, _, _, _, _, _, _, _, _, _, _, _, _, _ => none
 | k + 1, x0, x2, x10, x94, x582000, x582001, x582002, x582003, x582004, x582005, x583000, x583001, x583002, x583003, x583004, x583005, x633000, x633001, x633002, x633003, x633004, x633005 => if x94 = true then (some false) else ((jacquardref14_Valid.f k x0 x582000 x582001 x582002 x582003 x582004 x582005).bind fun t641 => (if t641 = true then ((jacquardref14_Valid.f k x0 x583000 x583001 x583002 x583003 x583004 x583005).bind fun t642 => (jacquardlaw14_FactsElements.j2 k x0 x2 x10 (!t642) x582000 x582001 x582002 x582003 x582004 x582005 x583000 x583001 x583002 x583003 x583004 x583005 x633000 x633001 x633002 x633003 x633004 x633005)) else (jacquardlaw14_FactsElements.j2 k x0 x2 x10 true x582000 x582001 x582002 x582003 x582004 x582005 x583000 x583001 x583002 x583003 x583004 x583005 x633000 x633001 x633002 x633003 x633004 x633005)))
def jacquardlaw14_FactsElements.j2 : Nat → Int → Int → Bool → Bool → Int → Int → Int → Int → Int → Int → Int → Int → Int → Int → Int → Int → Int → Int → Int → Int → Int → Int → Option (Bool)
 | 0, _, _, _, _, _, _, _, _, _, _, _, _, _, _, _, _, _, _, _, _, _, _ => none
 | k + 1, x0, x2, x10, x104, x582000, x582001, x582002, x582003, x582004, x582005, x583000, x583001, x583002, x583003, x583004, x583005, x633000, x633001, x633002, x633003, x633004, x633005 => if x104 = true then (some true) else ((facts_Contains.f x0 x582000 x582001 x582002 x582003 x582004 x582005 x2).bind fun t643 => ((facts_Contains.f x0 x583000 x583001 x583002 x583003 x583004 x583005 x2).bind fun t644 => (if t643 = true then ((facts_Join.f x582000 x582001 x582002 x582003 x582004 x582005 x583000 x583001 x583002 x583003 x583004 x583005).bind fun bt645 => ((facts_Contains.f x0 bt645.1 bt645.2.1 bt645.2.2.1 bt645.2.2.2.1 bt645.2.2.2.2.1 bt645.2.2.2.2.2 x2).bind fun t651 => (if t651 = true then (if x10 = true then ((facts_Contains.f x0 x633000 x633001 x633002 x633003 x633004 x633005 x2).bind fun t652 => (some (t644 == t652))) else (some (t644 == false))) else (some false)))) else (if t644 = true then ((facts_Join.f x582000 x582001 x582002 x582003 x582004 x582005 x583000 x583001 x583002 x583003 x583004 x583005).bind fun bt653 => ((facts_Contains.f x0 bt653.1 bt653.2.1 bt653.2.2.1 bt653.2.2.2.1 bt653.2.2.2.2.1 bt653.2.2.2.2.2 x2).bind fun t659 => (if t659 = true then (if x10 = true then ((facts_Contains.f x0 x633000 x633001 x633002 x633003 x633004 x633005 x2).bind fun t660 => (some (false == t660))) else (some (false == false))) else (some false)))) else (if x10 = true then ((facts_Contains.f x0 x633000 x633001 x633002 x633003 x633004 x633005 x2).bind fun t661 => (some (false == t661))) else (some (false == false)))))))
end
def jacquardlaw14_FactsElements.f (k : Nat) (a0 : Int) (a1_0 : Int) (a1_1 : Int) (a1_2 : Int) (a1_3 : Int) (a1_4 : Int) (a1_5 : Int) (a1_6 : Int) (a1_7 : Int) (a1_8 : Int) (a1_9 : Int) (a1_10 : Int) (a1_11 : Int) (a2 : Int) : Option (Bool) := (jacquardlaw14_awake.f).bind fun t580 => (if t580 = true then ((facts_Top.f a0).bind fun bt583 => ((jacquardref14_Top.f k a0).bind fun bt589 => (if (!(bt583.1 == bt589.1) || (!(bt583.2.1 == bt589.2.1) || (!(bt583.2.2.1 == bt589.2.2.1) || (!(bt583.2.2.2.1 == bt589.2.2.2.1) || (!(bt583.2.2.2.2.1 == bt589.2.2.2.2.1) || (!(bt583.2.2.2.2.2 == bt589.2.2.2.2.2))))))) = true then (jacquardlaw14_FactsElements.j0 k a0 a2 true a1_0 a1_1 a1_2 a1_3 a1_4 a1_5 a1_6 a1_7 a1_8 a1_9 a1_10 a1_11) else ((facts_Of.f a0 a2).bind fun bt595 => ((jacquardref14_Of.f k a0 a2).bind fun bt601 => (if (!(bt595.1 == bt601.1) || (!(bt595.2.1 == bt601.2.1) || (!(bt595.2.2.1 == bt601.2.2.1) || (!(bt595.2.2.2.1 == bt601.2.2.2.1) || (!(bt595.2.2.2.2.1 == bt601.2.2.2.2.1) || (!(bt595.2.2.2.2.2 == bt601.2.2.2.2.2))))))) = true then (jacquardlaw14_FactsElements.j0 k a0 a2 true a1_0 a1_1 a1_2 a1_3 a1_4 a1_5 a1_6 a1_7 a1_8 a1_9 a1_10 a1_11) else ((facts_Valid.f a0 a1_0 a1_1 a1_2 a1_3 a1_4 a1_5).bind fun t607 => ((jacquardref14_Valid.f k a0 a1_0 a1_1 a1_2 a1_3 a1_4 a1_5).bind fun t608 => (if (t607 != t608) = true then (jacquardlaw14_FactsElements.j0 k a0 a2 true a1_0 a1_1 a1_2 a1_3 a1_4 a1_5 a1_6 a1_7 a1_8 a1_9 a1_10 a1_11) else ((facts_Contains.f a0 a1_0 a1_1 a1_2 a1_3 a1_4 a1_5 a2).bind fun t609 => ((jacquardref14_Contains.f k a0 a1_0 a1_1 a1_2 a1_3 a1_4 a1_5 a2).bind fun t610 => (if (t609 != t610) = true then (jacquardlaw14_FactsElements.j0 k a0 a2 true a1_0 a1_1 a1_2 a1_3 a1_4 a1_5 a1_6 a1_7 a1_8 a1_9 a1_10 a1_11) else ((facts_Leq.f a1_0 a1_1 a1_2 a1_3 a1_4 a1_5 a1_6 a1_7 a1_8 a1_9 a1_10 a1_11).bind fun t611 => ((jacquardref14_Leq.f a1_0 a1_1 a1_2 a1_3 a1_4 a1_5 a1_6 a1_7 a1_8 a1_9 a1_10 a1_11).bind fun t612 => (if (t611 != t612) = true then (jacquardlaw14_FactsElements.j0 k a0 a2 true a1_0 a1_1 a1_2 a1_3 a1_4 a1_5 a1_6 a1_7 a1_8 a1_9 a1_10 a1_11) else ((facts_Join.f a1_0 a1_1 a1_2 a1_3 a1_4 a1_5 a1_6 a1_7 a1_8 a1_9 a1_10 a1_11).bind fun bt613 => ((jacquardref14_Join.f a1_0 a1_1 a1_2 a1_3 a1_4 a1_5 a1_6 a1_7 a1_8 a1_9 a1_10 a1_11).bind fun bt619 => (jacquardlaw14_FactsElements.j0 k a0 a2 (!(bt613.1 == bt619.1) || (!(bt613.2.1 == bt619.2.1) || (!(bt613.2.2.1 == bt619.2.2.1) || (!(bt613.2.2.2.1 == bt619.2.2.2.1) || (!(bt613.2.2.2.2.1 == bt619.2.2.2.2.1) || (!(bt613.2.2.2.2.2 == bt619.2.2.2.2.2))))))) a1_0 a1_1 a1_2 a1_3 a1_4 a1_5 a1_6 a1_7 a1_8 a1_9 a1_10 a1_11)))))))))))))))))) else (some false))
theorem jacquardlaw14_FactsElements.mono_l : ∀ k, (∀ y0 y1 y2 y3 y4 y5 y6 y7 y8 y9 y10 y11 y12 y13 y14, LeO (jacquardlaw14_FactsElements.j0 k y0 y1 y2 y3 y4 y5 y6 y7 y8 y9 y10 y11 y12 y13 y14) (jacquardlaw14_FactsElements.j0 (k + 1) y0 y1 y2 y3 y4 y5 y6 y7 y8 y9 y10 y11 y12 y13 y14)) ∧ (∀ y0 y1 y2 y3 y4 y5 y6 y7 y8 y9 y10 y11 y12 y13 y14 y15 y16 y17 y18 y19 y20 y21, LeO (jacquardlaw14_FactsElements.j1 k y0 y1 y2 y3 y4 y5 y6 y7 y8 y9 y10 y11 y12 y13 y14 y15 y16 y17 y18 y19 y20 y21) (jacquardlaw14_FactsElements.j1 (k + 1) y0 y1 y2 y3 y4 y5 y6 y7 y8 y9 y10 y11 y12 y13 y14 y15 y16 y17 y18 y19 y20 y21)) ∧ (∀ y0 y1 y2 y3 y4 y5 y6 y7 y8 y9 y10 y11 y12 y13 y14 y15 y16 y17 y18 y19 y20 y21, LeO (jacquardlaw14_FactsElements.j2 k y0 y1 y2 y3 y4 y5 y6 y7 y8 y9 y10 y11 y12 y13 y14 y15 y16 y17 y18 y19 y20 y21) (jacquardlaw14_FactsElements.j2 (k + 1) y0 y1 y2 y3 y4 y5 y6 y7 y8 y9 y10 y11 y12 y13 y14 y15 y16 y17 y18 y19 y20 y21))
 | 0 => ⟨fun _ _ _ _ _ _ _ _ _ _ _ _ _ _ _ r h => by simp [jacquardlaw14_FactsElements.j0] at h, fun _ _ _ _ _ _ _ _ _ _ _ _ _ _ _ _ _ _ _ _ _ _ r h => by simp [jacquardlaw14_FactsElements.j1] at h, fun _ _ _ _ _ _ _ _ _ _ _ _ _ _ _ _ _ _ _ _ _ _ r h => by simp [jacquardlaw14_FactsElements.j2] at h⟩
 | k + 1 => by
  obtain ⟨ih0, ih1, ih2⟩ := jacquardlaw14_FactsElements.mono_l k
  refine ⟨?_, ?_, ?_⟩
  ·
   intro y0 y1 y2 y3 y4 y5 y6 y7 y8 y9 y10 y11 y12 y13 y14
   unfold jacquardlaw14_FactsElements.j0
   repeat' first
   | (with_reducible exact ih0 _ _ _ _ _ _ _ _ _ _ _ _ _ _ _)
   | (with_reducible exact ih1 _ _ _ _ _ _ _ _ _ _ _ _ _ _ _ _ _ _ _ _ _ _)
   | (with_reducible exact ih2 _ _ _ _ _ _ _ _ _ _ _ _ _ _ _ _ _ _ _ _ _ _)
   | (with_reducible exact facts_Meet.mono _ _ _ _ _ _ _ _ _ _ _ _ _ _)
   | (with_reducible exact jacquardref14_Contains.mono _ _ _ _ _ _ _ _ _)
   | (with_reducible exact jacquardref14_Meet.mono _ _ _ _ _ _ _ _ _ _ _ _ _ _)
   | (with_reducible exact jacquardref14_Of.mono _ _ _)
   | (with_reducible exact jacquardref14_Top.mono _ _)
   | (with_reducible exact jacquardref14_Valid.mono _ _ _ _ _ _ _ _)
   | (with_reducible exact LeO.refl _)
   | (with_reducible exact LeO.none _)
   | (with_reducible refine LeO.ite ?_ ?_)
   | (with_reducible refine LeO.bind ?_ (fun _ => ?_))
   | exact ih0 _ _ _ _ _ _ _ _ _ _ _ _ _ _ _
   | exact ih1 _ _ _ _ _ _ _ _ _ _ _ _ _ _ _ _ _ _ _ _ _ _
   | exact ih2 _ _ _ _ _ _ _ _ _ _ _ _ _ _ _ _ _ _ _ _ _ _
   | exact facts_Meet.mono _ _ _ _ _ _ _ _ _ _ _ _ _ _
   | exact jacquardref14_Contains.mono _ _ _ _ _ _ _ _ _
   | exact jacquardref14_Meet.mono _ _ _ _ _ _ _ _ _ _ _ _ _ _
   | exact jacquardref14_Of.mono _ _ _
   | exact jacquardref14_Top.mono _ _
   | exact jacquardref14_Valid.mono _ _ _ _ _ _ _ _
   | exact LeO.none _
   | refine LeO.ite ?_ ?_
   | refine LeO.bind ?_ (fun _ => ?_)
  ·
   intro y0 y1 y2 y3 y4 y5 y6 y7 y8 y9 y10 y11 y12 y13 y14 y15 y16 y17 y18 y19 y20 y21
   unfold jacquardlaw14_FactsElements.j1
   repeat' first
   | (with_reducible exact ih0 _ _ _ _ _ _ _ _ _ _ _ _ _ _ _)
   | (with_reducible exact ih1 _ _ _ _ _ _ _ _ _ _ _ _ _ _ _ _ _ _ _ _ _ _)
   | (with_reducible exact ih2 _ _ _ _ _ _ _ _ _ _ _ _ _ _ _ _ _ _ _ _ _ _)
   | (with_reducible exact facts_Meet.mono _ _ _ _ _ _ _ _ _ _ _ _ _ _)
   | (with_reducible exact jacquardref14_Contains.mono _ _ _ _ _ _ _ _ _)
   | (with_reducible exact jacquardref14_Meet.mono _ _ _ _ _ _ _ _ _ _ _ _ _ _)
   | (with_reducible exact jacquardref14_Of.mono _ _ _)
   | (with_reducible exact jacquardref14_Top.mono _ _)
   | (with_reducible exact jacquardref14_Valid.mono _ _ _ _ _ _ _ _)
   | (with_reducible exact LeO.refl _)
   | (with_reducible exact LeO.none _)
   | (with_reducible refine LeO.ite ?_ ?_)
   | (with_reducible refine LeO.bind ?_ (fun _ => ?_))
   | exact ih0 _ _ _ _ _ _ _ _ _ _ _ _ _ _ _
   | exact ih1 _ _ _ _ _ _ _ _ _ _ _ _ _ _ _ _ _ _ _ _ _ _
   | exact ih2 _ _ _ _ _ _ _ _ _ _ _ _ _ _ _ _ _ _ _ _ _ _
   | exact facts_Meet.mono _ _ _ _ _ _ _ _ _ _ _ _ _ _
   | exact jacquardref14_Contains.mono _ _ _ _ _ _ _ _ _
   | exact jacquardref14_Meet.mono _ _ _ _ _ _ _ _ _ _ _ _ _ _
   | exact jacquardref14_Of.mono _ _ _
   | exact jacquardref14_Top.mono _ _
   | exact jacquardref14_Valid.mono _ _ _ _ _ _ _ _
   | exact LeO.none _
   | refine LeO.ite ?_ ?_
   | refine LeO.bind ?_ (fun _ => ?_)
  ·
   intro y0 y1 y2 y3 y4 y5 y6 y7 y8 y9 y10 y11 y12 y13 y14 y15 y16 y17 y18 y19 y20 y21
   unfold jacquardlaw14_FactsElements.j2
   repeat' first
   | (with_reducible exact ih0 _ _ _ _ _ _ _ _ _ _ _ _ _ _ _)
   | (with_reducible exact ih1 _ _ _ _ _ _ _ _ _ _ _ _ _ _ _ _ _ _ _ _ _ _)
   | (with_reducible exact ih2 _ _ _ _ _ _ _ _ _ _ _ _ _ _ _ _ _ _ _ _ _ _)
   | (with_reducible exact facts_Meet.mono _ _ _ _ _ _ _ _ _ _ _ _ _ _)
   | (with_reducible exact jacquardref14_Contains.mono _ _ _ _ _ _ _ _ _)
   | (with_reducible exact jacquardref14_Meet.mono _ _ _ _ _ _ _ _ _ _ _ _ _ _)
   | (with_reducible exact jacquardref14_Of.mono _ _ _)
   | (with_reducible exact jacquardref14_Top.mono _ _)
   | (with_reducible exact jacquardref14_Valid.mono _ _ _ _ _ _ _ _)
   | (with_reducible exact LeO.refl _)
   | (with_reducible exact LeO.none _)
   | (with_reducible refine LeO.ite ?_ ?_)
   | (with_reducible refine LeO.bind ?_ (fun _ => ?_))
   | exact ih0 _ _ _ _ _ _ _ _ _ _ _ _ _ _ _
   | exact ih1 _ _ _ _ _ _ _ _ _ _ _ _ _ _ _ _ _ _ _ _ _ _
   | exact ih2 _ _ _ _ _ _ _ _ _ _ _ _ _ _ _ _ _ _ _ _ _ _
   | exact facts_Meet.mono _ _ _ _ _ _ _ _ _ _ _ _ _ _
   | exact jacquardref14_Contains.mono _ _ _ _ _ _ _ _ _
   | exact jacquardref14_Meet.mono _ _ _ _ _ _ _ _ _ _ _ _ _ _
   | exact jacquardref14_Of.mono _ _ _
   | exact jacquardref14_Top.mono _ _
   | exact jacquardref14_Valid.mono _ _ _ _ _ _ _ _
   | exact LeO.none _
   | refine LeO.ite ?_ ?_
   | refine LeO.bind ?_ (fun _ => ?_)
theorem jacquardlaw14_FactsElements.mono : ∀ a0 a1 a2 a3 a4 a5 a6 a7 a8 a9 a10 a11 a12 a13 k, LeO (jacquardlaw14_FactsElements.f k a0 a1 a2 a3 a4 a5 a6 a7 a8 a9 a10 a11 a12 a13) (jacquardlaw14_FactsElements.f (k + 1) a0 a1 a2 a3 a4 a5 a6 a7 a8 a9 a10 a11 a12 a13) := by
 intro a0 a1 a2 a3 a4 a5 a6 a7 a8 a9 a10 a11 a12 a13 k
 obtain ⟨ih0, ih1, ih2⟩ := jacquardlaw14_FactsElements.mono_l k
 unfold jacquardlaw14_FactsElements.f
 repeat' first
   | (with_reducible exact ih0 _ _ _ _ _ _ _ _ _ _ _ _ _ _ _)
   | (with_reducible exact ih1 _ _ _ _ _ _ _ _ _ _ _ _ _ _ _ _ _ _ _ _ _ _)
   | (with_reducible exact ih2 _ _ _ _ _ _ _ _ _ _ _ _ _ _ _ _ _ _ _ _ _ _)
   | (with_reducible exact facts_Meet.mono _ _ _ _ _ _ _ _ _ _ _ _ _ _)
   | (with_reducible exact jacquardref14_Contains.mono _ _ _ _ _ _ _ _ _)
   | (with_reducible exact jacquardref14_Meet.mono _ _ _ _ _ _ _ _ _ _ _ _ _ _)
   | (with_reducible exact jacquardref14_Of.mono _ _ _)
   | (with_reducible exact jacquardref14_Top.mono _ _)
   | (with_reducible exact jacquardref14_Valid.mono _ _ _ _ _ _ _ _)
   | (with_reducible exact LeO.refl _)
   | (with_reducible exact LeO.none _)
   | (with_reducible refine LeO.ite ?_ ?_)
   | (with_reducible refine LeO.bind ?_ (fun _ => ?_))
   | exact ih0 _ _ _ _ _ _ _ _ _ _ _ _ _ _ _
   | exact ih1 _ _ _ _ _ _ _ _ _ _ _ _ _ _ _ _ _ _ _ _ _ _
   | exact ih2 _ _ _ _ _ _ _ _ _ _ _ _ _ _ _ _ _ _ _ _ _ _
   | exact facts_Meet.mono _ _ _ _ _ _ _ _ _ _ _ _ _ _
   | exact jacquardref14_Contains.mono _ _ _ _ _ _ _ _ _
   | exact jacquardref14_Meet.mono _ _ _ _ _ _ _ _ _ _ _ _ _ _
   | exact jacquardref14_Of.mono _ _ _
   | exact jacquardref14_Top.mono _ _
   | exact jacquardref14_Valid.mono _ _ _ _ _ _ _ _
   | exact LeO.none _
   | refine LeO.ite ?_ ?_
   | refine LeO.bind ?_ (fun _ => ?_)
def jacquardlaw14_FactsElements.T3 : Bool × List (List Nat × List Nat) := (true, [([], []), ([0], [0]), ([], []), ([2], [2]), ([], []), ([], []), ([4, 1, 0, 1, 4, 5], [1, 4]), ([5, 3, 6, 0, 1, 2, 3, 4, 5, 6], [3, 5])])
def jacquardlaw14_FactsElements.B3 : List Nat := [0, 1, 0, 4, 0, 0, 51, 127]
theorem jacquardlaw14_FactsElements.tab3 : rtab .any (opsOf Try.f9 3) = jacquardlaw14_FactsElements.T3 := by kernel_rfl
theorem jacquardlaw14_FactsElements.bits3 : waitsOk jacquardlaw14_FactsElements.T3.2 jacquardlaw14_FactsElements.B3 = true := by kernel_rfl
def jacquardlaw14_FactsElements.T4 : Bool × List (List Nat × List Nat) := (true, [([], []), ([0], [0]), ([], []), ([2, 1], [2]), ([1, 3], [1, 3]), ([4, 3], [4]), ([5], [5]), ([5], [5]), ([6, 7, 5, 5], [5, 6, 7]), ([5], [5]), ([5], [5]), ([9, 10, 8, 5], [5, 9, 10]), ([8, 11, 5], [5, 8, 11]), ([5, 12], [5, 12]), ([13, 11], [13]), ([14], [14]), ([14], [14]), ([15, 16, 14, 14], [14, 15, 16]), ([14], [14]), ([14], [14]), ([18, 19, 17, 14], [14, 18, 19]), ([17, 20, 14], [14, 17, 20]), ([14, 21], [14, 21]), ([22, 20], [22]), ([23], [23]), ([23], [23]), ([23], [23]), ([24, 25, 26, 23, 23], [23, 24, 25, 26]), ([23], [23]), ([23], [23]), ([23], [23]), ([28, 29, 30, 27, 23], [23, 28, 29, 30]), ([27, 31, 23], [23, 27, 31]), ([23, 32], [23, 32]), ([33, 31], [33]), ([34], [34]), ([34], [34]), ([35, 36, 34, 34], [34, 35, 36]), ([34], [34]), ([34], [34]), ([38, 39, 37, 34], [34, 38, 39]), ([37, 40, 34], [34, 37, 40]), ([34, 41], [34, 41]), ([42, 40], [42]), ([43], [43]), ([43], [43]), ([44, 45, 43, 43], [43, 44, 45]), ([43], [43]), ([43], [43]), ([47, 48, 46, 43], [43, 47, 48]), ([46, 49, 43], [43, 46, 49]), ([43, 50], [43, 50])])
def jacquardlaw14_FactsElements.B4 : List Nat := [0, 1, 0, 7, 15, 31, 63, 63, 255, 63, 63, 2047, 4095, 8191, 16383, 32767, 32767, 131071, 32767, 32767, 1048575, 2097151, 4194303, 8388607, 16777215, 16777215, 16777215, 134217727, 16777215, 16777215, 16777215, 2147483647, 4294967295, 8589934591, 17179869183, 34359738367, 34359738367, 137438953471, 34359738367, 34359738367, 1099511627775, 2199023255551, 4398046511103, 8796093022207, 17592186044415, 17592186044415, 70368744177663, 17592186044415, 17592186044415, 562949953421311, 1125899906842623, 2251799813685247]
theorem jacquardlaw14_FactsElements.tab4 : rtab .any (opsOf Try.f9 4) = jacquardlaw14_FactsElements.T4 := by kernel_rfl
theorem jacquardlaw14_FactsElements.bits4 : waitsOk jacquardlaw14_FactsElements.T4.2 jacquardlaw14_FactsElements.B4 = true := by kernel_rfl
def jacquardlaw14_FactsElements.T12 : Bool × List (List Nat × List Nat) := (true, [([], []), ([], []), ([], []), ([0, 1, 2], [0, 1, 2]), ([], []), ([], []), ([], []), ([4, 5, 6, 3], [4, 5, 6]), ([3, 7, 0, 1, 2, 3], [3]), ([7, 8, 0, 1, 2, 3, 4, 5, 6, 7, 8], [7])])
def jacquardlaw14_FactsElements.B12 : List Nat := [0, 0, 0, 7, 0, 0, 0, 127, 255, 511]
theorem jacquardlaw14_FactsElements.tab12 : rtab .any (opsOf Try.f9 12) = jacquardlaw14_FactsElements.T12 := by kernel_rfl
theorem jacquardlaw14_FactsElements.bits12 : waitsOk jacquardlaw14_FactsElements.T12.2 jacquardlaw14_FactsElements.B12 = true := by kernel_rfl
set_option maxHeartbeats 8000000 in
set_option maxRecDepth 100000 in
theorem jacquardlaw14_FactsElements.calls (k : Nat) (a0 : Int) (a1_0 : Int) (a1_1 : Int) (a1_2 : Int) (a1_3 : Int) (a1_4 : Int) (a1_5 : Int) (a1_6 : Int) (a1_7 : Int) (a1_8 : Int) (a1_9 : Int) (a1_10 : Int) (a1_11 : Int) (a2 : Int) (r : Bool) (w : World) (h : jacquardlaw14_FactsElements.f k a0 a1_0 a1_1 a1_2 a1_3 a1_4 a1_5 a1_6 a1_7 a1_8 a1_9 a1_10 a1_11 a2 = some r) :
  Calls Try.prog 9 #[.int .i64 a0, .agg #[.int .u64 a1_0, .int .u64 a1_1, .int .u64 a1_2, .int .u64 a1_3, .int .i64 a1_4, .int .i64 a1_5, .int .u64 a1_6, .int .u64 a1_7, .int .u64 a1_8, .int .u64 a1_9, .int .i64 a1_10, .int .i64 a1_11], .int .u64 a2] w fun e w' => e = .returned (.bool r) ∧ Below w.heap.size w w' := by
 have hu56 := Try.underlying56
 have hu50 := Try.underlying50
 have HB := Aside0.mk (Below.refl w.heap.size w)
 have H : ((jacquardlaw14_awake.f).bind fun t580 => (if t580 = true then ((facts_Top.f a0).bind fun bt583 => ((jacquardref14_Top.f k a0).bind fun bt589 => (if (!(bt583.1 == bt589.1) || (!(bt583.2.1 == bt589.2.1) || (!(bt583.2.2.1 == bt589.2.2.1) || (!(bt583.2.2.2.1 == bt589.2.2.2.1) || (!(bt583.2.2.2.2.1 == bt589.2.2.2.2.1) || (!(bt583.2.2.2.2.2 == bt589.2.2.2.2.2))))))) = true then (jacquardlaw14_FactsElements.j0 k a0 a2 true a1_0 a1_1 a1_2 a1_3 a1_4 a1_5 a1_6 a1_7 a1_8 a1_9 a1_10 a1_11) else ((facts_Of.f a0 a2).bind fun bt595 => ((jacquardref14_Of.f k a0 a2).bind fun bt601 => (if (!(bt595.1 == bt601.1) || (!(bt595.2.1 == bt601.2.1) || (!(bt595.2.2.1 == bt601.2.2.1) || (!(bt595.2.2.2.1 == bt601.2.2.2.1) || (!(bt595.2.2.2.2.1 == bt601.2.2.2.2.1) || (!(bt595.2.2.2.2.2 == bt601.2.2.2.2.2))))))) = true then (jacquardlaw14_FactsElements.j0 k a0 a2 true a1_0 a1_1 a1_2 a1_3 a1_4 a1_5 a1_6 a1_7 a1_8 a1_9 a1_10 a1_11) else ((facts_Valid.f a0 a1_0 a1_1 a1_2 a1_3 a1_4 a1_5).bind fun t607 => ((jacquardref14_Valid.f k a0 a1_0 a1_1 a1_2 a1_3 a1_4 a1_5).bind fun t608 => (if (t607 != t608) = true then (jacquardlaw14_FactsElements.j0 k a0 a2 true a1_0 a1_1 a1_2 a1_3 a1_4 a1_5 a1_6 a1_7 a1_8 a1_9 a1_10 a1_11) else ((facts_Contains.f a0 a1_0 a1_1 a1_2 a1_3 a1_4 a1_5 a2).bind fun t609 => ((jacquardref14_Contains.f k a0 a1_0 a1_1 a1_2 a1_3 a1_4 a1_5 a2).bind fun t610 => (if (t609 != t610) = true then (jacquardlaw14_FactsElements.j0 k a0 a2 true a1_0 a1_1 a1_2 a1_3 a1_4 a1_5 a1_6 a1_7 a1_8 a1_9 a1_10 a1_11) else ((facts_Leq.f a1_0 a1_1 a1_2 a1_3 a1_4 a1_5 a1_6 a1_7 a1_8 a1_9 a1_10 a1_11).bind fun t611 => ((jacquardref14_Leq.f a1_0 a1_1 a1_2 a1_3 a1_4 a1_5 a1_6 a1_7 a1_8 a1_9 a1_10 a1_11).bind fun t612 => (if (t611 != t612) = true then (jacquardlaw14_FactsElements.j0 k a0 a2 true a1_0 a1_1 a1_2 a1_3 a1_4 a1_5 a1_6 a1_7 a1_8 a1_9 a1_10 a1_11) else ((facts_Join.f a1_0 a1_1 a1_2 a1_3 a1_4 a1_5 a1_6 a1_7 a1_8 a1_9 a1_10 a1_11).bind fun bt613 => ((jacquardref14_Join.f a1_0 a1_1 a1_2 a1_3 a1_4 a1_5 a1_6 a1_7 a1_8 a1_9 a1_10 a1_11).bind fun bt619 => (jacquardlaw14_FactsElements.j0 k a0 a2 (!(bt613.1 == bt619.1) || (!(bt613.2.1 == bt619.2.1) || (!(bt613.2.2.1 == bt619.2.2.1) || (!(bt613.2.2.2.1 == bt619.2.2.2.1) || (!(bt613.2.2.2.2.1 == bt619.2.2.2.2.1) || (!(bt613.2.2.2.2.2 == bt619.2.2.2.2.2))))))) a1_0 a1_1 a1_2 a1_3 a1_4 a1_5 a1_6 a1_7 a1_8 a1_9 a1_10 a1_11)))))))))))))))))) else (some false))) = some r := h
 clear h
 replace H := Option.bind_eq_some_iff.mp H
 obtain ⟨t580, A40, H⟩ := H
 try dsimp only at H
 have A4 := Aside0.mk A40
 clear A40
 by_cases c5 : t580 = true
 ·
  subst c5
  rw [if_pos rfl] at H
  have H1 := H
  clear H
  have H := H1
  clear H1
  have HC6 := Aside0.mk H
  clear H
  go_enter Try.func9, Try.ntmps9
  try go_wp2_with (first | ((with_reducible refine gate_dst (N := 4) rfl ?_); refine boxE (N := 4) (cs := #[.int .u64 a1_0, .int .u64 a1_1, .int .u64 a1_2, .int .u64 a1_3, .int .i64 a1_4, .int .i64 a1_5, .int .u64 a1_6, .int .u64 a1_7, .int .u64 a1_8, .int .u64 a1_9, .int .i64 a1_10, .int .i64 a1_11]) (t := 56) ?_; intro gb579 hg w7 hbox hb; have BK579 := Aside0.mk (hbox); have GW579 := szB hg HB.out; have GE579 := szB hg HB.out; replace HB := bsB HB.out hb; clear hb hbox hg) | ((with_reducible refine gate_callee (f := 24) rfl ?_); refine gL (some 15) Try.func24 #[] ?_; (with_reducible refine (jacquardlaw14_awake.calls  true _ A4.out).mono ?_); rintro e w8 ⟨rfl, hb⟩; refine ⟨_, rfl, ?_⟩; replace BK579 := bkB BK579.out hb; replace HB := bsB HB.out hb; (try clear hb); (try clear hb2); (try clear hk); (try clear hi)))
  replace BK579 := Aside0.mk (blk_drew BK579.out)
  replace HB := Aside0.mk (below_drew1 HB.out)
  refine start_ (n := 8) (S := fun w' => w'.cell? ⟨gb579, 0, none⟩ = some (.int .u64 a1_0) ∧ w'.cell? ⟨gb579, 1, none⟩ = some (.int .u64 a1_1) ∧ w'.cell? ⟨gb579, 2, none⟩ = some (.int .u64 a1_2) ∧ w'.cell? ⟨gb579, 3, none⟩ = some (.int .u64 a1_3) ∧ w'.cell? ⟨gb579, 4, none⟩ = some (.int .i64 a1_4) ∧ w'.cell? ⟨gb579, 5, none⟩ = some (.int .i64 a1_5) ∧ w'.cell? ⟨gb579, 6, none⟩ = some (.int .u64 a1_6) ∧ w'.cell? ⟨gb579, 7, none⟩ = some (.int .u64 a1_7) ∧ w'.cell? ⟨gb579, 8, none⟩ = some (.int .u64 a1_8) ∧ w'.cell? ⟨gb579, 9, none⟩ = some (.int .u64 a1_9) ∧ w'.cell? ⟨gb579, 10, none⟩ = some (.int .i64 a1_10) ∧ w'.cell? ⟨gb579, 11, none⟩ = some (.int .i64 a1_11)) (ds := []) (bA 8 0) (by kernel_rfl) rfl rfl (by repeat' (first | apply And.intro | exact (blk_cell BK579.out _).trans rfl)) (fun hHeld => ?_); refine with_tabW jacquardlaw14_FactsElements.tab3 jacquardlaw14_FactsElements.bits3 (fun HT_ HW_ => ?_)
  generalize w8.drew = w9 at BK579 HB hHeld ⊢
  refine pureA HT_ (i := 0) (N := some 17) (bA 8 1) ?_
  refine pureA HT_ (i := 2) (N := some 19) (bA 8 5) ?_
  refine takeA HT_ HW_ hHeld (i := 1) (N := some 18) (bA 8 7) ?_ (hy := by rintro w' ⟨s0, s1, s2, s3, s4, s5, s6, s7, s8, s9, s10, s11⟩; go_simp; with_reducible rfl)
  refine takeA HT_ HW_ hHeld (i := 3) (N := some 20) (bA 8 15) ?_ (hy := by rintro w' ⟨s0, s1, s2, s3, s4, s5, s6, s7, s8, s9, s10, s11⟩; go_simp; with_reducible rfl)
  refine join_ (σ := Nat × Nat) 2 (bA 8 63) (fun s_ => [(7, .pointer (some ⟨s_.1, 0, none⟩)), (8, .pointer (some ⟨s_.2, 0, none⟩))]) (fun s_ w' => (w'.cell? ⟨gb579, 0, none⟩ = some (.int .u64 a1_0) ∧ w'.cell? ⟨gb579, 1, none⟩ = some (.int .u64 a1_1) ∧ w'.cell? ⟨gb579, 2, none⟩ = some (.int .u64 a1_2) ∧ w'.cell? ⟨gb579, 3, none⟩ = some (.int .u64 a1_3) ∧ w'.cell? ⟨gb579, 4, none⟩ = some (.int .i64 a1_4) ∧ w'.cell? ⟨gb579, 5, none⟩ = some (.int .i64 a1_5) ∧ w'.cell? ⟨gb579, 6, none⟩ = some (.int .u64 a1_6) ∧ w'.cell? ⟨gb579, 7, none⟩ = some (.int .u64 a1_7) ∧ w'.cell? ⟨gb579, 8, none⟩ = some (.int .u64 a1_8) ∧ w'.cell? ⟨gb579, 9, none⟩ = some (.int .u64 a1_9) ∧ w'.cell? ⟨gb579, 10, none⟩ = some (.int .i64 a1_10) ∧ w'.cell? ⟨gb579, 11, none⟩ = some (.int .i64 a1_11)) ∧ (w'.heap[gb579]? = some (.cells #[.int .u64 a1_0, .int .u64 a1_1, .int .u64 a1_2, .int .u64 a1_3, .int .i64 a1_4, .int .i64 a1_5, .int .u64 a1_6, .int .u64 a1_7, .int .u64 a1_8, .int .u64 a1_9, .int .i64 a1_10, .int .i64 a1_11] 56 (0, 0))) ∧ (w'.heap[s_.1]? = some (.cells #[.int .u64 0, .int .u64 0, .int .u64 0, .int .u64 0, .int .i64 0, .int .i64 0] 50 (0, 0))) ∧ (w'.heap[s_.2]? = some (.cells #[.int .u64 0, .int .u64 0, .int .u64 0, .int .u64 0, .int .i64 0, .int .i64 0] 50 (0, 0))) ∧ (w.heap.size ≤ s_.1) ∧ (w.heap.size ≤ s_.1) ∧ (gb579 ≠ s_.1) ∧ (s_.1 ≠ gb579) ∧ (s_.2 ≠ s_.1) ∧ (s_.1 ≠ s_.2) ∧ (w.heap.size ≤ s_.2) ∧ (w.heap.size ≤ s_.2) ∧ (gb579 ≠ s_.2) ∧ (s_.2 ≠ gb579) ∧ (Below w.heap.size w w')) ?_ ?_
  rotate_left
  ·
   intro hCont
   refine two_ (i := 4) (j := 5) (Ni := some 7) (Nj := some 8) (bA 8 31) (bA 8 47) rfl rfl rfl rfl (two_of HT_.out (by kernel_rfl)) (by decide) (by decide) (fun K hK => ?_) (fun K hK => ?_)
   ·
    skip
    refine boxS (N := 7) (cs := #[.int .u64 0, .int .u64 0, .int .u64 0, .int .u64 0, .int .i64 0, .int .i64 0]) (t := 50) ?_
    intro gb581 hg w10 hbox hb
    have BK581 := Aside0.mk (hbox)
    have GW581 := szB hg HB.out
    have GE581 := szB hg HB.out
    have NB579_581 := neL hg BK579.out
    have NB581_579 := neG hg BK579.out
    replace BK579 := bkB BK579.out hb
    replace HB := bsB HB.out hb
    clear hb hbox hg
    refine hK.out _ _ (by repeat' (first | apply And.intro | exact (blk_cell BK579.out _).trans rfl)) (fun hHeld => ?_)
    clear hK K
    refine normA (some 7) ?_
    refine one_ (i := 5) (N := some 8) (bA 8 63) rfl rfl (one_of HT_.out (by kernel_rfl)) (by decide) (fun K hK => ?_)
    refine boxS (N := 8) (cs := #[.int .u64 0, .int .u64 0, .int .u64 0, .int .u64 0, .int .i64 0, .int .i64 0]) (t := 50) ?_
    intro gb582 hg w11 hbox hb
    have BK582 := Aside0.mk (hbox)
    have GW582 := szB hg HB.out
    have GE582 := szB hg HB.out
    have NB579_582 := neL hg BK579.out
    have NB582_579 := neG hg BK579.out
    have NB581_582 := neL hg BK581.out
    have NB582_581 := neG hg BK581.out
    replace BK579 := bkB BK579.out hb
    replace BK581 := bkB BK581.out hb
    replace HB := bsB HB.out hb
    clear hb hbox hg
    refine hK.out _ _ (by repeat' (first | apply And.intro | exact (blk_cell BK579.out _).trans rfl)) (fun hHeld => ?_)
    clear hK K
    refine normA (some 8) ?_
    exact norm_ (by simp only [putAll, Act.put, List.setIfInBounds_toArray, List.set_cons_zero, List.set_cons_succ]) (hCont (gb581, gb582) _ ⟨hHeld, (by exact bfL BK579.out), (by exact bfL BK581.out), (by exact bfL BK582.out), GW581.out, GE581.out, NB579_581.out, NB581_579.out, NB582_581.out, NB581_582.out, GW582.out, GE582.out, NB579_582.out, NB582_579.out, (by repeat (first | (with_reducible first | exact HB.out | apply below_alloc | apply pw_below_drewN | apply below_drew1 | refine below_set ?_ GE579.out | refine below_set ?_ GE581.out | refine below_set ?_ GE582.out) | exact HB.out))⟩)
   ·
    skip
    refine boxS (N := 8) (cs := #[.int .u64 0, .int .u64 0, .int .u64 0, .int .u64 0, .int .i64 0, .int .i64 0]) (t := 50) ?_
    intro gb582 hg w10 hbox hb
    have BK582 := Aside0.mk (hbox)
    have GW582 := szB hg HB.out
    have GE582 := szB hg HB.out
    have NB579_582 := neL hg BK579.out
    have NB582_579 := neG hg BK579.out
    replace BK579 := bkB BK579.out hb
    replace HB := bsB HB.out hb
    clear hb hbox hg
    refine hK.out _ _ (by repeat' (first | apply And.intro | exact (blk_cell BK579.out _).trans rfl)) (fun hHeld => ?_)
    clear hK K
    refine normA (some 8) ?_
    refine one_ (i := 4) (N := some 7) (bA 8 63) rfl rfl (one_of HT_.out (by kernel_rfl)) (by decide) (fun K hK => ?_)
    refine boxS (N := 7) (cs := #[.int .u64 0, .int .u64 0, .int .u64 0, .int .u64 0, .int .i64 0, .int .i64 0]) (t := 50) ?_
    intro gb581 hg w11 hbox hb
    have BK581 := Aside0.mk (hbox)
    have GW581 := szB hg HB.out
    have GE581 := szB hg HB.out
    have NB579_581 := neL hg BK579.out
    have NB581_579 := neG hg BK579.out
    have NB582_581 := neL hg BK582.out
    have NB581_582 := neG hg BK582.out
    replace BK579 := bkB BK579.out hb
    replace BK582 := bkB BK582.out hb
    replace HB := bsB HB.out hb
    clear hb hbox hg
    refine hK.out _ _ (by repeat' (first | apply And.intro | exact (blk_cell BK579.out _).trans rfl)) (fun hHeld => ?_)
    clear hK K
    refine normA (some 7) ?_
    exact norm_ (by simp only [putAll, Act.put, List.setIfInBounds_toArray, List.set_cons_zero, List.set_cons_succ]) (hCont (gb581, gb582) _ ⟨hHeld, (by exact bfL BK579.out), (by exact bfL BK581.out), (by exact bfL BK582.out), GW581.out, GE581.out, NB579_581.out, NB581_579.out, NB582_581.out, NB581_582.out, GW582.out, GE582.out, NB579_582.out, NB582_579.out, (by repeat (first | (with_reducible first | exact HB.out | apply below_alloc | apply pw_below_drewN | apply below_drew1 | refine below_set ?_ GE579.out | refine below_set ?_ GE582.out | refine below_set ?_ GE581.out) | exact HB.out))⟩)
  rintro ⟨gb581, gb582⟩ w12 ⟨hS_, h0_, h1_, h2_, h3_, h4_, h5_, h6_, h7_, h8_, h9_, h10_, h11_, h12_, h13_⟩
  have n0_ : Aside0 (w12.heap[gb579]? = some (.cells #[.int .u64 a1_0, .int .u64 a1_1, .int .u64 a1_2, .int .u64 a1_3, .int .i64 a1_4, .int .i64 a1_5, .int .u64 a1_6, .int .u64 a1_7, .int .u64 a1_8, .int .u64 a1_9, .int .i64 a1_10, .int .i64 a1_11] 56 (0, 0))) := ⟨h0_⟩
  have n1_ : Aside0 (w12.heap[gb581]? = some (.cells #[.int .u64 0, .int .u64 0, .int .u64 0, .int .u64 0, .int .i64 0, .int .i64 0] 50 (0, 0))) := ⟨h1_⟩
  have n2_ : Aside0 (w12.heap[gb582]? = some (.cells #[.int .u64 0, .int .u64 0, .int .u64 0, .int .u64 0, .int .i64 0, .int .i64 0] 50 (0, 0))) := ⟨h2_⟩
  have n3_ : Aside0 (w.heap.size ≤ gb581) := ⟨h3_⟩
  have n4_ : Aside0 (w.heap.size ≤ gb581) := ⟨h4_⟩
  have n5_ : Aside0 (gb579 ≠ gb581) := ⟨h5_⟩
  have n6_ : Aside0 (gb581 ≠ gb579) := ⟨h6_⟩
  have n7_ : Aside0 (gb582 ≠ gb581) := ⟨h7_⟩
  have n8_ : Aside0 (gb581 ≠ gb582) := ⟨h8_⟩
  have n9_ : Aside0 (w.heap.size ≤ gb582) := ⟨h9_⟩
  have n10_ : Aside0 (w.heap.size ≤ gb582) := ⟨h10_⟩
  have n11_ : Aside0 (gb579 ≠ gb582) := ⟨h11_⟩
  have n12_ : Aside0 (gb582 ≠ gb579) := ⟨h12_⟩
  have n13_ : Aside0 (Below w.heap.size w w12) := ⟨h13_⟩
  clear BK579
  clear HB
  clear h0_ h1_ h2_ h3_ h4_ h5_ h6_ h7_ h8_ h9_ h10_ h11_ h12_ h13_
  have BK579 := n0_
  have BK581 := n1_
  have BK582 := n2_
  have GW581 := n3_
  have GE581 := n4_
  have NB579_581 := n5_
  have NB581_579 := n6_
  have NB582_581 := n7_
  have NB581_582 := n8_
  have GW582 := n9_
  have GE582 := n10_
  have NB579_582 := n11_
  have NB582_579 := n12_
  have HB := n13_
  clear n0_ n1_ n2_ n3_ n4_ n5_ n6_ n7_ n8_ n9_ n10_ n11_ n12_ n13_
  have hHeld : w12.cell? ⟨gb579, 0, none⟩ = some (.int .u64 a1_0) ∧ w12.cell? ⟨gb579, 1, none⟩ = some (.int .u64 a1_1) ∧ w12.cell? ⟨gb579, 2, none⟩ = some (.int .u64 a1_2) ∧ w12.cell? ⟨gb579, 3, none⟩ = some (.int .u64 a1_3) ∧ w12.cell? ⟨gb579, 4, none⟩ = some (.int .i64 a1_4) ∧ w12.cell? ⟨gb579, 5, none⟩ = some (.int .i64 a1_5) ∧ w12.cell? ⟨gb579, 6, none⟩ = some (.int .u64 a1_6) ∧ w12.cell? ⟨gb579, 7, none⟩ = some (.int .u64 a1_7) ∧ w12.cell? ⟨gb579, 8, none⟩ = some (.int .u64 a1_8) ∧ w12.cell? ⟨gb579, 9, none⟩ = some (.int .u64 a1_9) ∧ w12.cell? ⟨gb579, 10, none⟩ = some (.int .i64 a1_10) ∧ w12.cell? ⟨gb579, 11, none⟩ = some (.int .i64 a1_11) := hS_
  refine norm_ (a' := ?_) ?_ ?_
  rotate_left
  ·
   simp only [putAll, Act.put, List.setIfInBounds_toArray, List.set_cons_zero, List.set_cons_succ]
   rfl
  refine one_ (i := 6) (N := none) (bA 8 127) rfl rfl (one_of HT_.out (by kernel_rfl)) (by decide) (fun K hK => ?_)
  have hs13 : w12.cell? ⟨gb581, 0, none⟩ = some (.int .u64 0) := (blk_cell BK581.out 0).trans rfl
  have hfs13 := blk_frozen BK581.out 0
  have hns13_0 := NB579_581.out
  have hns13_2 := NB582_581.out
  have hms13_0 := NB581_579.out
  have hms13_2 := NB581_582.out
  have hs14 : w12.cell? ⟨gb581, 1, none⟩ = some (.int .u64 0) := (blk_cell BK581.out 1).trans rfl
  have hfs14 := blk_frozen BK581.out 1
  have hns14_0 := NB579_581.out
  have hns14_2 := NB582_581.out
  have hms14_0 := NB581_579.out
  have hms14_2 := NB581_582.out
  have hs15 : w12.cell? ⟨gb581, 2, none⟩ = some (.int .u64 0) := (blk_cell BK581.out 2).trans rfl
  have hfs15 := blk_frozen BK581.out 2
  have hns15_0 := NB579_581.out
  have hns15_2 := NB582_581.out
  have hms15_0 := NB581_579.out
  have hms15_2 := NB581_582.out
  have hs16 : w12.cell? ⟨gb581, 3, none⟩ = some (.int .u64 0) := (blk_cell BK581.out 3).trans rfl
  have hfs16 := blk_frozen BK581.out 3
  have hns16_0 := NB579_581.out
  have hns16_2 := NB582_581.out
  have hms16_0 := NB581_579.out
  have hms16_2 := NB581_582.out
  have hs17 : w12.cell? ⟨gb581, 4, none⟩ = some (.int .i64 0) := (blk_cell BK581.out 4).trans rfl
  have hfs17 := blk_frozen BK581.out 4
  have hns17_0 := NB579_581.out
  have hns17_2 := NB582_581.out
  have hms17_0 := NB581_579.out
  have hms17_2 := NB581_582.out
  have hs18 : w12.cell? ⟨gb581, 5, none⟩ = some (.int .i64 0) := (blk_cell BK581.out 5).trans rfl
  have hfs18 := blk_frozen BK581.out 5
  have hns18_0 := NB579_581.out
  have hns18_2 := NB582_581.out
  have hms18_0 := NB581_579.out
  have hms18_2 := NB581_582.out
  refine skip_ (w1 := ?_) (by rfl) rfl ?_ ?_
  rotate_left
  ·
   go_simp
   rfl
  refine hK.out _ _ ⟨((cell_far (p := ⟨gb581, _, none⟩) NB579_581.out _).trans (((cell_far (p := ⟨gb581, _, none⟩) NB579_581.out _).trans (((cell_far (p := ⟨gb581, _, none⟩) NB579_581.out _).trans (((cell_far (p := ⟨gb581, _, none⟩) NB579_581.out _).trans (((cell_far (p := ⟨gb581, _, none⟩) NB579_581.out _).trans (((cell_far (p := ⟨gb581, _, none⟩) NB579_581.out _).trans (hHeld.1)))))))))))), ((cell_far (p := ⟨gb581, _, none⟩) NB579_581.out _).trans (((cell_far (p := ⟨gb581, _, none⟩) NB579_581.out _).trans (((cell_far (p := ⟨gb581, _, none⟩) NB579_581.out _).trans (((cell_far (p := ⟨gb581, _, none⟩) NB579_581.out _).trans (((cell_far (p := ⟨gb581, _, none⟩) NB579_581.out _).trans (((cell_far (p := ⟨gb581, _, none⟩) NB579_581.out _).trans (hHeld.2.1)))))))))))), ((cell_far (p := ⟨gb581, _, none⟩) NB579_581.out _).trans (((cell_far (p := ⟨gb581, _, none⟩) NB579_581.out _).trans (((cell_far (p := ⟨gb581, _, none⟩) NB579_581.out _).trans (((cell_far (p := ⟨gb581, _, none⟩) NB579_581.out _).trans (((cell_far (p := ⟨gb581, _, none⟩) NB579_581.out _).trans (((cell_far (p := ⟨gb581, _, none⟩) NB579_581.out _).trans (hHeld.2.2.1)))))))))))), ((cell_far (p := ⟨gb581, _, none⟩) NB579_581.out _).trans (((cell_far (p := ⟨gb581, _, none⟩) NB579_581.out _).trans (((cell_far (p := ⟨gb581, _, none⟩) NB579_581.out _).trans (((cell_far (p := ⟨gb581, _, none⟩) NB579_581.out _).trans (((cell_far (p := ⟨gb581, _, none⟩) NB579_581.out _).trans (((cell_far (p := ⟨gb581, _, none⟩) NB579_581.out _).trans (hHeld.2.2.2.1)))))))))))), ((cell_far (p := ⟨gb581, _, none⟩) NB579_581.out _).trans (((cell_far (p := ⟨gb581, _, none⟩) NB579_581.out _).trans (((cell_far (p := ⟨gb581, _, none⟩) NB579_581.out _).trans (((cell_far (p := ⟨gb581, _, none⟩) NB579_581.out _).trans (((cell_far (p := ⟨gb581, _, none⟩) NB579_581.out _).trans (((cell_far (p := ⟨gb581, _, none⟩) NB579_581.out _).trans (hHeld.2.2.2.2.1)))))))))))), ((cell_far (p := ⟨gb581, _, none⟩) NB579_581.out _).trans (((cell_far (p := ⟨gb581, _, none⟩) NB579_581.out _).trans (((cell_far (p := ⟨gb581, _, none⟩) NB579_581.out _).trans (((cell_far (p := ⟨gb581, _, none⟩) NB579_581.out _).trans (((cell_far (p := ⟨gb581, _, none⟩) NB579_581.out _).trans (((cell_far (p := ⟨gb581, _, none⟩) NB579_581.out _).trans (hHeld.2.2.2.2.2.1)))))))))))), ((cell_far (p := ⟨gb581, _, none⟩) NB579_581.out _).trans (((cell_far (p := ⟨gb581, _, none⟩) NB579_581.out _).trans (((cell_far (p := ⟨gb581, _, none⟩) NB579_581.out _).trans (((cell_far (p := ⟨gb581, _, none⟩) NB579_581.out _).trans (((cell_far (p := ⟨gb581, _, none⟩) NB579_581.out _).trans (((cell_far (p := ⟨gb581, _, none⟩) NB579_581.out _).trans (hHeld.2.2.2.2.2.2.1)))))))))))), ((cell_far (p := ⟨gb581, _, none⟩) NB579_581.out _).trans (((cell_far (p := ⟨gb581, _, none⟩) NB579_581.out _).trans (((cell_far (p := ⟨gb581, _, none⟩) NB579_581.out _).trans (((cell_far (p := ⟨gb581, _, none⟩) NB579_581.out _).trans (((cell_far (p := ⟨gb581, _, none⟩) NB579_581.out _).trans (((cell_far (p := ⟨gb581, _, none⟩) NB579_581.out _).trans (hHeld.2.2.2.2.2.2.2.1)))))))))))), ((cell_far (p := ⟨gb581, _, none⟩) NB579_581.out _).trans (((cell_far (p := ⟨gb581, _, none⟩) NB579_581.out _).trans (((cell_far (p := ⟨gb581, _, none⟩) NB579_581.out _).trans (((cell_far (p := ⟨gb581, _, none⟩) NB579_581.out _).trans (((cell_far (p := ⟨gb581, _, none⟩) NB579_581.out _).trans (((cell_far (p := ⟨gb581, _, none⟩) NB579_581.out _).trans (hHeld.2.2.2.2.2.2.2.2.1)))))))))))), ((cell_far (p := ⟨gb581, _, none⟩) NB579_581.out _).trans (((cell_far (p := ⟨gb581, _, none⟩) NB579_581.out _).trans (((cell_far (p := ⟨gb581, _, none⟩) NB579_581.out _).trans (((cell_far (p := ⟨gb581, _, none⟩) NB579_581.out _).trans (((cell_far (p := ⟨gb581, _, none⟩) NB579_581.out _).trans (((cell_far (p := ⟨gb581, _, none⟩) NB579_581.out _).trans (hHeld.2.2.2.2.2.2.2.2.2.1)))))))))))), ((cell_far (p := ⟨gb581, _, none⟩) NB579_581.out _).trans (((cell_far (p := ⟨gb581, _, none⟩) NB579_581.out _).trans (((cell_far (p := ⟨gb581, _, none⟩) NB579_581.out _).trans (((cell_far (p := ⟨gb581, _, none⟩) NB579_581.out _).trans (((cell_far (p := ⟨gb581, _, none⟩) NB579_581.out _).trans (((cell_far (p := ⟨gb581, _, none⟩) NB579_581.out _).trans (hHeld.2.2.2.2.2.2.2.2.2.2.1)))))))))))), ((cell_far (p := ⟨gb581, _, none⟩) NB579_581.out _).trans (((cell_far (p := ⟨gb581, _, none⟩) NB579_581.out _).trans (((cell_far (p := ⟨gb581, _, none⟩) NB579_581.out _).trans (((cell_far (p := ⟨gb581, _, none⟩) NB579_581.out _).trans (((cell_far (p := ⟨gb581, _, none⟩) NB579_581.out _).trans (((cell_far (p := ⟨gb581, _, none⟩) NB579_581.out _).trans (hHeld.2.2.2.2.2.2.2.2.2.2.2))))))))))))⟩ (fun hHeld => ?_)
  clear hK K
  refine one_ (i := 7) (N := none) (bA 8 255) rfl rfl (one_of HT_.out (by kernel_rfl)) (by decide) (fun K hK => ?_)
  have hs19 : w12.cell? ⟨gb582, 0, none⟩ = some (.int .u64 0) := (blk_cell BK582.out 0).trans rfl
  have hfs19 := blk_frozen BK582.out 0
  have hns19_0 := NB579_582.out
  have hns19_1 := NB581_582.out
  have hms19_0 := NB582_579.out
  have hms19_1 := NB582_581.out
  have hs20 : w12.cell? ⟨gb582, 1, none⟩ = some (.int .u64 0) := (blk_cell BK582.out 1).trans rfl
  have hfs20 := blk_frozen BK582.out 1
  have hns20_0 := NB579_582.out
  have hns20_1 := NB581_582.out
  have hms20_0 := NB582_579.out
  have hms20_1 := NB582_581.out
  have hs21 : w12.cell? ⟨gb582, 2, none⟩ = some (.int .u64 0) := (blk_cell BK582.out 2).trans rfl
  have hfs21 := blk_frozen BK582.out 2
  have hns21_0 := NB579_582.out
  have hns21_1 := NB581_582.out
  have hms21_0 := NB582_579.out
  have hms21_1 := NB582_581.out
  have hs22 : w12.cell? ⟨gb582, 3, none⟩ = some (.int .u64 0) := (blk_cell BK582.out 3).trans rfl
  have hfs22 := blk_frozen BK582.out 3
  have hns22_0 := NB579_582.out
  have hns22_1 := NB581_582.out
  have hms22_0 := NB582_579.out
  have hms22_1 := NB582_581.out
  have hs23 : w12.cell? ⟨gb582, 4, none⟩ = some (.int .i64 0) := (blk_cell BK582.out 4).trans rfl
  have hfs23 := blk_frozen BK582.out 4
  have hns23_0 := NB579_582.out
  have hns23_1 := NB581_582.out
  have hms23_0 := NB582_579.out
  have hms23_1 := NB582_581.out
  have hs24 : w12.cell? ⟨gb582, 5, none⟩ = some (.int .i64 0) := (blk_cell BK582.out 5).trans rfl
  have hfs24 := blk_frozen BK582.out 5
  have hns24_0 := NB579_582.out
  have hns24_1 := NB581_582.out
  have hms24_0 := NB582_579.out
  have hms24_1 := NB582_581.out
  refine skip_ (w1 := ?_) (by rfl) rfl ?_ ?_
  rotate_left
  ·
   go_simp
   rfl
  refine hK.out _ _ ⟨((cell_far (p := ⟨gb582, _, none⟩) NB579_582.out _).trans (((cell_far (p := ⟨gb582, _, none⟩) NB579_582.out _).trans (((cell_far (p := ⟨gb582, _, none⟩) NB579_582.out _).trans (((cell_far (p := ⟨gb582, _, none⟩) NB579_582.out _).trans (((cell_far (p := ⟨gb582, _, none⟩) NB579_582.out _).trans (((cell_far (p := ⟨gb582, _, none⟩) NB579_582.out _).trans (hHeld.1)))))))))))), ((cell_far (p := ⟨gb582, _, none⟩) NB579_582.out _).trans (((cell_far (p := ⟨gb582, _, none⟩) NB579_582.out _).trans (((cell_far (p := ⟨gb582, _, none⟩) NB579_582.out _).trans (((cell_far (p := ⟨gb582, _, none⟩) NB579_582.out _).trans (((cell_far (p := ⟨gb582, _, none⟩) NB579_582.out _).trans (((cell_far (p := ⟨gb582, _, none⟩) NB579_582.out _).trans (hHeld.2.1)))))))))))), ((cell_far (p := ⟨gb582, _, none⟩) NB579_582.out _).trans (((cell_far (p := ⟨gb582, _, none⟩) NB579_582.out _).trans (((cell_far (p := ⟨gb582, _, none⟩) NB579_582.out _).trans (((cell_far (p := ⟨gb582, _, none⟩) NB579_582.out _).trans (((cell_far (p := ⟨gb582, _, none⟩) NB579_582.out _).trans (((cell_far (p := ⟨gb582, _, none⟩) NB579_582.out _).trans (hHeld.2.2.1)))))))))))), ((cell_far (p := ⟨gb582, _, none⟩) NB579_582.out _).trans (((cell_far (p := ⟨gb582, _, none⟩) NB579_582.out _).trans (((cell_far (p := ⟨gb582, _, none⟩) NB579_582.out _).trans (((cell_far (p := ⟨gb582, _, none⟩) NB579_582.out _).trans (((cell_far (p := ⟨gb582, _, none⟩) NB579_582.out _).trans (((cell_far (p := ⟨gb582, _, none⟩) NB579_582.out _).trans (hHeld.2.2.2.1)))))))))))), ((cell_far (p := ⟨gb582, _, none⟩) NB579_582.out _).trans (((cell_far (p := ⟨gb582, _, none⟩) NB579_582.out _).trans (((cell_far (p := ⟨gb582, _, none⟩) NB579_582.out _).trans (((cell_far (p := ⟨gb582, _, none⟩) NB579_582.out _).trans (((cell_far (p := ⟨gb582, _, none⟩) NB579_582.out _).trans (((cell_far (p := ⟨gb582, _, none⟩) NB579_582.out _).trans (hHeld.2.2.2.2.1)))))))))))), ((cell_far (p := ⟨gb582, _, none⟩) NB579_582.out _).trans (((cell_far (p := ⟨gb582, _, none⟩) NB579_582.out _).trans (((cell_far (p := ⟨gb582, _, none⟩) NB579_582.out _).trans (((cell_far (p := ⟨gb582, _, none⟩) NB579_582.out _).trans (((cell_far (p := ⟨gb582, _, none⟩) NB579_582.out _).trans (((cell_far (p := ⟨gb582, _, none⟩) NB579_582.out _).trans (hHeld.2.2.2.2.2.1)))))))))))), ((cell_far (p := ⟨gb582, _, none⟩) NB579_582.out _).trans (((cell_far (p := ⟨gb582, _, none⟩) NB579_582.out _).trans (((cell_far (p := ⟨gb582, _, none⟩) NB579_582.out _).trans (((cell_far (p := ⟨gb582, _, none⟩) NB579_582.out _).trans (((cell_far (p := ⟨gb582, _, none⟩) NB579_582.out _).trans (((cell_far (p := ⟨gb582, _, none⟩) NB579_582.out _).trans (hHeld.2.2.2.2.2.2.1)))))))))))), ((cell_far (p := ⟨gb582, _, none⟩) NB579_582.out _).trans (((cell_far (p := ⟨gb582, _, none⟩) NB579_582.out _).trans (((cell_far (p := ⟨gb582, _, none⟩) NB579_582.out _).trans (((cell_far (p := ⟨gb582, _, none⟩) NB579_582.out _).trans (((cell_far (p := ⟨gb582, _, none⟩) NB579_582.out _).trans (((cell_far (p := ⟨gb582, _, none⟩) NB579_582.out _).trans (hHeld.2.2.2.2.2.2.2.1)))))))))))), ((cell_far (p := ⟨gb582, _, none⟩) NB579_582.out _).trans (((cell_far (p := ⟨gb582, _, none⟩) NB579_582.out _).trans (((cell_far (p := ⟨gb582, _, none⟩) NB579_582.out _).trans (((cell_far (p := ⟨gb582, _, none⟩) NB579_582.out _).trans (((cell_far (p := ⟨gb582, _, none⟩) NB579_582.out _).trans (((cell_far (p := ⟨gb582, _, none⟩) NB579_582.out _).trans (hHeld.2.2.2.2.2.2.2.2.1)))))))))))), ((cell_far (p := ⟨gb582, _, none⟩) NB579_582.out _).trans (((cell_far (p := ⟨gb582, _, none⟩) NB579_582.out _).trans (((cell_far (p := ⟨gb582, _, none⟩) NB579_582.out _).trans (((cell_far (p := ⟨gb582, _, none⟩) NB579_582.out _).trans (((cell_far (p := ⟨gb582, _, none⟩) NB579_582.out _).trans (((cell_far (p := ⟨gb582, _, none⟩) NB579_582.out _).trans (hHeld.2.2.2.2.2.2.2.2.2.1)))))))))))), ((cell_far (p := ⟨gb582, _, none⟩) NB579_582.out _).trans (((cell_far (p := ⟨gb582, _, none⟩) NB579_582.out _).trans (((cell_far (p := ⟨gb582, _, none⟩) NB579_582.out _).trans (((cell_far (p := ⟨gb582, _, none⟩) NB579_582.out _).trans (((cell_far (p := ⟨gb582, _, none⟩) NB579_582.out _).trans (((cell_far (p := ⟨gb582, _, none⟩) NB579_582.out _).trans (hHeld.2.2.2.2.2.2.2.2.2.2.1)))))))))))), ((cell_far (p := ⟨gb582, _, none⟩) NB579_582.out _).trans (((cell_far (p := ⟨gb582, _, none⟩) NB579_582.out _).trans (((cell_far (p := ⟨gb582, _, none⟩) NB579_582.out _).trans (((cell_far (p := ⟨gb582, _, none⟩) NB579_582.out _).trans (((cell_far (p := ⟨gb582, _, none⟩) NB579_582.out _).trans (((cell_far (p := ⟨gb582, _, none⟩) NB579_582.out _).trans (hHeld.2.2.2.2.2.2.2.2.2.2.2))))))))))))⟩ (fun hHeld => ?_)
  clear hK K
  refine done_ (done_of HT_.out (by kernel_rfl)) ?_
  go_upto_region 4 with (fail)
  go_cut [72] (fun v72 wc => ∃ (kq : Nat) (x72_5 : Bool), v72 = .bool x72_5 ∧ Aside0 (jacquardlaw14_FactsElements.j0 kq a0 a2 x72_5 a1_0 a1_1 a1_2 a1_3 a1_4 a1_5 a1_6 a1_7 a1_8 a1_9 a1_10 a1_11 = some r) ∧ Aside0 (kq ≤ k) ∧ Aside0 (wc.heap[gb579]? = some (.cells #[.int .u64 a1_0, .int .u64 a1_1, .int .u64 a1_2, .int .u64 a1_3, .int .i64 a1_4, .int .i64 a1_5, .int .u64 a1_6, .int .u64 a1_7, .int .u64 a1_8, .int .u64 a1_9, .int .i64 a1_10, .int .i64 a1_11] 56 (0, 0))) ∧ Aside0 (wc.heap[gb581]? = some (.cells #[.int .u64 a1_0, .int .u64 a1_1, .int .u64 a1_2, .int .u64 a1_3, .int .i64 a1_4, .int .i64 a1_5] 50 (0, 0))) ∧ Aside0 (wc.heap[gb582]? = some (.cells #[.int .u64 a1_6, .int .u64 a1_7, .int .u64 a1_8, .int .u64 a1_9, .int .i64 a1_10, .int .i64 a1_11] 50 (0, 0))) ∧ Aside0 (Below w.heap.size w wc))
  case first =>
   have H := HC6.out
   clear HC6
   replace H := Option.bind_eq_some_iff.mp H
   obtain ⟨⟨t583, t584, t585, t586, t587, t588⟩, A250, H⟩ := H
   try dsimp only at H
   have A25 := Aside0.mk A250
   clear A250
   replace H := Option.bind_eq_some_iff.mp H
   obtain ⟨⟨t589, t590, t591, t592, t593, t594⟩, A260, H⟩ := H
   try dsimp only at H
   have A26 := Aside0.mk A260
   clear A260
   by_cases c27 : (!(t583 == t589) || (!(t584 == t590) || (!(t585 == t591) || (!(t586 == t592) || (!(t587 == t593) || (!(t588 == t594))))))) = true
   ·
    rw [if_pos c27] at H
    have c27b0 : (!(t583 == t589) || (!(t584 == t590) || (!(t585 == t591) || (!(t586 == t592) || (!(t587 == t593) || (!(t588 == t594))))))) = true := c27
    clear c27
    (first | rw [c27b0] | (simp only [i64_w, i32_w]; rw [c27b0]) | skip)
    have H' := Aside0.mk H
    clear H
    try go_wp2
    have n0_ : Aside0 (((((((((((((w12.setCell ⟨gb581, 0, none⟩ (.int .u64 a1_0)).setCell ⟨gb581, 1, none⟩ (.int .u64 a1_1)).setCell ⟨gb581, 2, none⟩ (.int .u64 a1_2)).setCell ⟨gb581, 3, none⟩ (.int .u64 a1_3)).setCell ⟨gb581, 4, none⟩ (.int .i64 a1_4)).setCell ⟨gb581, 5, none⟩ (.int .i64 a1_5)).setCell ⟨gb582, 0, none⟩ (.int .u64 a1_6)).setCell ⟨gb582, 1, none⟩ (.int .u64 a1_7)).setCell ⟨gb582, 2, none⟩ (.int .u64 a1_8)).setCell ⟨gb582, 3, none⟩ (.int .u64 a1_9)).setCell ⟨gb582, 4, none⟩ (.int .i64 a1_10)).setCell ⟨gb582, 5, none⟩ (.int .i64 a1_11)).heap[gb579]? = some (.cells #[.int .u64 a1_0, .int .u64 a1_1, .int .u64 a1_2, .int .u64 a1_3, .int .i64 a1_4, .int .i64 a1_5, .int .u64 a1_6, .int .u64 a1_7, .int .u64 a1_8, .int .u64 a1_9, .int .i64 a1_10, .int .i64 a1_11] 56 (0, 0))) := ⟨by exact bfL BK579.out⟩
    have n1_ : Aside0 (((((((((((((w12.setCell ⟨gb581, 0, none⟩ (.int .u64 a1_0)).setCell ⟨gb581, 1, none⟩ (.int .u64 a1_1)).setCell ⟨gb581, 2, none⟩ (.int .u64 a1_2)).setCell ⟨gb581, 3, none⟩ (.int .u64 a1_3)).setCell ⟨gb581, 4, none⟩ (.int .i64 a1_4)).setCell ⟨gb581, 5, none⟩ (.int .i64 a1_5)).setCell ⟨gb582, 0, none⟩ (.int .u64 a1_6)).setCell ⟨gb582, 1, none⟩ (.int .u64 a1_7)).setCell ⟨gb582, 2, none⟩ (.int .u64 a1_8)).setCell ⟨gb582, 3, none⟩ (.int .u64 a1_9)).setCell ⟨gb582, 4, none⟩ (.int .i64 a1_10)).setCell ⟨gb582, 5, none⟩ (.int .i64 a1_11)).heap[gb581]? = some (.cells #[.int .u64 a1_0, .int .u64 a1_1, .int .u64 a1_2, .int .u64 a1_3, .int .i64 a1_4, .int .i64 a1_5] 50 (0, 0))) := ⟨by (with_reducible repeat (first | refine blk_drewN ?_ _ | refine blk_drew ?_ | refine blk_alloc ?_ _)); refine blk_far ?_ NB581_582.out _; (with_reducible repeat (first | refine blk_drewN ?_ _ | refine blk_drew ?_ | refine blk_alloc ?_ _)); refine blk_far ?_ NB581_582.out _; (with_reducible repeat (first | refine blk_drewN ?_ _ | refine blk_drew ?_ | refine blk_alloc ?_ _)); refine blk_far ?_ NB581_582.out _; (with_reducible repeat (first | refine blk_drewN ?_ _ | refine blk_drew ?_ | refine blk_alloc ?_ _)); refine blk_far ?_ NB581_582.out _; (with_reducible repeat (first | refine blk_drewN ?_ _ | refine blk_drew ?_ | refine blk_alloc ?_ _)); refine blk_far ?_ NB581_582.out _; (with_reducible repeat (first | refine blk_drewN ?_ _ | refine blk_drew ?_ | refine blk_alloc ?_ _)); refine blk_far ?_ NB581_582.out _; (with_reducible repeat (first | refine blk_drewN ?_ _ | refine blk_drew ?_ | refine blk_alloc ?_ _)); refine blk_put (cs := #[.int .u64 a1_0, .int .u64 a1_1, .int .u64 a1_2, .int .u64 a1_3, .int .i64 a1_4, .int .i64 0]) ?_ 5 _ rfl; (with_reducible repeat (first | refine blk_drewN ?_ _ | refine blk_drew ?_ | refine blk_alloc ?_ _)); refine blk_put (cs := #[.int .u64 a1_0, .int .u64 a1_1, .int .u64 a1_2, .int .u64 a1_3, .int .i64 0, .int .i64 0]) ?_ 4 _ rfl; (with_reducible repeat (first | refine blk_drewN ?_ _ | refine blk_drew ?_ | refine blk_alloc ?_ _)); refine blk_put (cs := #[.int .u64 a1_0, .int .u64 a1_1, .int .u64 a1_2, .int .u64 0, .int .i64 0, .int .i64 0]) ?_ 3 _ rfl; (with_reducible repeat (first | refine blk_drewN ?_ _ | refine blk_drew ?_ | refine blk_alloc ?_ _)); refine blk_put (cs := #[.int .u64 a1_0, .int .u64 a1_1, .int .u64 0, .int .u64 0, .int .i64 0, .int .i64 0]) ?_ 2 _ rfl; (with_reducible repeat (first | refine blk_drewN ?_ _ | refine blk_drew ?_ | refine blk_alloc ?_ _)); refine blk_put (cs := #[.int .u64 a1_0, .int .u64 0, .int .u64 0, .int .u64 0, .int .i64 0, .int .i64 0]) ?_ 1 _ rfl; (with_reducible repeat (first | refine blk_drewN ?_ _ | refine blk_drew ?_ | refine blk_alloc ?_ _)); refine blk_put (cs := #[.int .u64 0, .int .u64 0, .int .u64 0, .int .u64 0, .int .i64 0, .int .i64 0]) ?_ 0 _ rfl; exact bfL BK581.out⟩
    have n2_ : Aside0 (((((((((((((w12.setCell ⟨gb581, 0, none⟩ (.int .u64 a1_0)).setCell ⟨gb581, 1, none⟩ (.int .u64 a1_1)).setCell ⟨gb581, 2, none⟩ (.int .u64 a1_2)).setCell ⟨gb581, 3, none⟩ (.int .u64 a1_3)).setCell ⟨gb581, 4, none⟩ (.int .i64 a1_4)).setCell ⟨gb581, 5, none⟩ (.int .i64 a1_5)).setCell ⟨gb582, 0, none⟩ (.int .u64 a1_6)).setCell ⟨gb582, 1, none⟩ (.int .u64 a1_7)).setCell ⟨gb582, 2, none⟩ (.int .u64 a1_8)).setCell ⟨gb582, 3, none⟩ (.int .u64 a1_9)).setCell ⟨gb582, 4, none⟩ (.int .i64 a1_10)).setCell ⟨gb582, 5, none⟩ (.int .i64 a1_11)).heap[gb582]? = some (.cells #[.int .u64 a1_6, .int .u64 a1_7, .int .u64 a1_8, .int .u64 a1_9, .int .i64 a1_10, .int .i64 a1_11] 50 (0, 0))) := ⟨by (with_reducible repeat (first | refine blk_drewN ?_ _ | refine blk_drew ?_ | refine blk_alloc ?_ _)); refine blk_put (cs := #[.int .u64 a1_6, .int .u64 a1_7, .int .u64 a1_8, .int .u64 a1_9, .int .i64 a1_10, .int .i64 0]) ?_ 5 _ rfl; (with_reducible repeat (first | refine blk_drewN ?_ _ | refine blk_drew ?_ | refine blk_alloc ?_ _)); refine blk_put (cs := #[.int .u64 a1_6, .int .u64 a1_7, .int .u64 a1_8, .int .u64 a1_9, .int .i64 0, .int .i64 0]) ?_ 4 _ rfl; (with_reducible repeat (first | refine blk_drewN ?_ _ | refine blk_drew ?_ | refine blk_alloc ?_ _)); refine blk_put (cs := #[.int .u64 a1_6, .int .u64 a1_7, .int .u64 a1_8, .int .u64 0, .int .i64 0, .int .i64 0]) ?_ 3 _ rfl; (with_reducible repeat (first | refine blk_drewN ?_ _ | refine blk_drew ?_ | refine blk_alloc ?_ _)); refine blk_put (cs := #[.int .u64 a1_6, .int .u64 a1_7, .int .u64 0, .int .u64 0, .int .i64 0, .int .i64 0]) ?_ 2 _ rfl; (with_reducible repeat (first | refine blk_drewN ?_ _ | refine blk_drew ?_ | refine blk_alloc ?_ _)); refine blk_put (cs := #[.int .u64 a1_6, .int .u64 0, .int .u64 0, .int .u64 0, .int .i64 0, .int .i64 0]) ?_ 1 _ rfl; (with_reducible repeat (first | refine blk_drewN ?_ _ | refine blk_drew ?_ | refine blk_alloc ?_ _)); refine blk_put (cs := #[.int .u64 0, .int .u64 0, .int .u64 0, .int .u64 0, .int .i64 0, .int .i64 0]) ?_ 0 _ rfl; exact bfL BK582.out⟩
    have n3_ : Aside0 (Below w.heap.size w ((((((((((((w12.setCell ⟨gb581, 0, none⟩ (.int .u64 a1_0)).setCell ⟨gb581, 1, none⟩ (.int .u64 a1_1)).setCell ⟨gb581, 2, none⟩ (.int .u64 a1_2)).setCell ⟨gb581, 3, none⟩ (.int .u64 a1_3)).setCell ⟨gb581, 4, none⟩ (.int .i64 a1_4)).setCell ⟨gb581, 5, none⟩ (.int .i64 a1_5)).setCell ⟨gb582, 0, none⟩ (.int .u64 a1_6)).setCell ⟨gb582, 1, none⟩ (.int .u64 a1_7)).setCell ⟨gb582, 2, none⟩ (.int .u64 a1_8)).setCell ⟨gb582, 3, none⟩ (.int .u64 a1_9)).setCell ⟨gb582, 4, none⟩ (.int .i64 a1_10)).setCell ⟨gb582, 5, none⟩ (.int .i64 a1_11))) := ⟨bsL HB.out⟩
    (try clear BK579)
    (try clear BK581)
    (try clear BK582)
    (try clear HB)
    generalize ((((((((((((w12.setCell ⟨gb581, 0, none⟩ (.int .u64 a1_0)).setCell ⟨gb581, 1, none⟩ (.int .u64 a1_1)).setCell ⟨gb581, 2, none⟩ (.int .u64 a1_2)).setCell ⟨gb581, 3, none⟩ (.int .u64 a1_3)).setCell ⟨gb581, 4, none⟩ (.int .i64 a1_4)).setCell ⟨gb581, 5, none⟩ (.int .i64 a1_5)).setCell ⟨gb582, 0, none⟩ (.int .u64 a1_6)).setCell ⟨gb582, 1, none⟩ (.int .u64 a1_7)).setCell ⟨gb582, 2, none⟩ (.int .u64 a1_8)).setCell ⟨gb582, 3, none⟩ (.int .u64 a1_9)).setCell ⟨gb582, 4, none⟩ (.int .i64 a1_10)).setCell ⟨gb582, 5, none⟩ (.int .i64 a1_11)) = w28 at n0_ n1_ n2_ n3_ ⊢
    have BK579 := n0_
    have BK581 := n1_
    have BK582 := n2_
    have HB := n3_
    clear n0_ n1_ n2_ n3_
    replace BK579 := Aside0.mk (blk_drew BK579.out)
    replace BK581 := Aside0.mk (blk_drew BK581.out)
    replace BK582 := Aside0.mk (blk_drew BK582.out)
    replace HB := Aside0.mk (below_drew1 HB.out)
    refine start_ (n := 52) (S := fun w' => True) (ds := []) (bA 52 0) (by kernel_rfl) rfl rfl trivial (fun hHeld => ?_); refine with_tabW jacquardlaw14_FactsElements.tab4 jacquardlaw14_FactsElements.bits4 (fun HT_ HW_ => ?_)
    generalize w28.drew = w29 at BK579 BK581 BK582 HB hHeld ⊢
    refine pureA HT_ (i := 0) (N := some 21) (bA 52 1) ?_
    refine pureA HT_ (i := 2) (N := some 23) (bA 52 5) ?_
    refine one_ (i := 1) (N := some 22) (bA 52 7) rfl rfl (one_of HT_.out (by kernel_rfl)) (by decide) (fun K hK => ?_)
    refine gO Try.func30 #[.int .i64 a0] ?_
    with_reducible refine (facts_Top.calls a0 t583 t584 t585 t586 t587 t588 _ A25.out).mono ?_
    rintro e w30 ⟨rfl, hb⟩
    refine ⟨_, rfl, ?_⟩
    replace BK579 := bkB BK579.out hb
    replace BK581 := bkB BK581.out hb
    replace BK582 := bkB BK582.out hb
    replace HB := bsB HB.out hb
    (try clear hb)
    refine hK.out _ _ trivial (fun hHeld => ?_)
    clear hK K
    refine normA (some 22) ?_
    refine one_ (i := 3) (N := some 24) (bA 52 15) rfl rfl (one_of HT_.out (by kernel_rfl)) (by decide) (fun K hK => ?_)
    refine gO Try.func31 #[.int .i64 a0] ?_
    with_reducible refine (jacquardref14_Top.calls k a0 t589 t590 t591 t592 t593 t594 _ A26.out).mono ?_
    rintro e w31 ⟨rfl, hb⟩
    refine ⟨_, rfl, ?_⟩
    replace BK579 := bkB BK579.out hb
    replace BK581 := bkB BK581.out hb
    replace BK582 := bkB BK582.out hb
    replace HB := bsB HB.out hb
    (try clear hb)
    refine hK.out _ _ trivial (fun hHeld => ?_)
    clear hK K
    refine normA (some 24) ?_
    refine pureA HT_ (i := 4) (N := some 25) (bA 52 31) ?_
    refine pureA HT_ (i := 5) (N := some 26) (bA 52 63) ?_
    refine pureU HT_ (i := 6) (N := some 27) (bA 52 127) ?_
    refine pureU HT_ (i := 7) (N := some 28) (bA 52 255) ?_
    refine pureU HT_ (i := 8) (N := some 29) (bA 52 511) ?_
    refine pureU HT_ (i := 9) (N := some 30) (bA 52 1023) ?_
    refine pureU HT_ (i := 10) (N := some 31) (bA 52 2047) ?_
    refine pureU HT_ (i := 11) (N := some 32) (bA 52 4095) ?_
    refine pureU HT_ (i := 12) (N := some 33) (bA 52 8191) ?_
    refine pureA HT_ (i := 13) (N := some 34) (bA 52 16383) ?_
    refine pureA HT_ (i := 14) (N := some 35) (bA 52 32767) ?_
    refine pureU HT_ (i := 15) (N := some 36) (bA 52 65535) ?_
    refine pureU HT_ (i := 16) (N := some 37) (bA 52 131071) ?_
    refine pureU HT_ (i := 17) (N := some 38) (bA 52 262143) ?_
    refine pureU HT_ (i := 18) (N := some 39) (bA 52 524287) ?_
    refine pureU HT_ (i := 19) (N := some 40) (bA 52 1048575) ?_
    refine pureU HT_ (i := 20) (N := some 41) (bA 52 2097151) ?_
    refine pureU HT_ (i := 21) (N := some 42) (bA 52 4194303) ?_
    refine pureA HT_ (i := 22) (N := some 43) (bA 52 8388607) ?_
    refine pureA HT_ (i := 23) (N := some 44) (bA 52 16777215) ?_
    refine pureU HT_ (i := 24) (N := some 45) (bA 52 33554431) ?_
    refine pureU HT_ (i := 25) (N := some 46) (bA 52 67108863) ?_
    refine pureU HT_ (i := 26) (N := some 47) (bA 52 134217727) ?_
    refine pureU HT_ (i := 27) (N := some 48) (bA 52 268435455) ?_
    refine pureU HT_ (i := 28) (N := some 49) (bA 52 536870911) ?_
    refine pureU HT_ (i := 29) (N := some 50) (bA 52 1073741823) ?_
    refine pureU HT_ (i := 30) (N := some 51) (bA 52 2147483647) ?_
    refine pureU HT_ (i := 31) (N := some 52) (bA 52 4294967295) ?_
    refine pureU HT_ (i := 32) (N := some 53) (bA 52 8589934591) ?_
    refine pureA HT_ (i := 33) (N := some 54) (bA 52 17179869183) ?_
    refine pureA HT_ (i := 34) (N := some 55) (bA 52 34359738367) ?_
    refine pureU HT_ (i := 35) (N := some 56) (bA 52 68719476735) ?_
    refine pureU HT_ (i := 36) (N := some 57) (bA 52 137438953471) ?_
    refine pureU HT_ (i := 37) (N := some 58) (bA 52 274877906943) ?_
    refine pureU HT_ (i := 38) (N := some 59) (bA 52 549755813887) ?_
    refine pureU HT_ (i := 39) (N := some 60) (bA 52 1099511627775) ?_
    refine pureU HT_ (i := 40) (N := some 61) (bA 52 2199023255551) ?_
    refine pureU HT_ (i := 41) (N := some 62) (bA 52 4398046511103) ?_
    refine pureA HT_ (i := 42) (N := some 63) (bA 52 8796093022207) ?_
    refine pureA HT_ (i := 43) (N := some 64) (bA 52 17592186044415) ?_
    refine pureU HT_ (i := 44) (N := some 65) (bA 52 35184372088831) ?_
    refine pureU HT_ (i := 45) (N := some 66) (bA 52 70368744177663) ?_
    refine pureU HT_ (i := 46) (N := some 67) (bA 52 140737488355327) ?_
    refine pureU HT_ (i := 47) (N := some 68) (bA 52 281474976710655) ?_
    refine pureU HT_ (i := 48) (N := some 69) (bA 52 562949953421311) ?_
    refine pureU HT_ (i := 49) (N := some 70) (bA 52 1125899906842623) ?_
    refine pureU HT_ (i := 50) (N := some 71) (bA 52 2251799813685247) ?_
    refine pureA HT_ (i := 51) (N := some 72) (bA 52 4503599627370495) ?_
    refine done_ (done_of HT_.out (by kernel_rfl)) ?_
    try go_wp2
    go_meet
    case rel => exact ⟨_, (true), (by first | rfl | (simp; done) | (simp [*]; done)), H', ⟨by first | omega | exact Nat.le_refl _⟩, ⟨bkL BK579.out⟩, ⟨bkL BK581.out⟩, ⟨bkL BK582.out⟩, ⟨bsL HB.out⟩⟩
   ·
    rw [if_neg c27] at H
    have c27b0 : (!(t583 == t589) || (!(t584 == t590) || (!(t585 == t591) || (!(t586 == t592) || (!(t587 == t593) || (!(t588 == t594))))))) = false := by simpa using c27
    clear c27
    (first | rw [c27b0] | (simp only [i64_w, i32_w]; rw [c27b0]) | skip)
    replace H := Option.bind_eq_some_iff.mp H
    obtain ⟨⟨t595, t596, t597, t598, t599, t600⟩, A320, H⟩ := H
    try dsimp only at H
    have A32 := Aside0.mk A320
    clear A320
    replace H := Option.bind_eq_some_iff.mp H
    obtain ⟨⟨t601, t602, t603, t604, t605, t606⟩, A330, H⟩ := H
    try dsimp only at H
    have A33 := Aside0.mk A330
    clear A330
    by_cases c34 : (!(t595 == t601) || (!(t596 == t602) || (!(t597 == t603) || (!(t598 == t604) || (!(t599 == t605) || (!(t600 == t606))))))) = true
    ·
     rw [if_pos c34] at H
     have c34b0 : (!(t595 == t601) || (!(t596 == t602) || (!(t597 == t603) || (!(t598 == t604) || (!(t599 == t605) || (!(t600 == t606))))))) = true := c34
     clear c34
     have H' := Aside0.mk H
     clear H
     try go_wp2
     have n0_ : Aside0 (((((((((((((w12.setCell ⟨gb581, 0, none⟩ (.int .u64 a1_0)).setCell ⟨gb581, 1, none⟩ (.int .u64 a1_1)).setCell ⟨gb581, 2, none⟩ (.int .u64 a1_2)).setCell ⟨gb581, 3, none⟩ (.int .u64 a1_3)).setCell ⟨gb581, 4, none⟩ (.int .i64 a1_4)).setCell ⟨gb581, 5, none⟩ (.int .i64 a1_5)).setCell ⟨gb582, 0, none⟩ (.int .u64 a1_6)).setCell ⟨gb582, 1, none⟩ (.int .u64 a1_7)).setCell ⟨gb582, 2, none⟩ (.int .u64 a1_8)).setCell ⟨gb582, 3, none⟩ (.int .u64 a1_9)).setCell ⟨gb582, 4, none⟩ (.int .i64 a1_10)).setCell ⟨gb582, 5, none⟩ (.int .i64 a1_11)).heap[gb579]? = some (.cells #[.int .u64 a1_0, .int .u64 a1_1, .int .u64 a1_2, .int .u64 a1_3, .int .i64 a1_4, .int .i64 a1_5, .int .u64 a1_6, .int .u64 a1_7, .int .u64 a1_8, .int .u64 a1_9, .int .i64 a1_10, .int .i64 a1_11] 56 (0, 0))) := ⟨by exact bfL BK579.out⟩
     have n1_ : Aside0 (((((((((((((w12.setCell ⟨gb581, 0, none⟩ (.int .u64 a1_0)).setCell ⟨gb581, 1, none⟩ (.int .u64 a1_1)).setCell ⟨gb581, 2, none⟩ (.int .u64 a1_2)).setCell ⟨gb581, 3, none⟩ (.int .u64 a1_3)).setCell ⟨gb581, 4, none⟩ (.int .i64 a1_4)).setCell ⟨gb581, 5, none⟩ (.int .i64 a1_5)).setCell ⟨gb582, 0, none⟩ (.int .u64 a1_6)).setCell ⟨gb582, 1, none⟩ (.int .u64 a1_7)).setCell ⟨gb582, 2, none⟩ (.int .u64 a1_8)).setCell ⟨gb582, 3, none⟩ (.int .u64 a1_9)).setCell ⟨gb582, 4, none⟩ (.int .i64 a1_10)).setCell ⟨gb582, 5, none⟩ (.int .i64 a1_11)).heap[gb581]? = some (.cells #[.int .u64 a1_0, .int .u64 a1_1, .int .u64 a1_2, .int .u64 a1_3, .int .i64 a1_4, .int .i64 a1_5] 50 (0, 0))) := ⟨by (with_reducible repeat (first | refine blk_drewN ?_ _ | refine blk_drew ?_ | refine blk_alloc ?_ _)); refine blk_far ?_ NB581_582.out _; (with_reducible repeat (first | refine blk_drewN ?_ _ | refine blk_drew ?_ | refine blk_alloc ?_ _)); refine blk_far ?_ NB581_582.out _; (with_reducible repeat (first | refine blk_drewN ?_ _ | refine blk_drew ?_ | refine blk_alloc ?_ _)); refine blk_far ?_ NB581_582.out _; (with_reducible repeat (first | refine blk_drewN ?_ _ | refine blk_drew ?_ | refine blk_alloc ?_ _)); refine blk_far ?_ NB581_582.out _; (with_reducible repeat (first | refine blk_drewN ?_ _ | refine blk_drew ?_ | refine blk_alloc ?_ _)); refine blk_far ?_ NB581_582.out _; (with_reducible repeat (first | refine blk_drewN ?_ _ | refine blk_drew ?_ | refine blk_alloc ?_ _)); refine blk_far ?_ NB581_582.out _; (with_reducible repeat (first | refine blk_drewN ?_ _ | refine blk_drew ?_ | refine blk_alloc ?_ _)); refine blk_put (cs := #[.int .u64 a1_0, .int .u64 a1_1, .int .u64 a1_2, .int .u64 a1_3, .int .i64 a1_4, .int .i64 0]) ?_ 5 _ rfl; (with_reducible repeat (first | refine blk_drewN ?_ _ | refine blk_drew ?_ | refine blk_alloc ?_ _)); refine blk_put (cs := #[.int .u64 a1_0, .int .u64 a1_1, .int .u64 a1_2, .int .u64 a1_3, .int .i64 0, .int .i64 0]) ?_ 4 _ rfl; (with_reducible repeat (first | refine blk_drewN ?_ _ | refine blk_drew ?_ | refine blk_alloc ?_ _)); refine blk_put (cs := #[.int .u64 a1_0, .int .u64 a1_1, .int .u64 a1_2, .int .u64 0, .int .i64 0, .int .i64 0]) ?_ 3 _ rfl; (with_reducible repeat (first | refine blk_drewN ?_ _ | refine blk_drew ?_ | refine blk_alloc ?_ _)); refine blk_put (cs := #[.int .u64 a1_0, .int .u64 a1_1, .int .u64 0, .int .u64 0, .int .i64 0, .int .i64 0]) ?_ 2 _ rfl; (with_reducible repeat (first | refine blk_drewN ?_ _ | refine blk_drew ?_ | refine blk_alloc ?_ _)); refine blk_put (cs := #[.int .u64 a1_0, .int .u64 0, .int .u64 0, .int .u64 0, .int .i64 0, .int .i64 0]) ?_ 1 _ rfl; (with_reducible repeat (first | refine blk_drewN ?_ _ | refine blk_drew ?_ | refine blk_alloc ?_ _)); refine blk_put (cs := #[.int .u64 0, .int .u64 0, .int .u64 0, .int .u64 0, .int .i64 0, .int .i64 0]) ?_ 0 _ rfl; exact bfL BK581.out⟩
     have n2_ : Aside0 (((((((((((((w12.setCell ⟨gb581, 0, none⟩ (.int .u64 a1_0)).setCell ⟨gb581, 1, none⟩ (.int .u64 a1_1)).setCell ⟨gb581, 2, none⟩ (.int .u64 a1_2)).setCell ⟨gb581, 3, none⟩ (.int .u64 a1_3)).setCell ⟨gb581, 4, none⟩ (.int .i64 a1_4)).setCell ⟨gb581, 5, none⟩ (.int .i64 a1_5)).setCell ⟨gb582, 0, none⟩ (.int .u64 a1_6)).setCell ⟨gb582, 1, none⟩ (.int .u64 a1_7)).setCell ⟨gb582, 2, none⟩ (.int .u64 a1_8)).setCell ⟨gb582, 3, none⟩ (.int .u64 a1_9)).setCell ⟨gb582, 4, none⟩ (.int .i64 a1_10)).setCell ⟨gb582, 5, none⟩ (.int .i64 a1_11)).heap[gb582]? = some (.cells #[.int .u64 a1_6, .int .u64 a1_7, .int .u64 a1_8, .int .u64 a1_9, .int .i64 a1_10, .int .i64 a1_11] 50 (0, 0))) := ⟨by (with_reducible repeat (first | refine blk_drewN ?_ _ | refine blk_drew ?_ | refine blk_alloc ?_ _)); refine blk_put (cs := #[.int .u64 a1_6, .int .u64 a1_7, .int .u64 a1_8, .int .u64 a1_9, .int .i64 a1_10, .int .i64 0]) ?_ 5 _ rfl; (with_reducible repeat (first | refine blk_drewN ?_ _ | refine blk_drew ?_ | refine blk_alloc ?_ _)); refine blk_put (cs := #[.int .u64 a1_6, .int .u64 a1_7, .int .u64 a1_8, .int .u64 a1_9, .int .i64 0, .int .i64 0]) ?_ 4 _ rfl; (with_reducible repeat (first | refine blk_drewN ?_ _ | refine blk_drew ?_ | refine blk_alloc ?_ _)); refine blk_put (cs := #[.int .u64 a1_6, .int .u64 a1_7, .int .u64 a1_8, .int .u64 0, .int .i64 0, .int .i64 0]) ?_ 3 _ rfl; (with_reducible repeat (first | refine blk_drewN ?_ _ | refine blk_drew ?_ | refine blk_alloc ?_ _)); refine blk_put (cs := #[.int .u64 a1_6, .int .u64 a1_7, .int .u64 0, .int .u64 0, .int .i64 0, .int .i64 0]) ?_ 2 _ rfl; (with_reducible repeat (first | refine blk_drewN ?_ _ | refine blk_drew ?_ | refine blk_alloc ?_ _)); refine blk_put (cs := #[.int .u64 a1_6, .int .u64 0, .int .u64 0, .int .u64 0, .int .i64 0, .int .i64 0]) ?_ 1 _ rfl; (with_reducible repeat (first | refine blk_drewN ?_ _ | refine blk_drew ?_ | refine blk_alloc ?_ _)); refine blk_put (cs := #[.int .u64 0, .int .u64 0, .int .u64 0, .int .u64 0, .int .i64 0, .int .i64 0]) ?_ 0 _ rfl; exact bfL BK582.out⟩
     have n3_ : Aside0 (Below w.heap.size w ((((((((((((w12.setCell ⟨gb581, 0, none⟩ (.int .u64 a1_0)).setCell ⟨gb581, 1, none⟩ (.int .u64 a1_1)).setCell ⟨gb581, 2, none⟩ (.int .u64 a1_2)).setCell ⟨gb581, 3, none⟩ (.int .u64 a1_3)).setCell ⟨gb581, 4, none⟩ (.int .i64 a1_4)).setCell ⟨gb581, 5, none⟩ (.int .i64 a1_5)).setCell ⟨gb582, 0, none⟩ (.int .u64 a1_6)).setCell ⟨gb582, 1, none⟩ (.int .u64 a1_7)).setCell ⟨gb582, 2, none⟩ (.int .u64 a1_8)).setCell ⟨gb582, 3, none⟩ (.int .u64 a1_9)).setCell ⟨gb582, 4, none⟩ (.int .i64 a1_10)).setCell ⟨gb582, 5, none⟩ (.int .i64 a1_11))) := ⟨bsL HB.out⟩
     (try clear BK579)
     (try clear BK581)
     (try clear BK582)
     (try clear HB)
     generalize ((((((((((((w12.setCell ⟨gb581, 0, none⟩ (.int .u64 a1_0)).setCell ⟨gb581, 1, none⟩ (.int .u64 a1_1)).setCell ⟨gb581, 2, none⟩ (.int .u64 a1_2)).setCell ⟨gb581, 3, none⟩ (.int .u64 a1_3)).setCell ⟨gb581, 4, none⟩ (.int .i64 a1_4)).setCell ⟨gb581, 5, none⟩ (.int .i64 a1_5)).setCell ⟨gb582, 0, none⟩ (.int .u64 a1_6)).setCell ⟨gb582, 1, none⟩ (.int .u64 a1_7)).setCell ⟨gb582, 2, none⟩ (.int .u64 a1_8)).setCell ⟨gb582, 3, none⟩ (.int .u64 a1_9)).setCell ⟨gb582, 4, none⟩ (.int .i64 a1_10)).setCell ⟨gb582, 5, none⟩ (.int .i64 a1_11)) = w35 at n0_ n1_ n2_ n3_ ⊢
     have BK579 := n0_
     have BK581 := n1_
     have BK582 := n2_
     have HB := n3_
     clear n0_ n1_ n2_ n3_
     replace BK579 := Aside0.mk (blk_drew BK579.out)
     replace BK581 := Aside0.mk (blk_drew BK581.out)
     replace BK582 := Aside0.mk (blk_drew BK582.out)
     replace HB := Aside0.mk (below_drew1 HB.out)
     refine start_ (n := 52) (S := fun w' => True) (ds := []) (bA 52 0) (by kernel_rfl) rfl rfl trivial (fun hHeld => ?_); refine with_tabW jacquardlaw14_FactsElements.tab4 jacquardlaw14_FactsElements.bits4 (fun HT_ HW_ => ?_)
     generalize w35.drew = w36 at BK579 BK581 BK582 HB hHeld ⊢
     refine pureA HT_ (i := 0) (N := some 21) (bA 52 1) ?_
     refine pureA HT_ (i := 2) (N := some 23) (bA 52 5) ?_
     refine one_ (i := 1) (N := some 22) (bA 52 7) rfl rfl (one_of HT_.out (by kernel_rfl)) (by decide) (fun K hK => ?_)
     refine gO Try.func30 #[.int .i64 a0] ?_
     with_reducible refine (facts_Top.calls a0 t583 t584 t585 t586 t587 t588 _ A25.out).mono ?_
     rintro e w37 ⟨rfl, hb⟩
     refine ⟨_, rfl, ?_⟩
     replace BK579 := bkB BK579.out hb
     replace BK581 := bkB BK581.out hb
     replace BK582 := bkB BK582.out hb
     replace HB := bsB HB.out hb
     (try clear hb)
     refine hK.out _ _ trivial (fun hHeld => ?_)
     clear hK K
     refine normA (some 22) ?_
     refine one_ (i := 3) (N := some 24) (bA 52 15) rfl rfl (one_of HT_.out (by kernel_rfl)) (by decide) (fun K hK => ?_)
     refine gO Try.func31 #[.int .i64 a0] ?_
     with_reducible refine (jacquardref14_Top.calls k a0 t589 t590 t591 t592 t593 t594 _ A26.out).mono ?_
     rintro e w38 ⟨rfl, hb⟩
     refine ⟨_, rfl, ?_⟩
     replace BK579 := bkB BK579.out hb
     replace BK581 := bkB BK581.out hb
     replace BK582 := bkB BK582.out hb
     replace HB := bsB HB.out hb
     (try clear hb)
     refine hK.out _ _ trivial (fun hHeld => ?_)
     clear hK K
     refine normA (some 24) ?_
     refine pureA HT_ (i := 4) (N := some 25) (bA 52 31) ?_
     refine pureA HT_ (i := 5) (N := some 26) (bA 52 63) ?_
     refine pureA HT_ (i := 6) (N := some 27) (bA 52 127) ?_
     refine pureA HT_ (i := 7) (N := some 28) (bA 52 255) ?_
     refine pureA HT_ (i := 9) (N := some 30) (bA 52 767) ?_
     refine pureA HT_ (i := 10) (N := some 31) (bA 52 1791) ?_
     refine one_ (i := 8) (N := some 29) (bA 52 2047) rfl rfl (one_of HT_.out (by kernel_rfl)) (by decide) (fun K hK => ?_)
     refine gO Try.func32 #[.int .i64 a0, .int .u64 a2] ?_
     with_reducible refine (facts_Of.calls a0 a2 t595 t596 t597 t598 t599 t600 _ A32.out).mono ?_
     rintro e w39 ⟨rfl, hb⟩
     refine ⟨_, rfl, ?_⟩
     replace BK579 := bkB BK579.out hb
     replace BK581 := bkB BK581.out hb
     replace BK582 := bkB BK582.out hb
     replace HB := bsB HB.out hb
     (try clear hb)
     refine hK.out _ _ trivial (fun hHeld => ?_)
     clear hK K
     refine normA (some 29) ?_
     refine one_ (i := 11) (N := some 32) (bA 52 4095) rfl rfl (one_of HT_.out (by kernel_rfl)) (by decide) (fun K hK => ?_)
     refine gO Try.func33 #[.int .i64 a0, .int .u64 a2] ?_
     with_reducible refine (jacquardref14_Of.calls k a0 a2 t601 t602 t603 t604 t605 t606 _ A33.out).mono ?_
     rintro e w40 ⟨rfl, hb⟩
     refine ⟨_, rfl, ?_⟩
     replace BK579 := bkB BK579.out hb
     replace BK581 := bkB BK581.out hb
     replace BK582 := bkB BK582.out hb
     replace HB := bsB HB.out hb
     (try clear hb)
     refine hK.out _ _ trivial (fun hHeld => ?_)
     clear hK K
     refine normA (some 32) ?_
     refine pureA HT_ (i := 12) (N := some 33) (bA 52 8191) ?_
     refine pureA HT_ (i := 13) (N := some 34) (bA 52 16383) ?_
     refine pureA HT_ (i := 14) (N := some 35) (bA 52 32767) ?_
     refine pureU HT_ (i := 15) (N := some 36) (bA 52 65535) ?_
     refine pureU HT_ (i := 16) (N := some 37) (bA 52 131071) ?_
     refine pureU HT_ (i := 17) (N := some 38) (bA 52 262143) ?_
     refine pureU HT_ (i := 18) (N := some 39) (bA 52 524287) ?_
     refine pureU HT_ (i := 19) (N := some 40) (bA 52 1048575) ?_
     refine pureU HT_ (i := 20) (N := some 41) (bA 52 2097151) ?_
     refine pureU HT_ (i := 21) (N := some 42) (bA 52 4194303) ?_
     refine pureA HT_ (i := 22) (N := some 43) (bA 52 8388607) ?_
     refine pureA HT_ (i := 23) (N := some 44) (bA 52 16777215) ?_
     refine pureU HT_ (i := 24) (N := some 45) (bA 52 33554431) ?_
     refine pureU HT_ (i := 25) (N := some 46) (bA 52 67108863) ?_
     refine pureU HT_ (i := 26) (N := some 47) (bA 52 134217727) ?_
     refine pureU HT_ (i := 27) (N := some 48) (bA 52 268435455) ?_
     refine pureU HT_ (i := 28) (N := some 49) (bA 52 536870911) ?_
     refine pureU HT_ (i := 29) (N := some 50) (bA 52 1073741823) ?_
     refine pureU HT_ (i := 30) (N := some 51) (bA 52 2147483647) ?_
     refine pureU HT_ (i := 31) (N := some 52) (bA 52 4294967295) ?_
     refine pureU HT_ (i := 32) (N := some 53) (bA 52 8589934591) ?_
     refine pureA HT_ (i := 33) (N := some 54) (bA 52 17179869183) ?_
     refine pureA HT_ (i := 34) (N := some 55) (bA 52 34359738367) ?_
     refine pureU HT_ (i := 35) (N := some 56) (bA 52 68719476735) ?_
     refine pureU HT_ (i := 36) (N := some 57) (bA 52 137438953471) ?_
     refine pureU HT_ (i := 37) (N := some 58) (bA 52 274877906943) ?_
     refine pureU HT_ (i := 38) (N := some 59) (bA 52 549755813887) ?_
     refine pureU HT_ (i := 39) (N := some 60) (bA 52 1099511627775) ?_
     refine pureU HT_ (i := 40) (N := some 61) (bA 52 2199023255551) ?_
     refine pureU HT_ (i := 41) (N := some 62) (bA 52 4398046511103) ?_
     refine pureA HT_ (i := 42) (N := some 63) (bA 52 8796093022207) ?_
     refine pureA HT_ (i := 43) (N := some 64) (bA 52 17592186044415) ?_
     refine pureU HT_ (i := 44) (N := some 65) (bA 52 35184372088831) ?_
     refine pureU HT_ (i := 45) (N := some 66) (bA 52 70368744177663) ?_
     refine pureU HT_ (i := 46) (N := some 67) (bA 52 140737488355327) ?_
     refine pureU HT_ (i := 47) (N := some 68) (bA 52 281474976710655) ?_
     refine pureU HT_ (i := 48) (N := some 69) (bA 52 562949953421311) ?_
     refine pureU HT_ (i := 49) (N := some 70) (bA 52 1125899906842623) ?_
     refine pureU HT_ (i := 50) (N := some 71) (bA 52 2251799813685247) ?_
     refine pureA HT_ (i := 51) (N := some 72) (bA 52 4503599627370495) ?_
     refine done_ (done_of HT_.out (by kernel_rfl)) ?_
     try go_wp2
     go_meet
     case rel => exact ⟨_, (true), (by first | rfl | (simp; done) | (simp [*]; done)), H', ⟨by first | omega | exact Nat.le_refl _⟩, ⟨bkL BK579.out⟩, ⟨bkL BK581.out⟩, ⟨bkL BK582.out⟩, ⟨bsL HB.out⟩⟩
    ·
     rw [if_neg c34] at H
     have c34b0 : (!(t595 == t601) || (!(t596 == t602) || (!(t597 == t603) || (!(t598 == t604) || (!(t599 == t605) || (!(t600 == t606))))))) = false := by simpa using c34
     clear c34
     replace H := Option.bind_eq_some_iff.mp H
     obtain ⟨t607, A410, H⟩ := H
     try dsimp only at H
     have A41 := Aside0.mk A410
     clear A410
     replace H := Option.bind_eq_some_iff.mp H
     obtain ⟨t608, A420, H⟩ := H
     try dsimp only at H
     have A42 := Aside0.mk A420
     clear A420
     by_cases c43 : (t607 != t608) = true
     ·
      rw [if_pos c43] at H
      have c43b0 : (t607 != t608) = true := c43
      (try (have c43b1 : decide (t607 = t608) = false := by simpa using c43))
      (try (have c43b2 : (t607 == t608) = false := by simpa using c43))
      (try (have c43b3 : ¬ (t607 = t608) := by simpa using c43))
      clear c43
      have H' := Aside0.mk H
      clear H
      try go_wp2
      have n0_ : Aside0 (((((((((((((w12.setCell ⟨gb581, 0, none⟩ (.int .u64 a1_0)).setCell ⟨gb581, 1, none⟩ (.int .u64 a1_1)).setCell ⟨gb581, 2, none⟩ (.int .u64 a1_2)).setCell ⟨gb581, 3, none⟩ (.int .u64 a1_3)).setCell ⟨gb581, 4, none⟩ (.int .i64 a1_4)).setCell ⟨gb581, 5, none⟩ (.int .i64 a1_5)).setCell ⟨gb582, 0, none⟩ (.int .u64 a1_6)).setCell ⟨gb582, 1, none⟩ (.int .u64 a1_7)).setCell ⟨gb582, 2, none⟩ (.int .u64 a1_8)).setCell ⟨gb582, 3, none⟩ (.int .u64 a1_9)).setCell ⟨gb582, 4, none⟩ (.int .i64 a1_10)).setCell ⟨gb582, 5, none⟩ (.int .i64 a1_11)).heap[gb579]? = some (.cells #[.int .u64 a1_0, .int .u64 a1_1, .int .u64 a1_2, .int .u64 a1_3, .int .i64 a1_4, .int .i64 a1_5, .int .u64 a1_6, .int .u64 a1_7, .int .u64 a1_8, .int .u64 a1_9, .int .i64 a1_10, .int .i64 a1_11] 56 (0, 0))) := ⟨by exact bfL BK579.out⟩
      have n1_ : Aside0 (((((((((((((w12.setCell ⟨gb581, 0, none⟩ (.int .u64 a1_0)).setCell ⟨gb581, 1, none⟩ (.int .u64 a1_1)).setCell ⟨gb581, 2, none⟩ (.int .u64 a1_2)).setCell ⟨gb581, 3, none⟩ (.int .u64 a1_3)).setCell ⟨gb581, 4, none⟩ (.int .i64 a1_4)).setCell ⟨gb581, 5, none⟩ (.int .i64 a1_5)).setCell ⟨gb582, 0, none⟩ (.int .u64 a1_6)).setCell ⟨gb582, 1, none⟩ (.int .u64 a1_7)).setCell ⟨gb582, 2, none⟩ (.int .u64 a1_8)).setCell ⟨gb582, 3, none⟩ (.int .u64 a1_9)).setCell ⟨gb582, 4, none⟩ (.int .i64 a1_10)).setCell ⟨gb582, 5, none⟩ (.int .i64 a1_11)).heap[gb581]? = some (.cells #[.int .u64 a1_0, .int .u64 a1_1, .int .u64 a1_2, .int .u64 a1_3, .int .i64 a1_4, .int .i64 a1_5] 50 (0, 0))) := ⟨by (with_reducible repeat (first | refine blk_drewN ?_ _ | refine blk_drew ?_ | refine blk_alloc ?_ _)); refine blk_far ?_ NB581_582.out _; (with_reducible repeat (first | refine blk_drewN ?_ _ | refine blk_drew ?_ | refine blk_alloc ?_ _)); refine blk_far ?_ NB581_582.out _; (with_reducible repeat (first | refine blk_drewN ?_ _ | refine blk_drew ?_ | refine blk_alloc ?_ _)); refine blk_far ?_ NB581_582.out _; (with_reducible repeat (first | refine blk_drewN ?_ _ | refine blk_drew ?_ | refine blk_alloc ?_ _)); refine blk_far ?_ NB581_582.out _; (with_reducible repeat (first | refine blk_drewN ?_ _ | refine blk_drew ?_ | refine blk_alloc ?_ _)); refine blk_far ?_ NB581_582.out _; (with_reducible repeat (first | refine blk_drewN ?_ _ | refine blk_drew ?_ | refine blk_alloc ?_ _)); refine blk_far ?_ NB581_582.out _; (with_reducible repeat (first | refine blk_drewN ?_ _ | refine blk_drew ?_ | refine blk_alloc ?_ _)); refine blk_put (cs := #[.int .u64 a1_0, .int .u64 a1_1, .int .u64 a1_2, .int .u64 a1_3, .int .i64 a1_4, .int .i64 0]) ?_ 5 _ rfl; (with_reducible repeat (first | refine blk_drewN ?_ _ | refine blk_drew ?_ | refine blk_alloc ?_ _)); refine blk_put (cs := #[.int .u64 a1_0, .int .u64 a1_1, .int .u64 a1_2, .int .u64 a1_3, .int .i64 0, .int .i64 0]) ?_ 4 _ rfl; (with_reducible repeat (first | refine blk_drewN ?_ _ | refine blk_drew ?_ | refine blk_alloc ?_ _)); refine blk_put (cs := #[.int .u64 a1_0, .int .u64 a1_1, .int .u64 a1_2, .int .u64 0, .int .i64 0, .int .i64 0]) ?_ 3 _ rfl; (with_reducible repeat (first | refine blk_drewN ?_ _ | refine blk_drew ?_ | refine blk_alloc ?_ _)); refine blk_put (cs := #[.int .u64 a1_0, .int .u64 a1_1, .int .u64 0, .int .u64 0, .int .i64 0, .int .i64 0]) ?_ 2 _ rfl; (with_reducible repeat (first | refine blk_drewN ?_ _ | refine blk_drew ?_ | refine blk_alloc ?_ _)); refine blk_put (cs := #[.int .u64 a1_0, .int .u64 0, .int .u64 0, .int .u64 0, .int .i64 0, .int .i64 0]) ?_ 1 _ rfl; (with_reducible repeat (first | refine blk_drewN ?_ _ | refine blk_drew ?_ | refine blk_alloc ?_ _)); refine blk_put (cs := #[.int .u64 0, .int .u64 0, .int .u64 0, .int .u64 0, .int .i64 0, .int .i64 0]) ?_ 0 _ rfl; exact bfL BK581.out⟩
      have n2_ : Aside0 (((((((((((((w12.setCell ⟨gb581, 0, none⟩ (.int .u64 a1_0)).setCell ⟨gb581, 1, none⟩ (.int .u64 a1_1)).setCell ⟨gb581, 2, none⟩ (.int .u64 a1_2)).setCell ⟨gb581, 3, none⟩ (.int .u64 a1_3)).setCell ⟨gb581, 4, none⟩ (.int .i64 a1_4)).setCell ⟨gb581, 5, none⟩ (.int .i64 a1_5)).setCell ⟨gb582, 0, none⟩ (.int .u64 a1_6)).setCell ⟨gb582, 1, none⟩ (.int .u64 a1_7)).setCell ⟨gb582, 2, none⟩ (.int .u64 a1_8)).setCell ⟨gb582, 3, none⟩ (.int .u64 a1_9)).setCell ⟨gb582, 4, none⟩ (.int .i64 a1_10)).setCell ⟨gb582, 5, none⟩ (.int .i64 a1_11)).heap[gb582]? = some (.cells #[.int .u64 a1_6, .int .u64 a1_7, .int .u64 a1_8, .int .u64 a1_9, .int .i64 a1_10, .int .i64 a1_11] 50 (0, 0))) := ⟨by (with_reducible repeat (first | refine blk_drewN ?_ _ | refine blk_drew ?_ | refine blk_alloc ?_ _)); refine blk_put (cs := #[.int .u64 a1_6, .int .u64 a1_7, .int .u64 a1_8, .int .u64 a1_9, .int .i64 a1_10, .int .i64 0]) ?_ 5 _ rfl; (with_reducible repeat (first | refine blk_drewN ?_ _ | refine blk_drew ?_ | refine blk_alloc ?_ _)); refine blk_put (cs := #[.int .u64 a1_6, .int .u64 a1_7, .int .u64 a1_8, .int .u64 a1_9, .int .i64 0, .int .i64 0]) ?_ 4 _ rfl; (with_reducible repeat (first | refine blk_drewN ?_ _ | refine blk_drew ?_ | refine blk_alloc ?_ _)); refine blk_put (cs := #[.int .u64 a1_6, .int .u64 a1_7, .int .u64 a1_8, .int .u64 0, .int .i64 0, .int .i64 0]) ?_ 3 _ rfl; (with_reducible repeat (first | refine blk_drewN ?_ _ | refine blk_drew ?_ | refine blk_alloc ?_ _)); refine blk_put (cs := #[.int .u64 a1_6, .int .u64 a1_7, .int .u64 0, .int .u64 0, .int .i64 0, .int .i64 0]) ?_ 2 _ rfl; (with_reducible repeat (first | refine blk_drewN ?_ _ | refine blk_drew ?_ | refine blk_alloc ?_ _)); refine blk_put (cs := #[.int .u64 a1_6, .int .u64 0, .int .u64 0, .int .u64 0, .int .i64 0, .int .i64 0]) ?_ 1 _ rfl; (with_reducible repeat (first | refine blk_drewN ?_ _ | refine blk_drew ?_ | refine blk_alloc ?_ _)); refine blk_put (cs := #[.int .u64 0, .int .u64 0, .int .u64 0, .int .u64 0, .int .i64 0, .int .i64 0]) ?_ 0 _ rfl; exact bfL BK582.out⟩
      have n3_ : Aside0 (Below w.heap.size w ((((((((((((w12.setCell ⟨gb581, 0, none⟩ (.int .u64 a1_0)).setCell ⟨gb581, 1, none⟩ (.int .u64 a1_1)).setCell ⟨gb581, 2, none⟩ (.int .u64 a1_2)).setCell ⟨gb581, 3, none⟩ (.int .u64 a1_3)).setCell ⟨gb581, 4, none⟩ (.int .i64 a1_4)).setCell ⟨gb581, 5, none⟩ (.int .i64 a1_5)).setCell ⟨gb582, 0, none⟩ (.int .u64 a1_6)).setCell ⟨gb582, 1, none⟩ (.int .u64 a1_7)).setCell ⟨gb582, 2, none⟩ (.int .u64 a1_8)).setCell ⟨gb582, 3, none⟩ (.int .u64 a1_9)).setCell ⟨gb582, 4, none⟩ (.int .i64 a1_10)).setCell ⟨gb582, 5, none⟩ (.int .i64 a1_11))) := ⟨bsL HB.out⟩
      (try clear BK579)
      (try clear BK581)
      (try clear BK582)
      (try clear HB)
      generalize ((((((((((((w12.setCell ⟨gb581, 0, none⟩ (.int .u64 a1_0)).setCell ⟨gb581, 1, none⟩ (.int .u64 a1_1)).setCell ⟨gb581, 2, none⟩ (.int .u64 a1_2)).setCell ⟨gb581, 3, none⟩ (.int .u64 a1_3)).setCell ⟨gb581, 4, none⟩ (.int .i64 a1_4)).setCell ⟨gb581, 5, none⟩ (.int .i64 a1_5)).setCell ⟨gb582, 0, none⟩ (.int .u64 a1_6)).setCell ⟨gb582, 1, none⟩ (.int .u64 a1_7)).setCell ⟨gb582, 2, none⟩ (.int .u64 a1_8)).setCell ⟨gb582, 3, none⟩ (.int .u64 a1_9)).setCell ⟨gb582, 4, none⟩ (.int .i64 a1_10)).setCell ⟨gb582, 5, none⟩ (.int .i64 a1_11)) = w44 at n0_ n1_ n2_ n3_ ⊢
      have BK579 := n0_
      have BK581 := n1_
      have BK582 := n2_
      have HB := n3_
      clear n0_ n1_ n2_ n3_
      replace BK579 := Aside0.mk (blk_drew BK579.out)
      replace BK581 := Aside0.mk (blk_drew BK581.out)
      replace BK582 := Aside0.mk (blk_drew BK582.out)
      replace HB := Aside0.mk (below_drew1 HB.out)
      refine start_ (n := 52) (S := fun w' => w'.cell? ⟨gb581, 0, none⟩ = some (.int .u64 a1_0) ∧ w'.cell? ⟨gb581, 1, none⟩ = some (.int .u64 a1_1) ∧ w'.cell? ⟨gb581, 2, none⟩ = some (.int .u64 a1_2) ∧ w'.cell? ⟨gb581, 3, none⟩ = some (.int .u64 a1_3) ∧ w'.cell? ⟨gb581, 4, none⟩ = some (.int .i64 a1_4) ∧ w'.cell? ⟨gb581, 5, none⟩ = some (.int .i64 a1_5)) (ds := []) (bA 52 0) (by kernel_rfl) rfl rfl (by repeat' (first | apply And.intro | exact (blk_cell BK581.out _).trans rfl)) (fun hHeld => ?_); refine with_tabW jacquardlaw14_FactsElements.tab4 jacquardlaw14_FactsElements.bits4 (fun HT_ HW_ => ?_)
      generalize w44.drew = w45 at BK579 BK581 BK582 HB hHeld ⊢
      refine pureA HT_ (i := 0) (N := some 21) (bA 52 1) ?_
      refine pureA HT_ (i := 2) (N := some 23) (bA 52 5) ?_
      refine one_ (i := 1) (N := some 22) (bA 52 7) rfl rfl (one_of HT_.out (by kernel_rfl)) (by decide) (fun K hK => ?_)
      refine gO Try.func30 #[.int .i64 a0] ?_
      with_reducible refine (facts_Top.calls a0 t583 t584 t585 t586 t587 t588 _ A25.out).mono ?_
      rintro e w46 ⟨rfl, hb⟩
      refine ⟨_, rfl, ?_⟩
      replace BK579 := bkB BK579.out hb
      replace BK581 := bkB BK581.out hb
      replace BK582 := bkB BK582.out hb
      replace HB := bsB HB.out hb
      (try clear hb)
      refine hK.out _ _ (by repeat' (first | apply And.intro | exact (blk_cell BK581.out _).trans rfl)) (fun hHeld => ?_)
      clear hK K
      refine normA (some 22) ?_
      refine one_ (i := 3) (N := some 24) (bA 52 15) rfl rfl (one_of HT_.out (by kernel_rfl)) (by decide) (fun K hK => ?_)
      refine gO Try.func31 #[.int .i64 a0] ?_
      with_reducible refine (jacquardref14_Top.calls k a0 t589 t590 t591 t592 t593 t594 _ A26.out).mono ?_
      rintro e w47 ⟨rfl, hb⟩
      refine ⟨_, rfl, ?_⟩
      replace BK579 := bkB BK579.out hb
      replace BK581 := bkB BK581.out hb
      replace BK582 := bkB BK582.out hb
      replace HB := bsB HB.out hb
      (try clear hb)
      refine hK.out _ _ (by repeat' (first | apply And.intro | exact (blk_cell BK581.out _).trans rfl)) (fun hHeld => ?_)
      clear hK K
      refine normA (some 24) ?_
      refine pureA HT_ (i := 4) (N := some 25) (bA 52 31) ?_
      refine pureA HT_ (i := 5) (N := some 26) (bA 52 63) ?_
      refine pureA HT_ (i := 6) (N := some 27) (bA 52 127) ?_
      refine pureA HT_ (i := 7) (N := some 28) (bA 52 255) ?_
      refine pureA HT_ (i := 9) (N := some 30) (bA 52 767) ?_
      refine pureA HT_ (i := 10) (N := some 31) (bA 52 1791) ?_
      refine one_ (i := 8) (N := some 29) (bA 52 2047) rfl rfl (one_of HT_.out (by kernel_rfl)) (by decide) (fun K hK => ?_)
      refine gO Try.func32 #[.int .i64 a0, .int .u64 a2] ?_
      with_reducible refine (facts_Of.calls a0 a2 t595 t596 t597 t598 t599 t600 _ A32.out).mono ?_
      rintro e w48 ⟨rfl, hb⟩
      refine ⟨_, rfl, ?_⟩
      replace BK579 := bkB BK579.out hb
      replace BK581 := bkB BK581.out hb
      replace BK582 := bkB BK582.out hb
      replace HB := bsB HB.out hb
      (try clear hb)
      refine hK.out _ _ (by repeat' (first | apply And.intro | exact (blk_cell BK581.out _).trans rfl)) (fun hHeld => ?_)
      clear hK K
      refine normA (some 29) ?_
      refine one_ (i := 11) (N := some 32) (bA 52 4095) rfl rfl (one_of HT_.out (by kernel_rfl)) (by decide) (fun K hK => ?_)
      refine gO Try.func33 #[.int .i64 a0, .int .u64 a2] ?_
      with_reducible refine (jacquardref14_Of.calls k a0 a2 t601 t602 t603 t604 t605 t606 _ A33.out).mono ?_
      rintro e w49 ⟨rfl, hb⟩
      refine ⟨_, rfl, ?_⟩
      replace BK579 := bkB BK579.out hb
      replace BK581 := bkB BK581.out hb
      replace BK582 := bkB BK582.out hb
      replace HB := bsB HB.out hb
      (try clear hb)
      refine hK.out _ _ (by repeat' (first | apply And.intro | exact (blk_cell BK581.out _).trans rfl)) (fun hHeld => ?_)
      clear hK K
      refine normA (some 32) ?_
      refine pureA HT_ (i := 12) (N := some 33) (bA 52 8191) ?_
      refine pureA HT_ (i := 13) (N := some 34) (bA 52 16383) ?_
      refine pureA HT_ (i := 14) (N := some 35) (bA 52 32767) ?_
      refine pureA HT_ (i := 15) (N := some 36) (bA 52 65535) ?_
      refine pureA HT_ (i := 18) (N := some 39) (bA 52 327679) ?_
      refine takeA HT_ HW_ hHeld (i := 16) (N := some 37) (bA 52 393215) ?_ (hy := by rintro w' ⟨s0, s1, s2, s3, s4, s5⟩; go_simp; with_reducible rfl)
      refine takeA HT_ HW_ hHeld (i := 19) (N := some 40) (bA 52 917503) ?_ (hy := by rintro w' ⟨s0, s1, s2, s3, s4, s5⟩; go_simp; with_reducible rfl)
      refine one_ (i := 17) (N := some 38) (bA 52 1048575) rfl rfl (one_of HT_.out (by kernel_rfl)) (by decide) (fun K hK => ?_)
      refine gO Try.func34 #[.int .i64 a0, .agg #[.int .u64 a1_0, .int .u64 a1_1, .int .u64 a1_2, .int .u64 a1_3, .int .i64 a1_4, .int .i64 a1_5]] ?_
      with_reducible refine (facts_Valid.calls a0 a1_0 a1_1 a1_2 a1_3 a1_4 a1_5 t607 _ A41.out).mono ?_
      rintro e w50 ⟨rfl, hb⟩
      refine ⟨_, rfl, ?_⟩
      replace BK579 := bkB BK579.out hb
      replace BK581 := bkB BK581.out hb
      replace BK582 := bkB BK582.out hb
      replace HB := bsB HB.out hb
      (try clear hb)
      refine hK.out _ _ (by repeat' (first | apply And.intro | exact (blk_cell BK581.out _).trans rfl)) (fun hHeld => ?_)
      clear hK K
      refine normA (some 38) ?_
      refine one_ (i := 20) (N := some 41) (bA 52 2097151) rfl rfl (one_of HT_.out (by kernel_rfl)) (by decide) (fun K hK => ?_)
      refine gO Try.func27 #[.int .i64 a0, .agg #[.int .u64 a1_0, .int .u64 a1_1, .int .u64 a1_2, .int .u64 a1_3, .int .i64 a1_4, .int .i64 a1_5]] ?_
      with_reducible refine (jacquardref14_Valid.calls k a0 a1_0 a1_1 a1_2 a1_3 a1_4 a1_5 t608 _ A42.out).mono ?_
      rintro e w51 ⟨rfl, hb⟩
      refine ⟨_, rfl, ?_⟩
      replace BK579 := bkB BK579.out hb
      replace BK581 := bkB BK581.out hb
      replace BK582 := bkB BK582.out hb
      replace HB := bsB HB.out hb
      (try clear hb)
      refine hK.out _ _ (by repeat' (first | apply And.intro | exact (blk_cell BK581.out _).trans rfl)) (fun hHeld => ?_)
      clear hK K
      refine normA (some 41) ?_
      refine pureA HT_ (i := 21) (N := some 42) (bA 52 4194303) ?_
      refine pureA HT_ (i := 22) (N := some 43) (bA 52 8388607) ?_
      refine pureA HT_ (i := 23) (N := some 44) (bA 52 16777215) ?_
      refine pureU HT_ (i := 24) (N := some 45) (bA 52 33554431) ?_
      refine pureU HT_ (i := 25) (N := some 46) (bA 52 67108863) ?_
      refine pureU HT_ (i := 26) (N := some 47) (bA 52 134217727) ?_
      refine pureU HT_ (i := 27) (N := some 48) (bA 52 268435455) ?_
      refine pureU HT_ (i := 28) (N := some 49) (bA 52 536870911) ?_
      refine pureU HT_ (i := 29) (N := some 50) (bA 52 1073741823) ?_
      refine pureU HT_ (i := 30) (N := some 51) (bA 52 2147483647) ?_
      refine pureU HT_ (i := 31) (N := some 52) (bA 52 4294967295) ?_
      refine pureU HT_ (i := 32) (N := some 53) (bA 52 8589934591) ?_
      refine pureA HT_ (i := 33) (N := some 54) (bA 52 17179869183) ?_
      refine pureA HT_ (i := 34) (N := some 55) (bA 52 34359738367) ?_
      refine pureU HT_ (i := 35) (N := some 56) (bA 52 68719476735) ?_
      refine pureU HT_ (i := 36) (N := some 57) (bA 52 137438953471) ?_
      refine pureU HT_ (i := 37) (N := some 58) (bA 52 274877906943) ?_
      refine pureU HT_ (i := 38) (N := some 59) (bA 52 549755813887) ?_
      refine pureU HT_ (i := 39) (N := some 60) (bA 52 1099511627775) ?_
      refine pureU HT_ (i := 40) (N := some 61) (bA 52 2199023255551) ?_
      refine pureU HT_ (i := 41) (N := some 62) (bA 52 4398046511103) ?_
      refine pureA HT_ (i := 42) (N := some 63) (bA 52 8796093022207) ?_
      refine pureA HT_ (i := 43) (N := some 64) (bA 52 17592186044415) ?_
      refine pureU HT_ (i := 44) (N := some 65) (bA 52 35184372088831) ?_
      refine pureU HT_ (i := 45) (N := some 66) (bA 52 70368744177663) ?_
      refine pureU HT_ (i := 46) (N := some 67) (bA 52 140737488355327) ?_
      refine pureU HT_ (i := 47) (N := some 68) (bA 52 281474976710655) ?_
      refine pureU HT_ (i := 48) (N := some 69) (bA 52 562949953421311) ?_
      refine pureU HT_ (i := 49) (N := some 70) (bA 52 1125899906842623) ?_
      refine pureU HT_ (i := 50) (N := some 71) (bA 52 2251799813685247) ?_
      refine pureA HT_ (i := 51) (N := some 72) (bA 52 4503599627370495) ?_
      refine done_ (done_of HT_.out (by kernel_rfl)) ?_
      try go_wp2
      go_meet
      case rel => exact ⟨_, (true), (by first | rfl | (simp; done) | (simp [*]; done)), H', ⟨by first | omega | exact Nat.le_refl _⟩, ⟨bkL BK579.out⟩, ⟨bkL BK581.out⟩, ⟨bkL BK582.out⟩, ⟨bsL HB.out⟩⟩
     ·
      rw [if_neg c43] at H
      have c43b0 : (t607 != t608) = false := by simpa using c43
      (try (have c43b1 : decide (t607 = t608) = true := by simpa using c43))
      (try (have c43b2 : (t607 == t608) = true := by simpa using c43))
      clear c43
      replace H := Option.bind_eq_some_iff.mp H
      obtain ⟨t609, A520, H⟩ := H
      try dsimp only at H
      have A52 := Aside0.mk A520
      clear A520
      replace H := Option.bind_eq_some_iff.mp H
      obtain ⟨t610, A530, H⟩ := H
      try dsimp only at H
      have A53 := Aside0.mk A530
      clear A530
      by_cases c54 : (t609 != t610) = true
      ·
       rw [if_pos c54] at H
       have c54b0 : (t609 != t610) = true := c54
       (try (have c54b1 : decide (t609 = t610) = false := by simpa using c54))
       (try (have c54b2 : (t609 == t610) = false := by simpa using c54))
       (try (have c54b3 : ¬ (t609 = t610) := by simpa using c54))
       clear c54
       have H' := Aside0.mk H
       clear H
       try go_wp2
       have n0_ : Aside0 (((((((((((((w12.setCell ⟨gb581, 0, none⟩ (.int .u64 a1_0)).setCell ⟨gb581, 1, none⟩ (.int .u64 a1_1)).setCell ⟨gb581, 2, none⟩ (.int .u64 a1_2)).setCell ⟨gb581, 3, none⟩ (.int .u64 a1_3)).setCell ⟨gb581, 4, none⟩ (.int .i64 a1_4)).setCell ⟨gb581, 5, none⟩ (.int .i64 a1_5)).setCell ⟨gb582, 0, none⟩ (.int .u64 a1_6)).setCell ⟨gb582, 1, none⟩ (.int .u64 a1_7)).setCell ⟨gb582, 2, none⟩ (.int .u64 a1_8)).setCell ⟨gb582, 3, none⟩ (.int .u64 a1_9)).setCell ⟨gb582, 4, none⟩ (.int .i64 a1_10)).setCell ⟨gb582, 5, none⟩ (.int .i64 a1_11)).heap[gb579]? = some (.cells #[.int .u64 a1_0, .int .u64 a1_1, .int .u64 a1_2, .int .u64 a1_3, .int .i64 a1_4, .int .i64 a1_5, .int .u64 a1_6, .int .u64 a1_7, .int .u64 a1_8, .int .u64 a1_9, .int .i64 a1_10, .int .i64 a1_11] 56 (0, 0))) := ⟨by exact bfL BK579.out⟩
       have n1_ : Aside0 (((((((((((((w12.setCell ⟨gb581, 0, none⟩ (.int .u64 a1_0)).setCell ⟨gb581, 1, none⟩ (.int .u64 a1_1)).setCell ⟨gb581, 2, none⟩ (.int .u64 a1_2)).setCell ⟨gb581, 3, none⟩ (.int .u64 a1_3)).setCell ⟨gb581, 4, none⟩ (.int .i64 a1_4)).setCell ⟨gb581, 5, none⟩ (.int .i64 a1_5)).setCell ⟨gb582, 0, none⟩ (.int .u64 a1_6)).setCell ⟨gb582, 1, none⟩ (.int .u64 a1_7)).setCell ⟨gb582, 2, none⟩ (.int .u64 a1_8)).setCell ⟨gb582, 3, none⟩ (.int .u64 a1_9)).setCell ⟨gb582, 4, none⟩ (.int .i64 a1_10)).setCell ⟨gb582, 5, none⟩ (.int .i64 a1_11)).heap[gb581]? = some (.cells #[.int .u64 a1_0, .int .u64 a1_1, .int .u64 a1_2, .int .u64 a1_3, .int .i64 a1_4, .int .i64 a1_5] 50 (0, 0))) := ⟨by (with_reducible repeat (first | refine blk_drewN ?_ _ | refine blk_drew ?_ | refine blk_alloc ?_ _)); refine blk_far ?_ NB581_582.out _; (with_reducible repeat (first | refine blk_drewN ?_ _ | refine blk_drew ?_ | refine blk_alloc ?_ _)); refine blk_far ?_ NB581_582.out _; (with_reducible repeat (first | refine blk_drewN ?_ _ | refine blk_drew ?_ | refine blk_alloc ?_ _)); refine blk_far ?_ NB581_582.out _; (with_reducible repeat (first | refine blk_drewN ?_ _ | refine blk_drew ?_ | refine blk_alloc ?_ _)); refine blk_far ?_ NB581_582.out _; (with_reducible repeat (first | refine blk_drewN ?_ _ | refine blk_drew ?_ | refine blk_alloc ?_ _)); refine blk_far ?_ NB581_582.out _; (with_reducible repeat (first | refine blk_drewN ?_ _ | refine blk_drew ?_ | refine blk_alloc ?_ _)); refine blk_far ?_ NB581_582.out _; (with_reducible repeat (first | refine blk_drewN ?_ _ | refine blk_drew ?_ | refine blk_alloc ?_ _)); refine blk_put (cs := #[.int .u64 a1_0, .int .u64 a1_1, .int .u64 a1_2, .int .u64 a1_3, .int .i64 a1_4, .int .i64 0]) ?_ 5 _ rfl; (with_reducible repeat (first | refine blk_drewN ?_ _ | refine blk_drew ?_ | refine blk_alloc ?_ _)); refine blk_put (cs := #[.int .u64 a1_0, .int .u64 a1_1, .int .u64 a1_2, .int .u64 a1_3, .int .i64 0, .int .i64 0]) ?_ 4 _ rfl; (with_reducible repeat (first | refine blk_drewN ?_ _ | refine blk_drew ?_ | refine blk_alloc ?_ _)); refine blk_put (cs := #[.int .u64 a1_0, .int .u64 a1_1, .int .u64 a1_2, .int .u64 0, .int .i64 0, .int .i64 0]) ?_ 3 _ rfl; (with_reducible repeat (first | refine blk_drewN ?_ _ | refine blk_drew ?_ | refine blk_alloc ?_ _)); refine blk_put (cs := #[.int .u64 a1_0, .int .u64 a1_1, .int .u64 0, .int .u64 0, .int .i64 0, .int .i64 0]) ?_ 2 _ rfl; (with_reducible repeat (first | refine blk_drewN ?_ _ | refine blk_drew ?_ | refine blk_alloc ?_ _)); refine blk_put (cs := #[.int .u64 a1_0, .int .u64 0, .int .u64 0, .int .u64 0, .int .i64 0, .int .i64 0]) ?_ 1 _ rfl; (with_reducible repeat (first | refine blk_drewN ?_ _ | refine blk_drew ?_ | refine blk_alloc ?_ _)); refine blk_put (cs := #[.int .u64 0, .int .u64 0, .int .u64 0, .int .u64 0, .int .i64 0, .int .i64 0]) ?_ 0 _ rfl; exact bfL BK581.out⟩
       have n2_ : Aside0 (((((((((((((w12.setCell ⟨gb581, 0, none⟩ (.int .u64 a1_0)).setCell ⟨gb581, 1, none⟩ (.int .u64 a1_1)).setCell ⟨gb581, 2, none⟩ (.int .u64 a1_2)).setCell ⟨gb581, 3, none⟩ (.int .u64 a1_3)).setCell ⟨gb581, 4, none⟩ (.int .i64 a1_4)).setCell ⟨gb581, 5, none⟩ (.int .i64 a1_5)).setCell ⟨gb582, 0, none⟩ (.int .u64 a1_6)).setCell ⟨gb582, 1, none⟩ (.int .u64 a1_7)).setCell ⟨gb582, 2, none⟩ (.int .u64 a1_8)).setCell ⟨gb582, 3, none⟩ (.int .u64 a1_9)).setCell ⟨gb582, 4, none⟩ (.int .i64 a1_10)).setCell ⟨gb582, 5, none⟩ (.int .i64 a1_11)).heap[gb582]? = some (.cells #[.int .u64 a1_6, .int .u64 a1_7, .int .u64 a1_8, .int .u64 a1_9, .int .i64 a1_10, .int .i64 a1_11] 50 (0, 0))) := ⟨by (with_reducible repeat (first | refine blk_drewN ?_ _ | refine blk_drew ?_ | refine blk_alloc ?_ _)); refine blk_put (cs := #[.int .u64 a1_6, .int .u64 a1_7, .int .u64 a1_8, .int .u64 a1_9, .int .i64 a1_10, .int .i64 0]) ?_ 5 _ rfl; (with_reducible repeat (first | refine blk_drewN ?_ _ | refine blk_drew ?_ | refine blk_alloc ?_ _)); refine blk_put (cs := #[.int .u64 a1_6, .int .u64 a1_7, .int .u64 a1_8, .int .u64 a1_9, .int .i64 0, .int .i64 0]) ?_ 4 _ rfl; (with_reducible repeat (first | refine blk_drewN ?_ _ | refine blk_drew ?_ | refine blk_alloc ?_ _)); refine blk_put (cs := #[.int .u64 a1_6, .int .u64 a1_7, .int .u64 a1_8, .int .u64 0, .int .i64 0, .int .i64 0]) ?_ 3 _ rfl; (with_reducible repeat (first | refine blk_drewN ?_ _ | refine blk_drew ?_ | refine blk_alloc ?_ _)); refine blk_put (cs := #[.int .u64 a1_6, .int .u64 a1_7, .int .u64 0, .int .u64 0, .int .i64 0, .int .i64 0]) ?_ 2 _ rfl; (with_reducible repeat (first | refine blk_drewN ?_ _ | refine blk_drew ?_ | refine blk_alloc ?_ _)); refine blk_put (cs := #[.int .u64 a1_6, .int .u64 0, .int .u64 0, .int .u64 0, .int .i64 0, .int .i64 0]) ?_ 1 _ rfl; (with_reducible repeat (first | refine blk_drewN ?_ _ | refine blk_drew ?_ | refine blk_alloc ?_ _)); refine blk_put (cs := #[.int .u64 0, .int .u64 0, .int .u64 0, .int .u64 0, .int .i64 0, .int .i64 0]) ?_ 0 _ rfl; exact bfL BK582.out⟩
       have n3_ : Aside0 (Below w.heap.size w ((((((((((((w12.setCell ⟨gb581, 0, none⟩ (.int .u64 a1_0)).setCell ⟨gb581, 1, none⟩ (.int .u64 a1_1)).setCell ⟨gb581, 2, none⟩ (.int .u64 a1_2)).setCell ⟨gb581, 3, none⟩ (.int .u64 a1_3)).setCell ⟨gb581, 4, none⟩ (.int .i64 a1_4)).setCell ⟨gb581, 5, none⟩ (.int .i64 a1_5)).setCell ⟨gb582, 0, none⟩ (.int .u64 a1_6)).setCell ⟨gb582, 1, none⟩ (.int .u64 a1_7)).setCell ⟨gb582, 2, none⟩ (.int .u64 a1_8)).setCell ⟨gb582, 3, none⟩ (.int .u64 a1_9)).setCell ⟨gb582, 4, none⟩ (.int .i64 a1_10)).setCell ⟨gb582, 5, none⟩ (.int .i64 a1_11))) := ⟨bsL HB.out⟩
       (try clear BK579)
       (try clear BK581)
       (try clear BK582)
       (try clear HB)
       generalize ((((((((((((w12.setCell ⟨gb581, 0, none⟩ (.int .u64 a1_0)).setCell ⟨gb581, 1, none⟩ (.int .u64 a1_1)).setCell ⟨gb581, 2, none⟩ (.int .u64 a1_2)).setCell ⟨gb581, 3, none⟩ (.int .u64 a1_3)).setCell ⟨gb581, 4, none⟩ (.int .i64 a1_4)).setCell ⟨gb581, 5, none⟩ (.int .i64 a1_5)).setCell ⟨gb582, 0, none⟩ (.int .u64 a1_6)).setCell ⟨gb582, 1, none⟩ (.int .u64 a1_7)).setCell ⟨gb582, 2, none⟩ (.int .u64 a1_8)).setCell ⟨gb582, 3, none⟩ (.int .u64 a1_9)).setCell ⟨gb582, 4, none⟩ (.int .i64 a1_10)).setCell ⟨gb582, 5, none⟩ (.int .i64 a1_11)) = w55 at n0_ n1_ n2_ n3_ ⊢
       have BK579 := n0_
       have BK581 := n1_
       have BK582 := n2_
       have HB := n3_
       clear n0_ n1_ n2_ n3_
       replace BK579 := Aside0.mk (blk_drew BK579.out)
       replace BK581 := Aside0.mk (blk_drew BK581.out)
       replace BK582 := Aside0.mk (blk_drew BK582.out)
       replace HB := Aside0.mk (below_drew1 HB.out)
       refine start_ (n := 52) (S := fun w' => w'.cell? ⟨gb581, 0, none⟩ = some (.int .u64 a1_0) ∧ w'.cell? ⟨gb581, 1, none⟩ = some (.int .u64 a1_1) ∧ w'.cell? ⟨gb581, 2, none⟩ = some (.int .u64 a1_2) ∧ w'.cell? ⟨gb581, 3, none⟩ = some (.int .u64 a1_3) ∧ w'.cell? ⟨gb581, 4, none⟩ = some (.int .i64 a1_4) ∧ w'.cell? ⟨gb581, 5, none⟩ = some (.int .i64 a1_5)) (ds := []) (bA 52 0) (by kernel_rfl) rfl rfl (by repeat' (first | apply And.intro | exact (blk_cell BK581.out _).trans rfl)) (fun hHeld => ?_); refine with_tabW jacquardlaw14_FactsElements.tab4 jacquardlaw14_FactsElements.bits4 (fun HT_ HW_ => ?_)
       generalize w55.drew = w56 at BK579 BK581 BK582 HB hHeld ⊢
       refine pureA HT_ (i := 0) (N := some 21) (bA 52 1) ?_
       refine pureA HT_ (i := 2) (N := some 23) (bA 52 5) ?_
       refine one_ (i := 1) (N := some 22) (bA 52 7) rfl rfl (one_of HT_.out (by kernel_rfl)) (by decide) (fun K hK => ?_)
       refine gO Try.func30 #[.int .i64 a0] ?_
       with_reducible refine (facts_Top.calls a0 t583 t584 t585 t586 t587 t588 _ A25.out).mono ?_
       rintro e w57 ⟨rfl, hb⟩
       refine ⟨_, rfl, ?_⟩
       replace BK579 := bkB BK579.out hb
       replace BK581 := bkB BK581.out hb
       replace BK582 := bkB BK582.out hb
       replace HB := bsB HB.out hb
       (try clear hb)
       refine hK.out _ _ (by repeat' (first | apply And.intro | exact (blk_cell BK581.out _).trans rfl)) (fun hHeld => ?_)
       clear hK K
       refine normA (some 22) ?_
       refine one_ (i := 3) (N := some 24) (bA 52 15) rfl rfl (one_of HT_.out (by kernel_rfl)) (by decide) (fun K hK => ?_)
       refine gO Try.func31 #[.int .i64 a0] ?_
       with_reducible refine (jacquardref14_Top.calls k a0 t589 t590 t591 t592 t593 t594 _ A26.out).mono ?_
       rintro e w58 ⟨rfl, hb⟩
       refine ⟨_, rfl, ?_⟩
       replace BK579 := bkB BK579.out hb
       replace BK581 := bkB BK581.out hb
       replace BK582 := bkB BK582.out hb
       replace HB := bsB HB.out hb
       (try clear hb)
       refine hK.out _ _ (by repeat' (first | apply And.intro | exact (blk_cell BK581.out _).trans rfl)) (fun hHeld => ?_)
       clear hK K
       refine normA (some 24) ?_
       refine pureA HT_ (i := 4) (N := some 25) (bA 52 31) ?_
       refine pureA HT_ (i := 5) (N := some 26) (bA 52 63) ?_
       refine pureA HT_ (i := 6) (N := some 27) (bA 52 127) ?_
       refine pureA HT_ (i := 7) (N := some 28) (bA 52 255) ?_
       refine pureA HT_ (i := 9) (N := some 30) (bA 52 767) ?_
       refine pureA HT_ (i := 10) (N := some 31) (bA 52 1791) ?_
       refine one_ (i := 8) (N := some 29) (bA 52 2047) rfl rfl (one_of HT_.out (by kernel_rfl)) (by decide) (fun K hK => ?_)
       refine gO Try.func32 #[.int .i64 a0, .int .u64 a2] ?_
       with_reducible refine (facts_Of.calls a0 a2 t595 t596 t597 t598 t599 t600 _ A32.out).mono ?_
       rintro e w59 ⟨rfl, hb⟩
       refine ⟨_, rfl, ?_⟩
       replace BK579 := bkB BK579.out hb
       replace BK581 := bkB BK581.out hb
       replace BK582 := bkB BK582.out hb
       replace HB := bsB HB.out hb
       (try clear hb)
       refine hK.out _ _ (by repeat' (first | apply And.intro | exact (blk_cell BK581.out _).trans rfl)) (fun hHeld => ?_)
       clear hK K
       refine normA (some 29) ?_
       refine one_ (i := 11) (N := some 32) (bA 52 4095) rfl rfl (one_of HT_.out (by kernel_rfl)) (by decide) (fun K hK => ?_)
       refine gO Try.func33 #[.int .i64 a0, .int .u64 a2] ?_
       with_reducible refine (jacquardref14_Of.calls k a0 a2 t601 t602 t603 t604 t605 t606 _ A33.out).mono ?_
       rintro e w60 ⟨rfl, hb⟩
       refine ⟨_, rfl, ?_⟩
       replace BK579 := bkB BK579.out hb
       replace BK581 := bkB BK581.out hb
       replace BK582 := bkB BK582.out hb
       replace HB := bsB HB.out hb
       (try clear hb)
       refine hK.out _ _ (by repeat' (first | apply And.intro | exact (blk_cell BK581.out _).trans rfl)) (fun hHeld => ?_)
       clear hK K
       refine normA (some 32) ?_
       refine pureA HT_ (i := 12) (N := some 33) (bA 52 8191) ?_
       refine pureA HT_ (i := 13) (N := some 34) (bA 52 16383) ?_
       refine pureA HT_ (i := 14) (N := some 35) (bA 52 32767) ?_
       refine pureA HT_ (i := 15) (N := some 36) (bA 52 65535) ?_
       refine pureA HT_ (i := 18) (N := some 39) (bA 52 327679) ?_
       refine takeA HT_ HW_ hHeld (i := 16) (N := some 37) (bA 52 393215) ?_ (hy := by rintro w' ⟨s0, s1, s2, s3, s4, s5⟩; go_simp; with_reducible rfl)
       refine takeA HT_ HW_ hHeld (i := 19) (N := some 40) (bA 52 917503) ?_ (hy := by rintro w' ⟨s0, s1, s2, s3, s4, s5⟩; go_simp; with_reducible rfl)
       refine one_ (i := 17) (N := some 38) (bA 52 1048575) rfl rfl (one_of HT_.out (by kernel_rfl)) (by decide) (fun K hK => ?_)
       refine gO Try.func34 #[.int .i64 a0, .agg #[.int .u64 a1_0, .int .u64 a1_1, .int .u64 a1_2, .int .u64 a1_3, .int .i64 a1_4, .int .i64 a1_5]] ?_
       with_reducible refine (facts_Valid.calls a0 a1_0 a1_1 a1_2 a1_3 a1_4 a1_5 t607 _ A41.out).mono ?_
       rintro e w61 ⟨rfl, hb⟩
       refine ⟨_, rfl, ?_⟩
       replace BK579 := bkB BK579.out hb
       replace BK581 := bkB BK581.out hb
       replace BK582 := bkB BK582.out hb
       replace HB := bsB HB.out hb
       (try clear hb)
       refine hK.out _ _ (by repeat' (first | apply And.intro | exact (blk_cell BK581.out _).trans rfl)) (fun hHeld => ?_)
       clear hK K
       refine normA (some 38) ?_
       refine one_ (i := 20) (N := some 41) (bA 52 2097151) rfl rfl (one_of HT_.out (by kernel_rfl)) (by decide) (fun K hK => ?_)
       refine gO Try.func27 #[.int .i64 a0, .agg #[.int .u64 a1_0, .int .u64 a1_1, .int .u64 a1_2, .int .u64 a1_3, .int .i64 a1_4, .int .i64 a1_5]] ?_
       with_reducible refine (jacquardref14_Valid.calls k a0 a1_0 a1_1 a1_2 a1_3 a1_4 a1_5 t608 _ A42.out).mono ?_
       rintro e w62 ⟨rfl, hb⟩
       refine ⟨_, rfl, ?_⟩
       replace BK579 := bkB BK579.out hb
       replace BK581 := bkB BK581.out hb
       replace BK582 := bkB BK582.out hb
       replace HB := bsB HB.out hb
       (try clear hb)
       refine hK.out _ _ (by repeat' (first | apply And.intro | exact (blk_cell BK581.out _).trans rfl)) (fun hHeld => ?_)
       clear hK K
       refine normA (some 41) ?_
       refine pureA HT_ (i := 21) (N := some 42) (bA 52 4194303) ?_
       refine pureA HT_ (i := 22) (N := some 43) (bA 52 8388607) ?_
       refine pureA HT_ (i := 23) (N := some 44) (bA 52 16777215) ?_
       refine pureA HT_ (i := 24) (N := some 45) (bA 52 33554431) ?_
       refine pureA HT_ (i := 26) (N := some 47) (bA 52 100663295) ?_
       refine pureA HT_ (i := 28) (N := some 49) (bA 52 369098751) ?_
       refine pureA HT_ (i := 30) (N := some 51) (bA 52 1442840575) ?_
       refine takeA HT_ HW_ hHeld (i := 25) (N := some 46) (bA 52 1476395007) ?_ (hy := by rintro w' ⟨s0, s1, s2, s3, s4, s5⟩; go_simp; with_reducible rfl)
       refine takeA HT_ HW_ hHeld (i := 29) (N := some 50) (bA 52 2013265919) ?_ (hy := by rintro w' ⟨s0, s1, s2, s3, s4, s5⟩; go_simp; with_reducible rfl)
       refine one_ (i := 27) (N := some 48) (bA 52 2147483647) rfl rfl (one_of HT_.out (by kernel_rfl)) (by decide) (fun K hK => ?_)
       refine gO Try.func28 #[.int .i64 a0, .agg #[.int .u64 a1_0, .int .u64 a1_1, .int .u64 a1_2, .int .u64 a1_3, .int .i64 a1_4, .int .i64 a1_5], .int .u64 a2] ?_
       with_reducible refine (facts_Contains.calls a0 a1_0 a1_1 a1_2 a1_3 a1_4 a1_5 a2 t609 _ A52.out).mono ?_
       rintro e w63 ⟨rfl, hb⟩
       refine ⟨_, rfl, ?_⟩
       replace BK579 := bkB BK579.out hb
       replace BK581 := bkB BK581.out hb
       replace BK582 := bkB BK582.out hb
       replace HB := bsB HB.out hb
       (try clear hb)
       refine hK.out _ _ (by repeat' (first | apply And.intro | exact (blk_cell BK581.out _).trans rfl)) (fun hHeld => ?_)
       clear hK K
       refine normA (some 48) ?_
       refine one_ (i := 31) (N := some 52) (bA 52 4294967295) rfl rfl (one_of HT_.out (by kernel_rfl)) (by decide) (fun K hK => ?_)
       refine gO Try.func35 #[.int .i64 a0, .agg #[.int .u64 a1_0, .int .u64 a1_1, .int .u64 a1_2, .int .u64 a1_3, .int .i64 a1_4, .int .i64 a1_5], .int .u64 a2] ?_
       with_reducible refine (jacquardref14_Contains.calls k a0 a1_0 a1_1 a1_2 a1_3 a1_4 a1_5 a2 t610 _ A53.out).mono ?_
       rintro e w64 ⟨rfl, hb⟩
       refine ⟨_, rfl, ?_⟩
       replace BK579 := bkB BK579.out hb
       replace BK581 := bkB BK581.out hb
       replace BK582 := bkB BK582.out hb
       replace HB := bsB HB.out hb
       (try clear hb)
       refine hK.out _ _ (by repeat' (first | apply And.intro | exact (blk_cell BK581.out _).trans rfl)) (fun hHeld => ?_)
       clear hK K
       refine normA (some 52) ?_
       refine pureA HT_ (i := 32) (N := some 53) (bA 52 8589934591) ?_
       refine pureA HT_ (i := 33) (N := some 54) (bA 52 17179869183) ?_
       refine pureA HT_ (i := 34) (N := some 55) (bA 52 34359738367) ?_
       refine pureU HT_ (i := 35) (N := some 56) (bA 52 68719476735) ?_
       refine pureU HT_ (i := 36) (N := some 57) (bA 52 137438953471) ?_
       refine pureU HT_ (i := 37) (N := some 58) (bA 52 274877906943) ?_
       refine pureU HT_ (i := 38) (N := some 59) (bA 52 549755813887) ?_
       refine pureU HT_ (i := 39) (N := some 60) (bA 52 1099511627775) ?_
       refine pureU HT_ (i := 40) (N := some 61) (bA 52 2199023255551) ?_
       refine pureU HT_ (i := 41) (N := some 62) (bA 52 4398046511103) ?_
       refine pureA HT_ (i := 42) (N := some 63) (bA 52 8796093022207) ?_
       refine pureA HT_ (i := 43) (N := some 64) (bA 52 17592186044415) ?_
       refine pureU HT_ (i := 44) (N := some 65) (bA 52 35184372088831) ?_
       refine pureU HT_ (i := 45) (N := some 66) (bA 52 70368744177663) ?_
       refine pureU HT_ (i := 46) (N := some 67) (bA 52 140737488355327) ?_
       refine pureU HT_ (i := 47) (N := some 68) (bA 52 281474976710655) ?_
       refine pureU HT_ (i := 48) (N := some 69) (bA 52 562949953421311) ?_
       refine pureU HT_ (i := 49) (N := some 70) (bA 52 1125899906842623) ?_
       refine pureU HT_ (i := 50) (N := some 71) (bA 52 2251799813685247) ?_
       refine pureA HT_ (i := 51) (N := some 72) (bA 52 4503599627370495) ?_
       refine done_ (done_of HT_.out (by kernel_rfl)) ?_
       try go_wp2
       go_meet
       case rel => exact ⟨_, (true), (by first | rfl | (simp; done) | (simp [*]; done)), H', ⟨by first | omega | exact Nat.le_refl _⟩, ⟨bkL BK579.out⟩, ⟨bkL BK581.out⟩, ⟨bkL BK582.out⟩, ⟨bsL HB.out⟩⟩
      ·
       rw [if_neg c54] at H
       have c54b0 : (t609 != t610) = false := by simpa using c54
       (try (have c54b1 : decide (t609 = t610) = true := by simpa using c54))
       (try (have c54b2 : (t609 == t610) = true := by simpa using c54))
       clear c54
       replace H := Option.bind_eq_some_iff.mp H
       obtain ⟨t611, A650, H⟩ := H
       try dsimp only at H
       have A65 := Aside0.mk A650
       clear A650
       replace H := Option.bind_eq_some_iff.mp H
       obtain ⟨t612, A660, H⟩ := H
       try dsimp only at H
       have A66 := Aside0.mk A660
       clear A660
       by_cases c67 : (t611 != t612) = true
       ·
        rw [if_pos c67] at H
        have c67b0 : (t611 != t612) = true := c67
        (try (have c67b1 : decide (t611 = t612) = false := by simpa using c67))
        (try (have c67b2 : (t611 == t612) = false := by simpa using c67))
        (try (have c67b3 : ¬ (t611 = t612) := by simpa using c67))
        clear c67
        have H' := Aside0.mk H
        clear H
        try go_wp2
        have n0_ : Aside0 (((((((((((((w12.setCell ⟨gb581, 0, none⟩ (.int .u64 a1_0)).setCell ⟨gb581, 1, none⟩ (.int .u64 a1_1)).setCell ⟨gb581, 2, none⟩ (.int .u64 a1_2)).setCell ⟨gb581, 3, none⟩ (.int .u64 a1_3)).setCell ⟨gb581, 4, none⟩ (.int .i64 a1_4)).setCell ⟨gb581, 5, none⟩ (.int .i64 a1_5)).setCell ⟨gb582, 0, none⟩ (.int .u64 a1_6)).setCell ⟨gb582, 1, none⟩ (.int .u64 a1_7)).setCell ⟨gb582, 2, none⟩ (.int .u64 a1_8)).setCell ⟨gb582, 3, none⟩ (.int .u64 a1_9)).setCell ⟨gb582, 4, none⟩ (.int .i64 a1_10)).setCell ⟨gb582, 5, none⟩ (.int .i64 a1_11)).heap[gb579]? = some (.cells #[.int .u64 a1_0, .int .u64 a1_1, .int .u64 a1_2, .int .u64 a1_3, .int .i64 a1_4, .int .i64 a1_5, .int .u64 a1_6, .int .u64 a1_7, .int .u64 a1_8, .int .u64 a1_9, .int .i64 a1_10, .int .i64 a1_11] 56 (0, 0))) := ⟨by exact bfL BK579.out⟩
        have n1_ : Aside0 (((((((((((((w12.setCell ⟨gb581, 0, none⟩ (.int .u64 a1_0)).setCell ⟨gb581, 1, none⟩ (.int .u64 a1_1)).setCell ⟨gb581, 2, none⟩ (.int .u64 a1_2)).setCell ⟨gb581, 3, none⟩ (.int .u64 a1_3)).setCell ⟨gb581, 4, none⟩ (.int .i64 a1_4)).setCell ⟨gb581, 5, none⟩ (.int .i64 a1_5)).setCell ⟨gb582, 0, none⟩ (.int .u64 a1_6)).setCell ⟨gb582, 1, none⟩ (.int .u64 a1_7)).setCell ⟨gb582, 2, none⟩ (.int .u64 a1_8)).setCell ⟨gb582, 3, none⟩ (.int .u64 a1_9)).setCell ⟨gb582, 4, none⟩ (.int .i64 a1_10)).setCell ⟨gb582, 5, none⟩ (.int .i64 a1_11)).heap[gb581]? = some (.cells #[.int .u64 a1_0, .int .u64 a1_1, .int .u64 a1_2, .int .u64 a1_3, .int .i64 a1_4, .int .i64 a1_5] 50 (0, 0))) := ⟨by (with_reducible repeat (first | refine blk_drewN ?_ _ | refine blk_drew ?_ | refine blk_alloc ?_ _)); refine blk_far ?_ NB581_582.out _; (with_reducible repeat (first | refine blk_drewN ?_ _ | refine blk_drew ?_ | refine blk_alloc ?_ _)); refine blk_far ?_ NB581_582.out _; (with_reducible repeat (first | refine blk_drewN ?_ _ | refine blk_drew ?_ | refine blk_alloc ?_ _)); refine blk_far ?_ NB581_582.out _; (with_reducible repeat (first | refine blk_drewN ?_ _ | refine blk_drew ?_ | refine blk_alloc ?_ _)); refine blk_far ?_ NB581_582.out _; (with_reducible repeat (first | refine blk_drewN ?_ _ | refine blk_drew ?_ | refine blk_alloc ?_ _)); refine blk_far ?_ NB581_582.out _; (with_reducible repeat (first | refine blk_drewN ?_ _ | refine blk_drew ?_ | refine blk_alloc ?_ _)); refine blk_far ?_ NB581_582.out _; (with_reducible repeat (first | refine blk_drewN ?_ _ | refine blk_drew ?_ | refine blk_alloc ?_ _)); refine blk_put (cs := #[.int .u64 a1_0, .int .u64 a1_1, .int .u64 a1_2, .int .u64 a1_3, .int .i64 a1_4, .int .i64 0]) ?_ 5 _ rfl; (with_reducible repeat (first | refine blk_drewN ?_ _ | refine blk_drew ?_ | refine blk_alloc ?_ _)); refine blk_put (cs := #[.int .u64 a1_0, .int .u64 a1_1, .int .u64 a1_2, .int .u64 a1_3, .int .i64 0, .int .i64 0]) ?_ 4 _ rfl; (with_reducible repeat (first | refine blk_drewN ?_ _ | refine blk_drew ?_ | refine blk_alloc ?_ _)); refine blk_put (cs := #[.int .u64 a1_0, .int .u64 a1_1, .int .u64 a1_2, .int .u64 0, .int .i64 0, .int .i64 0]) ?_ 3 _ rfl; (with_reducible repeat (first | refine blk_drewN ?_ _ | refine blk_drew ?_ | refine blk_alloc ?_ _)); refine blk_put (cs := #[.int .u64 a1_0, .int .u64 a1_1, .int .u64 0, .int .u64 0, .int .i64 0, .int .i64 0]) ?_ 2 _ rfl; (with_reducible repeat (first | refine blk_drewN ?_ _ | refine blk_drew ?_ | refine blk_alloc ?_ _)); refine blk_put (cs := #[.int .u64 a1_0, .int .u64 0, .int .u64 0, .int .u64 0, .int .i64 0, .int .i64 0]) ?_ 1 _ rfl; (with_reducible repeat (first | refine blk_drewN ?_ _ | refine blk_drew ?_ | refine blk_alloc ?_ _)); refine blk_put (cs := #[.int .u64 0, .int .u64 0, .int .u64 0, .int .u64 0, .int .i64 0, .int .i64 0]) ?_ 0 _ rfl; exact bfL BK581.out⟩
        have n2_ : Aside0 (((((((((((((w12.setCell ⟨gb581, 0, none⟩ (.int .u64 a1_0)).setCell ⟨gb581, 1, none⟩ (.int .u64 a1_1)).setCell ⟨gb581, 2, none⟩ (.int .u64 a1_2)).setCell ⟨gb581, 3, none⟩ (.int .u64 a1_3)).setCell ⟨gb581, 4, none⟩ (.int .i64 a1_4)).setCell ⟨gb581, 5, none⟩ (.int .i64 a1_5)).setCell ⟨gb582, 0, none⟩ (.int .u64 a1_6)).setCell ⟨gb582, 1, none⟩ (.int .u64 a1_7)).setCell ⟨gb582, 2, none⟩ (.int .u64 a1_8)).setCell ⟨gb582, 3, none⟩ (.int .u64 a1_9)).setCell ⟨gb582, 4, none⟩ (.int .i64 a1_10)).setCell ⟨gb582, 5, none⟩ (.int .i64 a1_11)).heap[gb582]? = some (.cells #[.int .u64 a1_6, .int .u64 a1_7, .int .u64 a1_8, .int .u64 a1_9, .int .i64 a1_10, .int .i64 a1_11] 50 (0, 0))) := ⟨by (with_reducible repeat (first | refine blk_drewN ?_ _ | refine blk_drew ?_ | refine blk_alloc ?_ _)); refine blk_put (cs := #[.int .u64 a1_6, .int .u64 a1_7, .int .u64 a1_8, .int .u64 a1_9, .int .i64 a1_10, .int .i64 0]) ?_ 5 _ rfl; (with_reducible repeat (first | refine blk_drewN ?_ _ | refine blk_drew ?_ | refine blk_alloc ?_ _)); refine blk_put (cs := #[.int .u64 a1_6, .int .u64 a1_7, .int .u64 a1_8, .int .u64 a1_9, .int .i64 0, .int .i64 0]) ?_ 4 _ rfl; (with_reducible repeat (first | refine blk_drewN ?_ _ | refine blk_drew ?_ | refine blk_alloc ?_ _)); refine blk_put (cs := #[.int .u64 a1_6, .int .u64 a1_7, .int .u64 a1_8, .int .u64 0, .int .i64 0, .int .i64 0]) ?_ 3 _ rfl; (with_reducible repeat (first | refine blk_drewN ?_ _ | refine blk_drew ?_ | refine blk_alloc ?_ _)); refine blk_put (cs := #[.int .u64 a1_6, .int .u64 a1_7, .int .u64 0, .int .u64 0, .int .i64 0, .int .i64 0]) ?_ 2 _ rfl; (with_reducible repeat (first | refine blk_drewN ?_ _ | refine blk_drew ?_ | refine blk_alloc ?_ _)); refine blk_put (cs := #[.int .u64 a1_6, .int .u64 0, .int .u64 0, .int .u64 0, .int .i64 0, .int .i64 0]) ?_ 1 _ rfl; (with_reducible repeat (first | refine blk_drewN ?_ _ | refine blk_drew ?_ | refine blk_alloc ?_ _)); refine blk_put (cs := #[.int .u64 0, .int .u64 0, .int .u64 0, .int .u64 0, .int .i64 0, .int .i64 0]) ?_ 0 _ rfl; exact bfL BK582.out⟩
        have n3_ : Aside0 (Below w.heap.size w ((((((((((((w12.setCell ⟨gb581, 0, none⟩ (.int .u64 a1_0)).setCell ⟨gb581, 1, none⟩ (.int .u64 a1_1)).setCell ⟨gb581, 2, none⟩ (.int .u64 a1_2)).setCell ⟨gb581, 3, none⟩ (.int .u64 a1_3)).setCell ⟨gb581, 4, none⟩ (.int .i64 a1_4)).setCell ⟨gb581, 5, none⟩ (.int .i64 a1_5)).setCell ⟨gb582, 0, none⟩ (.int .u64 a1_6)).setCell ⟨gb582, 1, none⟩ (.int .u64 a1_7)).setCell ⟨gb582, 2, none⟩ (.int .u64 a1_8)).setCell ⟨gb582, 3, none⟩ (.int .u64 a1_9)).setCell ⟨gb582, 4, none⟩ (.int .i64 a1_10)).setCell ⟨gb582, 5, none⟩ (.int .i64 a1_11))) := ⟨bsL HB.out⟩
        (try clear BK579)
        (try clear BK581)
        (try clear BK582)
        (try clear HB)
        generalize ((((((((((((w12.setCell ⟨gb581, 0, none⟩ (.int .u64 a1_0)).setCell ⟨gb581, 1, none⟩ (.int .u64 a1_1)).setCell ⟨gb581, 2, none⟩ (.int .u64 a1_2)).setCell ⟨gb581, 3, none⟩ (.int .u64 a1_3)).setCell ⟨gb581, 4, none⟩ (.int .i64 a1_4)).setCell ⟨gb581, 5, none⟩ (.int .i64 a1_5)).setCell ⟨gb582, 0, none⟩ (.int .u64 a1_6)).setCell ⟨gb582, 1, none⟩ (.int .u64 a1_7)).setCell ⟨gb582, 2, none⟩ (.int .u64 a1_8)).setCell ⟨gb582, 3, none⟩ (.int .u64 a1_9)).setCell ⟨gb582, 4, none⟩ (.int .i64 a1_10)).setCell ⟨gb582, 5, none⟩ (.int .i64 a1_11)) = w68 at n0_ n1_ n2_ n3_ ⊢
        have BK579 := n0_
        have BK581 := n1_
        have BK582 := n2_
        have HB := n3_
        clear n0_ n1_ n2_ n3_
        replace BK579 := Aside0.mk (blk_drew BK579.out)
        replace BK581 := Aside0.mk (blk_drew BK581.out)
        replace BK582 := Aside0.mk (blk_drew BK582.out)
        replace HB := Aside0.mk (below_drew1 HB.out)
        refine start_ (n := 52) (S := fun w' => w'.cell? ⟨gb581, 0, none⟩ = some (.int .u64 a1_0) ∧ w'.cell? ⟨gb581, 1, none⟩ = some (.int .u64 a1_1) ∧ w'.cell? ⟨gb581, 2, none⟩ = some (.int .u64 a1_2) ∧ w'.cell? ⟨gb581, 3, none⟩ = some (.int .u64 a1_3) ∧ w'.cell? ⟨gb581, 4, none⟩ = some (.int .i64 a1_4) ∧ w'.cell? ⟨gb581, 5, none⟩ = some (.int .i64 a1_5) ∧ w'.cell? ⟨gb582, 0, none⟩ = some (.int .u64 a1_6) ∧ w'.cell? ⟨gb582, 1, none⟩ = some (.int .u64 a1_7) ∧ w'.cell? ⟨gb582, 2, none⟩ = some (.int .u64 a1_8) ∧ w'.cell? ⟨gb582, 3, none⟩ = some (.int .u64 a1_9) ∧ w'.cell? ⟨gb582, 4, none⟩ = some (.int .i64 a1_10) ∧ w'.cell? ⟨gb582, 5, none⟩ = some (.int .i64 a1_11)) (ds := []) (bA 52 0) (by kernel_rfl) rfl rfl (by repeat' (first | apply And.intro | exact (blk_cell BK581.out _).trans rfl | exact (blk_cell BK582.out _).trans rfl)) (fun hHeld => ?_); refine with_tabW jacquardlaw14_FactsElements.tab4 jacquardlaw14_FactsElements.bits4 (fun HT_ HW_ => ?_)
        generalize w68.drew = w69 at BK579 BK581 BK582 HB hHeld ⊢
        refine pureA HT_ (i := 0) (N := some 21) (bA 52 1) ?_
        refine pureA HT_ (i := 2) (N := some 23) (bA 52 5) ?_
        refine one_ (i := 1) (N := some 22) (bA 52 7) rfl rfl (one_of HT_.out (by kernel_rfl)) (by decide) (fun K hK => ?_)
        refine gO Try.func30 #[.int .i64 a0] ?_
        with_reducible refine (facts_Top.calls a0 t583 t584 t585 t586 t587 t588 _ A25.out).mono ?_
        rintro e w70 ⟨rfl, hb⟩
        refine ⟨_, rfl, ?_⟩
        replace BK579 := bkB BK579.out hb
        replace BK581 := bkB BK581.out hb
        replace BK582 := bkB BK582.out hb
        replace HB := bsB HB.out hb
        (try clear hb)
        refine hK.out _ _ (by repeat' (first | apply And.intro | exact (blk_cell BK581.out _).trans rfl | exact (blk_cell BK582.out _).trans rfl)) (fun hHeld => ?_)
        clear hK K
        refine normA (some 22) ?_
        refine one_ (i := 3) (N := some 24) (bA 52 15) rfl rfl (one_of HT_.out (by kernel_rfl)) (by decide) (fun K hK => ?_)
        refine gO Try.func31 #[.int .i64 a0] ?_
        with_reducible refine (jacquardref14_Top.calls k a0 t589 t590 t591 t592 t593 t594 _ A26.out).mono ?_
        rintro e w71 ⟨rfl, hb⟩
        refine ⟨_, rfl, ?_⟩
        replace BK579 := bkB BK579.out hb
        replace BK581 := bkB BK581.out hb
        replace BK582 := bkB BK582.out hb
        replace HB := bsB HB.out hb
        (try clear hb)
        refine hK.out _ _ (by repeat' (first | apply And.intro | exact (blk_cell BK581.out _).trans rfl | exact (blk_cell BK582.out _).trans rfl)) (fun hHeld => ?_)
        clear hK K
        refine normA (some 24) ?_
        refine pureA HT_ (i := 4) (N := some 25) (bA 52 31) ?_
        refine pureA HT_ (i := 5) (N := some 26) (bA 52 63) ?_
        refine pureA HT_ (i := 6) (N := some 27) (bA 52 127) ?_
        refine pureA HT_ (i := 7) (N := some 28) (bA 52 255) ?_
        refine pureA HT_ (i := 9) (N := some 30) (bA 52 767) ?_
        refine pureA HT_ (i := 10) (N := some 31) (bA 52 1791) ?_
        refine one_ (i := 8) (N := some 29) (bA 52 2047) rfl rfl (one_of HT_.out (by kernel_rfl)) (by decide) (fun K hK => ?_)
        refine gO Try.func32 #[.int .i64 a0, .int .u64 a2] ?_
        with_reducible refine (facts_Of.calls a0 a2 t595 t596 t597 t598 t599 t600 _ A32.out).mono ?_
        rintro e w72 ⟨rfl, hb⟩
        refine ⟨_, rfl, ?_⟩
        replace BK579 := bkB BK579.out hb
        replace BK581 := bkB BK581.out hb
        replace BK582 := bkB BK582.out hb
        replace HB := bsB HB.out hb
        (try clear hb)
        refine hK.out _ _ (by repeat' (first | apply And.intro | exact (blk_cell BK581.out _).trans rfl | exact (blk_cell BK582.out _).trans rfl)) (fun hHeld => ?_)
        clear hK K
        refine normA (some 29) ?_
        refine one_ (i := 11) (N := some 32) (bA 52 4095) rfl rfl (one_of HT_.out (by kernel_rfl)) (by decide) (fun K hK => ?_)
        refine gO Try.func33 #[.int .i64 a0, .int .u64 a2] ?_
        with_reducible refine (jacquardref14_Of.calls k a0 a2 t601 t602 t603 t604 t605 t606 _ A33.out).mono ?_
        rintro e w73 ⟨rfl, hb⟩
        refine ⟨_, rfl, ?_⟩
        replace BK579 := bkB BK579.out hb
        replace BK581 := bkB BK581.out hb
        replace BK582 := bkB BK582.out hb
        replace HB := bsB HB.out hb
        (try clear hb)
        refine hK.out _ _ (by repeat' (first | apply And.intro | exact (blk_cell BK581.out _).trans rfl | exact (blk_cell BK582.out _).trans rfl)) (fun hHeld => ?_)
        clear hK K
        refine normA (some 32) ?_
        refine pureA HT_ (i := 12) (N := some 33) (bA 52 8191) ?_
        refine pureA HT_ (i := 13) (N := some 34) (bA 52 16383) ?_
        refine pureA HT_ (i := 14) (N := some 35) (bA 52 32767) ?_
        refine pureA HT_ (i := 15) (N := some 36) (bA 52 65535) ?_
        refine pureA HT_ (i := 18) (N := some 39) (bA 52 327679) ?_
        refine takeA HT_ HW_ hHeld (i := 16) (N := some 37) (bA 52 393215) ?_ (hy := by rintro w' ⟨s0, s1, s2, s3, s4, s5, s6, s7, s8, s9, s10, s11⟩; go_simp; with_reducible rfl)
        refine takeA HT_ HW_ hHeld (i := 19) (N := some 40) (bA 52 917503) ?_ (hy := by rintro w' ⟨s0, s1, s2, s3, s4, s5, s6, s7, s8, s9, s10, s11⟩; go_simp; with_reducible rfl)
        refine one_ (i := 17) (N := some 38) (bA 52 1048575) rfl rfl (one_of HT_.out (by kernel_rfl)) (by decide) (fun K hK => ?_)
        refine gO Try.func34 #[.int .i64 a0, .agg #[.int .u64 a1_0, .int .u64 a1_1, .int .u64 a1_2, .int .u64 a1_3, .int .i64 a1_4, .int .i64 a1_5]] ?_
        with_reducible refine (facts_Valid.calls a0 a1_0 a1_1 a1_2 a1_3 a1_4 a1_5 t607 _ A41.out).mono ?_
        rintro e w74 ⟨rfl, hb⟩
        refine ⟨_, rfl, ?_⟩
        replace BK579 := bkB BK579.out hb
        replace BK581 := bkB BK581.out hb
        replace BK582 := bkB BK582.out hb
        replace HB := bsB HB.out hb
        (try clear hb)
        refine hK.out _ _ (by repeat' (first | apply And.intro | exact (blk_cell BK581.out _).trans rfl | exact (blk_cell BK582.out _).trans rfl)) (fun hHeld => ?_)
        clear hK K
        refine normA (some 38) ?_
        refine one_ (i := 20) (N := some 41) (bA 52 2097151) rfl rfl (one_of HT_.out (by kernel_rfl)) (by decide) (fun K hK => ?_)
        refine gO Try.func27 #[.int .i64 a0, .agg #[.int .u64 a1_0, .int .u64 a1_1, .int .u64 a1_2, .int .u64 a1_3, .int .i64 a1_4, .int .i64 a1_5]] ?_
        with_reducible refine (jacquardref14_Valid.calls k a0 a1_0 a1_1 a1_2 a1_3 a1_4 a1_5 t608 _ A42.out).mono ?_
        rintro e w75 ⟨rfl, hb⟩
        refine ⟨_, rfl, ?_⟩
        replace BK579 := bkB BK579.out hb
        replace BK581 := bkB BK581.out hb
        replace BK582 := bkB BK582.out hb
        replace HB := bsB HB.out hb
        (try clear hb)
        refine hK.out _ _ (by repeat' (first | apply And.intro | exact (blk_cell BK581.out _).trans rfl | exact (blk_cell BK582.out _).trans rfl)) (fun hHeld => ?_)
        clear hK K
        refine normA (some 41) ?_
        refine pureA HT_ (i := 21) (N := some 42) (bA 52 4194303) ?_
        refine pureA HT_ (i := 22) (N := some 43) (bA 52 8388607) ?_
        refine pureA HT_ (i := 23) (N := some 44) (bA 52 16777215) ?_
        refine pureA HT_ (i := 24) (N := some 45) (bA 52 33554431) ?_
        refine pureA HT_ (i := 26) (N := some 47) (bA 52 100663295) ?_
        refine pureA HT_ (i := 28) (N := some 49) (bA 52 369098751) ?_
        refine pureA HT_ (i := 30) (N := some 51) (bA 52 1442840575) ?_
        refine takeA HT_ HW_ hHeld (i := 25) (N := some 46) (bA 52 1476395007) ?_ (hy := by rintro w' ⟨s0, s1, s2, s3, s4, s5, s6, s7, s8, s9, s10, s11⟩; go_simp; with_reducible rfl)
        refine takeA HT_ HW_ hHeld (i := 29) (N := some 50) (bA 52 2013265919) ?_ (hy := by rintro w' ⟨s0, s1, s2, s3, s4, s5, s6, s7, s8, s9, s10, s11⟩; go_simp; with_reducible rfl)
        refine one_ (i := 27) (N := some 48) (bA 52 2147483647) rfl rfl (one_of HT_.out (by kernel_rfl)) (by decide) (fun K hK => ?_)
        refine gO Try.func28 #[.int .i64 a0, .agg #[.int .u64 a1_0, .int .u64 a1_1, .int .u64 a1_2, .int .u64 a1_3, .int .i64 a1_4, .int .i64 a1_5], .int .u64 a2] ?_
        with_reducible refine (facts_Contains.calls a0 a1_0 a1_1 a1_2 a1_3 a1_4 a1_5 a2 t609 _ A52.out).mono ?_
        rintro e w76 ⟨rfl, hb⟩
        refine ⟨_, rfl, ?_⟩
        replace BK579 := bkB BK579.out hb
        replace BK581 := bkB BK581.out hb
        replace BK582 := bkB BK582.out hb
        replace HB := bsB HB.out hb
        (try clear hb)
        refine hK.out _ _ (by repeat' (first | apply And.intro | exact (blk_cell BK581.out _).trans rfl | exact (blk_cell BK582.out _).trans rfl)) (fun hHeld => ?_)
        clear hK K
        refine normA (some 48) ?_
        refine one_ (i := 31) (N := some 52) (bA 52 4294967295) rfl rfl (one_of HT_.out (by kernel_rfl)) (by decide) (fun K hK => ?_)
        refine gO Try.func35 #[.int .i64 a0, .agg #[.int .u64 a1_0, .int .u64 a1_1, .int .u64 a1_2, .int .u64 a1_3, .int .i64 a1_4, .int .i64 a1_5], .int .u64 a2] ?_
        with_reducible refine (jacquardref14_Contains.calls k a0 a1_0 a1_1 a1_2 a1_3 a1_4 a1_5 a2 t610 _ A53.out).mono ?_
        rintro e w77 ⟨rfl, hb⟩
        refine ⟨_, rfl, ?_⟩
        replace BK579 := bkB BK579.out hb
        replace BK581 := bkB BK581.out hb
        replace BK582 := bkB BK582.out hb
        replace HB := bsB HB.out hb
        (try clear hb)
        refine hK.out _ _ (by repeat' (first | apply And.intro | exact (blk_cell BK581.out _).trans rfl | exact (blk_cell BK582.out _).trans rfl)) (fun hHeld => ?_)
        clear hK K
        refine normA (some 52) ?_
        refine pureA HT_ (i := 32) (N := some 53) (bA 52 8589934591) ?_
        refine pureA HT_ (i := 33) (N := some 54) (bA 52 17179869183) ?_
        refine pureA HT_ (i := 34) (N := some 55) (bA 52 34359738367) ?_
        refine takeA HT_ HW_ hHeld (i := 35) (N := some 56) (bA 52 68719476735) ?_ (hy := by rintro w' ⟨s0, s1, s2, s3, s4, s5, s6, s7, s8, s9, s10, s11⟩; go_simp; with_reducible rfl)
        refine takeA HT_ HW_ hHeld (i := 36) (N := some 57) (bA 52 137438953471) ?_ (hy := by rintro w' ⟨s0, s1, s2, s3, s4, s5, s6, s7, s8, s9, s10, s11⟩; go_simp; with_reducible rfl)
        refine takeA HT_ HW_ hHeld (i := 38) (N := some 59) (bA 52 412316860415) ?_ (hy := by rintro w' ⟨s0, s1, s2, s3, s4, s5, s6, s7, s8, s9, s10, s11⟩; go_simp; with_reducible rfl)
        refine takeA HT_ HW_ hHeld (i := 39) (N := some 60) (bA 52 962072674303) ?_ (hy := by rintro w' ⟨s0, s1, s2, s3, s4, s5, s6, s7, s8, s9, s10, s11⟩; go_simp; with_reducible rfl)
        refine one_ (i := 37) (N := some 58) (bA 52 1099511627775) rfl rfl (one_of HT_.out (by kernel_rfl)) (by decide) (fun K hK => ?_)
        refine gO Try.func29 #[.agg #[.int .u64 a1_0, .int .u64 a1_1, .int .u64 a1_2, .int .u64 a1_3, .int .i64 a1_4, .int .i64 a1_5], .agg #[.int .u64 a1_6, .int .u64 a1_7, .int .u64 a1_8, .int .u64 a1_9, .int .i64 a1_10, .int .i64 a1_11]] ?_
        with_reducible refine (facts_Leq.calls a1_0 a1_1 a1_2 a1_3 a1_4 a1_5 a1_6 a1_7 a1_8 a1_9 a1_10 a1_11 t611 _ A65.out).mono ?_
        rintro e w78 ⟨rfl, hb⟩
        refine ⟨_, rfl, ?_⟩
        replace BK579 := bkB BK579.out hb
        replace BK581 := bkB BK581.out hb
        replace BK582 := bkB BK582.out hb
        replace HB := bsB HB.out hb
        (try clear hb)
        refine hK.out _ _ (by repeat' (first | apply And.intro | exact (blk_cell BK581.out _).trans rfl | exact (blk_cell BK582.out _).trans rfl)) (fun hHeld => ?_)
        clear hK K
        refine normA (some 58) ?_
        refine one_ (i := 40) (N := some 61) (bA 52 2199023255551) rfl rfl (one_of HT_.out (by kernel_rfl)) (by decide) (fun K hK => ?_)
        refine gO Try.func36 #[.agg #[.int .u64 a1_0, .int .u64 a1_1, .int .u64 a1_2, .int .u64 a1_3, .int .i64 a1_4, .int .i64 a1_5], .agg #[.int .u64 a1_6, .int .u64 a1_7, .int .u64 a1_8, .int .u64 a1_9, .int .i64 a1_10, .int .i64 a1_11]] ?_
        with_reducible refine (jacquardref14_Leq.calls a1_0 a1_1 a1_2 a1_3 a1_4 a1_5 a1_6 a1_7 a1_8 a1_9 a1_10 a1_11 t612 _ A66.out).mono ?_
        rintro e w79 ⟨rfl, hb⟩
        refine ⟨_, rfl, ?_⟩
        replace BK579 := bkB BK579.out hb
        replace BK581 := bkB BK581.out hb
        replace BK582 := bkB BK582.out hb
        replace HB := bsB HB.out hb
        (try clear hb)
        refine hK.out _ _ (by repeat' (first | apply And.intro | exact (blk_cell BK581.out _).trans rfl | exact (blk_cell BK582.out _).trans rfl)) (fun hHeld => ?_)
        clear hK K
        refine normA (some 61) ?_
        refine pureA HT_ (i := 41) (N := some 62) (bA 52 4398046511103) ?_
        refine pureA HT_ (i := 42) (N := some 63) (bA 52 8796093022207) ?_
        refine pureA HT_ (i := 43) (N := some 64) (bA 52 17592186044415) ?_
        refine pureU HT_ (i := 44) (N := some 65) (bA 52 35184372088831) ?_
        refine pureU HT_ (i := 45) (N := some 66) (bA 52 70368744177663) ?_
        refine pureU HT_ (i := 46) (N := some 67) (bA 52 140737488355327) ?_
        refine pureU HT_ (i := 47) (N := some 68) (bA 52 281474976710655) ?_
        refine pureU HT_ (i := 48) (N := some 69) (bA 52 562949953421311) ?_
        refine pureU HT_ (i := 49) (N := some 70) (bA 52 1125899906842623) ?_
        refine pureU HT_ (i := 50) (N := some 71) (bA 52 2251799813685247) ?_
        refine pureA HT_ (i := 51) (N := some 72) (bA 52 4503599627370495) ?_
        refine done_ (done_of HT_.out (by kernel_rfl)) ?_
        try go_wp2
        go_meet
        case rel => exact ⟨_, (true), (by first | rfl | (simp; done) | (simp [*]; done)), H', ⟨by first | omega | exact Nat.le_refl _⟩, ⟨bkL BK579.out⟩, ⟨bkL BK581.out⟩, ⟨bkL BK582.out⟩, ⟨bsL HB.out⟩⟩
       ·
        rw [if_neg c67] at H
        have c67b0 : (t611 != t612) = false := by simpa using c67
        (try (have c67b1 : decide (t611 = t612) = true := by simpa using c67))
        (try (have c67b2 : (t611 == t612) = true := by simpa using c67))
        clear c67
        replace H := Option.bind_eq_some_iff.mp H
        obtain ⟨⟨t613, t614, t615, t616, t617, t618⟩, A800, H⟩ := H
        try dsimp only at H
        have A80 := Aside0.mk A800
        clear A800
        replace H := Option.bind_eq_some_iff.mp H
        obtain ⟨⟨t619, t620, t621, t622, t623, t624⟩, A810, H⟩ := H
        try dsimp only at H
        have A81 := Aside0.mk A810
        clear A810
        have H' := Aside0.mk H
        clear H
        try go_wp2
        have n0_ : Aside0 (((((((((((((w12.setCell ⟨gb581, 0, none⟩ (.int .u64 a1_0)).setCell ⟨gb581, 1, none⟩ (.int .u64 a1_1)).setCell ⟨gb581, 2, none⟩ (.int .u64 a1_2)).setCell ⟨gb581, 3, none⟩ (.int .u64 a1_3)).setCell ⟨gb581, 4, none⟩ (.int .i64 a1_4)).setCell ⟨gb581, 5, none⟩ (.int .i64 a1_5)).setCell ⟨gb582, 0, none⟩ (.int .u64 a1_6)).setCell ⟨gb582, 1, none⟩ (.int .u64 a1_7)).setCell ⟨gb582, 2, none⟩ (.int .u64 a1_8)).setCell ⟨gb582, 3, none⟩ (.int .u64 a1_9)).setCell ⟨gb582, 4, none⟩ (.int .i64 a1_10)).setCell ⟨gb582, 5, none⟩ (.int .i64 a1_11)).heap[gb579]? = some (.cells #[.int .u64 a1_0, .int .u64 a1_1, .int .u64 a1_2, .int .u64 a1_3, .int .i64 a1_4, .int .i64 a1_5, .int .u64 a1_6, .int .u64 a1_7, .int .u64 a1_8, .int .u64 a1_9, .int .i64 a1_10, .int .i64 a1_11] 56 (0, 0))) := ⟨by exact bfL BK579.out⟩
        have n1_ : Aside0 (((((((((((((w12.setCell ⟨gb581, 0, none⟩ (.int .u64 a1_0)).setCell ⟨gb581, 1, none⟩ (.int .u64 a1_1)).setCell ⟨gb581, 2, none⟩ (.int .u64 a1_2)).setCell ⟨gb581, 3, none⟩ (.int .u64 a1_3)).setCell ⟨gb581, 4, none⟩ (.int .i64 a1_4)).setCell ⟨gb581, 5, none⟩ (.int .i64 a1_5)).setCell ⟨gb582, 0, none⟩ (.int .u64 a1_6)).setCell ⟨gb582, 1, none⟩ (.int .u64 a1_7)).setCell ⟨gb582, 2, none⟩ (.int .u64 a1_8)).setCell ⟨gb582, 3, none⟩ (.int .u64 a1_9)).setCell ⟨gb582, 4, none⟩ (.int .i64 a1_10)).setCell ⟨gb582, 5, none⟩ (.int .i64 a1_11)).heap[gb581]? = some (.cells #[.int .u64 a1_0, .int .u64 a1_1, .int .u64 a1_2, .int .u64 a1_3, .int .i64 a1_4, .int .i64 a1_5] 50 (0, 0))) := ⟨by (with_reducible repeat (first | refine blk_drewN ?_ _ | refine blk_drew ?_ | refine blk_alloc ?_ _)); refine blk_far ?_ NB581_582.out _; (with_reducible repeat (first | refine blk_drewN ?_ _ | refine blk_drew ?_ | refine blk_alloc ?_ _)); refine blk_far ?_ NB581_582.out _; (with_reducible repeat (first | refine blk_drewN ?_ _ | refine blk_drew ?_ | refine blk_alloc ?_ _)); refine blk_far ?_ NB581_582.out _; (with_reducible repeat (first | refine blk_drewN ?_ _ | refine blk_drew ?_ | refine blk_alloc ?_ _)); refine blk_far ?_ NB581_582.out _; (with_reducible repeat (first | refine blk_drewN ?_ _ | refine blk_drew ?_ | refine blk_alloc ?_ _)); refine blk_far ?_ NB581_582.out _; (with_reducible repeat (first | refine blk_drewN ?_ _ | refine blk_drew ?_ | refine blk_alloc ?_ _)); refine blk_far ?_ NB581_582.out _; (with_reducible repeat (first | refine blk_drewN ?_ _ | refine blk_drew ?_ | refine blk_alloc ?_ _)); refine blk_put (cs := #[.int .u64 a1_0, .int .u64 a1_1, .int .u64 a1_2, .int .u64 a1_3, .int .i64 a1_4, .int .i64 0]) ?_ 5 _ rfl; (with_reducible repeat (first | refine blk_drewN ?_ _ | refine blk_drew ?_ | refine blk_alloc ?_ _)); refine blk_put (cs := #[.int .u64 a1_0, .int .u64 a1_1, .int .u64 a1_2, .int .u64 a1_3, .int .i64 0, .int .i64 0]) ?_ 4 _ rfl; (with_reducible repeat (first | refine blk_drewN ?_ _ | refine blk_drew ?_ | refine blk_alloc ?_ _)); refine blk_put (cs := #[.int .u64 a1_0, .int .u64 a1_1, .int .u64 a1_2, .int .u64 0, .int .i64 0, .int .i64 0]) ?_ 3 _ rfl; (with_reducible repeat (first | refine blk_drewN ?_ _ | refine blk_drew ?_ | refine blk_alloc ?_ _)); refine blk_put (cs := #[.int .u64 a1_0, .int .u64 a1_1, .int .u64 0, .int .u64 0, .int .i64 0, .int .i64 0]) ?_ 2 _ rfl; (with_reducible repeat (first | refine blk_drewN ?_ _ | refine blk_drew ?_ | refine blk_alloc ?_ _)); refine blk_put (cs := #[.int .u64 a1_0, .int .u64 0, .int .u64 0, .int .u64 0, .int .i64 0, .int .i64 0]) ?_ 1 _ rfl; (with_reducible repeat (first | refine blk_drewN ?_ _ | refine blk_drew ?_ | refine blk_alloc ?_ _)); refine blk_put (cs := #[.int .u64 0, .int .u64 0, .int .u64 0, .int .u64 0, .int .i64 0, .int .i64 0]) ?_ 0 _ rfl; exact bfL BK581.out⟩
        have n2_ : Aside0 (((((((((((((w12.setCell ⟨gb581, 0, none⟩ (.int .u64 a1_0)).setCell ⟨gb581, 1, none⟩ (.int .u64 a1_1)).setCell ⟨gb581, 2, none⟩ (.int .u64 a1_2)).setCell ⟨gb581, 3, none⟩ (.int .u64 a1_3)).setCell ⟨gb581, 4, none⟩ (.int .i64 a1_4)).setCell ⟨gb581, 5, none⟩ (.int .i64 a1_5)).setCell ⟨gb582, 0, none⟩ (.int .u64 a1_6)).setCell ⟨gb582, 1, none⟩ (.int .u64 a1_7)).setCell ⟨gb582, 2, none⟩ (.int .u64 a1_8)).setCell ⟨gb582, 3, none⟩ (.int .u64 a1_9)).setCell ⟨gb582, 4, none⟩ (.int .i64 a1_10)).setCell ⟨gb582, 5, none⟩ (.int .i64 a1_11)).heap[gb582]? = some (.cells #[.int .u64 a1_6, .int .u64 a1_7, .int .u64 a1_8, .int .u64 a1_9, .int .i64 a1_10, .int .i64 a1_11] 50 (0, 0))) := ⟨by (with_reducible repeat (first | refine blk_drewN ?_ _ | refine blk_drew ?_ | refine blk_alloc ?_ _)); refine blk_put (cs := #[.int .u64 a1_6, .int .u64 a1_7, .int .u64 a1_8, .int .u64 a1_9, .int .i64 a1_10, .int .i64 0]) ?_ 5 _ rfl; (with_reducible repeat (first | refine blk_drewN ?_ _ | refine blk_drew ?_ | refine blk_alloc ?_ _)); refine blk_put (cs := #[.int .u64 a1_6, .int .u64 a1_7, .int .u64 a1_8, .int .u64 a1_9, .int .i64 0, .int .i64 0]) ?_ 4 _ rfl; (with_reducible repeat (first | refine blk_drewN ?_ _ | refine blk_drew ?_ | refine blk_alloc ?_ _)); refine blk_put (cs := #[.int .u64 a1_6, .int .u64 a1_7, .int .u64 a1_8, .int .u64 0, .int .i64 0, .int .i64 0]) ?_ 3 _ rfl; (with_reducible repeat (first | refine blk_drewN ?_ _ | refine blk_drew ?_ | refine blk_alloc ?_ _)); refine blk_put (cs := #[.int .u64 a1_6, .int .u64 a1_7, .int .u64 0, .int .u64 0, .int .i64 0, .int .i64 0]) ?_ 2 _ rfl; (with_reducible repeat (first | refine blk_drewN ?_ _ | refine blk_drew ?_ | refine blk_alloc ?_ _)); refine blk_put (cs := #[.int .u64 a1_6, .int .u64 0, .int .u64 0, .int .u64 0, .int .i64 0, .int .i64 0]) ?_ 1 _ rfl; (with_reducible repeat (first | refine blk_drewN ?_ _ | refine blk_drew ?_ | refine blk_alloc ?_ _)); refine blk_put (cs := #[.int .u64 0, .int .u64 0, .int .u64 0, .int .u64 0, .int .i64 0, .int .i64 0]) ?_ 0 _ rfl; exact bfL BK582.out⟩
        have n3_ : Aside0 (Below w.heap.size w ((((((((((((w12.setCell ⟨gb581, 0, none⟩ (.int .u64 a1_0)).setCell ⟨gb581, 1, none⟩ (.int .u64 a1_1)).setCell ⟨gb581, 2, none⟩ (.int .u64 a1_2)).setCell ⟨gb581, 3, none⟩ (.int .u64 a1_3)).setCell ⟨gb581, 4, none⟩ (.int .i64 a1_4)).setCell ⟨gb581, 5, none⟩ (.int .i64 a1_5)).setCell ⟨gb582, 0, none⟩ (.int .u64 a1_6)).setCell ⟨gb582, 1, none⟩ (.int .u64 a1_7)).setCell ⟨gb582, 2, none⟩ (.int .u64 a1_8)).setCell ⟨gb582, 3, none⟩ (.int .u64 a1_9)).setCell ⟨gb582, 4, none⟩ (.int .i64 a1_10)).setCell ⟨gb582, 5, none⟩ (.int .i64 a1_11))) := ⟨bsL HB.out⟩
        (try clear BK579)
        (try clear BK581)
        (try clear BK582)
        (try clear HB)
        generalize ((((((((((((w12.setCell ⟨gb581, 0, none⟩ (.int .u64 a1_0)).setCell ⟨gb581, 1, none⟩ (.int .u64 a1_1)).setCell ⟨gb581, 2, none⟩ (.int .u64 a1_2)).setCell ⟨gb581, 3, none⟩ (.int .u64 a1_3)).setCell ⟨gb581, 4, none⟩ (.int .i64 a1_4)).setCell ⟨gb581, 5, none⟩ (.int .i64 a1_5)).setCell ⟨gb582, 0, none⟩ (.int .u64 a1_6)).setCell ⟨gb582, 1, none⟩ (.int .u64 a1_7)).setCell ⟨gb582, 2, none⟩ (.int .u64 a1_8)).setCell ⟨gb582, 3, none⟩ (.int .u64 a1_9)).setCell ⟨gb582, 4, none⟩ (.int .i64 a1_10)).setCell ⟨gb582, 5, none⟩ (.int .i64 a1_11)) = w82 at n0_ n1_ n2_ n3_ ⊢
        have BK579 := n0_
        have BK581 := n1_
        have BK582 := n2_
        have HB := n3_
        clear n0_ n1_ n2_ n3_
        replace BK579 := Aside0.mk (blk_drew BK579.out)
        replace BK581 := Aside0.mk (blk_drew BK581.out)
        replace BK582 := Aside0.mk (blk_drew BK582.out)
        replace HB := Aside0.mk (below_drew1 HB.out)
        refine start_ (n := 52) (S := fun w' => w'.cell? ⟨gb581, 0, none⟩ = some (.int .u64 a1_0) ∧ w'.cell? ⟨gb581, 1, none⟩ = some (.int .u64 a1_1) ∧ w'.cell? ⟨gb581, 2, none⟩ = some (.int .u64 a1_2) ∧ w'.cell? ⟨gb581, 3, none⟩ = some (.int .u64 a1_3) ∧ w'.cell? ⟨gb581, 4, none⟩ = some (.int .i64 a1_4) ∧ w'.cell? ⟨gb581, 5, none⟩ = some (.int .i64 a1_5) ∧ w'.cell? ⟨gb582, 0, none⟩ = some (.int .u64 a1_6) ∧ w'.cell? ⟨gb582, 1, none⟩ = some (.int .u64 a1_7) ∧ w'.cell? ⟨gb582, 2, none⟩ = some (.int .u64 a1_8) ∧ w'.cell? ⟨gb582, 3, none⟩ = some (.int .u64 a1_9) ∧ w'.cell? ⟨gb582, 4, none⟩ = some (.int .i64 a1_10) ∧ w'.cell? ⟨gb582, 5, none⟩ = some (.int .i64 a1_11)) (ds := []) (bA 52 0) (by kernel_rfl) rfl rfl (by repeat' (first | apply And.intro | exact (blk_cell BK581.out _).trans rfl | exact (blk_cell BK582.out _).trans rfl)) (fun hHeld => ?_); refine with_tabW jacquardlaw14_FactsElements.tab4 jacquardlaw14_FactsElements.bits4 (fun HT_ HW_ => ?_)
        generalize w82.drew = w83 at BK579 BK581 BK582 HB hHeld ⊢
        refine pureA HT_ (i := 0) (N := some 21) (bA 52 1) ?_
        refine pureA HT_ (i := 2) (N := some 23) (bA 52 5) ?_
        refine one_ (i := 1) (N := some 22) (bA 52 7) rfl rfl (one_of HT_.out (by kernel_rfl)) (by decide) (fun K hK => ?_)
        refine gO Try.func30 #[.int .i64 a0] ?_
        with_reducible refine (facts_Top.calls a0 t583 t584 t585 t586 t587 t588 _ A25.out).mono ?_
        rintro e w84 ⟨rfl, hb⟩
        refine ⟨_, rfl, ?_⟩
        replace BK579 := bkB BK579.out hb
        replace BK581 := bkB BK581.out hb
        replace BK582 := bkB BK582.out hb
        replace HB := bsB HB.out hb
        (try clear hb)
        refine hK.out _ _ (by repeat' (first | apply And.intro | exact (blk_cell BK581.out _).trans rfl | exact (blk_cell BK582.out _).trans rfl)) (fun hHeld => ?_)
        clear hK K
        refine normA (some 22) ?_
        refine one_ (i := 3) (N := some 24) (bA 52 15) rfl rfl (one_of HT_.out (by kernel_rfl)) (by decide) (fun K hK => ?_)
        refine gO Try.func31 #[.int .i64 a0] ?_
        with_reducible refine (jacquardref14_Top.calls k a0 t589 t590 t591 t592 t593 t594 _ A26.out).mono ?_
        rintro e w85 ⟨rfl, hb⟩
        refine ⟨_, rfl, ?_⟩
        replace BK579 := bkB BK579.out hb
        replace BK581 := bkB BK581.out hb
        replace BK582 := bkB BK582.out hb
        replace HB := bsB HB.out hb
        (try clear hb)
        refine hK.out _ _ (by repeat' (first | apply And.intro | exact (blk_cell BK581.out _).trans rfl | exact (blk_cell BK582.out _).trans rfl)) (fun hHeld => ?_)
        clear hK K
        refine normA (some 24) ?_
        refine pureA HT_ (i := 4) (N := some 25) (bA 52 31) ?_
        refine pureA HT_ (i := 5) (N := some 26) (bA 52 63) ?_
        refine pureA HT_ (i := 6) (N := some 27) (bA 52 127) ?_
        refine pureA HT_ (i := 7) (N := some 28) (bA 52 255) ?_
        refine pureA HT_ (i := 9) (N := some 30) (bA 52 767) ?_
        refine pureA HT_ (i := 10) (N := some 31) (bA 52 1791) ?_
        refine one_ (i := 8) (N := some 29) (bA 52 2047) rfl rfl (one_of HT_.out (by kernel_rfl)) (by decide) (fun K hK => ?_)
        refine gO Try.func32 #[.int .i64 a0, .int .u64 a2] ?_
        with_reducible refine (facts_Of.calls a0 a2 t595 t596 t597 t598 t599 t600 _ A32.out).mono ?_
        rintro e w86 ⟨rfl, hb⟩
        refine ⟨_, rfl, ?_⟩
        replace BK579 := bkB BK579.out hb
        replace BK581 := bkB BK581.out hb
        replace BK582 := bkB BK582.out hb
        replace HB := bsB HB.out hb
        (try clear hb)
        refine hK.out _ _ (by repeat' (first | apply And.intro | exact (blk_cell BK581.out _).trans rfl | exact (blk_cell BK582.out _).trans rfl)) (fun hHeld => ?_)
        clear hK K
        refine normA (some 29) ?_
        refine one_ (i := 11) (N := some 32) (bA 52 4095) rfl rfl (one_of HT_.out (by kernel_rfl)) (by decide) (fun K hK => ?_)
        refine gO Try.func33 #[.int .i64 a0, .int .u64 a2] ?_
        with_reducible refine (jacquardref14_Of.calls k a0 a2 t601 t602 t603 t604 t605 t606 _ A33.out).mono ?_
        rintro e w87 ⟨rfl, hb⟩
        refine ⟨_, rfl, ?_⟩
        replace BK579 := bkB BK579.out hb
        replace BK581 := bkB BK581.out hb
        replace BK582 := bkB BK582.out hb
        replace HB := bsB HB.out hb
        (try clear hb)
        refine hK.out _ _ (by repeat' (first | apply And.intro | exact (blk_cell BK581.out _).trans rfl | exact (blk_cell BK582.out _).trans rfl)) (fun hHeld => ?_)
        clear hK K
        refine normA (some 32) ?_
        refine pureA HT_ (i := 12) (N := some 33) (bA 52 8191) ?_
        refine pureA HT_ (i := 13) (N := some 34) (bA 52 16383) ?_
        refine pureA HT_ (i := 14) (N := some 35) (bA 52 32767) ?_
        refine pureA HT_ (i := 15) (N := some 36) (bA 52 65535) ?_
        refine pureA HT_ (i := 18) (N := some 39) (bA 52 327679) ?_
        refine takeA HT_ HW_ hHeld (i := 16) (N := some 37) (bA 52 393215) ?_ (hy := by rintro w' ⟨s0, s1, s2, s3, s4, s5, s6, s7, s8, s9, s10, s11⟩; go_simp; with_reducible rfl)
        refine takeA HT_ HW_ hHeld (i := 19) (N := some 40) (bA 52 917503) ?_ (hy := by rintro w' ⟨s0, s1, s2, s3, s4, s5, s6, s7, s8, s9, s10, s11⟩; go_simp; with_reducible rfl)
        refine one_ (i := 17) (N := some 38) (bA 52 1048575) rfl rfl (one_of HT_.out (by kernel_rfl)) (by decide) (fun K hK => ?_)
        refine gO Try.func34 #[.int .i64 a0, .agg #[.int .u64 a1_0, .int .u64 a1_1, .int .u64 a1_2, .int .u64 a1_3, .int .i64 a1_4, .int .i64 a1_5]] ?_
        with_reducible refine (facts_Valid.calls a0 a1_0 a1_1 a1_2 a1_3 a1_4 a1_5 t607 _ A41.out).mono ?_
        rintro e w88 ⟨rfl, hb⟩
        refine ⟨_, rfl, ?_⟩
        replace BK579 := bkB BK579.out hb
        replace BK581 := bkB BK581.out hb
        replace BK582 := bkB BK582.out hb
        replace HB := bsB HB.out hb
        (try clear hb)
        refine hK.out _ _ (by repeat' (first | apply And.intro | exact (blk_cell BK581.out _).trans rfl | exact (blk_cell BK582.out _).trans rfl)) (fun hHeld => ?_)
        clear hK K
        refine normA (some 38) ?_
        refine one_ (i := 20) (N := some 41) (bA 52 2097151) rfl rfl (one_of HT_.out (by kernel_rfl)) (by decide) (fun K hK => ?_)
        refine gO Try.func27 #[.int .i64 a0, .agg #[.int .u64 a1_0, .int .u64 a1_1, .int .u64 a1_2, .int .u64 a1_3, .int .i64 a1_4, .int .i64 a1_5]] ?_
        with_reducible refine (jacquardref14_Valid.calls k a0 a1_0 a1_1 a1_2 a1_3 a1_4 a1_5 t608 _ A42.out).mono ?_
        rintro e w89 ⟨rfl, hb⟩
        refine ⟨_, rfl, ?_⟩
        replace BK579 := bkB BK579.out hb
        replace BK581 := bkB BK581.out hb
        replace BK582 := bkB BK582.out hb
        replace HB := bsB HB.out hb
        (try clear hb)
        refine hK.out _ _ (by repeat' (first | apply And.intro | exact (blk_cell BK581.out _).trans rfl | exact (blk_cell BK582.out _).trans rfl)) (fun hHeld => ?_)
        clear hK K
        refine normA (some 41) ?_
        refine pureA HT_ (i := 21) (N := some 42) (bA 52 4194303) ?_
        refine pureA HT_ (i := 22) (N := some 43) (bA 52 8388607) ?_
        refine pureA HT_ (i := 23) (N := some 44) (bA 52 16777215) ?_
        refine pureA HT_ (i := 24) (N := some 45) (bA 52 33554431) ?_
        refine pureA HT_ (i := 26) (N := some 47) (bA 52 100663295) ?_
        refine pureA HT_ (i := 28) (N := some 49) (bA 52 369098751) ?_
        refine pureA HT_ (i := 30) (N := some 51) (bA 52 1442840575) ?_
        refine takeA HT_ HW_ hHeld (i := 25) (N := some 46) (bA 52 1476395007) ?_ (hy := by rintro w' ⟨s0, s1, s2, s3, s4, s5, s6, s7, s8, s9, s10, s11⟩; go_simp; with_reducible rfl)
        refine takeA HT_ HW_ hHeld (i := 29) (N := some 50) (bA 52 2013265919) ?_ (hy := by rintro w' ⟨s0, s1, s2, s3, s4, s5, s6, s7, s8, s9, s10, s11⟩; go_simp; with_reducible rfl)
        refine one_ (i := 27) (N := some 48) (bA 52 2147483647) rfl rfl (one_of HT_.out (by kernel_rfl)) (by decide) (fun K hK => ?_)
        refine gO Try.func28 #[.int .i64 a0, .agg #[.int .u64 a1_0, .int .u64 a1_1, .int .u64 a1_2, .int .u64 a1_3, .int .i64 a1_4, .int .i64 a1_5], .int .u64 a2] ?_
        with_reducible refine (facts_Contains.calls a0 a1_0 a1_1 a1_2 a1_3 a1_4 a1_5 a2 t609 _ A52.out).mono ?_
        rintro e w90 ⟨rfl, hb⟩
        refine ⟨_, rfl, ?_⟩
        replace BK579 := bkB BK579.out hb
        replace BK581 := bkB BK581.out hb
        replace BK582 := bkB BK582.out hb
        replace HB := bsB HB.out hb
        (try clear hb)
        refine hK.out _ _ (by repeat' (first | apply And.intro | exact (blk_cell BK581.out _).trans rfl | exact (blk_cell BK582.out _).trans rfl)) (fun hHeld => ?_)
        clear hK K
        refine normA (some 48) ?_
        refine one_ (i := 31) (N := some 52) (bA 52 4294967295) rfl rfl (one_of HT_.out (by kernel_rfl)) (by decide) (fun K hK => ?_)
        refine gO Try.func35 #[.int .i64 a0, .agg #[.int .u64 a1_0, .int .u64 a1_1, .int .u64 a1_2, .int .u64 a1_3, .int .i64 a1_4, .int .i64 a1_5], .int .u64 a2] ?_
        with_reducible refine (jacquardref14_Contains.calls k a0 a1_0 a1_1 a1_2 a1_3 a1_4 a1_5 a2 t610 _ A53.out).mono ?_
        rintro e w91 ⟨rfl, hb⟩
        refine ⟨_, rfl, ?_⟩
        replace BK579 := bkB BK579.out hb
        replace BK581 := bkB BK581.out hb
        replace BK582 := bkB BK582.out hb
        replace HB := bsB HB.out hb
        (try clear hb)
        refine hK.out _ _ (by repeat' (first | apply And.intro | exact (blk_cell BK581.out _).trans rfl | exact (blk_cell BK582.out _).trans rfl)) (fun hHeld => ?_)
        clear hK K
        refine normA (some 52) ?_
        refine pureA HT_ (i := 32) (N := some 53) (bA 52 8589934591) ?_
        refine pureA HT_ (i := 33) (N := some 54) (bA 52 17179869183) ?_
        refine pureA HT_ (i := 34) (N := some 55) (bA 52 34359738367) ?_
        refine takeA HT_ HW_ hHeld (i := 35) (N := some 56) (bA 52 68719476735) ?_ (hy := by rintro w' ⟨s0, s1, s2, s3, s4, s5, s6, s7, s8, s9, s10, s11⟩; go_simp; with_reducible rfl)
        refine takeA HT_ HW_ hHeld (i := 36) (N := some 57) (bA 52 137438953471) ?_ (hy := by rintro w' ⟨s0, s1, s2, s3, s4, s5, s6, s7, s8, s9, s10, s11⟩; go_simp; with_reducible rfl)
        refine takeA HT_ HW_ hHeld (i := 38) (N := some 59) (bA 52 412316860415) ?_ (hy := by rintro w' ⟨s0, s1, s2, s3, s4, s5, s6, s7, s8, s9, s10, s11⟩; go_simp; with_reducible rfl)
        refine takeA HT_ HW_ hHeld (i := 39) (N := some 60) (bA 52 962072674303) ?_ (hy := by rintro w' ⟨s0, s1, s2, s3, s4, s5, s6, s7, s8, s9, s10, s11⟩; go_simp; with_reducible rfl)
        refine one_ (i := 37) (N := some 58) (bA 52 1099511627775) rfl rfl (one_of HT_.out (by kernel_rfl)) (by decide) (fun K hK => ?_)
        refine gO Try.func29 #[.agg #[.int .u64 a1_0, .int .u64 a1_1, .int .u64 a1_2, .int .u64 a1_3, .int .i64 a1_4, .int .i64 a1_5], .agg #[.int .u64 a1_6, .int .u64 a1_7, .int .u64 a1_8, .int .u64 a1_9, .int .i64 a1_10, .int .i64 a1_11]] ?_
        with_reducible refine (facts_Leq.calls a1_0 a1_1 a1_2 a1_3 a1_4 a1_5 a1_6 a1_7 a1_8 a1_9 a1_10 a1_11 t611 _ A65.out).mono ?_
        rintro e w92 ⟨rfl, hb⟩
        refine ⟨_, rfl, ?_⟩
        replace BK579 := bkB BK579.out hb
        replace BK581 := bkB BK581.out hb
        replace BK582 := bkB BK582.out hb
        replace HB := bsB HB.out hb
        (try clear hb)
        refine hK.out _ _ (by repeat' (first | apply And.intro | exact (blk_cell BK581.out _).trans rfl | exact (blk_cell BK582.out _).trans rfl)) (fun hHeld => ?_)
        clear hK K
        refine normA (some 58) ?_
        refine one_ (i := 40) (N := some 61) (bA 52 2199023255551) rfl rfl (one_of HT_.out (by kernel_rfl)) (by decide) (fun K hK => ?_)
        refine gO Try.func36 #[.agg #[.int .u64 a1_0, .int .u64 a1_1, .int .u64 a1_2, .int .u64 a1_3, .int .i64 a1_4, .int .i64 a1_5], .agg #[.int .u64 a1_6, .int .u64 a1_7, .int .u64 a1_8, .int .u64 a1_9, .int .i64 a1_10, .int .i64 a1_11]] ?_
        with_reducible refine (jacquardref14_Leq.calls a1_0 a1_1 a1_2 a1_3 a1_4 a1_5 a1_6 a1_7 a1_8 a1_9 a1_10 a1_11 t612 _ A66.out).mono ?_
        rintro e w93 ⟨rfl, hb⟩
        refine ⟨_, rfl, ?_⟩
        replace BK579 := bkB BK579.out hb
        replace BK581 := bkB BK581.out hb
        replace BK582 := bkB BK582.out hb
        replace HB := bsB HB.out hb
        (try clear hb)
        refine hK.out _ _ (by repeat' (first | apply And.intro | exact (blk_cell BK581.out _).trans rfl | exact (blk_cell BK582.out _).trans rfl)) (fun hHeld => ?_)
        clear hK K
        refine normA (some 61) ?_
        refine pureA HT_ (i := 41) (N := some 62) (bA 52 4398046511103) ?_
        refine pureA HT_ (i := 42) (N := some 63) (bA 52 8796093022207) ?_
        refine pureA HT_ (i := 43) (N := some 64) (bA 52 17592186044415) ?_
        refine takeA HT_ HW_ hHeld (i := 44) (N := some 65) (bA 52 35184372088831) ?_ (hy := by rintro w' ⟨s0, s1, s2, s3, s4, s5, s6, s7, s8, s9, s10, s11⟩; go_simp; with_reducible rfl)
        refine takeA HT_ HW_ hHeld (i := 45) (N := some 66) (bA 52 70368744177663) ?_ (hy := by rintro w' ⟨s0, s1, s2, s3, s4, s5, s6, s7, s8, s9, s10, s11⟩; go_simp; with_reducible rfl)
        refine takeA HT_ HW_ hHeld (i := 47) (N := some 68) (bA 52 211106232532991) ?_ (hy := by rintro w' ⟨s0, s1, s2, s3, s4, s5, s6, s7, s8, s9, s10, s11⟩; go_simp; with_reducible rfl)
        refine takeA HT_ HW_ hHeld (i := 48) (N := some 69) (bA 52 492581209243647) ?_ (hy := by rintro w' ⟨s0, s1, s2, s3, s4, s5, s6, s7, s8, s9, s10, s11⟩; go_simp; with_reducible rfl)
        refine one_ (i := 46) (N := some 67) (bA 52 562949953421311) rfl rfl (one_of HT_.out (by kernel_rfl)) (by decide) (fun K hK => ?_)
        refine gO Try.func37 #[.agg #[.int .u64 a1_0, .int .u64 a1_1, .int .u64 a1_2, .int .u64 a1_3, .int .i64 a1_4, .int .i64 a1_5], .agg #[.int .u64 a1_6, .int .u64 a1_7, .int .u64 a1_8, .int .u64 a1_9, .int .i64 a1_10, .int .i64 a1_11]] ?_
        with_reducible refine (facts_Join.calls a1_0 a1_1 a1_2 a1_3 a1_4 a1_5 a1_6 a1_7 a1_8 a1_9 a1_10 a1_11 t613 t614 t615 t616 t617 t618 _ A80.out).mono ?_
        rintro e w94 ⟨rfl, hb⟩
        refine ⟨_, rfl, ?_⟩
        replace BK579 := bkB BK579.out hb
        replace BK581 := bkB BK581.out hb
        replace BK582 := bkB BK582.out hb
        replace HB := bsB HB.out hb
        (try clear hb)
        refine hK.out _ _ (by repeat' (first | apply And.intro | exact (blk_cell BK581.out _).trans rfl | exact (blk_cell BK582.out _).trans rfl)) (fun hHeld => ?_)
        clear hK K
        refine normA (some 67) ?_
        refine one_ (i := 49) (N := some 70) (bA 52 1125899906842623) rfl rfl (one_of HT_.out (by kernel_rfl)) (by decide) (fun K hK => ?_)
        refine gO Try.func38 #[.agg #[.int .u64 a1_0, .int .u64 a1_1, .int .u64 a1_2, .int .u64 a1_3, .int .i64 a1_4, .int .i64 a1_5], .agg #[.int .u64 a1_6, .int .u64 a1_7, .int .u64 a1_8, .int .u64 a1_9, .int .i64 a1_10, .int .i64 a1_11]] ?_
        with_reducible refine (jacquardref14_Join.calls a1_0 a1_1 a1_2 a1_3 a1_4 a1_5 a1_6 a1_7 a1_8 a1_9 a1_10 a1_11 t619 t620 t621 t622 t623 t624 _ A81.out).mono ?_
        rintro e w95 ⟨rfl, hb⟩
        refine ⟨_, rfl, ?_⟩
        replace BK579 := bkB BK579.out hb
        replace BK581 := bkB BK581.out hb
        replace BK582 := bkB BK582.out hb
        replace HB := bsB HB.out hb
        (try clear hb)
        refine hK.out _ _ (by repeat' (first | apply And.intro | exact (blk_cell BK581.out _).trans rfl | exact (blk_cell BK582.out _).trans rfl)) (fun hHeld => ?_)
        clear hK K
        refine normA (some 70) ?_
        refine pureA HT_ (i := 50) (N := some 71) (bA 52 2251799813685247) ?_
        refine pureA HT_ (i := 51) (N := some 72) (bA 52 4503599627370495) ?_
        refine done_ (done_of HT_.out (by kernel_rfl)) ?_
        try go_wp2
        go_meet
        case rel => exact ⟨_, ((!(t613 == t619) || (!(t614 == t620) || (!(t615 == t621) || (!(t616 == t622) || (!(t617 == t623) || (!(t618 == t624)))))))), (by first | rfl | (simp; done) | (simp [*]; done)), H', ⟨by first | omega | exact Nat.le_refl _⟩, ⟨bkL BK579.out⟩, ⟨bkL BK581.out⟩, ⟨bkL BK582.out⟩, ⟨bsL HB.out⟩⟩
  case rest =>
   clear HC6
   try clear c2
   try clear p2
   try clear c3
   try clear c27
   try clear c28
   try clear c29
   try clear c32
   try clear c33
   try clear c34
   try clear c35
   try clear c36
   try clear c37
   try clear c38
   obtain ⟨kq, x72_5, rfl, HA, HJ5, BK579, BK581, BK582, HB⟩ := hcut
   cases kq with
   | zero => exact absurd HA.out (by simp [jacquardlaw14_FactsElements.j0])
   | succ kj5 =>
    have H := HA.out
    clear HA
    simp only [jacquardlaw14_FactsElements.j0] at H
    by_cases c96 : x72_5 = true
    ·
     subst c96
     have H1 : (some false) = some r := by rw [if_pos rfl] at H; exact H
     clear H
     have H := H1
     clear H1
     obtain rfl := Option.some.inj H
     go_wp2
     go_ret
     exact ⟨by first | rfl | (simp [errW_none, errW_some] <;> rfl) | (simp [*, errW_none, errW_some] <;> rfl), bsL HB.out⟩
    ·
     replace c96 := Bool.eq_false_iff.mpr c96
     subst c96
     rw [if_neg (show ¬ (false = true) by decide)] at H
     have H1 := H
     clear H
     have H := H1
     clear H1
     replace H := Option.bind_eq_some_iff.mp H
     obtain ⟨⟨t625, t626, t627, t628, t629, t630, t631⟩, A970, H⟩ := H
     try dsimp only at H
     have A97 := Aside0.mk A970
     clear A970
     replace H := Option.bind_eq_some_iff.mp H
     obtain ⟨⟨t633, t634, t635, t636, t637, t638, t639⟩, A980, H⟩ := H
     try dsimp only at H
     have A98 := Aside0.mk A980
     clear A980
     have HC99 := Aside0.mk H
     clear H
     have hnb100 := NB581_579.out
     have hnc100 := NB579_581.out
     have hnb101 := NB581_582.out
     have hnc101 := NB582_581.out
     obtain ⟨hcz102_0, hcz102_1, hcz102_2, hcz102_3, hcz102_4, hcz102_5, hfz102_0, hfz102_1, hfz102_2, hfz102_3, hfz102_4, hfz102_5⟩ := own6 BK581.out
     have hnb103 := NB582_579.out
     have hnc103 := NB579_582.out
     obtain ⟨hcz104_0, hcz104_1, hcz104_2, hcz104_3, hcz104_4, hcz104_5, hfz104_0, hfz104_1, hfz104_2, hfz104_3, hfz104_4, hfz104_5⟩ := own6 BK582.out
     go_upto_region 8 with (first | ((with_reducible refine gate_callee (f := 39) rfl ?_); refine gL (some 77) Try.func39 #[.int .i64 a0, .agg #[.int .u64 a1_0, .int .u64 a1_1, .int .u64 a1_2, .int .u64 a1_3, .int .i64 a1_4, .int .i64 a1_5], .agg #[.int .u64 a1_6, .int .u64 a1_7, .int .u64 a1_8, .int .u64 a1_9, .int .i64 a1_10, .int .i64 a1_11]] ?_; (with_reducible refine (facts_Meet.calls kj5 a0 a1_0 a1_1 a1_2 a1_3 a1_4 a1_5 a1_6 a1_7 a1_8 a1_9 a1_10 a1_11 t625 t626 t627 t628 t629 t630 t631 _ A97.out).mono ?_); rintro e w105 ⟨rfl, hb⟩; refine ⟨_, rfl, ?_⟩; replace BK579 := bkB BK579.out hb; replace BK581 := bkB BK581.out hb; replace BK582 := bkB BK582.out hb; replace HB := bsB HB.out hb; (try clear hb)) | ((with_reducible refine gate_dst (N := 9) rfl ?_); refine boxE (N := 9) (cs := #[.int .u64 0, .int .u64 0, .int .u64 0, .int .u64 0, .int .i64 0, .int .i64 0]) (t := 50) ?_; intro gb632 hg w106 hbox hb; have BK632 := Aside0.mk (hbox); have GW632 := szB hg HB.out; have GE632 := szB hg HB.out; have NB579_632 := neL hg BK579.out; have NB632_579 := neG hg BK579.out; have NB581_632 := neL hg BK581.out; have NB632_581 := neG hg BK581.out; have NB582_632 := neL hg BK582.out; have NB632_582 := neG hg BK582.out; replace BK579 := bkB BK579.out hb; replace BK581 := bkB BK581.out hb; replace BK582 := bkB BK582.out hb; replace HB := bsB HB.out hb; clear hb hbox hg; have hnb107 := NB632_579.out; have hnc107 := NB579_632.out; have hnb108 := NB632_581.out; have hnc108 := NB581_632.out; have hnb109 := NB632_582.out; have hnc109 := NB582_632.out; obtain ⟨hcz110_0, hcz110_1, hcz110_2, hcz110_3, hcz110_4, hcz110_5, hfz110_0, hfz110_1, hfz110_2, hfz110_3, hfz110_4, hfz110_5⟩ := own6 BK632.out; obtain ⟨hcz111_0, hcz111_1, hcz111_2, hcz111_3, hcz111_4, hcz111_5, hfz111_0, hfz111_1, hfz111_2, hfz111_3, hfz111_4, hfz111_5⟩ := own6 BK581.out; obtain ⟨hcz112_0, hcz112_1, hcz112_2, hcz112_3, hcz112_4, hcz112_5, hfz112_0, hfz112_1, hfz112_2, hfz112_3, hfz112_4, hfz112_5⟩ := own6 BK582.out) | ((with_reducible refine gate_callee (f := 40) rfl ?_); refine gL (some 84) Try.func40 #[.int .i64 a0, .agg #[.int .u64 a1_0, .int .u64 a1_1, .int .u64 a1_2, .int .u64 a1_3, .int .i64 a1_4, .int .i64 a1_5], .agg #[.int .u64 a1_6, .int .u64 a1_7, .int .u64 a1_8, .int .u64 a1_9, .int .i64 a1_10, .int .i64 a1_11]] ?_; (with_reducible refine (jacquardref14_Meet.calls kj5 a0 a1_0 a1_1 a1_2 a1_3 a1_4 a1_5 a1_6 a1_7 a1_8 a1_9 a1_10 a1_11 t633 t634 t635 t636 t637 t638 t639 _ A98.out).mono ?_); rintro e w113 ⟨rfl, hb⟩; refine ⟨_, rfl, ?_⟩; replace BK579 := Aside0.mk (blk_below (g := gb579) (o := .cells #[.int .u64 a1_0, .int .u64 a1_1, .int .u64 a1_2, .int .u64 a1_3, .int .i64 a1_4, .int .i64 a1_5, .int .u64 a1_6, .int .u64 a1_7, .int .u64 a1_8, .int .u64 a1_9, .int .i64 a1_10, .int .i64 a1_11] 56 (0, 0)) (by exact bfL BK579.out) hb); replace BK581 := Aside0.mk (blk_below (g := gb581) (o := .cells #[.int .u64 a1_0, .int .u64 a1_1, .int .u64 a1_2, .int .u64 a1_3, .int .i64 a1_4, .int .i64 a1_5] 50 (0, 0)) (by exact bfL BK581.out) hb); replace BK582 := Aside0.mk (blk_below (g := gb582) (o := .cells #[.int .u64 a1_6, .int .u64 a1_7, .int .u64 a1_8, .int .u64 a1_9, .int .i64 a1_10, .int .i64 a1_11] 50 (0, 0)) (by exact bfL BK582.out) hb); replace BK632 := Aside0.mk (blk_below (g := gb632) (o := .cells #[.int .u64 t625, .int .u64 t626, .int .u64 t627, .int .u64 t628, .int .i64 t629, .int .i64 t630] 50 (0, 0)) (by (with_reducible repeat (first | refine blk_drewN ?_ _ | refine blk_drew ?_ | refine blk_alloc ?_ _)); refine blk_put (cs := #[.int .u64 t625, .int .u64 t626, .int .u64 t627, .int .u64 t628, .int .i64 t629, .int .i64 0]) ?_ 5 _ rfl; (with_reducible repeat (first | refine blk_drewN ?_ _ | refine blk_drew ?_ | refine blk_alloc ?_ _)); refine blk_put (cs := #[.int .u64 t625, .int .u64 t626, .int .u64 t627, .int .u64 t628, .int .i64 0, .int .i64 0]) ?_ 4 _ rfl; (with_reducible repeat (first | refine blk_drewN ?_ _ | refine blk_drew ?_ | refine blk_alloc ?_ _)); refine blk_put (cs := #[.int .u64 t625, .int .u64 t626, .int .u64 t627, .int .u64 0, .int .i64 0, .int .i64 0]) ?_ 3 _ rfl; (with_reducible repeat (first | refine blk_drewN ?_ _ | refine blk_drew ?_ | refine blk_alloc ?_ _)); refine blk_put (cs := #[.int .u64 t625, .int .u64 t626, .int .u64 0, .int .u64 0, .int .i64 0, .int .i64 0]) ?_ 2 _ rfl; (with_reducible repeat (first | refine blk_drewN ?_ _ | refine blk_drew ?_ | refine blk_alloc ?_ _)); refine blk_put (cs := #[.int .u64 t625, .int .u64 0, .int .u64 0, .int .u64 0, .int .i64 0, .int .i64 0]) ?_ 1 _ rfl; (with_reducible repeat (first | refine blk_drewN ?_ _ | refine blk_drew ?_ | refine blk_alloc ?_ _)); refine blk_put (cs := #[.int .u64 0, .int .u64 0, .int .u64 0, .int .u64 0, .int .i64 0, .int .i64 0]) ?_ 0 _ rfl; exact bfL BK632.out) hb); replace HB := bsB HB.out hb; (try clear hb); (try clear hb2); (try clear hk); (try clear hi)) | ((with_reducible refine gate_dst (N := 11) rfl ?_); refine boxE (N := 11) (cs := #[.int .u64 0, .int .u64 0, .int .u64 0, .int .u64 0, .int .i64 0, .int .i64 0]) (t := 50) ?_; intro gb640 hg w114 hbox hb; have BK640 := Aside0.mk (hbox); have GW640 := szB hg HB.out; have GE640 := szB hg HB.out; have NB579_640 := neL hg BK579.out; have NB640_579 := neG hg BK579.out; have NB581_640 := neL hg BK581.out; have NB640_581 := neG hg BK581.out; have NB582_640 := neL hg BK582.out; have NB640_582 := neG hg BK582.out; have NB632_640 := neL hg BK632.out; have NB640_632 := neG hg BK632.out; replace BK579 := bkB BK579.out hb; replace BK581 := bkB BK581.out hb; replace BK582 := bkB BK582.out hb; replace BK632 := bkB BK632.out hb; replace HB := bsB HB.out hb; clear hb hbox hg; have hnb115 := NB640_579.out; have hnc115 := NB579_640.out; have hnb116 := NB640_581.out; have hnc116 := NB581_640.out; have hnb117 := NB640_582.out; have hnc117 := NB582_640.out; have hnb118 := NB640_632.out; have hnc118 := NB632_640.out; obtain ⟨hcz119_0, hcz119_1, hcz119_2, hcz119_3, hcz119_4, hcz119_5, hfz119_0, hfz119_1, hfz119_2, hfz119_3, hfz119_4, hfz119_5⟩ := own6 BK640.out))
     (try simp only [Act.put, List.setIfInBounds_toArray, List.set_cons_zero, List.set_cons_succ])
     go_cut [94] (fun v94 wc => ∃ (kq : Nat) (x94_98 : Bool), v94 = .bool x94_98 ∧ Aside0 (jacquardlaw14_FactsElements.j1 kq a0 a2 t631 x94_98 a1_0 a1_1 a1_2 a1_3 a1_4 a1_5 a1_6 a1_7 a1_8 a1_9 a1_10 a1_11 t625 t626 t627 t628 t629 t630 = some r) ∧ Aside0 (kq ≤ kj5) ∧ Aside0 (wc.heap[gb579]? = some (.cells #[.int .u64 a1_0, .int .u64 a1_1, .int .u64 a1_2, .int .u64 a1_3, .int .i64 a1_4, .int .i64 a1_5, .int .u64 a1_6, .int .u64 a1_7, .int .u64 a1_8, .int .u64 a1_9, .int .i64 a1_10, .int .i64 a1_11] 56 (0, 0))) ∧ Aside0 (wc.heap[gb581]? = some (.cells #[.int .u64 a1_0, .int .u64 a1_1, .int .u64 a1_2, .int .u64 a1_3, .int .i64 a1_4, .int .i64 a1_5] 50 (0, 0))) ∧ Aside0 (wc.heap[gb582]? = some (.cells #[.int .u64 a1_6, .int .u64 a1_7, .int .u64 a1_8, .int .u64 a1_9, .int .i64 a1_10, .int .i64 a1_11] 50 (0, 0))) ∧ Aside0 (wc.heap[gb632]? = some (.cells #[.int .u64 t625, .int .u64 t626, .int .u64 t627, .int .u64 t628, .int .i64 t629, .int .i64 t630] 50 (0, 0))) ∧ Aside0 (wc.heap[gb640]? = some (.cells #[.int .u64 t633, .int .u64 t634, .int .u64 t635, .int .u64 t636, .int .i64 t637, .int .i64 t638] 50 (0, 0))) ∧ Aside0 (Below w.heap.size w wc))
     case first =>
      have H := HC99.out
      clear HC99
      by_cases c120 : (!(t625 == t633) || (!(t626 == t634) || (!(t627 == t635) || (!(t628 == t636) || (!(t629 == t637) || (!(t630 == t638))))))) = true
      ·
       rw [if_pos c120] at H
       have c120b0 : (!(t625 == t633) || (!(t626 == t634) || (!(t627 == t635) || (!(t628 == t636) || (!(t629 == t637) || (!(t630 == t638))))))) = true := c120
       clear c120
       (first | rw [c120b0] | (simp only [i64_w, i32_w]; rw [c120b0]) | skip)
       have H' := Aside0.mk H
       clear H
       have hnb121 := NB632_579.out
       have hnc121 := NB579_632.out
       have hnb122 := NB632_581.out
       have hnc122 := NB581_632.out
       have hnb123 := NB632_582.out
       have hnc123 := NB582_632.out
       have hnb124 := NB632_640.out
       have hnc124 := NB640_632.out
       obtain ⟨hcz125_0, hcz125_1, hcz125_2, hcz125_3, hcz125_4, hcz125_5, hfz125_0, hfz125_1, hfz125_2, hfz125_3, hfz125_4, hfz125_5⟩ := own6 BK632.out
       have hnb126 := NB640_579.out
       have hnc126 := NB579_640.out
       have hnb127 := NB640_581.out
       have hnc127 := NB581_640.out
       have hnb128 := NB640_582.out
       have hnc128 := NB582_640.out
       obtain ⟨hcz129_0, hcz129_1, hcz129_2, hcz129_3, hcz129_4, hcz129_5, hfz129_0, hfz129_1, hfz129_2, hfz129_3, hfz129_4, hfz129_5⟩ := own6 BK640.out
       go_wp2
       go_meet
       case rel => exact ⟨_, (true), (by first | rfl | (simp; done) | (simp [*]; done)), H', ⟨by have := HJ5.out; first | omega | exact Nat.le_refl _⟩, ⟨by exact bfL BK579.out⟩, ⟨by exact bfL BK581.out⟩, ⟨by exact bfL BK582.out⟩, ⟨by exact bfL BK632.out⟩, ⟨by (with_reducible repeat (first | refine blk_drewN ?_ _ | refine blk_drew ?_ | refine blk_alloc ?_ _)); refine blk_put (cs := #[.int .u64 t633, .int .u64 t634, .int .u64 t635, .int .u64 t636, .int .i64 t637, .int .i64 0]) ?_ 5 _ rfl; (with_reducible repeat (first | refine blk_drewN ?_ _ | refine blk_drew ?_ | refine blk_alloc ?_ _)); refine blk_put (cs := #[.int .u64 t633, .int .u64 t634, .int .u64 t635, .int .u64 t636, .int .i64 0, .int .i64 0]) ?_ 4 _ rfl; (with_reducible repeat (first | refine blk_drewN ?_ _ | refine blk_drew ?_ | refine blk_alloc ?_ _)); refine blk_put (cs := #[.int .u64 t633, .int .u64 t634, .int .u64 t635, .int .u64 0, .int .i64 0, .int .i64 0]) ?_ 3 _ rfl; (with_reducible repeat (first | refine blk_drewN ?_ _ | refine blk_drew ?_ | refine blk_alloc ?_ _)); refine blk_put (cs := #[.int .u64 t633, .int .u64 t634, .int .u64 0, .int .u64 0, .int .i64 0, .int .i64 0]) ?_ 2 _ rfl; (with_reducible repeat (first | refine blk_drewN ?_ _ | refine blk_drew ?_ | refine blk_alloc ?_ _)); refine blk_put (cs := #[.int .u64 t633, .int .u64 0, .int .u64 0, .int .u64 0, .int .i64 0, .int .i64 0]) ?_ 1 _ rfl; (with_reducible repeat (first | refine blk_drewN ?_ _ | refine blk_drew ?_ | refine blk_alloc ?_ _)); refine blk_put (cs := #[.int .u64 0, .int .u64 0, .int .u64 0, .int .u64 0, .int .i64 0, .int .i64 0]) ?_ 0 _ rfl; exact bfL BK640.out⟩, ⟨bsL HB.out⟩⟩
      ·
       rw [if_neg c120] at H
       have c120b0 : (!(t625 == t633) || (!(t626 == t634) || (!(t627 == t635) || (!(t628 == t636) || (!(t629 == t637) || (!(t630 == t638))))))) = false := by simpa using c120
       clear c120
       (first | rw [c120b0] | (simp only [i64_w, i32_w]; rw [c120b0]) | skip)
       have H' := Aside0.mk H
       clear H
       have hnb130 := NB632_579.out
       have hnc130 := NB579_632.out
       have hnb131 := NB632_581.out
       have hnc131 := NB581_632.out
       have hnb132 := NB632_582.out
       have hnc132 := NB582_632.out
       have hnb133 := NB632_640.out
       have hnc133 := NB640_632.out
       obtain ⟨hcz134_0, hcz134_1, hcz134_2, hcz134_3, hcz134_4, hcz134_5, hfz134_0, hfz134_1, hfz134_2, hfz134_3, hfz134_4, hfz134_5⟩ := own6 BK632.out
       have hnb135 := NB640_579.out
       have hnc135 := NB579_640.out
       have hnb136 := NB640_581.out
       have hnc136 := NB581_640.out
       have hnb137 := NB640_582.out
       have hnc137 := NB582_640.out
       obtain ⟨hcz138_0, hcz138_1, hcz138_2, hcz138_3, hcz138_4, hcz138_5, hfz138_0, hfz138_1, hfz138_2, hfz138_3, hfz138_4, hfz138_5⟩ := own6 BK640.out
       go_wp2
       go_meet
       case rel => exact ⟨_, ((t631 != t639)), (by first | rfl | (simp; done) | (simp [*]; done)), H', ⟨by have := HJ5.out; first | omega | exact Nat.le_refl _⟩, ⟨by exact bfL BK579.out⟩, ⟨by exact bfL BK581.out⟩, ⟨by exact bfL BK582.out⟩, ⟨by exact bfL BK632.out⟩, ⟨by (with_reducible repeat (first | refine blk_drewN ?_ _ | refine blk_drew ?_ | refine blk_alloc ?_ _)); refine blk_put (cs := #[.int .u64 t633, .int .u64 t634, .int .u64 t635, .int .u64 t636, .int .i64 t637, .int .i64 0]) ?_ 5 _ rfl; (with_reducible repeat (first | refine blk_drewN ?_ _ | refine blk_drew ?_ | refine blk_alloc ?_ _)); refine blk_put (cs := #[.int .u64 t633, .int .u64 t634, .int .u64 t635, .int .u64 t636, .int .i64 0, .int .i64 0]) ?_ 4 _ rfl; (with_reducible repeat (first | refine blk_drewN ?_ _ | refine blk_drew ?_ | refine blk_alloc ?_ _)); refine blk_put (cs := #[.int .u64 t633, .int .u64 t634, .int .u64 t635, .int .u64 0, .int .i64 0, .int .i64 0]) ?_ 3 _ rfl; (with_reducible repeat (first | refine blk_drewN ?_ _ | refine blk_drew ?_ | refine blk_alloc ?_ _)); refine blk_put (cs := #[.int .u64 t633, .int .u64 t634, .int .u64 0, .int .u64 0, .int .i64 0, .int .i64 0]) ?_ 2 _ rfl; (with_reducible repeat (first | refine blk_drewN ?_ _ | refine blk_drew ?_ | refine blk_alloc ?_ _)); refine blk_put (cs := #[.int .u64 t633, .int .u64 0, .int .u64 0, .int .u64 0, .int .i64 0, .int .i64 0]) ?_ 1 _ rfl; (with_reducible repeat (first | refine blk_drewN ?_ _ | refine blk_drew ?_ | refine blk_alloc ?_ _)); refine blk_put (cs := #[.int .u64 0, .int .u64 0, .int .u64 0, .int .u64 0, .int .i64 0, .int .i64 0]) ?_ 0 _ rfl; exact bfL BK640.out⟩, ⟨bsL HB.out⟩⟩
     case rest =>
      clear HC99
      try clear c1
      try clear c2
      try clear p2
      try clear c3
      try clear c4
      try clear c9
      try clear c10
      try clear c11
      try clear c12
      try clear c13
      try clear c27
      try clear c28
      try clear c29
      try clear c32
      try clear c33
      try clear c34
      try clear c35
      try clear c36
      try clear c37
      try clear c38
      try clear c39
      try clear c40
      try clear c96
      try clear c100
      try clear c101
      try clear c103
      try clear c107
      try clear c108
      try clear c109
      try clear c115
      try clear c116
      try clear c117
      try clear c118
      try clear c120
      try clear c120b0
      try clear c121
      try clear c122
      try clear c123
      try clear c124
      try clear c126
      try clear c127
      try clear c128
      try clear c130
      try clear c131
      try clear c132
      try clear c133
      try clear c135
      try clear c136
      try clear c137
      try clear hcz102_0
      try clear hcz102_1
      try clear hcz102_2
      try clear hcz102_3
      try clear hcz102_4
      try clear hcz102_5
      try clear hcz104_0
      try clear hcz104_1
      try clear hcz104_2
      try clear hcz104_3
      try clear hcz104_4
      try clear hcz104_5
      try clear hcz110_0
      try clear hcz110_1
      try clear hcz110_2
      try clear hcz110_3
      try clear hcz110_4
      try clear hcz110_5
      try clear hcz111_0
      try clear hcz111_1
      try clear hcz111_2
      try clear hcz111_3
      try clear hcz111_4
      try clear hcz111_5
      try clear hcz112_0
      try clear hcz112_1
      try clear hcz112_2
      try clear hcz112_3
      try clear hcz112_4
      try clear hcz112_5
      try clear hcz119_0
      try clear hcz119_1
      try clear hcz119_2
      try clear hcz119_3
      try clear hcz119_4
      try clear hcz119_5
      try clear hcz125_0
      try clear hcz125_1
      try clear hcz125_2
      try clear hcz125_3
      try clear hcz125_4
      try clear hcz125_5
      try clear hcz129_0
      try clear hcz129_1
      try clear hcz129_2
      try clear hcz129_3
      try clear hcz129_4
      try clear hcz129_5
      try clear hcz134_0
      try clear hcz134_1
      try clear hcz134_2
      try clear hcz134_3
      try clear hcz134_4
      try clear hcz134_5
      try clear hcz138_0
      try clear hcz138_1
      try clear hcz138_2
      try clear hcz138_3
      try clear hcz138_4
      try clear hcz138_5
      try clear hfz102_0
      try clear hfz102_1
      try clear hfz102_2
      try clear hfz102_3
      try clear hfz102_4
      try clear hfz102_5
      try clear hfz104_0
      try clear hfz104_1
      try clear hfz104_2
      try clear hfz104_3
      try clear hfz104_4
      try clear hfz104_5
      try clear hfz110_0
      try clear hfz110_1
      try clear hfz110_2
      try clear hfz110_3
      try clear hfz110_4
      try clear hfz110_5
      try clear hfz111_0
      try clear hfz111_1
      try clear hfz111_2
      try clear hfz111_3
      try clear hfz111_4
      try clear hfz111_5
      try clear hfz112_0
      try clear hfz112_1
      try clear hfz112_2
      try clear hfz112_3
      try clear hfz112_4
      try clear hfz112_5
      try clear hfz119_0
      try clear hfz119_1
      try clear hfz119_2
      try clear hfz119_3
      try clear hfz119_4
      try clear hfz119_5
      try clear hfz125_0
      try clear hfz125_1
      try clear hfz125_2
      try clear hfz125_3
      try clear hfz125_4
      try clear hfz125_5
      try clear hfz129_0
      try clear hfz129_1
      try clear hfz129_2
      try clear hfz129_3
      try clear hfz129_4
      try clear hfz129_5
      try clear hfz134_0
      try clear hfz134_1
      try clear hfz134_2
      try clear hfz134_3
      try clear hfz134_4
      try clear hfz134_5
      try clear hfz138_0
      try clear hfz138_1
      try clear hfz138_2
      try clear hfz138_3
      try clear hfz138_4
      try clear hfz138_5
      try clear p2
      obtain ⟨kq, x94_98, rfl, HA, HJ98, BK579, BK581, BK582, BK632, BK640, HB⟩ := hcut
      cases kq with
      | zero => exact absurd HA.out (by simp [jacquardlaw14_FactsElements.j1])
      | succ kj98 =>
       have H := HA.out
       clear HA
       simp only [jacquardlaw14_FactsElements.j1] at H
       by_cases c139 : x94_98 = true
       ·
        subst c139
        have H1 : (some false) = some r := by rw [if_pos rfl] at H; exact H
        clear H
        have H := H1
        clear H1
        obtain rfl := Option.some.inj H
        go_wp2
        go_ret
        exact ⟨by first | rfl | (simp [errW_none, errW_some] <;> rfl) | (simp [*, errW_none, errW_some] <;> rfl), bsL HB.out⟩
       ·
        replace c139 := Bool.eq_false_iff.mpr c139
        subst c139
        rw [if_neg (show ¬ (false = true) by decide)] at H
        have H1 := H
        clear H
        have H := H1
        clear H1
        have HC140 := Aside0.mk H
        clear H
        go_upto_region 10 with (fail)
        go_cut [104] (fun v104 wc => ∃ (kq : Nat) (x104_139 : Bool), v104 = .bool x104_139 ∧ Aside0 (jacquardlaw14_FactsElements.j2 kq a0 a2 t631 x104_139 a1_0 a1_1 a1_2 a1_3 a1_4 a1_5 a1_6 a1_7 a1_8 a1_9 a1_10 a1_11 t625 t626 t627 t628 t629 t630 = some r) ∧ Aside0 (kq ≤ kj98) ∧ Aside0 (wc.heap[gb579]? = some (.cells #[.int .u64 a1_0, .int .u64 a1_1, .int .u64 a1_2, .int .u64 a1_3, .int .i64 a1_4, .int .i64 a1_5, .int .u64 a1_6, .int .u64 a1_7, .int .u64 a1_8, .int .u64 a1_9, .int .i64 a1_10, .int .i64 a1_11] 56 (0, 0))) ∧ Aside0 (wc.heap[gb581]? = some (.cells #[.int .u64 a1_0, .int .u64 a1_1, .int .u64 a1_2, .int .u64 a1_3, .int .i64 a1_4, .int .i64 a1_5] 50 (0, 0))) ∧ Aside0 (wc.heap[gb582]? = some (.cells #[.int .u64 a1_6, .int .u64 a1_7, .int .u64 a1_8, .int .u64 a1_9, .int .i64 a1_10, .int .i64 a1_11] 50 (0, 0))) ∧ Aside0 (wc.heap[gb632]? = some (.cells #[.int .u64 t625, .int .u64 t626, .int .u64 t627, .int .u64 t628, .int .i64 t629, .int .i64 t630] 50 (0, 0))) ∧ Aside0 (wc.heap[gb640]? = some (.cells #[.int .u64 t633, .int .u64 t634, .int .u64 t635, .int .u64 t636, .int .i64 t637, .int .i64 t638] 50 (0, 0))) ∧ Aside0 (Below w.heap.size w wc))
        case first =>
         have H := HC140.out
         clear HC140
         replace H := Option.bind_eq_some_iff.mp H
         obtain ⟨t641, A1410, H⟩ := H
         try dsimp only at H
         have A141 := Aside0.mk A1410
         clear A1410
         by_cases c142 : t641 = true
         ·
          subst c142
          rw [if_pos rfl] at H
          have H1 := H
          clear H
          have H := H1
          clear H1
          replace H := Option.bind_eq_some_iff.mp H
          obtain ⟨t642, A1430, H⟩ := H
          replace H : (jacquardlaw14_FactsElements.j2 kj98 a0 a2 t631 (!t642) a1_0 a1_1 a1_2 a1_3 a1_4 a1_5 a1_6 a1_7 a1_8 a1_9 a1_10 a1_11 t625 t626 t627 t628 t629 t630) = some r := H
          have A143 := Aside0.mk A1430
          clear A1430
          have H' := Aside0.mk H
          clear H
          have hnb144 := NB581_579.out
          have hnc144 := NB579_581.out
          have hnb145 := NB581_582.out
          have hnc145 := NB582_581.out
          have hnb146 := NB581_632.out
          have hnc146 := NB632_581.out
          have hnb147 := NB581_640.out
          have hnc147 := NB640_581.out
          obtain ⟨hcz148_0, hcz148_1, hcz148_2, hcz148_3, hcz148_4, hcz148_5, hfz148_0, hfz148_1, hfz148_2, hfz148_3, hfz148_4, hfz148_5⟩ := own6 BK581.out
          go_wp2_with (first | ((with_reducible refine gate_callee (f := 27) rfl ?_); refine gL (some 97) Try.func27 #[.int .i64 a0, .agg #[.int .u64 a1_0, .int .u64 a1_1, .int .u64 a1_2, .int .u64 a1_3, .int .i64 a1_4, .int .i64 a1_5]] ?_; (with_reducible refine (jacquardref14_Valid.calls kj98 a0 a1_0 a1_1 a1_2 a1_3 a1_4 a1_5 true _ A141.out).mono ?_); rintro e w149 ⟨rfl, hb⟩; refine ⟨_, rfl, ?_⟩; replace BK579 := bkB BK579.out hb; replace BK581 := bkB BK581.out hb; replace BK582 := bkB BK582.out hb; replace BK632 := bkB BK632.out hb; replace BK640 := bkB BK640.out hb; replace HB := bsB HB.out hb; (try clear hb); have hnb150 := NB582_579.out; have hnc150 := NB579_582.out; have hnb151 := NB582_632.out; have hnc151 := NB632_582.out; have hnb152 := NB582_640.out; have hnc152 := NB640_582.out; obtain ⟨hcz153_0, hcz153_1, hcz153_2, hcz153_3, hcz153_4, hcz153_5, hfz153_0, hfz153_1, hfz153_2, hfz153_3, hfz153_4, hfz153_5⟩ := own6 BK582.out) | (go_at_call 27; (with_reducible refine (jacquardref14_Valid.calls kj98 a0 a1_6 a1_7 a1_8 a1_9 a1_10 a1_11 t642 _ A143.out).mono ?_); rintro e w154 ⟨rfl, hb⟩; replace BK579 := bkB BK579.out hb; replace BK581 := bkB BK581.out hb; replace BK582 := bkB BK582.out hb; replace BK632 := bkB BK632.out hb; replace BK640 := bkB BK640.out hb; replace HB := bsB HB.out hb; (try clear hb); (try clear hb2); (try clear hk); (try clear hi)))
          go_meet
          case rel => exact ⟨_, (!t642), (by first | rfl | (simp; done) | (simp [*]; done)), H', ⟨by have := HJ5.out; have := HJ98.out; first | omega | exact Nat.le_refl _⟩, ⟨bkL BK579.out⟩, ⟨bkL BK581.out⟩, ⟨bkL BK582.out⟩, ⟨bkL BK632.out⟩, ⟨bkL BK640.out⟩, ⟨bsL HB.out⟩⟩
         ·
          replace c142 := Bool.eq_false_iff.mpr c142
          subst c142
          have H1 : (jacquardlaw14_FactsElements.j2 kj98 a0 a2 t631 true a1_0 a1_1 a1_2 a1_3 a1_4 a1_5 a1_6 a1_7 a1_8 a1_9 a1_10 a1_11 t625 t626 t627 t628 t629 t630) = some r := by rw [if_neg (show ¬ (false = true) by decide)] at H; exact H
          clear H
          have H := H1
          clear H1
          have H' := Aside0.mk H
          clear H
          have hnb155 := NB581_579.out
          have hnc155 := NB579_581.out
          have hnb156 := NB581_582.out
          have hnc156 := NB582_581.out
          have hnb157 := NB581_632.out
          have hnc157 := NB632_581.out
          have hnb158 := NB581_640.out
          have hnc158 := NB640_581.out
          obtain ⟨hcz159_0, hcz159_1, hcz159_2, hcz159_3, hcz159_4, hcz159_5, hfz159_0, hfz159_1, hfz159_2, hfz159_3, hfz159_4, hfz159_5⟩ := own6 BK581.out
          go_wp2_with (first | ((with_reducible refine gate_callee (f := 27) rfl ?_); refine gL (some 97) Try.func27 #[.int .i64 a0, .agg #[.int .u64 a1_0, .int .u64 a1_1, .int .u64 a1_2, .int .u64 a1_3, .int .i64 a1_4, .int .i64 a1_5]] ?_; (with_reducible refine (jacquardref14_Valid.calls kj98 a0 a1_0 a1_1 a1_2 a1_3 a1_4 a1_5 false _ A141.out).mono ?_); rintro e w160 ⟨rfl, hb⟩; refine ⟨_, rfl, ?_⟩; replace BK579 := bkB BK579.out hb; replace BK581 := bkB BK581.out hb; replace BK582 := bkB BK582.out hb; replace BK632 := bkB BK632.out hb; replace BK640 := bkB BK640.out hb; replace HB := bsB HB.out hb; (try clear hb)))
          go_meet
          case rel => exact ⟨_, (true), (by first | rfl | (simp; done) | (simp [*]; done)), H', ⟨by have := HJ5.out; have := HJ98.out; first | omega | exact Nat.le_refl _⟩, ⟨bkL BK579.out⟩, ⟨bkL BK581.out⟩, ⟨bkL BK582.out⟩, ⟨bkL BK632.out⟩, ⟨bkL BK640.out⟩, ⟨bsL HB.out⟩⟩
        case rest =>
         clear HC140
         try clear c1
         try clear c2
         try clear p2
         try clear c3
         try clear c4
         try clear c9
         try clear c10
         try clear c11
         try clear c12
         try clear c13
         try clear c14
         try clear c15
         try clear c27
         try clear c28
         try clear c29
         try clear c32
         try clear c33
         try clear c34
         try clear c35
         try clear c36
         try clear c37
         try clear c38
         try clear c39
         try clear c40
         try clear c96
         try clear c100
         try clear c101
         try clear c103
         try clear c107
         try clear c108
         try clear c109
         try clear c115
         try clear c116
         try clear c117
         try clear c118
         try clear c120
         try clear c120b0
         try clear c121
         try clear c122
         try clear c123
         try clear c124
         try clear c126
         try clear c127
         try clear c128
         try clear c130
         try clear c131
         try clear c132
         try clear c133
         try clear c135
         try clear c136
         try clear c137
         try clear c139
         try clear c142
         try clear c144
         try clear c145
         try clear c146
         try clear c147
         try clear c150
         try clear c151
         try clear c152
         try clear c155
         try clear c156
         try clear c157
         try clear c158
         try clear hcz102_0
         try clear hcz102_1
         try clear hcz102_2
         try clear hcz102_3
         try clear hcz102_4
         try clear hcz102_5
         try clear hcz104_0
         try clear hcz104_1
         try clear hcz104_2
         try clear hcz104_3
         try clear hcz104_4
         try clear hcz104_5
         try clear hcz110_0
         try clear hcz110_1
         try clear hcz110_2
         try clear hcz110_3
         try clear hcz110_4
         try clear hcz110_5
         try clear hcz111_0
         try clear hcz111_1
         try clear hcz111_2
         try clear hcz111_3
         try clear hcz111_4
         try clear hcz111_5
         try clear hcz112_0
         try clear hcz112_1
         try clear hcz112_2
         try clear hcz112_3
         try clear hcz112_4
         try clear hcz112_5
         try clear hcz119_0
         try clear hcz119_1
         try clear hcz119_2
         try clear hcz119_3
         try clear hcz119_4
         try clear hcz119_5
         try clear hcz125_0
         try clear hcz125_1
         try clear hcz125_2
         try clear hcz125_3
         try clear hcz125_4
         try clear hcz125_5
         try clear hcz129_0
         try clear hcz129_1
         try clear hcz129_2
         try clear hcz129_3
         try clear hcz129_4
         try clear hcz129_5
         try clear hcz134_0
         try clear hcz134_1
         try clear hcz134_2
         try clear hcz134_3
         try clear hcz134_4
         try clear hcz134_5
         try clear hcz138_0
         try clear hcz138_1
         try clear hcz138_2
         try clear hcz138_3
         try clear hcz138_4
         try clear hcz138_5
         try clear hcz148_0
         try clear hcz148_1
         try clear hcz148_2
         try clear hcz148_3
         try clear hcz148_4
         try clear hcz148_5
         try clear hcz153_0
         try clear hcz153_1
         try clear hcz153_2
         try clear hcz153_3
         try clear hcz153_4
         try clear hcz153_5
         try clear hcz159_0
         try clear hcz159_1
         try clear hcz159_2
         try clear hcz159_3
         try clear hcz159_4
         try clear hcz159_5
         try clear hfz102_0
         try clear hfz102_1
         try clear hfz102_2
         try clear hfz102_3
         try clear hfz102_4
         try clear hfz102_5
         try clear hfz104_0
         try clear hfz104_1
         try clear hfz104_2
         try clear hfz104_3
         try clear hfz104_4
         try clear hfz104_5
         try clear hfz110_0
         try clear hfz110_1
         try clear hfz110_2
         try clear hfz110_3
         try clear hfz110_4
         try clear hfz110_5
         try clear hfz111_0
         try clear hfz111_1
         try clear hfz111_2
         try clear hfz111_3
         try clear hfz111_4
         try clear hfz111_5
         try clear hfz112_0
         try clear hfz112_1
         try clear hfz112_2
         try clear hfz112_3
         try clear hfz112_4
         try clear hfz112_5
         try clear hfz119_0
         try clear hfz119_1
         try clear hfz119_2
         try clear hfz119_3
         try clear hfz119_4
         try clear hfz119_5
         try clear hfz125_0
         try clear hfz125_1
         try clear hfz125_2
         try clear hfz125_3
         try clear hfz125_4
         try clear hfz125_5
         try clear hfz129_0
         try clear hfz129_1
         try clear hfz129_2
         try clear hfz129_3
         try clear hfz129_4
         try clear hfz129_5
         try clear hfz134_0
         try clear hfz134_1
         try clear hfz134_2
         try clear hfz134_3
         try clear hfz134_4
         try clear hfz134_5
         try clear hfz138_0
         try clear hfz138_1
         try clear hfz138_2
         try clear hfz138_3
         try clear hfz138_4
         try clear hfz138_5
         try clear hfz148_0
         try clear hfz148_1
         try clear hfz148_2
         try clear hfz148_3
         try clear hfz148_4
         try clear hfz148_5
         try clear hfz153_0
         try clear hfz153_1
         try clear hfz153_2
         try clear hfz153_3
         try clear hfz153_4
         try clear hfz153_5
         try clear hfz159_0
         try clear hfz159_1
         try clear hfz159_2
         try clear hfz159_3
         try clear hfz159_4
         try clear hfz159_5
         try clear p2
         obtain ⟨kq, x104_139, rfl, HA, HJ139, BK579, BK581, BK582, BK632, BK640, HB⟩ := hcut
         cases kq with
         | zero => exact absurd HA.out (by simp [jacquardlaw14_FactsElements.j2])
         | succ kj139 =>
          have H := HA.out
          clear HA
          simp only [jacquardlaw14_FactsElements.j2] at H
          by_cases c161 : x104_139 = true
          ·
           subst c161
           have H1 : (some true) = some r := by rw [if_pos rfl] at H; exact H
           clear H
           have H := H1
           clear H1
           obtain rfl := Option.some.inj H
           go_wp2
           go_ret
           exact ⟨by first | rfl | (simp [errW_none, errW_some] <;> rfl) | (simp [*, errW_none, errW_some] <;> rfl), bsL HB.out⟩
          ·
           replace c161 := Bool.eq_false_iff.mpr c161
           subst c161
           rw [if_neg (show ¬ (false = true) by decide)] at H
           have H1 := H
           clear H
           have H := H1
           clear H1
           replace H := Option.bind_eq_some_iff.mp H
           obtain ⟨t643, A1620, H⟩ := H
           try dsimp only at H
           have A162 := Aside0.mk A1620
           clear A1620
           replace H := Option.bind_eq_some_iff.mp H
           obtain ⟨t644, A1630, H⟩ := H
           try dsimp only at H
           have A163 := Aside0.mk A1630
           clear A1630
           by_cases c164 : t643 = true
           ·
            subst c164
            rw [if_pos rfl] at H
            have H1 := H
            clear H
            have H := H1
            clear H1
            replace H := Option.bind_eq_some_iff.mp H
            obtain ⟨⟨t645, t646, t647, t648, t649, t650⟩, A1650, H⟩ := H
            try dsimp only at H
            have A165 := Aside0.mk A1650
            clear A1650
            replace H := Option.bind_eq_some_iff.mp H
            obtain ⟨t651, A1660, H⟩ := H
            replace H : (if t651 = true then (if t631 = true then ((facts_Contains.f a0 t625 t626 t627 t628 t629 t630 a2).bind fun t652 => (some (t644 == t652))) else (some (t644 == false))) else (some false)) = some r := H
            have A166 := Aside0.mk A1660
            clear A1660
            by_cases c167 : t651 = true
            ·
             subst c167
             have H1 : (if t631 = true then ((facts_Contains.f a0 t625 t626 t627 t628 t629 t630 a2).bind fun t652 => (some (t644 == t652))) else (some (t644 == false))) = some r := by rw [if_pos rfl] at H; exact H
             clear H
             have H := H1
             clear H1
             by_cases c168 : t631 = true
             ·
              subst c168
              have H1 : ((facts_Contains.f a0 t625 t626 t627 t628 t629 t630 a2).bind fun t652 => (some (t644 == t652))) = some r := by rw [if_pos rfl] at H; exact H
              clear H
              have H := H1
              clear H1
              replace H := Option.bind_eq_some_iff.mp H
              obtain ⟨t652, A1690, H⟩ := H
              replace H : (some (t644 == t652)) = some r := H
              have A169 := Aside0.mk A1690
              clear A1690
              obtain rfl := Option.some.inj H
              try go_wp2
              replace BK579 := Aside0.mk (blk_drew BK579.out)
              replace BK581 := Aside0.mk (blk_drew BK581.out)
              replace BK582 := Aside0.mk (blk_drew BK582.out)
              replace BK632 := Aside0.mk (blk_drew BK632.out)
              replace BK640 := Aside0.mk (blk_drew BK640.out)
              replace HB := Aside0.mk (below_drew1 HB.out)
              refine start_ (n := 10) (S := fun w' => w'.cell? ⟨gb581, 0, none⟩ = some (.int .u64 a1_0) ∧ w'.cell? ⟨gb581, 1, none⟩ = some (.int .u64 a1_1) ∧ w'.cell? ⟨gb581, 2, none⟩ = some (.int .u64 a1_2) ∧ w'.cell? ⟨gb581, 3, none⟩ = some (.int .u64 a1_3) ∧ w'.cell? ⟨gb581, 4, none⟩ = some (.int .i64 a1_4) ∧ w'.cell? ⟨gb581, 5, none⟩ = some (.int .i64 a1_5) ∧ w'.cell? ⟨gb582, 0, none⟩ = some (.int .u64 a1_6) ∧ w'.cell? ⟨gb582, 1, none⟩ = some (.int .u64 a1_7) ∧ w'.cell? ⟨gb582, 2, none⟩ = some (.int .u64 a1_8) ∧ w'.cell? ⟨gb582, 3, none⟩ = some (.int .u64 a1_9) ∧ w'.cell? ⟨gb582, 4, none⟩ = some (.int .i64 a1_10) ∧ w'.cell? ⟨gb582, 5, none⟩ = some (.int .i64 a1_11)) (ds := []) (bA 10 0) (by kernel_rfl) rfl rfl (by repeat' (first | apply And.intro | exact (blk_cell BK581.out _).trans rfl | exact (blk_cell BK582.out _).trans rfl)) (fun hHeld => ?_); refine with_tabW jacquardlaw14_FactsElements.tab12 jacquardlaw14_FactsElements.bits12 (fun HT_ HW_ => ?_)
              generalize wc.drew = w170 at BK579 BK581 BK582 BK632 BK640 HB hHeld ⊢
              refine pureA HT_ (i := 0) (N := some 105) (bA 10 1) ?_
              refine pureA HT_ (i := 2) (N := some 107) (bA 10 5) ?_
              refine pureA HT_ (i := 4) (N := some 109) (bA 10 21) ?_
              refine pureA HT_ (i := 6) (N := some 111) (bA 10 85) ?_
              refine takeA HT_ HW_ hHeld (i := 1) (N := some 106) (bA 10 87) ?_ (hy := by rintro w' ⟨s0, s1, s2, s3, s4, s5, s6, s7, s8, s9, s10, s11⟩; go_simp; with_reducible rfl)
              refine takeA HT_ HW_ hHeld (i := 5) (N := some 110) (bA 10 119) ?_ (hy := by rintro w' ⟨s0, s1, s2, s3, s4, s5, s6, s7, s8, s9, s10, s11⟩; go_simp; with_reducible rfl)
              refine one_ (i := 3) (N := some 108) (bA 10 127) rfl rfl (one_of HT_.out (by kernel_rfl)) (by decide) (fun K hK => ?_)
              refine gO Try.func28 #[.int .i64 a0, .agg #[.int .u64 a1_0, .int .u64 a1_1, .int .u64 a1_2, .int .u64 a1_3, .int .i64 a1_4, .int .i64 a1_5], .int .u64 a2] ?_
              with_reducible refine (facts_Contains.calls a0 a1_0 a1_1 a1_2 a1_3 a1_4 a1_5 a2 true _ A162.out).mono ?_
              rintro e w171 ⟨rfl, hb⟩
              refine ⟨_, rfl, ?_⟩
              replace BK579 := bkB BK579.out hb
              replace BK581 := bkB BK581.out hb
              replace BK582 := bkB BK582.out hb
              replace BK632 := bkB BK632.out hb
              replace BK640 := bkB BK640.out hb
              replace HB := bsB HB.out hb
              (try clear hb)
              refine hK.out _ _ (by repeat' (first | apply And.intro | exact (blk_cell BK581.out _).trans rfl | exact (blk_cell BK582.out _).trans rfl)) (fun hHeld => ?_)
              clear hK K
              refine normA (some 108) ?_
              refine one_ (i := 7) (N := some 112) (bA 10 255) rfl rfl (one_of HT_.out (by kernel_rfl)) (by decide) (fun K hK => ?_)
              refine gO Try.func28 #[.int .i64 a0, .agg #[.int .u64 a1_6, .int .u64 a1_7, .int .u64 a1_8, .int .u64 a1_9, .int .i64 a1_10, .int .i64 a1_11], .int .u64 a2] ?_
              with_reducible refine (facts_Contains.calls a0 a1_6 a1_7 a1_8 a1_9 a1_10 a1_11 a2 t644 _ A163.out).mono ?_
              rintro e w172 ⟨rfl, hb⟩
              refine ⟨_, rfl, ?_⟩
              replace BK579 := bkB BK579.out hb
              replace BK581 := bkB BK581.out hb
              replace BK582 := bkB BK582.out hb
              replace BK632 := bkB BK632.out hb
              replace BK640 := bkB BK640.out hb
              replace HB := bsB HB.out hb
              (try clear hb)
              refine hK.out _ _ (by repeat' (first | apply And.intro | exact (blk_cell BK581.out _).trans rfl | exact (blk_cell BK582.out _).trans rfl)) (fun hHeld => ?_)
              clear hK K
              refine normA (some 112) ?_
              refine pureA HT_ (i := 8) (N := some 13) (bA 10 511) ?_
              refine pureA HT_ (i := 9) (N := some 14) (bA 10 1023) ?_
              refine done_ (done_of HT_.out (by kernel_rfl)) ?_
              have hnb173 := NB581_579.out
              have hnc173 := NB579_581.out
              have hnb174 := NB581_582.out
              have hnc174 := NB582_581.out
              have hnb175 := NB581_632.out
              have hnc175 := NB632_581.out
              have hnb176 := NB581_640.out
              have hnc176 := NB640_581.out
              obtain ⟨hcz177_0, hcz177_1, hcz177_2, hcz177_3, hcz177_4, hcz177_5, hfz177_0, hfz177_1, hfz177_2, hfz177_3, hfz177_4, hfz177_5⟩ := own6 BK581.out
              have hnb178 := NB582_579.out
              have hnc178 := NB579_582.out
              have hnb179 := NB582_632.out
              have hnc179 := NB632_582.out
              have hnb180 := NB582_640.out
              have hnc180 := NB640_582.out
              obtain ⟨hcz181_0, hcz181_1, hcz181_2, hcz181_3, hcz181_4, hcz181_5, hfz181_0, hfz181_1, hfz181_2, hfz181_3, hfz181_4, hfz181_5⟩ := own6 BK582.out
              try go_wp2_with (first | (go_at_call 37; (with_reducible refine (facts_Join.calls a1_0 a1_1 a1_2 a1_3 a1_4 a1_5 a1_6 a1_7 a1_8 a1_9 a1_10 a1_11 t645 t646 t647 t648 t649 t650 _ A165.out).mono ?_); rintro e w182 ⟨rfl, hb⟩; replace BK579 := bkB BK579.out hb; replace BK581 := bkB BK581.out hb; replace BK582 := bkB BK582.out hb; replace BK632 := bkB BK632.out hb; replace BK640 := bkB BK640.out hb; replace HB := bsB HB.out hb; (try clear hb)) | (go_at_call 28; (with_reducible refine (facts_Contains.calls a0 t645 t646 t647 t648 t649 t650 a2 true _ A166.out).mono ?_); rintro e w183 ⟨rfl, hb⟩; replace BK579 := bkB BK579.out hb; replace BK581 := bkB BK581.out hb; replace BK582 := bkB BK582.out hb; replace BK632 := bkB BK632.out hb; replace BK640 := bkB BK640.out hb; replace HB := bsB HB.out hb; (try clear hb); (try clear hb2); (try clear hk); (try clear hi); have hnb184 := NB632_579.out; have hnc184 := NB579_632.out; have hnb185 := NB632_640.out; have hnc185 := NB640_632.out; obtain ⟨hcz186_0, hcz186_1, hcz186_2, hcz186_3, hcz186_4, hcz186_5, hfz186_0, hfz186_1, hfz186_2, hfz186_3, hfz186_4, hfz186_5⟩ := own6 BK632.out) | (go_at_call 28; (with_reducible refine (facts_Contains.calls a0 t625 t626 t627 t628 t629 t630 a2 t652 _ A169.out).mono ?_); rintro e w187 ⟨rfl, hb⟩; replace BK579 := bkB BK579.out hb; replace BK581 := bkB BK581.out hb; replace BK582 := bkB BK582.out hb; replace BK632 := bkB BK632.out hb; replace BK640 := bkB BK640.out hb; replace HB := bsB HB.out hb; (try clear hb); (try clear hb2); (try clear hk); (try clear hi)))
              go_ret
              exact ⟨by first | rfl | (simp [errW_none, errW_some] <;> rfl) | (simp [*, errW_none, errW_some] <;> rfl), bsL HB.out⟩
             ·
              replace c168 := Bool.eq_false_iff.mpr c168
              subst c168
              have H1 : (some (t644 == false)) = some r := by rw [if_neg (show ¬ (false = true) by decide)] at H; exact H
              clear H
              have H := H1
              clear H1
              obtain rfl := Option.some.inj H
              try go_wp2
              replace BK579 := Aside0.mk (blk_drew BK579.out)
              replace BK581 := Aside0.mk (blk_drew BK581.out)
              replace BK582 := Aside0.mk (blk_drew BK582.out)
              replace BK632 := Aside0.mk (blk_drew BK632.out)
              replace BK640 := Aside0.mk (blk_drew BK640.out)
              replace HB := Aside0.mk (below_drew1 HB.out)
              refine start_ (n := 10) (S := fun w' => w'.cell? ⟨gb581, 0, none⟩ = some (.int .u64 a1_0) ∧ w'.cell? ⟨gb581, 1, none⟩ = some (.int .u64 a1_1) ∧ w'.cell? ⟨gb581, 2, none⟩ = some (.int .u64 a1_2) ∧ w'.cell? ⟨gb581, 3, none⟩ = some (.int .u64 a1_3) ∧ w'.cell? ⟨gb581, 4, none⟩ = some (.int .i64 a1_4) ∧ w'.cell? ⟨gb581, 5, none⟩ = some (.int .i64 a1_5) ∧ w'.cell? ⟨gb582, 0, none⟩ = some (.int .u64 a1_6) ∧ w'.cell? ⟨gb582, 1, none⟩ = some (.int .u64 a1_7) ∧ w'.cell? ⟨gb582, 2, none⟩ = some (.int .u64 a1_8) ∧ w'.cell? ⟨gb582, 3, none⟩ = some (.int .u64 a1_9) ∧ w'.cell? ⟨gb582, 4, none⟩ = some (.int .i64 a1_10) ∧ w'.cell? ⟨gb582, 5, none⟩ = some (.int .i64 a1_11)) (ds := []) (bA 10 0) (by kernel_rfl) rfl rfl (by repeat' (first | apply And.intro | exact (blk_cell BK581.out _).trans rfl | exact (blk_cell BK582.out _).trans rfl)) (fun hHeld => ?_); refine with_tabW jacquardlaw14_FactsElements.tab12 jacquardlaw14_FactsElements.bits12 (fun HT_ HW_ => ?_)
              generalize wc.drew = w188 at BK579 BK581 BK582 BK632 BK640 HB hHeld ⊢
              refine pureA HT_ (i := 0) (N := some 105) (bA 10 1) ?_
              refine pureA HT_ (i := 2) (N := some 107) (bA 10 5) ?_
              refine pureA HT_ (i := 4) (N := some 109) (bA 10 21) ?_
              refine pureA HT_ (i := 6) (N := some 111) (bA 10 85) ?_
              refine takeA HT_ HW_ hHeld (i := 1) (N := some 106) (bA 10 87) ?_ (hy := by rintro w' ⟨s0, s1, s2, s3, s4, s5, s6, s7, s8, s9, s10, s11⟩; go_simp; with_reducible rfl)
              refine takeA HT_ HW_ hHeld (i := 5) (N := some 110) (bA 10 119) ?_ (hy := by rintro w' ⟨s0, s1, s2, s3, s4, s5, s6, s7, s8, s9, s10, s11⟩; go_simp; with_reducible rfl)
              refine one_ (i := 3) (N := some 108) (bA 10 127) rfl rfl (one_of HT_.out (by kernel_rfl)) (by decide) (fun K hK => ?_)
              refine gO Try.func28 #[.int .i64 a0, .agg #[.int .u64 a1_0, .int .u64 a1_1, .int .u64 a1_2, .int .u64 a1_3, .int .i64 a1_4, .int .i64 a1_5], .int .u64 a2] ?_
              with_reducible refine (facts_Contains.calls a0 a1_0 a1_1 a1_2 a1_3 a1_4 a1_5 a2 true _ A162.out).mono ?_
              rintro e w189 ⟨rfl, hb⟩
              refine ⟨_, rfl, ?_⟩
              replace BK579 := bkB BK579.out hb
              replace BK581 := bkB BK581.out hb
              replace BK582 := bkB BK582.out hb
              replace BK632 := bkB BK632.out hb
              replace BK640 := bkB BK640.out hb
              replace HB := bsB HB.out hb
              (try clear hb)
              refine hK.out _ _ (by repeat' (first | apply And.intro | exact (blk_cell BK581.out _).trans rfl | exact (blk_cell BK582.out _).trans rfl)) (fun hHeld => ?_)
              clear hK K
              refine normA (some 108) ?_
              refine one_ (i := 7) (N := some 112) (bA 10 255) rfl rfl (one_of HT_.out (by kernel_rfl)) (by decide) (fun K hK => ?_)
              refine gO Try.func28 #[.int .i64 a0, .agg #[.int .u64 a1_6, .int .u64 a1_7, .int .u64 a1_8, .int .u64 a1_9, .int .i64 a1_10, .int .i64 a1_11], .int .u64 a2] ?_
              with_reducible refine (facts_Contains.calls a0 a1_6 a1_7 a1_8 a1_9 a1_10 a1_11 a2 t644 _ A163.out).mono ?_
              rintro e w190 ⟨rfl, hb⟩
              refine ⟨_, rfl, ?_⟩
              replace BK579 := bkB BK579.out hb
              replace BK581 := bkB BK581.out hb
              replace BK582 := bkB BK582.out hb
              replace BK632 := bkB BK632.out hb
              replace BK640 := bkB BK640.out hb
              replace HB := bsB HB.out hb
              (try clear hb)
              refine hK.out _ _ (by repeat' (first | apply And.intro | exact (blk_cell BK581.out _).trans rfl | exact (blk_cell BK582.out _).trans rfl)) (fun hHeld => ?_)
              clear hK K
              refine normA (some 112) ?_
              refine pureA HT_ (i := 8) (N := some 13) (bA 10 511) ?_
              refine pureA HT_ (i := 9) (N := some 14) (bA 10 1023) ?_
              refine done_ (done_of HT_.out (by kernel_rfl)) ?_
              have hnb191 := NB581_579.out
              have hnc191 := NB579_581.out
              have hnb192 := NB581_582.out
              have hnc192 := NB582_581.out
              have hnb193 := NB581_632.out
              have hnc193 := NB632_581.out
              have hnb194 := NB581_640.out
              have hnc194 := NB640_581.out
              obtain ⟨hcz195_0, hcz195_1, hcz195_2, hcz195_3, hcz195_4, hcz195_5, hfz195_0, hfz195_1, hfz195_2, hfz195_3, hfz195_4, hfz195_5⟩ := own6 BK581.out
              have hnb196 := NB582_579.out
              have hnc196 := NB579_582.out
              have hnb197 := NB582_632.out
              have hnc197 := NB632_582.out
              have hnb198 := NB582_640.out
              have hnc198 := NB640_582.out
              obtain ⟨hcz199_0, hcz199_1, hcz199_2, hcz199_3, hcz199_4, hcz199_5, hfz199_0, hfz199_1, hfz199_2, hfz199_3, hfz199_4, hfz199_5⟩ := own6 BK582.out
              try go_wp2_with (first | (go_at_call 37; (with_reducible refine (facts_Join.calls a1_0 a1_1 a1_2 a1_3 a1_4 a1_5 a1_6 a1_7 a1_8 a1_9 a1_10 a1_11 t645 t646 t647 t648 t649 t650 _ A165.out).mono ?_); rintro e w200 ⟨rfl, hb⟩; replace BK579 := bkB BK579.out hb; replace BK581 := bkB BK581.out hb; replace BK582 := bkB BK582.out hb; replace BK632 := bkB BK632.out hb; replace BK640 := bkB BK640.out hb; replace HB := bsB HB.out hb; (try clear hb)) | (go_at_call 28; (with_reducible refine (facts_Contains.calls a0 t645 t646 t647 t648 t649 t650 a2 true _ A166.out).mono ?_); rintro e w201 ⟨rfl, hb⟩; replace BK579 := bkB BK579.out hb; replace BK581 := bkB BK581.out hb; replace BK582 := bkB BK582.out hb; replace BK632 := bkB BK632.out hb; replace BK640 := bkB BK640.out hb; replace HB := bsB HB.out hb; (try clear hb); (try clear hb2); (try clear hk); (try clear hi)))
              go_ret
              exact ⟨by first | rfl | (simp [errW_none, errW_some] <;> rfl) | (simp [*, errW_none, errW_some] <;> rfl), bsL HB.out⟩
            ·
             replace c167 := Bool.eq_false_iff.mpr c167
             subst c167
             have H1 : (some false) = some r := by rw [if_neg (show ¬ (false = true) by decide)] at H; exact H
             clear H
             have H := H1
             clear H1
             obtain rfl := Option.some.inj H
             try go_wp2
             replace BK579 := Aside0.mk (blk_drew BK579.out)
             replace BK581 := Aside0.mk (blk_drew BK581.out)
             replace BK582 := Aside0.mk (blk_drew BK582.out)
             replace BK632 := Aside0.mk (blk_drew BK632.out)
             replace BK640 := Aside0.mk (blk_drew BK640.out)
             replace HB := Aside0.mk (below_drew1 HB.out)
             refine start_ (n := 10) (S := fun w' => w'.cell? ⟨gb581, 0, none⟩ = some (.int .u64 a1_0) ∧ w'.cell? ⟨gb581, 1, none⟩ = some (.int .u64 a1_1) ∧ w'.cell? ⟨gb581, 2, none⟩ = some (.int .u64 a1_2) ∧ w'.cell? ⟨gb581, 3, none⟩ = some (.int .u64 a1_3) ∧ w'.cell? ⟨gb581, 4, none⟩ = some (.int .i64 a1_4) ∧ w'.cell? ⟨gb581, 5, none⟩ = some (.int .i64 a1_5) ∧ w'.cell? ⟨gb582, 0, none⟩ = some (.int .u64 a1_6) ∧ w'.cell? ⟨gb582, 1, none⟩ = some (.int .u64 a1_7) ∧ w'.cell? ⟨gb582, 2, none⟩ = some (.int .u64 a1_8) ∧ w'.cell? ⟨gb582, 3, none⟩ = some (.int .u64 a1_9) ∧ w'.cell? ⟨gb582, 4, none⟩ = some (.int .i64 a1_10) ∧ w'.cell? ⟨gb582, 5, none⟩ = some (.int .i64 a1_11)) (ds := []) (bA 10 0) (by kernel_rfl) rfl rfl (by repeat' (first | apply And.intro | exact (blk_cell BK581.out _).trans rfl | exact (blk_cell BK582.out _).trans rfl)) (fun hHeld => ?_); refine with_tabW jacquardlaw14_FactsElements.tab12 jacquardlaw14_FactsElements.bits12 (fun HT_ HW_ => ?_)
             generalize wc.drew = w202 at BK579 BK581 BK582 BK632 BK640 HB hHeld ⊢
             refine pureA HT_ (i := 0) (N := some 105) (bA 10 1) ?_
             refine pureA HT_ (i := 2) (N := some 107) (bA 10 5) ?_
             refine pureA HT_ (i := 4) (N := some 109) (bA 10 21) ?_
             refine pureA HT_ (i := 6) (N := some 111) (bA 10 85) ?_
             refine takeA HT_ HW_ hHeld (i := 1) (N := some 106) (bA 10 87) ?_ (hy := by rintro w' ⟨s0, s1, s2, s3, s4, s5, s6, s7, s8, s9, s10, s11⟩; go_simp; with_reducible rfl)
             refine takeA HT_ HW_ hHeld (i := 5) (N := some 110) (bA 10 119) ?_ (hy := by rintro w' ⟨s0, s1, s2, s3, s4, s5, s6, s7, s8, s9, s10, s11⟩; go_simp; with_reducible rfl)
             refine one_ (i := 3) (N := some 108) (bA 10 127) rfl rfl (one_of HT_.out (by kernel_rfl)) (by decide) (fun K hK => ?_)
             refine gO Try.func28 #[.int .i64 a0, .agg #[.int .u64 a1_0, .int .u64 a1_1, .int .u64 a1_2, .int .u64 a1_3, .int .i64 a1_4, .int .i64 a1_5], .int .u64 a2] ?_
             with_reducible refine (facts_Contains.calls a0 a1_0 a1_1 a1_2 a1_3 a1_4 a1_5 a2 true _ A162.out).mono ?_
             rintro e w203 ⟨rfl, hb⟩
             refine ⟨_, rfl, ?_⟩
             replace BK579 := bkB BK579.out hb
             replace BK581 := bkB BK581.out hb
             replace BK582 := bkB BK582.out hb
             replace BK632 := bkB BK632.out hb
             replace BK640 := bkB BK640.out hb
             replace HB := bsB HB.out hb
             (try clear hb)
             refine hK.out _ _ (by repeat' (first | apply And.intro | exact (blk_cell BK581.out _).trans rfl | exact (blk_cell BK582.out _).trans rfl)) (fun hHeld => ?_)
             clear hK K
             refine normA (some 108) ?_
             refine one_ (i := 7) (N := some 112) (bA 10 255) rfl rfl (one_of HT_.out (by kernel_rfl)) (by decide) (fun K hK => ?_)
             refine gO Try.func28 #[.int .i64 a0, .agg #[.int .u64 a1_6, .int .u64 a1_7, .int .u64 a1_8, .int .u64 a1_9, .int .i64 a1_10, .int .i64 a1_11], .int .u64 a2] ?_
             with_reducible refine (facts_Contains.calls a0 a1_6 a1_7 a1_8 a1_9 a1_10 a1_11 a2 t644 _ A163.out).mono ?_
             rintro e w204 ⟨rfl, hb⟩
             refine ⟨_, rfl, ?_⟩
             replace BK579 := bkB BK579.out hb
             replace BK581 := bkB BK581.out hb
             replace BK582 := bkB BK582.out hb
             replace BK632 := bkB BK632.out hb
             replace BK640 := bkB BK640.out hb
             replace HB := bsB HB.out hb
             (try clear hb)
             refine hK.out _ _ (by repeat' (first | apply And.intro | exact (blk_cell BK581.out _).trans rfl | exact (blk_cell BK582.out _).trans rfl)) (fun hHeld => ?_)
             clear hK K
             refine normA (some 112) ?_
             refine pureA HT_ (i := 8) (N := some 13) (bA 10 511) ?_
             refine pureA HT_ (i := 9) (N := some 14) (bA 10 1023) ?_
             refine done_ (done_of HT_.out (by kernel_rfl)) ?_
             have hnb205 := NB581_579.out
             have hnc205 := NB579_581.out
             have hnb206 := NB581_582.out
             have hnc206 := NB582_581.out
             have hnb207 := NB581_632.out
             have hnc207 := NB632_581.out
             have hnb208 := NB581_640.out
             have hnc208 := NB640_581.out
             obtain ⟨hcz209_0, hcz209_1, hcz209_2, hcz209_3, hcz209_4, hcz209_5, hfz209_0, hfz209_1, hfz209_2, hfz209_3, hfz209_4, hfz209_5⟩ := own6 BK581.out
             have hnb210 := NB582_579.out
             have hnc210 := NB579_582.out
             have hnb211 := NB582_632.out
             have hnc211 := NB632_582.out
             have hnb212 := NB582_640.out
             have hnc212 := NB640_582.out
             obtain ⟨hcz213_0, hcz213_1, hcz213_2, hcz213_3, hcz213_4, hcz213_5, hfz213_0, hfz213_1, hfz213_2, hfz213_3, hfz213_4, hfz213_5⟩ := own6 BK582.out
             try go_wp2_with (first | (go_at_call 37; (with_reducible refine (facts_Join.calls a1_0 a1_1 a1_2 a1_3 a1_4 a1_5 a1_6 a1_7 a1_8 a1_9 a1_10 a1_11 t645 t646 t647 t648 t649 t650 _ A165.out).mono ?_); rintro e w214 ⟨rfl, hb⟩; replace BK579 := bkB BK579.out hb; replace BK581 := bkB BK581.out hb; replace BK582 := bkB BK582.out hb; replace BK632 := bkB BK632.out hb; replace BK640 := bkB BK640.out hb; replace HB := bsB HB.out hb; (try clear hb)) | (go_at_call 28; (with_reducible refine (facts_Contains.calls a0 t645 t646 t647 t648 t649 t650 a2 false _ A166.out).mono ?_); rintro e w215 ⟨rfl, hb⟩; replace BK579 := bkB BK579.out hb; replace BK581 := bkB BK581.out hb; replace BK582 := bkB BK582.out hb; replace BK632 := bkB BK632.out hb; replace BK640 := bkB BK640.out hb; replace HB := bsB HB.out hb; (try clear hb); (try clear hb2); (try clear hk); (try clear hi)))
             go_ret
             exact ⟨by first | rfl | (simp [errW_none, errW_some] <;> rfl) | (simp [*, errW_none, errW_some] <;> rfl), bsL HB.out⟩
           ·
            replace c164 := Bool.eq_false_iff.mpr c164
            subst c164
            rw [if_neg (show ¬ (false = true) by decide)] at H
            have H1 := H
            clear H
            have H := H1
            clear H1
            by_cases c216 : t644 = true
            ·
             subst c216
             rw [if_pos rfl] at H
             have H1 := H
             clear H
             have H := H1
             clear H1
             replace H := Option.bind_eq_some_iff.mp H
             obtain ⟨⟨t653, t654, t655, t656, t657, t658⟩, A2170, H⟩ := H
             try dsimp only at H
             have A217 := Aside0.mk A2170
             clear A2170
             replace H := Option.bind_eq_some_iff.mp H
             obtain ⟨t659, A2180, H⟩ := H
             replace H : (if t659 = true then (if t631 = true then ((facts_Contains.f a0 t625 t626 t627 t628 t629 t630 a2).bind fun t660 => (some (false == t660))) else (some (false == false))) else (some false)) = some r := H
             have A218 := Aside0.mk A2180
             clear A2180
             by_cases c219 : t659 = true
             ·
              subst c219
              have H1 : (if t631 = true then ((facts_Contains.f a0 t625 t626 t627 t628 t629 t630 a2).bind fun t660 => (some (false == t660))) else (some (false == false))) = some r := by rw [if_pos rfl] at H; exact H
              clear H
              have H := H1
              clear H1
              by_cases c220 : t631 = true
              ·
               subst c220
               have H1 : ((facts_Contains.f a0 t625 t626 t627 t628 t629 t630 a2).bind fun t660 => (some (false == t660))) = some r := by rw [if_pos rfl] at H; exact H
               clear H
               have H := H1
               clear H1
               replace H := Option.bind_eq_some_iff.mp H
               obtain ⟨t660, A2210, H⟩ := H
               replace H : (some (false == t660)) = some r := H
               have A221 := Aside0.mk A2210
               clear A2210
               obtain rfl := Option.some.inj H
               try go_wp2
               replace BK579 := Aside0.mk (blk_drew BK579.out)
               replace BK581 := Aside0.mk (blk_drew BK581.out)
               replace BK582 := Aside0.mk (blk_drew BK582.out)
               replace BK632 := Aside0.mk (blk_drew BK632.out)
               replace BK640 := Aside0.mk (blk_drew BK640.out)
               replace HB := Aside0.mk (below_drew1 HB.out)
               refine start_ (n := 10) (S := fun w' => w'.cell? ⟨gb581, 0, none⟩ = some (.int .u64 a1_0) ∧ w'.cell? ⟨gb581, 1, none⟩ = some (.int .u64 a1_1) ∧ w'.cell? ⟨gb581, 2, none⟩ = some (.int .u64 a1_2) ∧ w'.cell? ⟨gb581, 3, none⟩ = some (.int .u64 a1_3) ∧ w'.cell? ⟨gb581, 4, none⟩ = some (.int .i64 a1_4) ∧ w'.cell? ⟨gb581, 5, none⟩ = some (.int .i64 a1_5) ∧ w'.cell? ⟨gb582, 0, none⟩ = some (.int .u64 a1_6) ∧ w'.cell? ⟨gb582, 1, none⟩ = some (.int .u64 a1_7) ∧ w'.cell? ⟨gb582, 2, none⟩ = some (.int .u64 a1_8) ∧ w'.cell? ⟨gb582, 3, none⟩ = some (.int .u64 a1_9) ∧ w'.cell? ⟨gb582, 4, none⟩ = some (.int .i64 a1_10) ∧ w'.cell? ⟨gb582, 5, none⟩ = some (.int .i64 a1_11)) (ds := []) (bA 10 0) (by kernel_rfl) rfl rfl (by repeat' (first | apply And.intro | exact (blk_cell BK581.out _).trans rfl | exact (blk_cell BK582.out _).trans rfl)) (fun hHeld => ?_); refine with_tabW jacquardlaw14_FactsElements.tab12 jacquardlaw14_FactsElements.bits12 (fun HT_ HW_ => ?_)
               generalize wc.drew = w222 at BK579 BK581 BK582 BK632 BK640 HB hHeld ⊢
               refine pureA HT_ (i := 0) (N := some 105) (bA 10 1) ?_
               refine pureA HT_ (i := 2) (N := some 107) (bA 10 5) ?_
               refine pureA HT_ (i := 4) (N := some 109) (bA 10 21) ?_
               refine pureA HT_ (i := 6) (N := some 111) (bA 10 85) ?_
               refine takeA HT_ HW_ hHeld (i := 1) (N := some 106) (bA 10 87) ?_ (hy := by rintro w' ⟨s0, s1, s2, s3, s4, s5, s6, s7, s8, s9, s10, s11⟩; go_simp; with_reducible rfl)
               refine takeA HT_ HW_ hHeld (i := 5) (N := some 110) (bA 10 119) ?_ (hy := by rintro w' ⟨s0, s1, s2, s3, s4, s5, s6, s7, s8, s9, s10, s11⟩; go_simp; with_reducible rfl)
               refine one_ (i := 3) (N := some 108) (bA 10 127) rfl rfl (one_of HT_.out (by kernel_rfl)) (by decide) (fun K hK => ?_)
               refine gO Try.func28 #[.int .i64 a0, .agg #[.int .u64 a1_0, .int .u64 a1_1, .int .u64 a1_2, .int .u64 a1_3, .int .i64 a1_4, .int .i64 a1_5], .int .u64 a2] ?_
               with_reducible refine (facts_Contains.calls a0 a1_0 a1_1 a1_2 a1_3 a1_4 a1_5 a2 false _ A162.out).mono ?_
               rintro e w223 ⟨rfl, hb⟩
               refine ⟨_, rfl, ?_⟩
               replace BK579 := bkB BK579.out hb
               replace BK581 := bkB BK581.out hb
               replace BK582 := bkB BK582.out hb
               replace BK632 := bkB BK632.out hb
               replace BK640 := bkB BK640.out hb
               replace HB := bsB HB.out hb
               (try clear hb)
               refine hK.out _ _ (by repeat' (first | apply And.intro | exact (blk_cell BK581.out _).trans rfl | exact (blk_cell BK582.out _).trans rfl)) (fun hHeld => ?_)
               clear hK K
               refine normA (some 108) ?_
               refine one_ (i := 7) (N := some 112) (bA 10 255) rfl rfl (one_of HT_.out (by kernel_rfl)) (by decide) (fun K hK => ?_)
               refine gO Try.func28 #[.int .i64 a0, .agg #[.int .u64 a1_6, .int .u64 a1_7, .int .u64 a1_8, .int .u64 a1_9, .int .i64 a1_10, .int .i64 a1_11], .int .u64 a2] ?_
               with_reducible refine (facts_Contains.calls a0 a1_6 a1_7 a1_8 a1_9 a1_10 a1_11 a2 true _ A163.out).mono ?_
               rintro e w224 ⟨rfl, hb⟩
               refine ⟨_, rfl, ?_⟩
               replace BK579 := bkB BK579.out hb
               replace BK581 := bkB BK581.out hb
               replace BK582 := bkB BK582.out hb
               replace BK632 := bkB BK632.out hb
               replace BK640 := bkB BK640.out hb
               replace HB := bsB HB.out hb
               (try clear hb)
               refine hK.out _ _ (by repeat' (first | apply And.intro | exact (blk_cell BK581.out _).trans rfl | exact (blk_cell BK582.out _).trans rfl)) (fun hHeld => ?_)
               clear hK K
               refine normA (some 112) ?_
               refine pureA HT_ (i := 8) (N := some 13) (bA 10 511) ?_
               refine pureA HT_ (i := 9) (N := some 14) (bA 10 1023) ?_
               refine done_ (done_of HT_.out (by kernel_rfl)) ?_
               have hnb225 := NB581_579.out
               have hnc225 := NB579_581.out
               have hnb226 := NB581_582.out
               have hnc226 := NB582_581.out
               have hnb227 := NB581_632.out
               have hnc227 := NB632_581.out
               have hnb228 := NB581_640.out
               have hnc228 := NB640_581.out
               obtain ⟨hcz229_0, hcz229_1, hcz229_2, hcz229_3, hcz229_4, hcz229_5, hfz229_0, hfz229_1, hfz229_2, hfz229_3, hfz229_4, hfz229_5⟩ := own6 BK581.out
               have hnb230 := NB582_579.out
               have hnc230 := NB579_582.out
               have hnb231 := NB582_632.out
               have hnc231 := NB632_582.out
               have hnb232 := NB582_640.out
               have hnc232 := NB640_582.out
               obtain ⟨hcz233_0, hcz233_1, hcz233_2, hcz233_3, hcz233_4, hcz233_5, hfz233_0, hfz233_1, hfz233_2, hfz233_3, hfz233_4, hfz233_5⟩ := own6 BK582.out
               try go_wp2_with (first | (go_at_call 37; (with_reducible refine (facts_Join.calls a1_0 a1_1 a1_2 a1_3 a1_4 a1_5 a1_6 a1_7 a1_8 a1_9 a1_10 a1_11 t653 t654 t655 t656 t657 t658 _ A217.out).mono ?_); rintro e w234 ⟨rfl, hb⟩; replace BK579 := bkB BK579.out hb; replace BK581 := bkB BK581.out hb; replace BK582 := bkB BK582.out hb; replace BK632 := bkB BK632.out hb; replace BK640 := bkB BK640.out hb; replace HB := bsB HB.out hb; (try clear hb)) | (go_at_call 28; (with_reducible refine (facts_Contains.calls a0 t653 t654 t655 t656 t657 t658 a2 true _ A218.out).mono ?_); rintro e w235 ⟨rfl, hb⟩; replace BK579 := bkB BK579.out hb; replace BK581 := bkB BK581.out hb; replace BK582 := bkB BK582.out hb; replace BK632 := bkB BK632.out hb; replace BK640 := bkB BK640.out hb; replace HB := bsB HB.out hb; (try clear hb); (try clear hb2); (try clear hk); (try clear hi); have hnb236 := NB632_579.out; have hnc236 := NB579_632.out; have hnb237 := NB632_640.out; have hnc237 := NB640_632.out; obtain ⟨hcz238_0, hcz238_1, hcz238_2, hcz238_3, hcz238_4, hcz238_5, hfz238_0, hfz238_1, hfz238_2, hfz238_3, hfz238_4, hfz238_5⟩ := own6 BK632.out) | (go_at_call 28; (with_reducible refine (facts_Contains.calls a0 t625 t626 t627 t628 t629 t630 a2 t660 _ A221.out).mono ?_); rintro e w239 ⟨rfl, hb⟩; replace BK579 := bkB BK579.out hb; replace BK581 := bkB BK581.out hb; replace BK582 := bkB BK582.out hb; replace BK632 := bkB BK632.out hb; replace BK640 := bkB BK640.out hb; replace HB := bsB HB.out hb; (try clear hb); (try clear hb2); (try clear hk); (try clear hi)))
               go_ret
               exact ⟨by first | rfl | (simp [errW_none, errW_some] <;> rfl) | (simp [*, errW_none, errW_some] <;> rfl), bsL HB.out⟩
              ·
               replace c220 := Bool.eq_false_iff.mpr c220
               subst c220
               have H1 : (some (false == false)) = some r := by rw [if_neg (show ¬ (false = true) by decide)] at H; exact H
               clear H
               have H := H1
               clear H1
               obtain rfl := Option.some.inj H
               try go_wp2
               replace BK579 := Aside0.mk (blk_drew BK579.out)
               replace BK581 := Aside0.mk (blk_drew BK581.out)
               replace BK582 := Aside0.mk (blk_drew BK582.out)
               replace BK632 := Aside0.mk (blk_drew BK632.out)
               replace BK640 := Aside0.mk (blk_drew BK640.out)
               replace HB := Aside0.mk (below_drew1 HB.out)
               refine start_ (n := 10) (S := fun w' => w'.cell? ⟨gb581, 0, none⟩ = some (.int .u64 a1_0) ∧ w'.cell? ⟨gb581, 1, none⟩ = some (.int .u64 a1_1) ∧ w'.cell? ⟨gb581, 2, none⟩ = some (.int .u64 a1_2) ∧ w'.cell? ⟨gb581, 3, none⟩ = some (.int .u64 a1_3) ∧ w'.cell? ⟨gb581, 4, none⟩ = some (.int .i64 a1_4) ∧ w'.cell? ⟨gb581, 5, none⟩ = some (.int .i64 a1_5) ∧ w'.cell? ⟨gb582, 0, none⟩ = some (.int .u64 a1_6) ∧ w'.cell? ⟨gb582, 1, none⟩ = some (.int .u64 a1_7) ∧ w'.cell? ⟨gb582, 2, none⟩ = some (.int .u64 a1_8) ∧ w'.cell? ⟨gb582, 3, none⟩ = some (.int .u64 a1_9) ∧ w'.cell? ⟨gb582, 4, none⟩ = some (.int .i64 a1_10) ∧ w'.cell? ⟨gb582, 5, none⟩ = some (.int .i64 a1_11)) (ds := []) (bA 10 0) (by kernel_rfl) rfl rfl (by repeat' (first | apply And.intro | exact (blk_cell BK581.out _).trans rfl | exact (blk_cell BK582.out _).trans rfl)) (fun hHeld => ?_); refine with_tabW jacquardlaw14_FactsElements.tab12 jacquardlaw14_FactsElements.bits12 (fun HT_ HW_ => ?_)
               generalize wc.drew = w240 at BK579 BK581 BK582 BK632 BK640 HB hHeld ⊢
               refine pureA HT_ (i := 0) (N := some 105) (bA 10 1) ?_
               refine pureA HT_ (i := 2) (N := some 107) (bA 10 5) ?_
               refine pureA HT_ (i := 4) (N := some 109) (bA 10 21) ?_
               refine pureA HT_ (i := 6) (N := some 111) (bA 10 85) ?_
               refine takeA HT_ HW_ hHeld (i := 1) (N := some 106) (bA 10 87) ?_ (hy := by rintro w' ⟨s0, s1, s2, s3, s4, s5, s6, s7, s8, s9, s10, s11⟩; go_simp; with_reducible rfl)
               refine takeA HT_ HW_ hHeld (i := 5) (N := some 110) (bA 10 119) ?_ (hy := by rintro w' ⟨s0, s1, s2, s3, s4, s5, s6, s7, s8, s9, s10, s11⟩; go_simp; with_reducible rfl)
               refine one_ (i := 3) (N := some 108) (bA 10 127) rfl rfl (one_of HT_.out (by kernel_rfl)) (by decide) (fun K hK => ?_)
               refine gO Try.func28 #[.int .i64 a0, .agg #[.int .u64 a1_0, .int .u64 a1_1, .int .u64 a1_2, .int .u64 a1_3, .int .i64 a1_4, .int .i64 a1_5], .int .u64 a2] ?_
               with_reducible refine (facts_Contains.calls a0 a1_0 a1_1 a1_2 a1_3 a1_4 a1_5 a2 false _ A162.out).mono ?_
               rintro e w241 ⟨rfl, hb⟩
               refine ⟨_, rfl, ?_⟩
               replace BK579 := bkB BK579.out hb
               replace BK581 := bkB BK581.out hb
               replace BK582 := bkB BK582.out hb
               replace BK632 := bkB BK632.out hb
               replace BK640 := bkB BK640.out hb
               replace HB := bsB HB.out hb
               (try clear hb)
               refine hK.out _ _ (by repeat' (first | apply And.intro | exact (blk_cell BK581.out _).trans rfl | exact (blk_cell BK582.out _).trans rfl)) (fun hHeld => ?_)
               clear hK K
               refine normA (some 108) ?_
               refine one_ (i := 7) (N := some 112) (bA 10 255) rfl rfl (one_of HT_.out (by kernel_rfl)) (by decide) (fun K hK => ?_)
               refine gO Try.func28 #[.int .i64 a0, .agg #[.int .u64 a1_6, .int .u64 a1_7, .int .u64 a1_8, .int .u64 a1_9, .int .i64 a1_10, .int .i64 a1_11], .int .u64 a2] ?_
               with_reducible refine (facts_Contains.calls a0 a1_6 a1_7 a1_8 a1_9 a1_10 a1_11 a2 true _ A163.out).mono ?_
               rintro e w242 ⟨rfl, hb⟩
               refine ⟨_, rfl, ?_⟩
               replace BK579 := bkB BK579.out hb
               replace BK581 := bkB BK581.out hb
               replace BK582 := bkB BK582.out hb
               replace BK632 := bkB BK632.out hb
               replace BK640 := bkB BK640.out hb
               replace HB := bsB HB.out hb
               (try clear hb)
               refine hK.out _ _ (by repeat' (first | apply And.intro | exact (blk_cell BK581.out _).trans rfl | exact (blk_cell BK582.out _).trans rfl)) (fun hHeld => ?_)
               clear hK K
               refine normA (some 112) ?_
               refine pureA HT_ (i := 8) (N := some 13) (bA 10 511) ?_
               refine pureA HT_ (i := 9) (N := some 14) (bA 10 1023) ?_
               refine done_ (done_of HT_.out (by kernel_rfl)) ?_
               have hnb243 := NB581_579.out
               have hnc243 := NB579_581.out
               have hnb244 := NB581_582.out
               have hnc244 := NB582_581.out
               have hnb245 := NB581_632.out
               have hnc245 := NB632_581.out
               have hnb246 := NB581_640.out
               have hnc246 := NB640_581.out
               obtain ⟨hcz247_0, hcz247_1, hcz247_2, hcz247_3, hcz247_4, hcz247_5, hfz247_0, hfz247_1, hfz247_2, hfz247_3, hfz247_4, hfz247_5⟩ := own6 BK581.out
               have hnb248 := NB582_579.out
               have hnc248 := NB579_582.out
               have hnb249 := NB582_632.out
               have hnc249 := NB632_582.out
               have hnb250 := NB582_640.out
               have hnc250 := NB640_582.out
               obtain ⟨hcz251_0, hcz251_1, hcz251_2, hcz251_3, hcz251_4, hcz251_5, hfz251_0, hfz251_1, hfz251_2, hfz251_3, hfz251_4, hfz251_5⟩ := own6 BK582.out
               try go_wp2_with (first | (go_at_call 37; (with_reducible refine (facts_Join.calls a1_0 a1_1 a1_2 a1_3 a1_4 a1_5 a1_6 a1_7 a1_8 a1_9 a1_10 a1_11 t653 t654 t655 t656 t657 t658 _ A217.out).mono ?_); rintro e w252 ⟨rfl, hb⟩; replace BK579 := bkB BK579.out hb; replace BK581 := bkB BK581.out hb; replace BK582 := bkB BK582.out hb; replace BK632 := bkB BK632.out hb; replace BK640 := bkB BK640.out hb; replace HB := bsB HB.out hb; (try clear hb)) | (go_at_call 28; (with_reducible refine (facts_Contains.calls a0 t653 t654 t655 t656 t657 t658 a2 true _ A218.out).mono ?_); rintro e w253 ⟨rfl, hb⟩; replace BK579 := bkB BK579.out hb; replace BK581 := bkB BK581.out hb; replace BK582 := bkB BK582.out hb; replace BK632 := bkB BK632.out hb; replace BK640 := bkB BK640.out hb; replace HB := bsB HB.out hb; (try clear hb); (try clear hb2); (try clear hk); (try clear hi)))
               go_ret
               exact ⟨by first | rfl | (simp [errW_none, errW_some] <;> rfl) | (simp [*, errW_none, errW_some] <;> rfl), bsL HB.out⟩
             ·
              replace c219 := Bool.eq_false_iff.mpr c219
              subst c219
              have H1 : (some false) = some r := by rw [if_neg (show ¬ (false = true) by decide)] at H; exact H
              clear H
              have H := H1
              clear H1
              obtain rfl := Option.some.inj H
              try go_wp2
              replace BK579 := Aside0.mk (blk_drew BK579.out)
              replace BK581 := Aside0.mk (blk_drew BK581.out)
              replace BK582 := Aside0.mk (blk_drew BK582.out)
              replace BK632 := Aside0.mk (blk_drew BK632.out)
              replace BK640 := Aside0.mk (blk_drew BK640.out)
              replace HB := Aside0.mk (below_drew1 HB.out)
              refine start_ (n := 10) (S := fun w' => w'.cell? ⟨gb581, 0, none⟩ = some (.int .u64 a1_0) ∧ w'.cell? ⟨gb581, 1, none⟩ = some (.int .u64 a1_1) ∧ w'.cell? ⟨gb581, 2, none⟩ = some (.int .u64 a1_2) ∧ w'.cell? ⟨gb581, 3, none⟩ = some (.int .u64 a1_3) ∧ w'.cell? ⟨gb581, 4, none⟩ = some (.int .i64 a1_4) ∧ w'.cell? ⟨gb581, 5, none⟩ = some (.int .i64 a1_5) ∧ w'.cell? ⟨gb582, 0, none⟩ = some (.int .u64 a1_6) ∧ w'.cell? ⟨gb582, 1, none⟩ = some (.int .u64 a1_7) ∧ w'.cell? ⟨gb582, 2, none⟩ = some (.int .u64 a1_8) ∧ w'.cell? ⟨gb582, 3, none⟩ = some (.int .u64 a1_9) ∧ w'.cell? ⟨gb582, 4, none⟩ = some (.int .i64 a1_10) ∧ w'.cell? ⟨gb582, 5, none⟩ = some (.int .i64 a1_11)) (ds := []) (bA 10 0) (by kernel_rfl) rfl rfl (by repeat' (first | apply And.intro | exact (blk_cell BK581.out _).trans rfl | exact (blk_cell BK582.out _).trans rfl)) (fun hHeld => ?_); refine with_tabW jacquardlaw14_FactsElements.tab12 jacquardlaw14_FactsElements.bits12 (fun HT_ HW_ => ?_)
              generalize wc.drew = w254 at BK579 BK581 BK582 BK632 BK640 HB hHeld ⊢
              refine pureA HT_ (i := 0) (N := some 105) (bA 10 1) ?_
              refine pureA HT_ (i := 2) (N := some 107) (bA 10 5) ?_
              refine pureA HT_ (i := 4) (N := some 109) (bA 10 21) ?_
              refine pureA HT_ (i := 6) (N := some 111) (bA 10 85) ?_
              refine takeA HT_ HW_ hHeld (i := 1) (N := some 106) (bA 10 87) ?_ (hy := by rintro w' ⟨s0, s1, s2, s3, s4, s5, s6, s7, s8, s9, s10, s11⟩; go_simp; with_reducible rfl)
              refine takeA HT_ HW_ hHeld (i := 5) (N := some 110) (bA 10 119) ?_ (hy := by rintro w' ⟨s0, s1, s2, s3, s4, s5, s6, s7, s8, s9, s10, s11⟩; go_simp; with_reducible rfl)
              refine one_ (i := 3) (N := some 108) (bA 10 127) rfl rfl (one_of HT_.out (by kernel_rfl)) (by decide) (fun K hK => ?_)
              refine gO Try.func28 #[.int .i64 a0, .agg #[.int .u64 a1_0, .int .u64 a1_1, .int .u64 a1_2, .int .u64 a1_3, .int .i64 a1_4, .int .i64 a1_5], .int .u64 a2] ?_
              with_reducible refine (facts_Contains.calls a0 a1_0 a1_1 a1_2 a1_3 a1_4 a1_5 a2 false _ A162.out).mono ?_
              rintro e w255 ⟨rfl, hb⟩
              refine ⟨_, rfl, ?_⟩
              replace BK579 := bkB BK579.out hb
              replace BK581 := bkB BK581.out hb
              replace BK582 := bkB BK582.out hb
              replace BK632 := bkB BK632.out hb
              replace BK640 := bkB BK640.out hb
              replace HB := bsB HB.out hb
              (try clear hb)
              refine hK.out _ _ (by repeat' (first | apply And.intro | exact (blk_cell BK581.out _).trans rfl | exact (blk_cell BK582.out _).trans rfl)) (fun hHeld => ?_)
              clear hK K
              refine normA (some 108) ?_
              refine one_ (i := 7) (N := some 112) (bA 10 255) rfl rfl (one_of HT_.out (by kernel_rfl)) (by decide) (fun K hK => ?_)
              refine gO Try.func28 #[.int .i64 a0, .agg #[.int .u64 a1_6, .int .u64 a1_7, .int .u64 a1_8, .int .u64 a1_9, .int .i64 a1_10, .int .i64 a1_11], .int .u64 a2] ?_
              with_reducible refine (facts_Contains.calls a0 a1_6 a1_7 a1_8 a1_9 a1_10 a1_11 a2 true _ A163.out).mono ?_
              rintro e w256 ⟨rfl, hb⟩
              refine ⟨_, rfl, ?_⟩
              replace BK579 := bkB BK579.out hb
              replace BK581 := bkB BK581.out hb
              replace BK582 := bkB BK582.out hb
              replace BK632 := bkB BK632.out hb
              replace BK640 := bkB BK640.out hb
              replace HB := bsB HB.out hb
              (try clear hb)
              refine hK.out _ _ (by repeat' (first | apply And.intro | exact (blk_cell BK581.out _).trans rfl | exact (blk_cell BK582.out _).trans rfl)) (fun hHeld => ?_)
              clear hK K
              refine normA (some 112) ?_
              refine pureA HT_ (i := 8) (N := some 13) (bA 10 511) ?_
              refine pureA HT_ (i := 9) (N := some 14) (bA 10 1023) ?_
              refine done_ (done_of HT_.out (by kernel_rfl)) ?_
              have hnb257 := NB581_579.out
              have hnc257 := NB579_581.out
              have hnb258 := NB581_582.out
              have hnc258 := NB582_581.out
              have hnb259 := NB581_632.out
              have hnc259 := NB632_581.out
              have hnb260 := NB581_640.out
              have hnc260 := NB640_581.out
              obtain ⟨hcz261_0, hcz261_1, hcz261_2, hcz261_3, hcz261_4, hcz261_5, hfz261_0, hfz261_1, hfz261_2, hfz261_3, hfz261_4, hfz261_5⟩ := own6 BK581.out
              have hnb262 := NB582_579.out
              have hnc262 := NB579_582.out
              have hnb263 := NB582_632.out
              have hnc263 := NB632_582.out
              have hnb264 := NB582_640.out
              have hnc264 := NB640_582.out
              obtain ⟨hcz265_0, hcz265_1, hcz265_2, hcz265_3, hcz265_4, hcz265_5, hfz265_0, hfz265_1, hfz265_2, hfz265_3, hfz265_4, hfz265_5⟩ := own6 BK582.out
              try go_wp2_with (first | (go_at_call 37; (with_reducible refine (facts_Join.calls a1_0 a1_1 a1_2 a1_3 a1_4 a1_5 a1_6 a1_7 a1_8 a1_9 a1_10 a1_11 t653 t654 t655 t656 t657 t658 _ A217.out).mono ?_); rintro e w266 ⟨rfl, hb⟩; replace BK579 := bkB BK579.out hb; replace BK581 := bkB BK581.out hb; replace BK582 := bkB BK582.out hb; replace BK632 := bkB BK632.out hb; replace BK640 := bkB BK640.out hb; replace HB := bsB HB.out hb; (try clear hb)) | (go_at_call 28; (with_reducible refine (facts_Contains.calls a0 t653 t654 t655 t656 t657 t658 a2 false _ A218.out).mono ?_); rintro e w267 ⟨rfl, hb⟩; replace BK579 := bkB BK579.out hb; replace BK581 := bkB BK581.out hb; replace BK582 := bkB BK582.out hb; replace BK632 := bkB BK632.out hb; replace BK640 := bkB BK640.out hb; replace HB := bsB HB.out hb; (try clear hb); (try clear hb2); (try clear hk); (try clear hi)))
              go_ret
              exact ⟨by first | rfl | (simp [errW_none, errW_some] <;> rfl) | (simp [*, errW_none, errW_some] <;> rfl), bsL HB.out⟩
            ·
             replace c216 := Bool.eq_false_iff.mpr c216
             subst c216
             have H1 : (if t631 = true then ((facts_Contains.f a0 t625 t626 t627 t628 t629 t630 a2).bind fun t661 => (some (false == t661))) else (some (false == false))) = some r := by rw [if_neg (show ¬ (false = true) by decide)] at H; exact H
             clear H
             have H := H1
             clear H1
             by_cases c268 : t631 = true
             ·
              subst c268
              have H1 : ((facts_Contains.f a0 t625 t626 t627 t628 t629 t630 a2).bind fun t661 => (some (false == t661))) = some r := by rw [if_pos rfl] at H; exact H
              clear H
              have H := H1
              clear H1
              replace H := Option.bind_eq_some_iff.mp H
              obtain ⟨t661, A2690, H⟩ := H
              replace H : (some (false == t661)) = some r := H
              have A269 := Aside0.mk A2690
              clear A2690
              obtain rfl := Option.some.inj H
              try go_wp2
              replace BK579 := Aside0.mk (blk_drew BK579.out)
              replace BK581 := Aside0.mk (blk_drew BK581.out)
              replace BK582 := Aside0.mk (blk_drew BK582.out)
              replace BK632 := Aside0.mk (blk_drew BK632.out)
              replace BK640 := Aside0.mk (blk_drew BK640.out)
              replace HB := Aside0.mk (below_drew1 HB.out)
              refine start_ (n := 10) (S := fun w' => w'.cell? ⟨gb581, 0, none⟩ = some (.int .u64 a1_0) ∧ w'.cell? ⟨gb581, 1, none⟩ = some (.int .u64 a1_1) ∧ w'.cell? ⟨gb581, 2, none⟩ = some (.int .u64 a1_2) ∧ w'.cell? ⟨gb581, 3, none⟩ = some (.int .u64 a1_3) ∧ w'.cell? ⟨gb581, 4, none⟩ = some (.int .i64 a1_4) ∧ w'.cell? ⟨gb581, 5, none⟩ = some (.int .i64 a1_5) ∧ w'.cell? ⟨gb582, 0, none⟩ = some (.int .u64 a1_6) ∧ w'.cell? ⟨gb582, 1, none⟩ = some (.int .u64 a1_7) ∧ w'.cell? ⟨gb582, 2, none⟩ = some (.int .u64 a1_8) ∧ w'.cell? ⟨gb582, 3, none⟩ = some (.int .u64 a1_9) ∧ w'.cell? ⟨gb582, 4, none⟩ = some (.int .i64 a1_10) ∧ w'.cell? ⟨gb582, 5, none⟩ = some (.int .i64 a1_11)) (ds := []) (bA 10 0) (by kernel_rfl) rfl rfl (by repeat' (first | apply And.intro | exact (blk_cell BK581.out _).trans rfl | exact (blk_cell BK582.out _).trans rfl)) (fun hHeld => ?_); refine with_tabW jacquardlaw14_FactsElements.tab12 jacquardlaw14_FactsElements.bits12 (fun HT_ HW_ => ?_)
              generalize wc.drew = w270 at BK579 BK581 BK582 BK632 BK640 HB hHeld ⊢
              refine pureA HT_ (i := 0) (N := some 105) (bA 10 1) ?_
              refine pureA HT_ (i := 2) (N := some 107) (bA 10 5) ?_
              refine pureA HT_ (i := 4) (N := some 109) (bA 10 21) ?_
              refine pureA HT_ (i := 6) (N := some 111) (bA 10 85) ?_
              refine takeA HT_ HW_ hHeld (i := 1) (N := some 106) (bA 10 87) ?_ (hy := by rintro w' ⟨s0, s1, s2, s3, s4, s5, s6, s7, s8, s9, s10, s11⟩; go_simp; with_reducible rfl)
              refine takeA HT_ HW_ hHeld (i := 5) (N := some 110) (bA 10 119) ?_ (hy := by rintro w' ⟨s0, s1, s2, s3, s4, s5, s6, s7, s8, s9, s10, s11⟩; go_simp; with_reducible rfl)
              refine one_ (i := 3) (N := some 108) (bA 10 127) rfl rfl (one_of HT_.out (by kernel_rfl)) (by decide) (fun K hK => ?_)
              refine gO Try.func28 #[.int .i64 a0, .agg #[.int .u64 a1_0, .int .u64 a1_1, .int .u64 a1_2, .int .u64 a1_3, .int .i64 a1_4, .int .i64 a1_5], .int .u64 a2] ?_
              with_reducible refine (facts_Contains.calls a0 a1_0 a1_1 a1_2 a1_3 a1_4 a1_5 a2 false _ A162.out).mono ?_
              rintro e w271 ⟨rfl, hb⟩
              refine ⟨_, rfl, ?_⟩
              replace BK579 := bkB BK579.out hb
              replace BK581 := bkB BK581.out hb
              replace BK582 := bkB BK582.out hb
              replace BK632 := bkB BK632.out hb
              replace BK640 := bkB BK640.out hb
              replace HB := bsB HB.out hb
              (try clear hb)
              refine hK.out _ _ (by repeat' (first | apply And.intro | exact (blk_cell BK581.out _).trans rfl | exact (blk_cell BK582.out _).trans rfl)) (fun hHeld => ?_)
              clear hK K
              refine normA (some 108) ?_
              refine one_ (i := 7) (N := some 112) (bA 10 255) rfl rfl (one_of HT_.out (by kernel_rfl)) (by decide) (fun K hK => ?_)
              refine gO Try.func28 #[.int .i64 a0, .agg #[.int .u64 a1_6, .int .u64 a1_7, .int .u64 a1_8, .int .u64 a1_9, .int .i64 a1_10, .int .i64 a1_11], .int .u64 a2] ?_
              with_reducible refine (facts_Contains.calls a0 a1_6 a1_7 a1_8 a1_9 a1_10 a1_11 a2 false _ A163.out).mono ?_
              rintro e w272 ⟨rfl, hb⟩
              refine ⟨_, rfl, ?_⟩
              replace BK579 := bkB BK579.out hb
              replace BK581 := bkB BK581.out hb
              replace BK582 := bkB BK582.out hb
              replace BK632 := bkB BK632.out hb
              replace BK640 := bkB BK640.out hb
              replace HB := bsB HB.out hb
              (try clear hb)
              refine hK.out _ _ (by repeat' (first | apply And.intro | exact (blk_cell BK581.out _).trans rfl | exact (blk_cell BK582.out _).trans rfl)) (fun hHeld => ?_)
              clear hK K
              refine normA (some 112) ?_
              refine pureA HT_ (i := 8) (N := some 13) (bA 10 511) ?_
              refine pureA HT_ (i := 9) (N := some 14) (bA 10 1023) ?_
              refine done_ (done_of HT_.out (by kernel_rfl)) ?_
              have hnb273 := NB632_579.out
              have hnc273 := NB579_632.out
              have hnb274 := NB632_581.out
              have hnc274 := NB581_632.out
              have hnb275 := NB632_582.out
              have hnc275 := NB582_632.out
              have hnb276 := NB632_640.out
              have hnc276 := NB640_632.out
              obtain ⟨hcz277_0, hcz277_1, hcz277_2, hcz277_3, hcz277_4, hcz277_5, hfz277_0, hfz277_1, hfz277_2, hfz277_3, hfz277_4, hfz277_5⟩ := own6 BK632.out
              try go_wp2_with (first | (go_at_call 28; (with_reducible refine (facts_Contains.calls a0 t625 t626 t627 t628 t629 t630 a2 t661 _ A269.out).mono ?_); rintro e w278 ⟨rfl, hb⟩; replace BK579 := bkB BK579.out hb; replace BK581 := bkB BK581.out hb; replace BK582 := bkB BK582.out hb; replace BK632 := bkB BK632.out hb; replace BK640 := bkB BK640.out hb; replace HB := bsB HB.out hb; (try clear hb)))
              go_ret
              exact ⟨by first | rfl | (simp [errW_none, errW_some] <;> rfl) | (simp [*, errW_none, errW_some] <;> rfl), bsL HB.out⟩
             ·
              replace c268 := Bool.eq_false_iff.mpr c268
              subst c268
              have H1 : (some (false == false)) = some r := by rw [if_neg (show ¬ (false = true) by decide)] at H; exact H
              clear H
              have H := H1
              clear H1
              obtain rfl := Option.some.inj H
              try go_wp2
              replace BK579 := Aside0.mk (blk_drew BK579.out)
              replace BK581 := Aside0.mk (blk_drew BK581.out)
              replace BK582 := Aside0.mk (blk_drew BK582.out)
              replace BK632 := Aside0.mk (blk_drew BK632.out)
              replace BK640 := Aside0.mk (blk_drew BK640.out)
              replace HB := Aside0.mk (below_drew1 HB.out)
              refine start_ (n := 10) (S := fun w' => w'.cell? ⟨gb581, 0, none⟩ = some (.int .u64 a1_0) ∧ w'.cell? ⟨gb581, 1, none⟩ = some (.int .u64 a1_1) ∧ w'.cell? ⟨gb581, 2, none⟩ = some (.int .u64 a1_2) ∧ w'.cell? ⟨gb581, 3, none⟩ = some (.int .u64 a1_3) ∧ w'.cell? ⟨gb581, 4, none⟩ = some (.int .i64 a1_4) ∧ w'.cell? ⟨gb581, 5, none⟩ = some (.int .i64 a1_5) ∧ w'.cell? ⟨gb582, 0, none⟩ = some (.int .u64 a1_6) ∧ w'.cell? ⟨gb582, 1, none⟩ = some (.int .u64 a1_7) ∧ w'.cell? ⟨gb582, 2, none⟩ = some (.int .u64 a1_8) ∧ w'.cell? ⟨gb582, 3, none⟩ = some (.int .u64 a1_9) ∧ w'.cell? ⟨gb582, 4, none⟩ = some (.int .i64 a1_10) ∧ w'.cell? ⟨gb582, 5, none⟩ = some (.int .i64 a1_11)) (ds := []) (bA 10 0) (by kernel_rfl) rfl rfl (by repeat' (first | apply And.intro | exact (blk_cell BK581.out _).trans rfl | exact (blk_cell BK582.out _).trans rfl)) (fun hHeld => ?_); refine with_tabW jacquardlaw14_FactsElements.tab12 jacquardlaw14_FactsElements.bits12 (fun HT_ HW_ => ?_)
              generalize wc.drew = w279 at BK579 BK581 BK582 BK632 BK640 HB hHeld ⊢
              refine pureA HT_ (i := 0) (N := some 105) (bA 10 1) ?_
              refine pureA HT_ (i := 2) (N := some 107) (bA 10 5) ?_
              refine pureA HT_ (i := 4) (N := some 109) (bA 10 21) ?_
              refine pureA HT_ (i := 6) (N := some 111) (bA 10 85) ?_
              refine takeA HT_ HW_ hHeld (i := 1) (N := some 106) (bA 10 87) ?_ (hy := by rintro w' ⟨s0, s1, s2, s3, s4, s5, s6, s7, s8, s9, s10, s11⟩; go_simp; with_reducible rfl)
              refine takeA HT_ HW_ hHeld (i := 5) (N := some 110) (bA 10 119) ?_ (hy := by rintro w' ⟨s0, s1, s2, s3, s4, s5, s6, s7, s8, s9, s10, s11⟩; go_simp; with_reducible rfl)
              refine one_ (i := 3) (N := some 108) (bA 10 127) rfl rfl (one_of HT_.out (by kernel_rfl)) (by decide) (fun K hK => ?_)
              refine gO Try.func28 #[.int .i64 a0, .agg #[.int .u64 a1_0, .int .u64 a1_1, .int .u64 a1_2, .int .u64 a1_3, .int .i64 a1_4, .int .i64 a1_5], .int .u64 a2] ?_
              with_reducible refine (facts_Contains.calls a0 a1_0 a1_1 a1_2 a1_3 a1_4 a1_5 a2 false _ A162.out).mono ?_
              rintro e w280 ⟨rfl, hb⟩
              refine ⟨_, rfl, ?_⟩
              replace BK579 := bkB BK579.out hb
              replace BK581 := bkB BK581.out hb
              replace BK582 := bkB BK582.out hb
              replace BK632 := bkB BK632.out hb
              replace BK640 := bkB BK640.out hb
              replace HB := bsB HB.out hb
              (try clear hb)
              refine hK.out _ _ (by repeat' (first | apply And.intro | exact (blk_cell BK581.out _).trans rfl | exact (blk_cell BK582.out _).trans rfl)) (fun hHeld => ?_)
              clear hK K
              refine normA (some 108) ?_
              refine one_ (i := 7) (N := some 112) (bA 10 255) rfl rfl (one_of HT_.out (by kernel_rfl)) (by decide) (fun K hK => ?_)
              refine gO Try.func28 #[.int .i64 a0, .agg #[.int .u64 a1_6, .int .u64 a1_7, .int .u64 a1_8, .int .u64 a1_9, .int .i64 a1_10, .int .i64 a1_11], .int .u64 a2] ?_
              with_reducible refine (facts_Contains.calls a0 a1_6 a1_7 a1_8 a1_9 a1_10 a1_11 a2 false _ A163.out).mono ?_
              rintro e w281 ⟨rfl, hb⟩
              refine ⟨_, rfl, ?_⟩
              replace BK579 := bkB BK579.out hb
              replace BK581 := bkB BK581.out hb
              replace BK582 := bkB BK582.out hb
              replace BK632 := bkB BK632.out hb
              replace BK640 := bkB BK640.out hb
              replace HB := bsB HB.out hb
              (try clear hb)
              refine hK.out _ _ (by repeat' (first | apply And.intro | exact (blk_cell BK581.out _).trans rfl | exact (blk_cell BK582.out _).trans rfl)) (fun hHeld => ?_)
              clear hK K
              refine normA (some 112) ?_
              refine pureA HT_ (i := 8) (N := some 13) (bA 10 511) ?_
              refine pureA HT_ (i := 9) (N := some 14) (bA 10 1023) ?_
              refine done_ (done_of HT_.out (by kernel_rfl)) ?_
              try go_wp2
              go_ret
              exact ⟨by first | rfl | (simp [errW_none, errW_some] <;> rfl) | (simp [*, errW_none, errW_some] <;> rfl), bsL HB.out⟩
 ·
  replace c5 := Bool.eq_false_iff.mpr c5
  subst c5
  have H1 : (some false) = some r := by rw [if_neg (show ¬ (false = true) by decide)] at H; exact H
  clear H
  have H := H1
  clear H1
  obtain rfl := Option.some.inj H
  go_enter Try.func9, Try.ntmps9
  go_wp2_with (first | ((with_reducible refine gate_dst (N := 4) rfl ?_); refine boxE (N := 4) (cs := #[.int .u64 a1_0, .int .u64 a1_1, .int .u64 a1_2, .int .u64 a1_3, .int .i64 a1_4, .int .i64 a1_5, .int .u64 a1_6, .int .u64 a1_7, .int .u64 a1_8, .int .u64 a1_9, .int .i64 a1_10, .int .i64 a1_11]) (t := 56) ?_; intro gb579 hg w282 hbox hb; have BK579 := Aside0.mk (hbox); have GW579 := szB hg HB.out; have GE579 := szB hg HB.out; replace HB := bsB HB.out hb; clear hb hbox hg) | ((with_reducible refine gate_callee (f := 24) rfl ?_); refine gL (some 15) Try.func24 #[] ?_; (with_reducible refine (jacquardlaw14_awake.calls  false _ A4.out).mono ?_); rintro e w283 ⟨rfl, hb⟩; refine ⟨_, rfl, ?_⟩; replace BK579 := bkB BK579.out hb; replace HB := bsB HB.out hb; (try clear hb); (try clear hb2); (try clear hk); (try clear hi)))
  go_ret
  exact ⟨by first | rfl | (simp [errW_none, errW_some] <;> rfl) | (simp [*, errW_none, errW_some] <;> rfl), bsL HB.out⟩

/-- THE ONE PURE STATEMENT of jacquardlaw14_FactsElements. -/
def jacquardlaw14_FactsElements.Pure : Prop := ∀ (a0 : Int) (a1_0 : Int) (a1_1 : Int) (a1_2 : Int) (a1_3 : Int) (a1_4 : Int) (a1_5 : Int) (a1_6 : Int) (a1_7 : Int) (a1_8 : Int) (a1_9 : Int) (a1_10 : Int) (a1_11 : Int) (a2 : Int), (Lit.int .i64 a0).wf = true → (Lit.int .u64 a1_0).wf = true → (Lit.int .u64 a1_1).wf = true → (Lit.int .u64 a1_2).wf = true → (Lit.int .u64 a1_3).wf = true → (Lit.int .i64 a1_4).wf = true → (Lit.int .i64 a1_5).wf = true → (Lit.int .u64 a1_6).wf = true → (Lit.int .u64 a1_7).wf = true → (Lit.int .u64 a1_8).wf = true → (Lit.int .u64 a1_9).wf = true → (Lit.int .i64 a1_10).wf = true → (Lit.int .i64 a1_11).wf = true → (Lit.int .u64 a2).wf = true → ∃ k, jacquardlaw14_FactsElements.f k a0 a1_0 a1_1 a1_2 a1_3 a1_4 a1_5 a1_6 a1_7 a1_8 a1_9 a1_10 a1_11 a2 = some true

end Go.Proofs.Ytbiohdgeclokmaa.P
