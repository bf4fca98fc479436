-- made by a program of this work (wip/mkprint.py, wip/mp.sh) out of the translation
import Derived.Test.YtanmehdcccldfaaPx0
import Derived.Test.YtanmehdcccldfaaPx1
import Derived.Test.YtanmehdcccldfaaPx2
import Derived.Test.YtanmehdcccldfaaPx6
import Derived.Test.YtanmehdcccldfaaPx9
namespace Go.Proofs.Ytanmehdcccldfaa.P
open Go.RowKit Go.Proofs.YtanmehdcccldfaaW.PrintWords Go.Proofs.YtanmehdcccldfaaW.PrintLast Go.Proofs.YtanmehdcccldfaaW.PrintMore
attribute [local go_sem] max2_int min2_int max_two min_two max_three min_three max_four min_four   -- for this text's walks alone
set_option linter.unusedVariables false
set_option linter.unusedSimpArgs false

attribute [local go_sem high] eqA24
/-! ### jacquardlaw13_IntervalLattice: function 4 -/
mutual
def jacquardlaw13_IntervalLattice.j0 : Nat → Int → Bool → Bool → Int → Int → Int → Int → Int → Int → Int → Int → Int → Int → Int → Int → Int → Int → Int → Int → Option (Bool)
 | 0, _, _, _, _, _, _, _, _, _, _, _, _, _, _, _, _, _, _, _ => none
 | k + 1, x2, x9, x56, x209000, x209001, x209002, x209003, x210000, x210001, x210002, x210003, x216000, x216001, x216002, x216003, x222000, x222001, x222002, x222003 => if x56 = true then (some false) else ((interval_Leq.f x209000 x209001 x209002 x209003 x216000 x216001 x216002 x216003).bind fun t234 => (if t234 = true then ((interval_Leq.f x210000 x210001 x210002 x210003 x216000 x216001 x216002 x216003).bind fun t235 => (if t235 = true then (if x9 = true then ((interval_Leq.f x222000 x222001 x222002 x222003 x209000 x209001 x209002 x209003).bind fun t236 => (if t236 = true then ((interval_Leq.f x222000 x222001 x222002 x222003 x210000 x210001 x210002 x210003).bind fun t237 => (jacquardlaw13_IntervalLattice.j1 k x2 x9 (!t237) x209000 x209001 x209002 x209003 x210000 x210001 x210002 x210003 x216000 x216001 x216002 x216003 x222000 x222001 x222002 x222003)) else (jacquardlaw13_IntervalLattice.j1 k x2 x9 true x209000 x209001 x209002 x209003 x210000 x210001 x210002 x210003 x216000 x216001 x216002 x216003 x222000 x222001 x222002 x222003))) else (jacquardlaw13_IntervalLattice.j1 k x2 x9 false x209000 x209001 x209002 x209003 x210000 x210001 x210002 x210003 x216000 x216001 x216002 x216003 x222000 x222001 x222002 x222003)) else (jacquardlaw13_IntervalLattice.j1 k x2 x9 true x209000 x209001 x209002 x209003 x210000 x210001 x210002 x210003 x216000 x216001 x216002 x216003 x222000 x222001 x222002 x222003))) else (jacquardlaw13_IntervalLattice.j1 k x2 x9 true x209000 x209001 x209002 x209003 x210000 x210001 x210002 x210003 x216000 x216001 x216002 x216003 x222000 x222001 x222002 x222003)))
def jacquardlaw13_IntervalLattice.j1 : Nat → Int → Bool → Bool → Int → Int → Int → Int → Int → Int → Int → Int → Int → Int → Int → Int → Int → Int → Int → Int → Option (Bool)
 | 0, _, _, _, _, _, _, _, _, _, _, _, _, _, _, _, _, _, _, _ => none
 | k + 1, x2, x9, x81, x209000, x209001, x209002, x209003, x210000, x210001, x210002, x210003, x216000, x216001, x216002, x216003, x222000, x222001, x222002, x222003 => if x81 = true then (some false) else ((some (([1, 4, 64] : List Int) : List Int)).bind fun y238 => (jacquardlaw13_IntervalLattice.l0 k x2 x9 y238 (y238.length : Int) 0 x209000 x209001 x209002 x209003 x210000 x210001 x210002 x210003 x216000 x216001 x216002 x216003 x222000 x222001 x222002 x222003))
def jacquardlaw13_IntervalLattice.l0 : Nat → Int → Bool → List Int → Int → Int → Int → Int → Int → Int → Int → Int → Int → Int → Int → Int → Int → Int → Int → Int → Int → Int → Option (Bool)
 | 0, _, _, _, _, _, _, _, _, _, _, _, _, _, _, _, _, _, _, _, _, _ => none
 | k + 1, x2, x9, x82, x83, x84, x209000, x209001, x209002, x209003, x210000, x210001, x210002, x210003, x216000, x216001, x216002, x216003, x222000, x222001, x222002, x222003 => if x84 < x83 then (if 0 ≤ x84 then (if x84 < (x82.length : Int) then ((interval_Contains.f (rd x82 x84) x209000 x209001 x209002 x209003 x2).bind fun t242 => ((interval_Contains.f (rd x82 x84) x210000 x210001 x210002 x210003 x2).bind fun t243 => (if t242 = true then ((interval_Contains.f (rd x82 x84) x216000 x216001 x216002 x216003 x2).bind fun t244 => (if t244 = true then (if x9 = true then ((interval_Contains.f (rd x82 x84) x222000 x222001 x222002 x222003 x2).bind fun t245 => (if (t243 != t245) = true then (some false) else (jacquardlaw13_IntervalLattice.l0 k x2 x9 x82 x83 (wrap64 (x84 + 1)) x209000 x209001 x209002 x209003 x210000 x210001 x210002 x210003 x216000 x216001 x216002 x216003 x222000 x222001 x222002 x222003))) else (if (t243 != false) = true then (some false) else (jacquardlaw13_IntervalLattice.l0 k x2 x9 x82 x83 (wrap64 (x84 + 1)) x209000 x209001 x209002 x209003 x210000 x210001 x210002 x210003 x216000 x216001 x216002 x216003 x222000 x222001 x222002 x222003))) else (some false))) else (if t243 = true then ((interval_Contains.f (rd x82 x84) x216000 x216001 x216002 x216003 x2).bind fun t246 => (if t246 = true then (jacquardlaw13_IntervalLattice.l0 k x2 x9 x82 x83 (wrap64 (x84 + 1)) x209000 x209001 x209002 x209003 x210000 x210001 x210002 x210003 x216000 x216001 x216002 x216003 x222000 x222001 x222002 x222003) else (some false))) else (jacquardlaw13_IntervalLattice.l0 k x2 x9 x82 x83 (wrap64 (x84 + 1)) x209000 x209001 x209002 x209003 x210000 x210001 x210002 x210003 x216000 x216001 x216002 x216003 x222000 x222001 x222002 x222003))))) else (none)) else (none)) else (some true)
end
def jacquardlaw13_IntervalLattice.f (k : Nat) (a0_0 : Int) (a0_1 : Int) (a0_2 : Int) (a0_3 : Int) (a1_0 : Int) (a1_1 : Int) (a1_2 : Int) (a1_3 : Int) (a2 : Int) : Option (Bool) := (jacquardlaw13_awake.f).bind fun t210 => (if t210 = true then ((interval_Join.f a0_0 a0_1 a0_2 a0_3 a1_0 a1_1 a1_2 a1_3).bind fun bt211 => ((interval_Meet.f a0_0 a0_1 a0_2 a0_3 a1_0 a1_1 a1_2 a1_3).bind fun bt216 => ((jacquardref13_Meet.f a0_0 a0_1 a0_2 a0_3 a1_0 a1_1 a1_2 a1_3).bind fun bt222 => ((interval_Leq.f a0_0 a0_1 a0_2 a0_3 a1_0 a1_1 a1_2 a1_3).bind fun t228 => ((jacquardref13_Leq.f a0_0 a0_1 a0_2 a0_3 a1_0 a1_1 a1_2 a1_3).bind fun t229 => (if (t228 != t229) = true then (jacquardlaw13_IntervalLattice.j0 k a2 bt216.2.2.2.2 true a0_0 a0_1 a0_2 a0_3 a1_0 a1_1 a1_2 a1_3 bt211.1 bt211.2.1 bt211.2.2.1 bt211.2.2.2 bt216.1 bt216.2.1 bt216.2.2.1 bt216.2.2.2.1) else ((jacquardref13_Join.f a0_0 a0_1 a0_2 a0_3 a1_0 a1_1 a1_2 a1_3).bind fun bt230 => (if (!(bt211.1 == bt230.1) || (!(bt211.2.1 == bt230.2.1) || (!(bt211.2.2.1 == bt230.2.2.1) || (!(bt211.2.2.2 == bt230.2.2.2))))) = true then (jacquardlaw13_IntervalLattice.j0 k a2 bt216.2.2.2.2 true a0_0 a0_1 a0_2 a0_3 a1_0 a1_1 a1_2 a1_3 bt211.1 bt211.2.1 bt211.2.2.1 bt211.2.2.2 bt216.1 bt216.2.1 bt216.2.2.1 bt216.2.2.2.1) else (if (!(bt216.1 == bt222.1) || (!(bt216.2.1 == bt222.2.1) || (!(bt216.2.2.1 == bt222.2.2.1) || (!(bt216.2.2.2.1 == bt222.2.2.2.1))))) = true then (jacquardlaw13_IntervalLattice.j0 k a2 bt216.2.2.2.2 true a0_0 a0_1 a0_2 a0_3 a1_0 a1_1 a1_2 a1_3 bt211.1 bt211.2.1 bt211.2.2.1 bt211.2.2.2 bt216.1 bt216.2.1 bt216.2.2.1 bt216.2.2.2.1) else (jacquardlaw13_IntervalLattice.j0 k a2 bt216.2.2.2.2 (bt216.2.2.2.2 != bt222.2.2.2.2) a0_0 a0_1 a0_2 a0_3 a1_0 a1_1 a1_2 a1_3 bt211.1 bt211.2.1 bt211.2.2.1 bt211.2.2.2 bt216.1 bt216.2.1 bt216.2.2.1 bt216.2.2.2.1)))))))))) else (some false))
theorem jacquardlaw13_IntervalLattice.mono_l : ∀ k, (∀ y0 y1 y2 y3 y4 y5 y6 y7 y8 y9 y10 y11 y12 y13 y14 y15 y16 y17 y18, LeO (jacquardlaw13_IntervalLattice.j0 k y0 y1 y2 y3 y4 y5 y6 y7 y8 y9 y10 y11 y12 y13 y14 y15 y16 y17 y18) (jacquardlaw13_IntervalLattice.j0 (k + 1) y0 y1 y2 y3 y4 y5 y6 y7 y8 y9 y10 y11 y12 y13 y14 y15 y16 y17 y18)) ∧ (∀ y0 y1 y2 y3 y4 y5 y6 y7 y8 y9 y10 y11 y12 y13 y14 y15 y16 y17 y18, LeO (jacquardlaw13_IntervalLattice.j1 k y0 y1 y2 y3 y4 y5 y6 y7 y8 y9 y10 y11 y12 y13 y14 y15 y16 y17 y18) (jacquardlaw13_IntervalLattice.j1 (k + 1) y0 y1 y2 y3 y4 y5 y6 y7 y8 y9 y10 y11 y12 y13 y14 y15 y16 y17 y18)) ∧ (∀ y0 y1 y2 y3 y4 y5 y6 y7 y8 y9 y10 y11 y12 y13 y14 y15 y16 y17 y18 y19 y20, LeO (jacquardlaw13_IntervalLattice.l0 k y0 y1 y2 y3 y4 y5 y6 y7 y8 y9 y10 y11 y12 y13 y14 y15 y16 y17 y18 y19 y20) (jacquardlaw13_IntervalLattice.l0 (k + 1) y0 y1 y2 y3 y4 y5 y6 y7 y8 y9 y10 y11 y12 y13 y14 y15 y16 y17 y18 y19 y20))
 | 0 => ⟨fun _ _ _ _ _ _ _ _ _ _ _ _ _ _ _ _ _ _ _ r h => by simp [jacquardlaw13_IntervalLattice.j0] at h, fun _ _ _ _ _ _ _ _ _ _ _ _ _ _ _ _ _ _ _ r h => by simp [jacquardlaw13_IntervalLattice.j1] at h, fun _ _ _ _ _ _ _ _ _ _ _ _ _ _ _ _ _ _ _ _ _ r h => by simp [jacquardlaw13_IntervalLattice.l0] at h⟩
 | k + 1 => by
  obtain ⟨ih0, ih1, ih2⟩ := jacquardlaw13_IntervalLattice.mono_l k
  refine ⟨?_, ?_, ?_⟩
  ·
   intro y0 y1 y2 y3 y4 y5 y6 y7 y8 y9 y10 y11 y12 y13 y14 y15 y16 y17 y18
   unfold jacquardlaw13_IntervalLattice.j0
   repeat' first
   | (with_reducible exact ih0 _ _ _ _ _ _ _ _ _ _ _ _ _ _ _ _ _ _ _)
   | (with_reducible exact ih1 _ _ _ _ _ _ _ _ _ _ _ _ _ _ _ _ _ _ _)
   | (with_reducible exact ih2 _ _ _ _ _ _ _ _ _ _ _ _ _ _ _ _ _ _ _ _ _)
   | (with_reducible exact LeO.refl _)
   | (with_reducible exact LeO.none _)
   | (with_reducible refine LeO.ite ?_ ?_)
   | (with_reducible refine LeO.bind ?_ (fun _ => ?_))
   | exact ih0 _ _ _ _ _ _ _ _ _ _ _ _ _ _ _ _ _ _ _
   | exact ih1 _ _ _ _ _ _ _ _ _ _ _ _ _ _ _ _ _ _ _
   | exact ih2 _ _ _ _ _ _ _ _ _ _ _ _ _ _ _ _ _ _ _ _ _
   | exact LeO.none _
   | refine LeO.ite ?_ ?_
   | refine LeO.bind ?_ (fun _ => ?_)
  ·
   intro y0 y1 y2 y3 y4 y5 y6 y7 y8 y9 y10 y11 y12 y13 y14 y15 y16 y17 y18
   unfold jacquardlaw13_IntervalLattice.j1
   repeat' first
   | (with_reducible exact ih0 _ _ _ _ _ _ _ _ _ _ _ _ _ _ _ _ _ _ _)
   | (with_reducible exact ih1 _ _ _ _ _ _ _ _ _ _ _ _ _ _ _ _ _ _ _)
   | (with_reducible exact ih2 _ _ _ _ _ _ _ _ _ _ _ _ _ _ _ _ _ _ _ _ _)
   | (with_reducible exact LeO.refl _)
   | (with_reducible exact LeO.none _)
   | (with_reducible refine LeO.ite ?_ ?_)
   | (with_reducible refine LeO.bind ?_ (fun _ => ?_))
   | exact ih0 _ _ _ _ _ _ _ _ _ _ _ _ _ _ _ _ _ _ _
   | exact ih1 _ _ _ _ _ _ _ _ _ _ _ _ _ _ _ _ _ _ _
   | exact ih2 _ _ _ _ _ _ _ _ _ _ _ _ _ _ _ _ _ _ _ _ _
   | exact LeO.none _
   | refine LeO.ite ?_ ?_
   | refine LeO.bind ?_ (fun _ => ?_)
  ·
   intro y0 y1 y2 y3 y4 y5 y6 y7 y8 y9 y10 y11 y12 y13 y14 y15 y16 y17 y18 y19 y20
   unfold jacquardlaw13_IntervalLattice.l0
   repeat' first
   | (with_reducible exact ih0 _ _ _ _ _ _ _ _ _ _ _ _ _ _ _ _ _ _ _)
   | (with_reducible exact ih1 _ _ _ _ _ _ _ _ _ _ _ _ _ _ _ _ _ _ _)
   | (with_reducible exact ih2 _ _ _ _ _ _ _ _ _ _ _ _ _ _ _ _ _ _ _ _ _)
   | (with_reducible exact LeO.refl _)
   | (with_reducible exact LeO.none _)
   | (with_reducible refine LeO.ite ?_ ?_)
   | (with_reducible refine LeO.bind ?_ (fun _ => ?_))
   | exact ih0 _ _ _ _ _ _ _ _ _ _ _ _ _ _ _ _ _ _ _
   | exact ih1 _ _ _ _ _ _ _ _ _ _ _ _ _ _ _ _ _ _ _
   | exact ih2 _ _ _ _ _ _ _ _ _ _ _ _ _ _ _ _ _ _ _ _ _
   | exact LeO.none _
   | refine LeO.ite ?_ ?_
   | refine LeO.bind ?_ (fun _ => ?_)
theorem jacquardlaw13_IntervalLattice.mono : ∀ a0 a1 a2 a3 a4 a5 a6 a7 a8 k, LeO (jacquardlaw13_IntervalLattice.f k a0 a1 a2 a3 a4 a5 a6 a7 a8) (jacquardlaw13_IntervalLattice.f (k + 1) a0 a1 a2 a3 a4 a5 a6 a7 a8) := by
 intro a0 a1 a2 a3 a4 a5 a6 a7 a8 k
 obtain ⟨ih0, ih1, ih2⟩ := jacquardlaw13_IntervalLattice.mono_l k
 unfold jacquardlaw13_IntervalLattice.f
 repeat' first
   | (with_reducible exact ih0 _ _ _ _ _ _ _ _ _ _ _ _ _ _ _ _ _ _ _)
   | (with_reducible exact ih1 _ _ _ _ _ _ _ _ _ _ _ _ _ _ _ _ _ _ _)
   | (with_reducible exact ih2 _ _ _ _ _ _ _ _ _ _ _ _ _ _ _ _ _ _ _ _ _)
   | (with_reducible exact LeO.refl _)
   | (with_reducible exact LeO.none _)
   | (with_reducible refine LeO.ite ?_ ?_)
   | (with_reducible refine LeO.bind ?_ (fun _ => ?_))
   | exact ih0 _ _ _ _ _ _ _ _ _ _ _ _ _ _ _ _ _ _ _
   | exact ih1 _ _ _ _ _ _ _ _ _ _ _ _ _ _ _ _ _ _ _
   | exact ih2 _ _ _ _ _ _ _ _ _ _ _ _ _ _ _ _ _ _ _ _ _
   | exact LeO.none _
   | refine LeO.ite ?_ ?_
   | refine LeO.bind ?_ (fun _ => ?_)
def jacquardlaw13_IntervalLattice.T6 : Bool × List (List Nat × List Nat) := (true, [([], []), ([], []), ([0, 1], [0, 1]), ([], []), ([], []), ([3, 4, 2], [3, 4]), ([2, 5], [2, 5]), ([6, 5], [6]), ([7], [7]), ([7], [7]), ([7], [7]), ([9, 10, 7, 7], [7, 9, 10]), ([8, 11, 7], [7, 8, 11]), ([7, 12], [7, 12]), ([13, 11], [13]), ([14], [14]), ([14], [14]), ([15, 16, 14], [14, 15, 16]), ([14, 17], [14, 17]), ([18, 14], [18]), ([19], [19]), ([19], [19]), ([20, 21, 19], [19, 20, 21]), ([19, 22], [19, 22])])
def jacquardlaw13_IntervalLattice.B6 : List Nat := [0, 0, 3, 0, 0, 31, 63, 127, 255, 255, 255, 1791, 4095, 8191, 16383, 32767, 32767, 131071, 262143, 524287, 1048575, 1048575, 4194303, 8388607]
theorem jacquardlaw13_IntervalLattice.tab6 : rtab .any (opsOf Try.f4 6) = jacquardlaw13_IntervalLattice.T6 := by kernel_rfl
theorem jacquardlaw13_IntervalLattice.bits6 : waitsOk jacquardlaw13_IntervalLattice.T6.2 jacquardlaw13_IntervalLattice.B6 = true := by kernel_rfl
def jacquardlaw13_IntervalLattice.T13 : Bool × List (List Nat × List Nat) := (true, [([], []), ([], []), ([], []), ([0, 1, 2], [0, 1, 2]), ([], []), ([], []), ([], []), ([4, 5, 6, 3], [4, 5, 6]), ([3, 7, 0, 1, 2, 3], [3]), ([7, 8, 0, 1, 2, 3, 4, 5, 6, 7, 8], [7])])
def jacquardlaw13_IntervalLattice.B13 : List Nat := [0, 0, 0, 7, 0, 0, 0, 127, 255, 511]
theorem jacquardlaw13_IntervalLattice.tab13 : rtab .any (opsOf Try.f4 13) = jacquardlaw13_IntervalLattice.T13 := by kernel_rfl
theorem jacquardlaw13_IntervalLattice.bits13 : waitsOk jacquardlaw13_IntervalLattice.T13.2 jacquardlaw13_IntervalLattice.B13 = true := by kernel_rfl
set_option maxHeartbeats 8000000 in
set_option maxRecDepth 100000 in
theorem jacquardlaw13_IntervalLattice.calls (k : Nat) (a0_0 : Int) (a0_1 : Int) (a0_2 : Int) (a0_3 : Int) (a1_0 : Int) (a1_1 : Int) (a1_2 : Int) (a1_3 : Int) (a2 : Int) (r : Bool) (w : World) (h : jacquardlaw13_IntervalLattice.f k a0_0 a0_1 a0_2 a0_3 a1_0 a1_1 a1_2 a1_3 a2 = some r) :
  Calls Try.prog 4 #[.agg #[.int .u64 a0_0, .int .u64 a0_1, .int .i64 a0_2, .int .i64 a0_3], .agg #[.int .u64 a1_0, .int .u64 a1_1, .int .i64 a1_2, .int .i64 a1_3], .int .u64 a2] w fun e w' => e = .returned (.bool r) ∧ Below w.heap.size w w' := by
 have hu24 := Try.underlying24
 have HB := Aside0.mk (Below.refl w.heap.size w)
 have H : ((jacquardlaw13_awake.f).bind fun t210 => (if t210 = true then ((interval_Join.f a0_0 a0_1 a0_2 a0_3 a1_0 a1_1 a1_2 a1_3).bind fun bt211 => ((interval_Meet.f a0_0 a0_1 a0_2 a0_3 a1_0 a1_1 a1_2 a1_3).bind fun bt216 => ((jacquardref13_Meet.f a0_0 a0_1 a0_2 a0_3 a1_0 a1_1 a1_2 a1_3).bind fun bt222 => ((interval_Leq.f a0_0 a0_1 a0_2 a0_3 a1_0 a1_1 a1_2 a1_3).bind fun t228 => ((jacquardref13_Leq.f a0_0 a0_1 a0_2 a0_3 a1_0 a1_1 a1_2 a1_3).bind fun t229 => (if (t228 != t229) = true then (jacquardlaw13_IntervalLattice.j0 k a2 bt216.2.2.2.2 true a0_0 a0_1 a0_2 a0_3 a1_0 a1_1 a1_2 a1_3 bt211.1 bt211.2.1 bt211.2.2.1 bt211.2.2.2 bt216.1 bt216.2.1 bt216.2.2.1 bt216.2.2.2.1) else ((jacquardref13_Join.f a0_0 a0_1 a0_2 a0_3 a1_0 a1_1 a1_2 a1_3).bind fun bt230 => (if (!(bt211.1 == bt230.1) || (!(bt211.2.1 == bt230.2.1) || (!(bt211.2.2.1 == bt230.2.2.1) || (!(bt211.2.2.2 == bt230.2.2.2))))) = true then (jacquardlaw13_IntervalLattice.j0 k a2 bt216.2.2.2.2 true a0_0 a0_1 a0_2 a0_3 a1_0 a1_1 a1_2 a1_3 bt211.1 bt211.2.1 bt211.2.2.1 bt211.2.2.2 bt216.1 bt216.2.1 bt216.2.2.1 bt216.2.2.2.1) else (if (!(bt216.1 == bt222.1) || (!(bt216.2.1 == bt222.2.1) || (!(bt216.2.2.1 == bt222.2.2.1) || (!(bt216.2.2.2.1 == bt222.2.2.2.1))))) = true then (jacquardlaw13_IntervalLattice.j0 k a2 bt216.2.2.2.2 true a0_0 a0_1 a0_2 a0_3 a1_0 a1_1 a1_2 a1_3 bt211.1 bt211.2.1 bt211.2.2.1 bt211.2.2.2 bt216.1 bt216.2.1 bt216.2.2.1 bt216.2.2.2.1) else (jacquardlaw13_IntervalLattice.j0 k a2 bt216.2.2.2.2 (bt216.2.2.2.2 != bt222.2.2.2.2) a0_0 a0_1 a0_2 a0_3 a1_0 a1_1 a1_2 a1_3 bt211.1 bt211.2.1 bt211.2.2.1 bt211.2.2.2 bt216.1 bt216.2.1 bt216.2.2.1 bt216.2.2.2.1)))))))))) else (some false))) = some r := h
 clear h
 replace H := Option.bind_eq_some_iff.mp H
 obtain ⟨t210, A40, H⟩ := H
 replace H : (if t210 = true then ((interval_Join.f a0_0 a0_1 a0_2 a0_3 a1_0 a1_1 a1_2 a1_3).bind fun bt211 => ((interval_Meet.f a0_0 a0_1 a0_2 a0_3 a1_0 a1_1 a1_2 a1_3).bind fun bt216 => ((jacquardref13_Meet.f a0_0 a0_1 a0_2 a0_3 a1_0 a1_1 a1_2 a1_3).bind fun bt222 => ((interval_Leq.f a0_0 a0_1 a0_2 a0_3 a1_0 a1_1 a1_2 a1_3).bind fun t228 => ((jacquardref13_Leq.f a0_0 a0_1 a0_2 a0_3 a1_0 a1_1 a1_2 a1_3).bind fun t229 => (if (t228 != t229) = true then (jacquardlaw13_IntervalLattice.j0 k a2 bt216.2.2.2.2 true a0_0 a0_1 a0_2 a0_3 a1_0 a1_1 a1_2 a1_3 bt211.1 bt211.2.1 bt211.2.2.1 bt211.2.2.2 bt216.1 bt216.2.1 bt216.2.2.1 bt216.2.2.2.1) else ((jacquardref13_Join.f a0_0 a0_1 a0_2 a0_3 a1_0 a1_1 a1_2 a1_3).bind fun bt230 => (if (!(bt211.1 == bt230.1) || (!(bt211.2.1 == bt230.2.1) || (!(bt211.2.2.1 == bt230.2.2.1) || (!(bt211.2.2.2 == bt230.2.2.2))))) = true then (jacquardlaw13_IntervalLattice.j0 k a2 bt216.2.2.2.2 true a0_0 a0_1 a0_2 a0_3 a1_0 a1_1 a1_2 a1_3 bt211.1 bt211.2.1 bt211.2.2.1 bt211.2.2.2 bt216.1 bt216.2.1 bt216.2.2.1 bt216.2.2.2.1) else (if (!(bt216.1 == bt222.1) || (!(bt216.2.1 == bt222.2.1) || (!(bt216.2.2.1 == bt222.2.2.1) || (!(bt216.2.2.2.1 == bt222.2.2.2.1))))) = true then (jacquardlaw13_IntervalLattice.j0 k a2 bt216.2.2.2.2 true a0_0 a0_1 a0_2 a0_3 a1_0 a1_1 a1_2 a1_3 bt211.1 bt211.2.1 bt211.2.2.1 bt211.2.2.2 bt216.1 bt216.2.1 bt216.2.2.1 bt216.2.2.2.1) else (jacquardlaw13_IntervalLattice.j0 k a2 bt216.2.2.2.2 (bt216.2.2.2.2 != bt222.2.2.2.2) a0_0 a0_1 a0_2 a0_3 a1_0 a1_1 a1_2 a1_3 bt211.1 bt211.2.1 bt211.2.2.1 bt211.2.2.2 bt216.1 bt216.2.1 bt216.2.2.1 bt216.2.2.2.1)))))))))) else (some false)) = some r := H
 have A4 := Aside0.mk A40
 clear A40
 by_cases c5 : t210 = true
 ·
  subst c5
  have H1 : ((interval_Join.f a0_0 a0_1 a0_2 a0_3 a1_0 a1_1 a1_2 a1_3).bind fun bt211 => ((interval_Meet.f a0_0 a0_1 a0_2 a0_3 a1_0 a1_1 a1_2 a1_3).bind fun bt216 => ((jacquardref13_Meet.f a0_0 a0_1 a0_2 a0_3 a1_0 a1_1 a1_2 a1_3).bind fun bt222 => ((interval_Leq.f a0_0 a0_1 a0_2 a0_3 a1_0 a1_1 a1_2 a1_3).bind fun t228 => ((jacquardref13_Leq.f a0_0 a0_1 a0_2 a0_3 a1_0 a1_1 a1_2 a1_3).bind fun t229 => (if (t228 != t229) = true then (jacquardlaw13_IntervalLattice.j0 k a2 bt216.2.2.2.2 true a0_0 a0_1 a0_2 a0_3 a1_0 a1_1 a1_2 a1_3 bt211.1 bt211.2.1 bt211.2.2.1 bt211.2.2.2 bt216.1 bt216.2.1 bt216.2.2.1 bt216.2.2.2.1) else ((jacquardref13_Join.f a0_0 a0_1 a0_2 a0_3 a1_0 a1_1 a1_2 a1_3).bind fun bt230 => (if (!(bt211.1 == bt230.1) || (!(bt211.2.1 == bt230.2.1) || (!(bt211.2.2.1 == bt230.2.2.1) || (!(bt211.2.2.2 == bt230.2.2.2))))) = true then (jacquardlaw13_IntervalLattice.j0 k a2 bt216.2.2.2.2 true a0_0 a0_1 a0_2 a0_3 a1_0 a1_1 a1_2 a1_3 bt211.1 bt211.2.1 bt211.2.2.1 bt211.2.2.2 bt216.1 bt216.2.1 bt216.2.2.1 bt216.2.2.2.1) else (if (!(bt216.1 == bt222.1) || (!(bt216.2.1 == bt222.2.1) || (!(bt216.2.2.1 == bt222.2.2.1) || (!(bt216.2.2.2.1 == bt222.2.2.2.1))))) = true then (jacquardlaw13_IntervalLattice.j0 k a2 bt216.2.2.2.2 true a0_0 a0_1 a0_2 a0_3 a1_0 a1_1 a1_2 a1_3 bt211.1 bt211.2.1 bt211.2.2.1 bt211.2.2.2 bt216.1 bt216.2.1 bt216.2.2.1 bt216.2.2.2.1) else (jacquardlaw13_IntervalLattice.j0 k a2 bt216.2.2.2.2 (bt216.2.2.2.2 != bt222.2.2.2.2) a0_0 a0_1 a0_2 a0_3 a1_0 a1_1 a1_2 a1_3 bt211.1 bt211.2.1 bt211.2.2.1 bt211.2.2.2 bt216.1 bt216.2.1 bt216.2.2.1 bt216.2.2.2.1)))))))))) = some r := by rw [if_pos rfl] at H; exact H
  clear H
  have H := H1
  clear H1
  replace H := Option.bind_eq_some_iff.mp H
  obtain ⟨⟨t211, t212, t213, t214⟩, A60, H⟩ := H
  replace H : ((interval_Meet.f a0_0 a0_1 a0_2 a0_3 a1_0 a1_1 a1_2 a1_3).bind fun bt216 => ((jacquardref13_Meet.f a0_0 a0_1 a0_2 a0_3 a1_0 a1_1 a1_2 a1_3).bind fun bt222 => ((interval_Leq.f a0_0 a0_1 a0_2 a0_3 a1_0 a1_1 a1_2 a1_3).bind fun t228 => ((jacquardref13_Leq.f a0_0 a0_1 a0_2 a0_3 a1_0 a1_1 a1_2 a1_3).bind fun t229 => (if (t228 != t229) = true then (jacquardlaw13_IntervalLattice.j0 k a2 bt216.2.2.2.2 true a0_0 a0_1 a0_2 a0_3 a1_0 a1_1 a1_2 a1_3 t211 t212 t213 t214 bt216.1 bt216.2.1 bt216.2.2.1 bt216.2.2.2.1) else ((jacquardref13_Join.f a0_0 a0_1 a0_2 a0_3 a1_0 a1_1 a1_2 a1_3).bind fun bt230 => (if (!(t211 == bt230.1) || (!(t212 == bt230.2.1) || (!(t213 == bt230.2.2.1) || (!(t214 == bt230.2.2.2))))) = true then (jacquardlaw13_IntervalLattice.j0 k a2 bt216.2.2.2.2 true a0_0 a0_1 a0_2 a0_3 a1_0 a1_1 a1_2 a1_3 t211 t212 t213 t214 bt216.1 bt216.2.1 bt216.2.2.1 bt216.2.2.2.1) else (if (!(bt216.1 == bt222.1) || (!(bt216.2.1 == bt222.2.1) || (!(bt216.2.2.1 == bt222.2.2.1) || (!(bt216.2.2.2.1 == bt222.2.2.2.1))))) = true then (jacquardlaw13_IntervalLattice.j0 k a2 bt216.2.2.2.2 true a0_0 a0_1 a0_2 a0_3 a1_0 a1_1 a1_2 a1_3 t211 t212 t213 t214 bt216.1 bt216.2.1 bt216.2.2.1 bt216.2.2.2.1) else (jacquardlaw13_IntervalLattice.j0 k a2 bt216.2.2.2.2 (bt216.2.2.2.2 != bt222.2.2.2.2) a0_0 a0_1 a0_2 a0_3 a1_0 a1_1 a1_2 a1_3 t211 t212 t213 t214 bt216.1 bt216.2.1 bt216.2.2.1 bt216.2.2.2.1))))))))) = some r := H
  have A6 := Aside0.mk A60
  clear A60
  replace H := Option.bind_eq_some_iff.mp H
  obtain ⟨⟨t216, t217, t218, t219, t220⟩, A70, H⟩ := H
  replace H : ((jacquardref13_Meet.f a0_0 a0_1 a0_2 a0_3 a1_0 a1_1 a1_2 a1_3).bind fun bt222 => ((interval_Leq.f a0_0 a0_1 a0_2 a0_3 a1_0 a1_1 a1_2 a1_3).bind fun t228 => ((jacquardref13_Leq.f a0_0 a0_1 a0_2 a0_3 a1_0 a1_1 a1_2 a1_3).bind fun t229 => (if (t228 != t229) = true then (jacquardlaw13_IntervalLattice.j0 k a2 t220 true a0_0 a0_1 a0_2 a0_3 a1_0 a1_1 a1_2 a1_3 t211 t212 t213 t214 t216 t217 t218 t219) else ((jacquardref13_Join.f a0_0 a0_1 a0_2 a0_3 a1_0 a1_1 a1_2 a1_3).bind fun bt230 => (if (!(t211 == bt230.1) || (!(t212 == bt230.2.1) || (!(t213 == bt230.2.2.1) || (!(t214 == bt230.2.2.2))))) = true then (jacquardlaw13_IntervalLattice.j0 k a2 t220 true a0_0 a0_1 a0_2 a0_3 a1_0 a1_1 a1_2 a1_3 t211 t212 t213 t214 t216 t217 t218 t219) else (if (!(t216 == bt222.1) || (!(t217 == bt222.2.1) || (!(t218 == bt222.2.2.1) || (!(t219 == bt222.2.2.2.1))))) = true then (jacquardlaw13_IntervalLattice.j0 k a2 t220 true a0_0 a0_1 a0_2 a0_3 a1_0 a1_1 a1_2 a1_3 t211 t212 t213 t214 t216 t217 t218 t219) else (jacquardlaw13_IntervalLattice.j0 k a2 t220 (t220 != bt222.2.2.2.2) a0_0 a0_1 a0_2 a0_3 a1_0 a1_1 a1_2 a1_3 t211 t212 t213 t214 t216 t217 t218 t219)))))))) = some r := H
  have A7 := Aside0.mk A70
  clear A70
  replace H := Option.bind_eq_some_iff.mp H
  obtain ⟨⟨t222, t223, t224, t225, t226⟩, A80, H⟩ := H
  replace H : ((interval_Leq.f a0_0 a0_1 a0_2 a0_3 a1_0 a1_1 a1_2 a1_3).bind fun t228 => ((jacquardref13_Leq.f a0_0 a0_1 a0_2 a0_3 a1_0 a1_1 a1_2 a1_3).bind fun t229 => (if (t228 != t229) = true then (jacquardlaw13_IntervalLattice.j0 k a2 t220 true a0_0 a0_1 a0_2 a0_3 a1_0 a1_1 a1_2 a1_3 t211 t212 t213 t214 t216 t217 t218 t219) else ((jacquardref13_Join.f a0_0 a0_1 a0_2 a0_3 a1_0 a1_1 a1_2 a1_3).bind fun bt230 => (if (!(t211 == bt230.1) || (!(t212 == bt230.2.1) || (!(t213 == bt230.2.2.1) || (!(t214 == bt230.2.2.2))))) = true then (jacquardlaw13_IntervalLattice.j0 k a2 t220 true a0_0 a0_1 a0_2 a0_3 a1_0 a1_1 a1_2 a1_3 t211 t212 t213 t214 t216 t217 t218 t219) else (if (!(t216 == t222) || (!(t217 == t223) || (!(t218 == t224) || (!(t219 == t225))))) = true then (jacquardlaw13_IntervalLattice.j0 k a2 t220 true a0_0 a0_1 a0_2 a0_3 a1_0 a1_1 a1_2 a1_3 t211 t212 t213 t214 t216 t217 t218 t219) else (jacquardlaw13_IntervalLattice.j0 k a2 t220 (t220 != t226) a0_0 a0_1 a0_2 a0_3 a1_0 a1_1 a1_2 a1_3 t211 t212 t213 t214 t216 t217 t218 t219))))))) = some r := H
  have A8 := Aside0.mk A80
  clear A80
  have HC9 := Aside0.mk H
  clear H
  go_enter Try.func4, Try.ntmps4
  go_upto_region 6 with (first | ((with_reducible refine gate_dst (N := 3) rfl ?_); refine box_event ?hg (N := 3) ?hd (cs := #[.int .u64 a0_0, .int .u64 a0_1, .int .i64 a0_2, .int .i64 a0_3]) (t := 24) ?hr ?_; (case hd => rfl); (case hg => rfl); (case hr => first | (go_simp; done) | (go_simp; rfl)); intro gb208 hg w10 hbox hb; have n0_ := bsB HB.out hb; have n1_ := Aside0.mk (hbox); have n2_ := Aside0.mk ((by rw [hg]; exact (below_size (by repeat (first | (with_reducible first | exact HB.out | apply below_alloc | apply pw_below_drewN | apply below_drew1) | exact HB.out))) : w.heap.size ≤ gb208)); have n3_ := Aside0.mk ((by rw [hg]; exact (below_size (by repeat (first | (with_reducible first | exact HB.out | apply below_alloc | apply pw_below_drewN | apply below_drew1) | exact HB.out))) : w.heap.size ≤ gb208)); clear HB; have HB := n0_; have BK208 := n1_; have GW208 := n2_; have GE208 := n3_; clear n0_ n1_ n2_ n3_; clear hb hbox hg) | ((with_reducible refine gate_dst (N := 4) rfl ?_); refine box_event ?hg (N := 4) ?hd (cs := #[.int .u64 a1_0, .int .u64 a1_1, .int .i64 a1_2, .int .i64 a1_3]) (t := 24) ?hr ?_; (case hd => rfl); (case hg => rfl); (case hr => first | (go_simp; done) | (go_simp; rfl)); intro gb209 hg w11 hbox hb; have n0_ := bkB BK208.out hb; have n1_ := bsB HB.out hb; have n2_ := Aside0.mk (hbox); have n3_ := Aside0.mk ((by rw [hg]; exact (below_size (by repeat (first | (with_reducible first | exact HB.out | apply below_alloc | apply pw_below_drewN | apply below_drew1 | refine below_set ?_ GE208.out) | exact HB.out))) : w.heap.size ≤ gb209)); have n4_ := Aside0.mk ((by rw [hg]; exact (below_size (by repeat (first | (with_reducible first | exact HB.out | apply below_alloc | apply pw_below_drewN | apply below_drew1 | refine below_set ?_ GE208.out) | exact HB.out))) : w.heap.size ≤ gb209)); have n5_ := Aside0.mk ((by rw [hg]; exact Nat.ne_of_lt (blk_lt (g := gb208) (o := .cells #[.int .u64 a0_0, .int .u64 a0_1, .int .i64 a0_2, .int .i64 a0_3] 24 (0, 0)) (by (with_reducible repeat (first | refine blk_drewN ?_ _ | refine blk_drew ?_ | refine blk_alloc ?_ _)); exact BK208.out)) : gb208 ≠ gb209)); have n6_ := Aside0.mk ((by rw [hg]; exact Nat.ne_of_gt (blk_lt (g := gb208) (o := .cells #[.int .u64 a0_0, .int .u64 a0_1, .int .i64 a0_2, .int .i64 a0_3] 24 (0, 0)) (by (with_reducible repeat (first | refine blk_drewN ?_ _ | refine blk_drew ?_ | refine blk_alloc ?_ _)); exact BK208.out)) : gb209 ≠ gb208)); clear BK208; clear HB; have BK208 := n0_; have HB := n1_; have BK209 := n2_; have GW209 := n3_; have GE209 := n4_; have NB208_209 := n5_; have NB209_208 := n6_; clear n0_ n1_ n2_ n3_ n4_ n5_ n6_; clear hb hbox hg) | ((with_reducible refine gate_callee (f := 15) rfl ?_); refine gL (some 16) Try.func15 #[] ?_; (with_reducible refine (jacquardlaw13_awake.calls  true _ A4.out).mono ?_); rintro e w12 ⟨rfl, hb⟩; refine ⟨_, rfl, ?_⟩; replace BK208 := bkB BK208.out hb; replace BK209 := bkB BK209.out hb; replace HB := bsB HB.out hb; (try clear hb); have hnb13 := NB208_209.out; have hnc13 := NB209_208.out; have hcz14_0 : w12.cell? ⟨gb208, 0, none⟩ = some (.int .u64 a0_0) := (blk_cell BK208.out 0).trans rfl; have hcz14_1 : w12.cell? ⟨gb208, 1, none⟩ = some (.int .u64 a0_1) := (blk_cell BK208.out 1).trans rfl; have hcz14_2 : w12.cell? ⟨gb208, 2, none⟩ = some (.int .i64 a0_2) := (blk_cell BK208.out 2).trans rfl; have hcz14_3 : w12.cell? ⟨gb208, 3, none⟩ = some (.int .i64 a0_3) := (blk_cell BK208.out 3).trans rfl; have hfz14_0 := blk_frozen BK208.out 0; have hfz14_1 := blk_frozen BK208.out 1; have hfz14_2 := blk_frozen BK208.out 2; have hfz14_3 := blk_frozen BK208.out 3; have hcz15_0 : w12.cell? ⟨gb209, 0, none⟩ = some (.int .u64 a1_0) := (blk_cell BK209.out 0).trans rfl; have hcz15_1 : w12.cell? ⟨gb209, 1, none⟩ = some (.int .u64 a1_1) := (blk_cell BK209.out 1).trans rfl; have hcz15_2 : w12.cell? ⟨gb209, 2, none⟩ = some (.int .i64 a1_2) := (blk_cell BK209.out 2).trans rfl; have hcz15_3 : w12.cell? ⟨gb209, 3, none⟩ = some (.int .i64 a1_3) := (blk_cell BK209.out 3).trans rfl; have hfz15_0 := blk_frozen BK209.out 0; have hfz15_1 := blk_frozen BK209.out 1; have hfz15_2 := blk_frozen BK209.out 2; have hfz15_3 := blk_frozen BK209.out 3) | ((with_reducible refine gate_callee (f := 25) rfl ?_); refine gL (some 20) Try.func25 #[.agg #[.int .u64 a0_0, .int .u64 a0_1, .int .i64 a0_2, .int .i64 a0_3], .agg #[.int .u64 a1_0, .int .u64 a1_1, .int .i64 a1_2, .int .i64 a1_3]] ?_; (with_reducible refine (interval_Join.calls a0_0 a0_1 a0_2 a0_3 a1_0 a1_1 a1_2 a1_3 t211 t212 t213 t214 _ A6.out).mono ?_); rintro e w16 ⟨rfl, hb⟩; refine ⟨_, rfl, ?_⟩; replace BK208 := bkB BK208.out hb; replace BK209 := bkB BK209.out hb; replace HB := bsB HB.out hb; (try clear hb)) | ((with_reducible refine gate_dst (N := 7) rfl ?_); refine box_event ?hg (N := 7) ?hd (cs := #[.int .u64 0, .int .u64 0, .int .i64 0, .int .i64 0]) (t := 24) ?hr ?_; (case hd => rfl); (case hg => rfl); (case hr => first | (go_simp; done) | (go_simp; rfl)); intro gb215 hg w17 hbox hb; have n0_ := bkB BK208.out hb; have n1_ := bkB BK209.out hb; have n2_ := bsB HB.out hb; have n3_ := Aside0.mk (hbox); have n4_ := Aside0.mk ((by rw [hg]; exact (below_size (by repeat (first | (with_reducible first | exact HB.out | apply below_alloc | apply pw_below_drewN | apply below_drew1 | refine below_set ?_ GE208.out | refine below_set ?_ GE209.out) | exact HB.out))) : w.heap.size ≤ gb215)); have n5_ := Aside0.mk ((by rw [hg]; exact (below_size (by repeat (first | (with_reducible first | exact HB.out | apply below_alloc | apply pw_below_drewN | apply below_drew1 | refine below_set ?_ GE208.out | refine below_set ?_ GE209.out) | exact HB.out))) : w.heap.size ≤ gb215)); have n6_ := Aside0.mk ((by rw [hg]; exact Nat.ne_of_lt (blk_lt (g := gb208) (o := .cells #[.int .u64 a0_0, .int .u64 a0_1, .int .i64 a0_2, .int .i64 a0_3] 24 (0, 0)) (by (with_reducible repeat (first | refine blk_drewN ?_ _ | refine blk_drew ?_ | refine blk_alloc ?_ _)); exact BK208.out)) : gb208 ≠ gb215)); have n7_ := Aside0.mk ((by rw [hg]; exact Nat.ne_of_gt (blk_lt (g := gb208) (o := .cells #[.int .u64 a0_0, .int .u64 a0_1, .int .i64 a0_2, .int .i64 a0_3] 24 (0, 0)) (by (with_reducible repeat (first | refine blk_drewN ?_ _ | refine blk_drew ?_ | refine blk_alloc ?_ _)); exact BK208.out)) : gb215 ≠ gb208)); have n8_ := Aside0.mk ((by rw [hg]; exact Nat.ne_of_lt (blk_lt (g := gb209) (o := .cells #[.int .u64 a1_0, .int .u64 a1_1, .int .i64 a1_2, .int .i64 a1_3] 24 (0, 0)) (by (with_reducible repeat (first | refine blk_drewN ?_ _ | refine blk_drew ?_ | refine blk_alloc ?_ _)); exact BK209.out)) : gb209 ≠ gb215)); have n9_ := Aside0.mk ((by rw [hg]; exact Nat.ne_of_gt (blk_lt (g := gb209) (o := .cells #[.int .u64 a1_0, .int .u64 a1_1, .int .i64 a1_2, .int .i64 a1_3] 24 (0, 0)) (by (with_reducible repeat (first | refine blk_drewN ?_ _ | refine blk_drew ?_ | refine blk_alloc ?_ _)); exact BK209.out)) : gb215 ≠ gb209)); clear BK208; clear BK209; clear HB; have BK208 := n0_; have BK209 := n1_; have HB := n2_; have BK215 := n3_; have GW215 := n4_; have GE215 := n5_; have NB208_215 := n6_; have NB215_208 := n7_; have NB209_215 := n8_; have NB215_209 := n9_; clear n0_ n1_ n2_ n3_ n4_ n5_ n6_ n7_ n8_ n9_; clear hb hbox hg; have hnb18 := NB215_208.out; have hnc18 := NB208_215.out; have hnb19 := NB215_209.out; have hnc19 := NB209_215.out; have hcz20_0 : w17.cell? ⟨gb215, 0, none⟩ = some (.int .u64 0) := (blk_cell BK215.out 0).trans rfl; have hcz20_1 : w17.cell? ⟨gb215, 1, none⟩ = some (.int .u64 0) := (blk_cell BK215.out 1).trans rfl; have hcz20_2 : w17.cell? ⟨gb215, 2, none⟩ = some (.int .i64 0) := (blk_cell BK215.out 2).trans rfl; have hcz20_3 : w17.cell? ⟨gb215, 3, none⟩ = some (.int .i64 0) := (blk_cell BK215.out 3).trans rfl; have hfz20_0 := blk_frozen BK215.out 0; have hfz20_1 := blk_frozen BK215.out 1; have hfz20_2 := blk_frozen BK215.out 2; have hfz20_3 := blk_frozen BK215.out 3; have hcz21_0 : w17.cell? ⟨gb208, 0, none⟩ = some (.int .u64 a0_0) := (blk_cell BK208.out 0).trans rfl; have hcz21_1 : w17.cell? ⟨gb208, 1, none⟩ = some (.int .u64 a0_1) := (blk_cell BK208.out 1).trans rfl; have hcz21_2 : w17.cell? ⟨gb208, 2, none⟩ = some (.int .i64 a0_2) := (blk_cell BK208.out 2).trans rfl; have hcz21_3 : w17.cell? ⟨gb208, 3, none⟩ = some (.int .i64 a0_3) := (blk_cell BK208.out 3).trans rfl; have hfz21_0 := blk_frozen BK208.out 0; have hfz21_1 := blk_frozen BK208.out 1; have hfz21_2 := blk_frozen BK208.out 2; have hfz21_3 := blk_frozen BK208.out 3; have hcz22_0 : w17.cell? ⟨gb209, 0, none⟩ = some (.int .u64 a1_0) := (blk_cell BK209.out 0).trans rfl; have hcz22_1 : w17.cell? ⟨gb209, 1, none⟩ = some (.int .u64 a1_1) := (blk_cell BK209.out 1).trans rfl; have hcz22_2 : w17.cell? ⟨gb209, 2, none⟩ = some (.int .i64 a1_2) := (blk_cell BK209.out 2).trans rfl; have hcz22_3 : w17.cell? ⟨gb209, 3, none⟩ = some (.int .i64 a1_3) := (blk_cell BK209.out 3).trans rfl; have hfz22_0 := blk_frozen BK209.out 0; have hfz22_1 := blk_frozen BK209.out 1; have hfz22_2 := blk_frozen BK209.out 2; have hfz22_3 := blk_frozen BK209.out 3) | ((with_reducible refine gate_callee (f := 26) rfl ?_); refine gL (some 24) Try.func26 #[.agg #[.int .u64 a0_0, .int .u64 a0_1, .int .i64 a0_2, .int .i64 a0_3], .agg #[.int .u64 a1_0, .int .u64 a1_1, .int .i64 a1_2, .int .i64 a1_3]] ?_; (with_reducible refine (interval_Meet.calls a0_0 a0_1 a0_2 a0_3 a1_0 a1_1 a1_2 a1_3 t216 t217 t218 t219 t220 _ A7.out).mono ?_); rintro e w23 ⟨rfl, hb⟩; refine ⟨_, rfl, ?_⟩; have n0_ := Aside0.mk (blk_below (g := gb208) (o := .cells #[.int .u64 a0_0, .int .u64 a0_1, .int .i64 a0_2, .int .i64 a0_3] 24 (0, 0)) (by (with_reducible repeat (first | refine blk_drewN ?_ _ | refine blk_drew ?_ | refine blk_alloc ?_ _)); refine blk_far ?_ NB208_215.out _; (with_reducible repeat (first | refine blk_drewN ?_ _ | refine blk_drew ?_ | refine blk_alloc ?_ _)); refine blk_far ?_ NB208_215.out _; (with_reducible repeat (first | refine blk_drewN ?_ _ | refine blk_drew ?_ | refine blk_alloc ?_ _)); refine blk_far ?_ NB208_215.out _; (with_reducible repeat (first | refine blk_drewN ?_ _ | refine blk_drew ?_ | refine blk_alloc ?_ _)); refine blk_far ?_ NB208_215.out _; (with_reducible repeat (first | refine blk_drewN ?_ _ | refine blk_drew ?_ | refine blk_alloc ?_ _)); exact BK208.out) hb); have n1_ := Aside0.mk (blk_below (g := gb209) (o := .cells #[.int .u64 a1_0, .int .u64 a1_1, .int .i64 a1_2, .int .i64 a1_3] 24 (0, 0)) (by (with_reducible repeat (first | refine blk_drewN ?_ _ | refine blk_drew ?_ | refine blk_alloc ?_ _)); refine blk_far ?_ NB209_215.out _; (with_reducible repeat (first | refine blk_drewN ?_ _ | refine blk_drew ?_ | refine blk_alloc ?_ _)); refine blk_far ?_ NB209_215.out _; (with_reducible repeat (first | refine blk_drewN ?_ _ | refine blk_drew ?_ | refine blk_alloc ?_ _)); refine blk_far ?_ NB209_215.out _; (with_reducible repeat (first | refine blk_drewN ?_ _ | refine blk_drew ?_ | refine blk_alloc ?_ _)); refine blk_far ?_ NB209_215.out _; (with_reducible repeat (first | refine blk_drewN ?_ _ | refine blk_drew ?_ | refine blk_alloc ?_ _)); exact BK209.out) hb); have n2_ := Aside0.mk (blk_below (g := gb215) (o := .cells #[.int .u64 t211, .int .u64 t212, .int .i64 t213, .int .i64 t214] 24 (0, 0)) (by (with_reducible repeat (first | refine blk_drewN ?_ _ | refine blk_drew ?_ | refine blk_alloc ?_ _)); refine blk_put (cs := #[.int .u64 t211, .int .u64 t212, .int .i64 t213, .int .i64 0]) ?_ 3 _ rfl; (with_reducible repeat (first | refine blk_drewN ?_ _ | refine blk_drew ?_ | refine blk_alloc ?_ _)); refine blk_put (cs := #[.int .u64 t211, .int .u64 t212, .int .i64 0, .int .i64 0]) ?_ 2 _ rfl; (with_reducible repeat (first | refine blk_drewN ?_ _ | refine blk_drew ?_ | refine blk_alloc ?_ _)); refine blk_put (cs := #[.int .u64 t211, .int .u64 0, .int .i64 0, .int .i64 0]) ?_ 1 _ rfl; (with_reducible repeat (first | refine blk_drewN ?_ _ | refine blk_drew ?_ | refine blk_alloc ?_ _)); refine blk_put (cs := #[.int .u64 0, .int .u64 0, .int .i64 0, .int .i64 0]) ?_ 0 _ rfl; (with_reducible repeat (first | refine blk_drewN ?_ _ | refine blk_drew ?_ | refine blk_alloc ?_ _)); exact BK215.out) hb); have n3_ := bsB HB.out hb; clear BK208; clear BK209; clear BK215; clear HB; have BK208 := n0_; have BK209 := n1_; have BK215 := n2_; have HB := n3_; clear n0_ n1_ n2_ n3_; (try clear hb); (try clear hb2); (try clear hk); (try clear hi)) | ((with_reducible refine gate_dst (N := 8) rfl ?_); refine box_event ?hg (N := 8) ?hd (cs := #[.int .u64 0, .int .u64 0, .int .i64 0, .int .i64 0]) (t := 24) ?hr ?_; (case hd => rfl); (case hg => rfl); (case hr => first | (go_simp; done) | (go_simp; rfl)); intro gb221 hg w24 hbox hb; have n0_ := bkB BK208.out hb; have n1_ := bkB BK209.out hb; have n2_ := bkB BK215.out hb; have n3_ := bsB HB.out hb; have n4_ := Aside0.mk (hbox); have n5_ := Aside0.mk ((by rw [hg]; exact (below_size (by repeat (first | (with_reducible first | exact HB.out | apply below_alloc | apply pw_below_drewN | apply below_drew1 | refine below_set ?_ GE208.out | refine below_set ?_ GE209.out | refine below_set ?_ GE215.out) | exact HB.out))) : w.heap.size ≤ gb221)); have n6_ := Aside0.mk ((by rw [hg]; exact (below_size (by repeat (first | (with_reducible first | exact HB.out | apply below_alloc | apply pw_below_drewN | apply below_drew1 | refine below_set ?_ GE208.out | refine below_set ?_ GE209.out | refine below_set ?_ GE215.out) | exact HB.out))) : w.heap.size ≤ gb221)); have n7_ := Aside0.mk ((by rw [hg]; exact Nat.ne_of_lt (blk_lt (g := gb208) (o := .cells #[.int .u64 a0_0, .int .u64 a0_1, .int .i64 a0_2, .int .i64 a0_3] 24 (0, 0)) (by (with_reducible repeat (first | refine blk_drewN ?_ _ | refine blk_drew ?_ | refine blk_alloc ?_ _)); exact BK208.out)) : gb208 ≠ gb221)); have n8_ := Aside0.mk ((by rw [hg]; exact Nat.ne_of_gt (blk_lt (g := gb208) (o := .cells #[.int .u64 a0_0, .int .u64 a0_1, .int .i64 a0_2, .int .i64 a0_3] 24 (0, 0)) (by (with_reducible repeat (first | refine blk_drewN ?_ _ | refine blk_drew ?_ | refine blk_alloc ?_ _)); exact BK208.out)) : gb221 ≠ gb208)); have n9_ := Aside0.mk ((by rw [hg]; exact Nat.ne_of_lt (blk_lt (g := gb209) (o := .cells #[.int .u64 a1_0, .int .u64 a1_1, .int .i64 a1_2, .int .i64 a1_3] 24 (0, 0)) (by (with_reducible repeat (first | refine blk_drewN ?_ _ | refine blk_drew ?_ | refine blk_alloc ?_ _)); exact BK209.out)) : gb209 ≠ gb221)); have n10_ := Aside0.mk ((by rw [hg]; exact Nat.ne_of_gt (blk_lt (g := gb209) (o := .cells #[.int .u64 a1_0, .int .u64 a1_1, .int .i64 a1_2, .int .i64 a1_3] 24 (0, 0)) (by (with_reducible repeat (first | refine blk_drewN ?_ _ | refine blk_drew ?_ | refine blk_alloc ?_ _)); exact BK209.out)) : gb221 ≠ gb209)); have n11_ := Aside0.mk ((by rw [hg]; exact Nat.ne_of_lt (blk_lt (g := gb215) (o := .cells #[.int .u64 t211, .int .u64 t212, .int .i64 t213, .int .i64 t214] 24 (0, 0)) (by (with_reducible repeat (first | refine blk_drewN ?_ _ | refine blk_drew ?_ | refine blk_alloc ?_ _)); exact BK215.out)) : gb215 ≠ gb221)); have n12_ := Aside0.mk ((by rw [hg]; exact Nat.ne_of_gt (blk_lt (g := gb215) (o := .cells #[.int .u64 t211, .int .u64 t212, .int .i64 t213, .int .i64 t214] 24 (0, 0)) (by (with_reducible repeat (first | refine blk_drewN ?_ _ | refine blk_drew ?_ | refine blk_alloc ?_ _)); exact BK215.out)) : gb221 ≠ gb215)); clear BK208; clear BK209; clear BK215; clear HB; have BK208 := n0_; have BK209 := n1_; have BK215 := n2_; have HB := n3_; have BK221 := n4_; have GW221 := n5_; have GE221 := n6_; have NB208_221 := n7_; have NB221_208 := n8_; have NB209_221 := n9_; have NB221_209 := n10_; have NB215_221 := n11_; have NB221_215 := n12_; clear n0_ n1_ n2_ n3_ n4_ n5_ n6_ n7_ n8_ n9_ n10_ n11_ n12_; clear hb hbox hg; have hnb25 := NB221_208.out; have hnc25 := NB208_221.out; have hnb26 := NB221_209.out; have hnc26 := NB209_221.out; have hnb27 := NB221_215.out; have hnc27 := NB215_221.out; have hcz28_0 : w24.cell? ⟨gb221, 0, none⟩ = some (.int .u64 0) := (blk_cell BK221.out 0).trans rfl; have hcz28_1 : w24.cell? ⟨gb221, 1, none⟩ = some (.int .u64 0) := (blk_cell BK221.out 1).trans rfl; have hcz28_2 : w24.cell? ⟨gb221, 2, none⟩ = some (.int .i64 0) := (blk_cell BK221.out 2).trans rfl; have hcz28_3 : w24.cell? ⟨gb221, 3, none⟩ = some (.int .i64 0) := (blk_cell BK221.out 3).trans rfl; have hfz28_0 := blk_frozen BK221.out 0; have hfz28_1 := blk_frozen BK221.out 1; have hfz28_2 := blk_frozen BK221.out 2; have hfz28_3 := blk_frozen BK221.out 3; have hcz29_0 : w24.cell? ⟨gb208, 0, none⟩ = some (.int .u64 a0_0) := (blk_cell BK208.out 0).trans rfl; have hcz29_1 : w24.cell? ⟨gb208, 1, none⟩ = some (.int .u64 a0_1) := (blk_cell BK208.out 1).trans rfl; have hcz29_2 : w24.cell? ⟨gb208, 2, none⟩ = some (.int .i64 a0_2) := (blk_cell BK208.out 2).trans rfl; have hcz29_3 : w24.cell? ⟨gb208, 3, none⟩ = some (.int .i64 a0_3) := (blk_cell BK208.out 3).trans rfl; have hfz29_0 := blk_frozen BK208.out 0; have hfz29_1 := blk_frozen BK208.out 1; have hfz29_2 := blk_frozen BK208.out 2; have hfz29_3 := blk_frozen BK208.out 3; have hcz30_0 : w24.cell? ⟨gb209, 0, none⟩ = some (.int .u64 a1_0) := (blk_cell BK209.out 0).trans rfl; have hcz30_1 : w24.cell? ⟨gb209, 1, none⟩ = some (.int .u64 a1_1) := (blk_cell BK209.out 1).trans rfl; have hcz30_2 : w24.cell? ⟨gb209, 2, none⟩ = some (.int .i64 a1_2) := (blk_cell BK209.out 2).trans rfl; have hcz30_3 : w24.cell? ⟨gb209, 3, none⟩ = some (.int .i64 a1_3) := (blk_cell BK209.out 3).trans rfl; have hfz30_0 := blk_frozen BK209.out 0; have hfz30_1 := blk_frozen BK209.out 1; have hfz30_2 := blk_frozen BK209.out 2; have hfz30_3 := blk_frozen BK209.out 3) | ((with_reducible refine gate_callee (f := 27) rfl ?_); refine gL (some 30) Try.func27 #[.agg #[.int .u64 a0_0, .int .u64 a0_1, .int .i64 a0_2, .int .i64 a0_3], .agg #[.int .u64 a1_0, .int .u64 a1_1, .int .i64 a1_2, .int .i64 a1_3]] ?_; (with_reducible refine (jacquardref13_Meet.calls a0_0 a0_1 a0_2 a0_3 a1_0 a1_1 a1_2 a1_3 t222 t223 t224 t225 t226 _ A8.out).mono ?_); rintro e w31 ⟨rfl, hb⟩; refine ⟨_, rfl, ?_⟩; have n0_ := Aside0.mk (blk_below (g := gb208) (o := .cells #[.int .u64 a0_0, .int .u64 a0_1, .int .i64 a0_2, .int .i64 a0_3] 24 (0, 0)) (by (with_reducible repeat (first | refine blk_drewN ?_ _ | refine blk_drew ?_ | refine blk_alloc ?_ _)); refine blk_far ?_ NB208_221.out _; (with_reducible repeat (first | refine blk_drewN ?_ _ | refine blk_drew ?_ | refine blk_alloc ?_ _)); refine blk_far ?_ NB208_221.out _; (with_reducible repeat (first | refine blk_drewN ?_ _ | refine blk_drew ?_ | refine blk_alloc ?_ _)); refine blk_far ?_ NB208_221.out _; (with_reducible repeat (first | refine blk_drewN ?_ _ | refine blk_drew ?_ | refine blk_alloc ?_ _)); refine blk_far ?_ NB208_221.out _; (with_reducible repeat (first | refine blk_drewN ?_ _ | refine blk_drew ?_ | refine blk_alloc ?_ _)); exact BK208.out) hb); have n1_ := Aside0.mk (blk_below (g := gb209) (o := .cells #[.int .u64 a1_0, .int .u64 a1_1, .int .i64 a1_2, .int .i64 a1_3] 24 (0, 0)) (by (with_reducible repeat (first | refine blk_drewN ?_ _ | refine blk_drew ?_ | refine blk_alloc ?_ _)); refine blk_far ?_ NB209_221.out _; (with_reducible repeat (first | refine blk_drewN ?_ _ | refine blk_drew ?_ | refine blk_alloc ?_ _)); refine blk_far ?_ NB209_221.out _; (with_reducible repeat (first | refine blk_drewN ?_ _ | refine blk_drew ?_ | refine blk_alloc ?_ _)); refine blk_far ?_ NB209_221.out _; (with_reducible repeat (first | refine blk_drewN ?_ _ | refine blk_drew ?_ | refine blk_alloc ?_ _)); refine blk_far ?_ NB209_221.out _; (with_reducible repeat (first | refine blk_drewN ?_ _ | refine blk_drew ?_ | refine blk_alloc ?_ _)); exact BK209.out) hb); have n2_ := Aside0.mk (blk_below (g := gb215) (o := .cells #[.int .u64 t211, .int .u64 t212, .int .i64 t213, .int .i64 t214] 24 (0, 0)) (by (with_reducible repeat (first | refine blk_drewN ?_ _ | refine blk_drew ?_ | refine blk_alloc ?_ _)); refine blk_far ?_ NB215_221.out _; (with_reducible repeat (first | refine blk_drewN ?_ _ | refine blk_drew ?_ | refine blk_alloc ?_ _)); refine blk_far ?_ NB215_221.out _; (with_reducible repeat (first | refine blk_drewN ?_ _ | refine blk_drew ?_ | refine blk_alloc ?_ _)); refine blk_far ?_ NB215_221.out _; (with_reducible repeat (first | refine blk_drewN ?_ _ | refine blk_drew ?_ | refine blk_alloc ?_ _)); refine blk_far ?_ NB215_221.out _; (with_reducible repeat (first | refine blk_drewN ?_ _ | refine blk_drew ?_ | refine blk_alloc ?_ _)); exact BK215.out) hb); have n3_ := Aside0.mk (blk_below (g := gb221) (o := .cells #[.int .u64 t216, .int .u64 t217, .int .i64 t218, .int .i64 t219] 24 (0, 0)) (by (with_reducible repeat (first | refine blk_drewN ?_ _ | refine blk_drew ?_ | refine blk_alloc ?_ _)); refine blk_put (cs := #[.int .u64 t216, .int .u64 t217, .int .i64 t218, .int .i64 0]) ?_ 3 _ rfl; (with_reducible repeat (first | refine blk_drewN ?_ _ | refine blk_drew ?_ | refine blk_alloc ?_ _)); refine blk_put (cs := #[.int .u64 t216, .int .u64 t217, .int .i64 0, .int .i64 0]) ?_ 2 _ rfl; (with_reducible repeat (first | refine blk_drewN ?_ _ | refine blk_drew ?_ | refine blk_alloc ?_ _)); refine blk_put (cs := #[.int .u64 t216, .int .u64 0, .int .i64 0, .int .i64 0]) ?_ 1 _ rfl; (with_reducible repeat (first | refine blk_drewN ?_ _ | refine blk_drew ?_ | refine blk_alloc ?_ _)); refine blk_put (cs := #[.int .u64 0, .int .u64 0, .int .i64 0, .int .i64 0]) ?_ 0 _ rfl; (with_reducible repeat (first | refine blk_drewN ?_ _ | refine blk_drew ?_ | refine blk_alloc ?_ _)); exact BK221.out) hb); have n4_ := bsB HB.out hb; clear BK208; clear BK209; clear BK215; clear BK221; clear HB; have BK208 := n0_; have BK209 := n1_; have BK215 := n2_; have BK221 := n3_; have HB := n4_; clear n0_ n1_ n2_ n3_ n4_; (try clear hb); (try clear hb2); (try clear hk); (try clear hi)) | ((with_reducible refine gate_dst (N := 10) rfl ?_); refine box_event ?hg (N := 10) ?hd (cs := #[.int .u64 0, .int .u64 0, .int .i64 0, .int .i64 0]) (t := 24) ?hr ?_; (case hd => rfl); (case hg => rfl); (case hr => first | (go_simp; done) | (go_simp; rfl)); intro gb227 hg w32 hbox hb; have n0_ := bkB BK208.out hb; have n1_ := bkB BK209.out hb; have n2_ := bkB BK215.out hb; have n3_ := bkB BK221.out hb; have n4_ := bsB HB.out hb; have n5_ := Aside0.mk (hbox); have n6_ := Aside0.mk ((by rw [hg]; exact (below_size (by repeat (first | (with_reducible first | exact HB.out | apply below_alloc | apply pw_below_drewN | apply below_drew1 | refine below_set ?_ GE208.out | refine below_set ?_ GE209.out | refine below_set ?_ GE215.out | refine below_set ?_ GE221.out) | exact HB.out))) : w.heap.size ≤ gb227)); have n7_ := Aside0.mk ((by rw [hg]; exact (below_size (by repeat (first | (with_reducible first | exact HB.out | apply below_alloc | apply pw_below_drewN | apply below_drew1 | refine below_set ?_ GE208.out | refine below_set ?_ GE209.out | refine below_set ?_ GE215.out | refine below_set ?_ GE221.out) | exact HB.out))) : w.heap.size ≤ gb227)); have n8_ := Aside0.mk ((by rw [hg]; exact Nat.ne_of_lt (blk_lt (g := gb208) (o := .cells #[.int .u64 a0_0, .int .u64 a0_1, .int .i64 a0_2, .int .i64 a0_3] 24 (0, 0)) (by (with_reducible repeat (first | refine blk_drewN ?_ _ | refine blk_drew ?_ | refine blk_alloc ?_ _)); exact BK208.out)) : gb208 ≠ gb227)); have n9_ := Aside0.mk ((by rw [hg]; exact Nat.ne_of_gt (blk_lt (g := gb208) (o := .cells #[.int .u64 a0_0, .int .u64 a0_1, .int .i64 a0_2, .int .i64 a0_3] 24 (0, 0)) (by (with_reducible repeat (first | refine blk_drewN ?_ _ | refine blk_drew ?_ | refine blk_alloc ?_ _)); exact BK208.out)) : gb227 ≠ gb208)); have n10_ := Aside0.mk ((by rw [hg]; exact Nat.ne_of_lt (blk_lt (g := gb209) (o := .cells #[.int .u64 a1_0, .int .u64 a1_1, .int .i64 a1_2, .int .i64 a1_3] 24 (0, 0)) (by (with_reducible repeat (first | refine blk_drewN ?_ _ | refine blk_drew ?_ | refine blk_alloc ?_ _)); exact BK209.out)) : gb209 ≠ gb227)); have n11_ := Aside0.mk ((by rw [hg]; exact Nat.ne_of_gt (blk_lt (g := gb209) (o := .cells #[.int .u64 a1_0, .int .u64 a1_1, .int .i64 a1_2, .int .i64 a1_3] 24 (0, 0)) (by (with_reducible repeat (first | refine blk_drewN ?_ _ | refine blk_drew ?_ | refine blk_alloc ?_ _)); exact BK209.out)) : gb227 ≠ gb209)); have n12_ := Aside0.mk ((by rw [hg]; exact Nat.ne_of_lt (blk_lt (g := gb215) (o := .cells #[.int .u64 t211, .int .u64 t212, .int .i64 t213, .int .i64 t214] 24 (0, 0)) (by (with_reducible repeat (first | refine blk_drewN ?_ _ | refine blk_drew ?_ | refine blk_alloc ?_ _)); exact BK215.out)) : gb215 ≠ gb227)); have n13_ := Aside0.mk ((by rw [hg]; exact Nat.ne_of_gt (blk_lt (g := gb215) (o := .cells #[.int .u64 t211, .int .u64 t212, .int .i64 t213, .int .i64 t214] 24 (0, 0)) (by (with_reducible repeat (first | refine blk_drewN ?_ _ | refine blk_drew ?_ | refine blk_alloc ?_ _)); exact BK215.out)) : gb227 ≠ gb215)); have n14_ := Aside0.mk ((by rw [hg]; exact Nat.ne_of_lt (blk_lt (g := gb221) (o := .cells #[.int .u64 t216, .int .u64 t217, .int .i64 t218, .int .i64 t219] 24 (0, 0)) (by (with_reducible repeat (first | refine blk_drewN ?_ _ | refine blk_drew ?_ | refine blk_alloc ?_ _)); exact BK221.out)) : gb221 ≠ gb227)); have n15_ := Aside0.mk ((by rw [hg]; exact Nat.ne_of_gt (blk_lt (g := gb221) (o := .cells #[.int .u64 t216, .int .u64 t217, .int .i64 t218, .int .i64 t219] 24 (0, 0)) (by (with_reducible repeat (first | refine blk_drewN ?_ _ | refine blk_drew ?_ | refine blk_alloc ?_ _)); exact BK221.out)) : gb227 ≠ gb221)); clear BK208; clear BK209; clear BK215; clear BK221; clear HB; have BK208 := n0_; have BK209 := n1_; have BK215 := n2_; have BK221 := n3_; have HB := n4_; have BK227 := n5_; have GW227 := n6_; have GE227 := n7_; have NB208_227 := n8_; have NB227_208 := n9_; have NB209_227 := n10_; have NB227_209 := n11_; have NB215_227 := n12_; have NB227_215 := n13_; have NB221_227 := n14_; have NB227_221 := n15_; clear n0_ n1_ n2_ n3_ n4_ n5_ n6_ n7_ n8_ n9_ n10_ n11_ n12_ n13_ n14_ n15_; clear hb hbox hg; have hnb33 := NB227_208.out; have hnc33 := NB208_227.out; have hnb34 := NB227_209.out; have hnc34 := NB209_227.out; have hnb35 := NB227_215.out; have hnc35 := NB215_227.out; have hnb36 := NB227_221.out; have hnc36 := NB221_227.out; have hcz37_0 : w32.cell? ⟨gb227, 0, none⟩ = some (.int .u64 0) := (blk_cell BK227.out 0).trans rfl; have hcz37_1 : w32.cell? ⟨gb227, 1, none⟩ = some (.int .u64 0) := (blk_cell BK227.out 1).trans rfl; have hcz37_2 : w32.cell? ⟨gb227, 2, none⟩ = some (.int .i64 0) := (blk_cell BK227.out 2).trans rfl; have hcz37_3 : w32.cell? ⟨gb227, 3, none⟩ = some (.int .i64 0) := (blk_cell BK227.out 3).trans rfl; have hfz37_0 := blk_frozen BK227.out 0; have hfz37_1 := blk_frozen BK227.out 1; have hfz37_2 := blk_frozen BK227.out 2; have hfz37_3 := blk_frozen BK227.out 3))
  (try simp only [Act.put, List.setIfInBounds_toArray, List.set_cons_zero, List.set_cons_succ])
  go_cut [56] (fun v56 wc => ∃ (kq : Nat) (x56_8 : Bool), v56 = .bool x56_8 ∧ Aside0 (jacquardlaw13_IntervalLattice.j0 kq a2 t220 x56_8 a0_0 a0_1 a0_2 a0_3 a1_0 a1_1 a1_2 a1_3 t211 t212 t213 t214 t216 t217 t218 t219 = some r) ∧ Aside0 (kq ≤ k) ∧ Aside0 (wc.heap[gb208]? = some (.cells #[.int .u64 a0_0, .int .u64 a0_1, .int .i64 a0_2, .int .i64 a0_3] 24 (0, 0))) ∧ Aside0 (wc.heap[gb209]? = some (.cells #[.int .u64 a1_0, .int .u64 a1_1, .int .i64 a1_2, .int .i64 a1_3] 24 (0, 0))) ∧ Aside0 (wc.heap[gb215]? = some (.cells #[.int .u64 t211, .int .u64 t212, .int .i64 t213, .int .i64 t214] 24 (0, 0))) ∧ Aside0 (wc.heap[gb221]? = some (.cells #[.int .u64 t216, .int .u64 t217, .int .i64 t218, .int .i64 t219] 24 (0, 0))) ∧ Aside0 (wc.heap[gb227]? = some (.cells #[.int .u64 t222, .int .u64 t223, .int .i64 t224, .int .i64 t225] 24 (0, 0))) ∧ Aside0 (Below w.heap.size w wc))
  case first =>
   have H := HC9.out
   clear HC9
   replace H := Option.bind_eq_some_iff.mp H
   obtain ⟨t228, A380, H⟩ := H
   replace H : ((jacquardref13_Leq.f a0_0 a0_1 a0_2 a0_3 a1_0 a1_1 a1_2 a1_3).bind fun t229 => (if (t228 != t229) = true then (jacquardlaw13_IntervalLattice.j0 k a2 t220 true a0_0 a0_1 a0_2 a0_3 a1_0 a1_1 a1_2 a1_3 t211 t212 t213 t214 t216 t217 t218 t219) else ((jacquardref13_Join.f a0_0 a0_1 a0_2 a0_3 a1_0 a1_1 a1_2 a1_3).bind fun bt230 => (if (!(t211 == bt230.1) || (!(t212 == bt230.2.1) || (!(t213 == bt230.2.2.1) || (!(t214 == bt230.2.2.2))))) = true then (jacquardlaw13_IntervalLattice.j0 k a2 t220 true a0_0 a0_1 a0_2 a0_3 a1_0 a1_1 a1_2 a1_3 t211 t212 t213 t214 t216 t217 t218 t219) else (if (!(t216 == t222) || (!(t217 == t223) || (!(t218 == t224) || (!(t219 == t225))))) = true then (jacquardlaw13_IntervalLattice.j0 k a2 t220 true a0_0 a0_1 a0_2 a0_3 a1_0 a1_1 a1_2 a1_3 t211 t212 t213 t214 t216 t217 t218 t219) else (jacquardlaw13_IntervalLattice.j0 k a2 t220 (t220 != t226) a0_0 a0_1 a0_2 a0_3 a1_0 a1_1 a1_2 a1_3 t211 t212 t213 t214 t216 t217 t218 t219)))))) = some r := H
   have A38 := Aside0.mk A380
   clear A380
   replace H := Option.bind_eq_some_iff.mp H
   obtain ⟨t229, A390, H⟩ := H
   replace H : (if (t228 != t229) = true then (jacquardlaw13_IntervalLattice.j0 k a2 t220 true a0_0 a0_1 a0_2 a0_3 a1_0 a1_1 a1_2 a1_3 t211 t212 t213 t214 t216 t217 t218 t219) else ((jacquardref13_Join.f a0_0 a0_1 a0_2 a0_3 a1_0 a1_1 a1_2 a1_3).bind fun bt230 => (if (!(t211 == bt230.1) || (!(t212 == bt230.2.1) || (!(t213 == bt230.2.2.1) || (!(t214 == bt230.2.2.2))))) = true then (jacquardlaw13_IntervalLattice.j0 k a2 t220 true a0_0 a0_1 a0_2 a0_3 a1_0 a1_1 a1_2 a1_3 t211 t212 t213 t214 t216 t217 t218 t219) else (if (!(t216 == t222) || (!(t217 == t223) || (!(t218 == t224) || (!(t219 == t225))))) = true then (jacquardlaw13_IntervalLattice.j0 k a2 t220 true a0_0 a0_1 a0_2 a0_3 a1_0 a1_1 a1_2 a1_3 t211 t212 t213 t214 t216 t217 t218 t219) else (jacquardlaw13_IntervalLattice.j0 k a2 t220 (t220 != t226) a0_0 a0_1 a0_2 a0_3 a1_0 a1_1 a1_2 a1_3 t211 t212 t213 t214 t216 t217 t218 t219))))) = some r := H
   have A39 := Aside0.mk A390
   clear A390
   by_cases c40 : (t228 != t229) = true
   ·
    rw [if_pos c40] at H
    have c40b0 : (t228 != t229) = true := c40
    (try (have c40b1 : decide (t228 = t229) = false := by simpa using c40))
    (try (have c40b2 : (t228 == t229) = false := by simpa using c40))
    (try (have c40b3 : ¬ (t228 = t229) := by simpa using c40))
    clear c40
    (first | rw [c40b0] | (simp only [i64_w, i32_w]; rw [c40b0]) | skip)
    (first | rw [show (!(t228 == t229)) = true by revert c40b0; cases t228 <;> cases t229 <;> simp] | rw [show ((!t228) == t229) = true by revert c40b0; cases t228 <;> cases t229 <;> simp] | skip)
    have H' := Aside0.mk H
    clear H
    try go_wp2
    have n0_ : Aside0 (((((w32.setCell ⟨gb227, 0, none⟩ (.int .u64 t222)).setCell ⟨gb227, 1, none⟩ (.int .u64 t223)).setCell ⟨gb227, 2, none⟩ (.int .i64 t224)).setCell ⟨gb227, 3, none⟩ (.int .i64 t225)).heap[gb208]? = some (.cells #[.int .u64 a0_0, .int .u64 a0_1, .int .i64 a0_2, .int .i64 a0_3] 24 (0, 0))) := ⟨by (with_reducible repeat (first | refine blk_drewN ?_ _ | refine blk_drew ?_ | refine blk_alloc ?_ _)); refine blk_far ?_ NB208_227.out _; (with_reducible repeat (first | refine blk_drewN ?_ _ | refine blk_drew ?_ | refine blk_alloc ?_ _)); refine blk_far ?_ NB208_227.out _; (with_reducible repeat (first | refine blk_drewN ?_ _ | refine blk_drew ?_ | refine blk_alloc ?_ _)); refine blk_far ?_ NB208_227.out _; (with_reducible repeat (first | refine blk_drewN ?_ _ | refine blk_drew ?_ | refine blk_alloc ?_ _)); refine blk_far ?_ NB208_227.out _; (with_reducible repeat (first | refine blk_drewN ?_ _ | refine blk_drew ?_ | refine blk_alloc ?_ _)); exact BK208.out⟩
    have n1_ : Aside0 (((((w32.setCell ⟨gb227, 0, none⟩ (.int .u64 t222)).setCell ⟨gb227, 1, none⟩ (.int .u64 t223)).setCell ⟨gb227, 2, none⟩ (.int .i64 t224)).setCell ⟨gb227, 3, none⟩ (.int .i64 t225)).heap[gb209]? = some (.cells #[.int .u64 a1_0, .int .u64 a1_1, .int .i64 a1_2, .int .i64 a1_3] 24 (0, 0))) := ⟨by (with_reducible repeat (first | refine blk_drewN ?_ _ | refine blk_drew ?_ | refine blk_alloc ?_ _)); refine blk_far ?_ NB209_227.out _; (with_reducible repeat (first | refine blk_drewN ?_ _ | refine blk_drew ?_ | refine blk_alloc ?_ _)); refine blk_far ?_ NB209_227.out _; (with_reducible repeat (first | refine blk_drewN ?_ _ | refine blk_drew ?_ | refine blk_alloc ?_ _)); refine blk_far ?_ NB209_227.out _; (with_reducible repeat (first | refine blk_drewN ?_ _ | refine blk_drew ?_ | refine blk_alloc ?_ _)); refine blk_far ?_ NB209_227.out _; (with_reducible repeat (first | refine blk_drewN ?_ _ | refine blk_drew ?_ | refine blk_alloc ?_ _)); exact BK209.out⟩
    have n2_ : Aside0 (((((w32.setCell ⟨gb227, 0, none⟩ (.int .u64 t222)).setCell ⟨gb227, 1, none⟩ (.int .u64 t223)).setCell ⟨gb227, 2, none⟩ (.int .i64 t224)).setCell ⟨gb227, 3, none⟩ (.int .i64 t225)).heap[gb215]? = some (.cells #[.int .u64 t211, .int .u64 t212, .int .i64 t213, .int .i64 t214] 24 (0, 0))) := ⟨by (with_reducible repeat (first | refine blk_drewN ?_ _ | refine blk_drew ?_ | refine blk_alloc ?_ _)); refine blk_far ?_ NB215_227.out _; (with_reducible repeat (first | refine blk_drewN ?_ _ | refine blk_drew ?_ | refine blk_alloc ?_ _)); refine blk_far ?_ NB215_227.out _; (with_reducible repeat (first | refine blk_drewN ?_ _ | refine blk_drew ?_ | refine blk_alloc ?_ _)); refine blk_far ?_ NB215_227.out _; (with_reducible repeat (first | refine blk_drewN ?_ _ | refine blk_drew ?_ | refine blk_alloc ?_ _)); refine blk_far ?_ NB215_227.out _; (with_reducible repeat (first | refine blk_drewN ?_ _ | refine blk_drew ?_ | refine blk_alloc ?_ _)); exact BK215.out⟩
    have n3_ : Aside0 (((((w32.setCell ⟨gb227, 0, none⟩ (.int .u64 t222)).setCell ⟨gb227, 1, none⟩ (.int .u64 t223)).setCell ⟨gb227, 2, none⟩ (.int .i64 t224)).setCell ⟨gb227, 3, none⟩ (.int .i64 t225)).heap[gb221]? = some (.cells #[.int .u64 t216, .int .u64 t217, .int .i64 t218, .int .i64 t219] 24 (0, 0))) := ⟨by (with_reducible repeat (first | refine blk_drewN ?_ _ | refine blk_drew ?_ | refine blk_alloc ?_ _)); refine blk_far ?_ NB221_227.out _; (with_reducible repeat (first | refine blk_drewN ?_ _ | refine blk_drew ?_ | refine blk_alloc ?_ _)); refine blk_far ?_ NB221_227.out _; (with_reducible repeat (first | refine blk_drewN ?_ _ | refine blk_drew ?_ | refine blk_alloc ?_ _)); refine blk_far ?_ NB221_227.out _; (with_reducible repeat (first | refine blk_drewN ?_ _ | refine blk_drew ?_ | refine blk_alloc ?_ _)); refine blk_far ?_ NB221_227.out _; (with_reducible repeat (first | refine blk_drewN ?_ _ | refine blk_drew ?_ | refine blk_alloc ?_ _)); exact BK221.out⟩
    have n4_ : Aside0 (((((w32.setCell ⟨gb227, 0, none⟩ (.int .u64 t222)).setCell ⟨gb227, 1, none⟩ (.int .u64 t223)).setCell ⟨gb227, 2, none⟩ (.int .i64 t224)).setCell ⟨gb227, 3, none⟩ (.int .i64 t225)).heap[gb227]? = some (.cells #[.int .u64 t222, .int .u64 t223, .int .i64 t224, .int .i64 t225] 24 (0, 0))) := ⟨by (with_reducible repeat (first | refine blk_drewN ?_ _ | refine blk_drew ?_ | refine blk_alloc ?_ _)); refine blk_put (cs := #[.int .u64 t222, .int .u64 t223, .int .i64 t224, .int .i64 0]) ?_ 3 _ rfl; (with_reducible repeat (first | refine blk_drewN ?_ _ | refine blk_drew ?_ | refine blk_alloc ?_ _)); refine blk_put (cs := #[.int .u64 t222, .int .u64 t223, .int .i64 0, .int .i64 0]) ?_ 2 _ rfl; (with_reducible repeat (first | refine blk_drewN ?_ _ | refine blk_drew ?_ | refine blk_alloc ?_ _)); refine blk_put (cs := #[.int .u64 t222, .int .u64 0, .int .i64 0, .int .i64 0]) ?_ 1 _ rfl; (with_reducible repeat (first | refine blk_drewN ?_ _ | refine blk_drew ?_ | refine blk_alloc ?_ _)); refine blk_put (cs := #[.int .u64 0, .int .u64 0, .int .i64 0, .int .i64 0]) ?_ 0 _ rfl; (with_reducible repeat (first | refine blk_drewN ?_ _ | refine blk_drew ?_ | refine blk_alloc ?_ _)); exact BK227.out⟩
    have n5_ : Aside0 (Below w.heap.size w ((((w32.setCell ⟨gb227, 0, none⟩ (.int .u64 t222)).setCell ⟨gb227, 1, none⟩ (.int .u64 t223)).setCell ⟨gb227, 2, none⟩ (.int .i64 t224)).setCell ⟨gb227, 3, none⟩ (.int .i64 t225))) := ⟨bsL HB.out⟩
    (try clear BK208)
    (try clear BK209)
    (try clear BK215)
    (try clear BK221)
    (try clear BK227)
    (try clear HB)
    generalize ((((w32.setCell ⟨gb227, 0, none⟩ (.int .u64 t222)).setCell ⟨gb227, 1, none⟩ (.int .u64 t223)).setCell ⟨gb227, 2, none⟩ (.int .i64 t224)).setCell ⟨gb227, 3, none⟩ (.int .i64 t225)) = w41 at n0_ n1_ n2_ n3_ n4_ n5_ ⊢
    have BK208 := n0_
    have BK209 := n1_
    have BK215 := n2_
    have BK221 := n3_
    have BK227 := n4_
    have HB := n5_
    clear n0_ n1_ n2_ n3_ n4_ n5_
    have n0_ := Aside0.mk (blk_drew BK208.out)
    have n1_ := Aside0.mk (blk_drew BK209.out)
    have n2_ := Aside0.mk (blk_drew BK215.out)
    have n3_ := Aside0.mk (blk_drew BK221.out)
    have n4_ := Aside0.mk (blk_drew BK227.out)
    have n5_ := Aside0.mk (below_drew1 HB.out)
    clear BK208
    clear BK209
    clear BK215
    clear BK221
    clear BK227
    clear HB
    have BK208 := n0_
    have BK209 := n1_
    have BK215 := n2_
    have BK221 := n3_
    have BK227 := n4_
    have HB := n5_
    clear n0_ n1_ n2_ n3_ n4_ n5_
    refine start_ (n := 24) (S := fun w' => w'.cell? ⟨gb208, 0, none⟩ = some (.int .u64 a0_0) ∧ w'.cell? ⟨gb208, 1, none⟩ = some (.int .u64 a0_1) ∧ w'.cell? ⟨gb208, 2, none⟩ = some (.int .i64 a0_2) ∧ w'.cell? ⟨gb208, 3, none⟩ = some (.int .i64 a0_3) ∧ w'.cell? ⟨gb209, 0, none⟩ = some (.int .u64 a1_0) ∧ w'.cell? ⟨gb209, 1, none⟩ = some (.int .u64 a1_1) ∧ w'.cell? ⟨gb209, 2, none⟩ = some (.int .i64 a1_2) ∧ w'.cell? ⟨gb209, 3, none⟩ = some (.int .i64 a1_3)) (ds := []) (bA 24 0) (by kernel_rfl) rfl rfl ⟨(blk_cell BK208.out 0).trans rfl, (blk_cell BK208.out 1).trans rfl, (blk_cell BK208.out 2).trans rfl, (blk_cell BK208.out 3).trans rfl, (blk_cell BK209.out 0).trans rfl, (blk_cell BK209.out 1).trans rfl, (blk_cell BK209.out 2).trans rfl, (blk_cell BK209.out 3).trans rfl⟩ (fun hHeld => ?_); refine with_tabW jacquardlaw13_IntervalLattice.tab6 jacquardlaw13_IntervalLattice.bits6 (fun HT_ HW_ => ?_)
    generalize w41.drew = w42 at BK208 BK209 BK215 BK221 BK227 HB hHeld ⊢
    refine takeA HT_ HW_ hHeld (i := 0) (N := some 33) (bA 24 1) ?_ (hy := by rintro w' ⟨s0, s1, s2, s3, s4, s5, s6, s7⟩; go_simp; with_reducible rfl)
    refine takeA HT_ HW_ hHeld (i := 1) (N := some 34) (bA 24 3) ?_ (hy := by rintro w' ⟨s0, s1, s2, s3, s4, s5, s6, s7⟩; go_simp; with_reducible rfl)
    refine takeA HT_ HW_ hHeld (i := 3) (N := some 36) (bA 24 11) ?_ (hy := by rintro w' ⟨s0, s1, s2, s3, s4, s5, s6, s7⟩; go_simp; with_reducible rfl)
    refine takeA HT_ HW_ hHeld (i := 4) (N := some 37) (bA 24 27) ?_ (hy := by rintro w' ⟨s0, s1, s2, s3, s4, s5, s6, s7⟩; go_simp; with_reducible rfl)
    refine one_ (i := 2) (N := some 35) (bA 24 31) rfl rfl (one_of HT_.out (by kernel_rfl)) (by decide) (fun K hK => ?_)
    refine gO Try.func28 #[.agg #[.int .u64 a0_0, .int .u64 a0_1, .int .i64 a0_2, .int .i64 a0_3], .agg #[.int .u64 a1_0, .int .u64 a1_1, .int .i64 a1_2, .int .i64 a1_3]] ?_
    with_reducible refine (interval_Leq.calls a0_0 a0_1 a0_2 a0_3 a1_0 a1_1 a1_2 a1_3 t228 _ A38.out).mono ?_
    rintro e w43 ⟨rfl, hb⟩
    refine ⟨_, rfl, ?_⟩
    have n0_ := bkB BK208.out hb
    have n1_ := bkB BK209.out hb
    have n2_ := bkB BK215.out hb
    have n3_ := bkB BK221.out hb
    have n4_ := bkB BK227.out hb
    have n5_ := bsB HB.out hb
    clear BK208
    clear BK209
    clear BK215
    clear BK221
    clear BK227
    clear HB
    have BK208 := n0_
    have BK209 := n1_
    have BK215 := n2_
    have BK221 := n3_
    have BK227 := n4_
    have HB := n5_
    clear n0_ n1_ n2_ n3_ n4_ n5_
    (try clear hb)
    (try clear hb2)
    (try clear hk)
    (try clear hi)
    refine hK.out _ _ ⟨(blk_cell BK208.out 0).trans rfl, (blk_cell BK208.out 1).trans rfl, (blk_cell BK208.out 2).trans rfl, (blk_cell BK208.out 3).trans rfl, (blk_cell BK209.out 0).trans rfl, (blk_cell BK209.out 1).trans rfl, (blk_cell BK209.out 2).trans rfl, (blk_cell BK209.out 3).trans rfl⟩ (fun hHeld => ?_)
    clear hK K
    refine norm_ (a' := ?_) ?_ ?_
    rotate_left
    ·
     show Act.put _ (some 35) _ = _
     simp only [Act.put, List.setIfInBounds_toArray, List.set_cons_zero, List.set_cons_succ, i64_w, i32_w]
     rfl
    refine one_ (i := 5) (N := some 38) (bA 24 63) rfl rfl (one_of HT_.out (by kernel_rfl)) (by decide) (fun K hK => ?_)
    refine gO Try.func29 #[.agg #[.int .u64 a0_0, .int .u64 a0_1, .int .i64 a0_2, .int .i64 a0_3], .agg #[.int .u64 a1_0, .int .u64 a1_1, .int .i64 a1_2, .int .i64 a1_3]] ?_
    with_reducible refine (jacquardref13_Leq.calls a0_0 a0_1 a0_2 a0_3 a1_0 a1_1 a1_2 a1_3 t229 _ A39.out).mono ?_
    rintro e w44 ⟨rfl, hb⟩
    refine ⟨_, rfl, ?_⟩
    have n0_ := bkB BK208.out hb
    have n1_ := bkB BK209.out hb
    have n2_ := bkB BK215.out hb
    have n3_ := bkB BK221.out hb
    have n4_ := bkB BK227.out hb
    have n5_ := bsB HB.out hb
    clear BK208
    clear BK209
    clear BK215
    clear BK221
    clear BK227
    clear HB
    have BK208 := n0_
    have BK209 := n1_
    have BK215 := n2_
    have BK221 := n3_
    have BK227 := n4_
    have HB := n5_
    clear n0_ n1_ n2_ n3_ n4_ n5_
    (try clear hb)
    (try clear hb2)
    (try clear hk)
    (try clear hi)
    refine hK.out _ _ ⟨(blk_cell BK208.out 0).trans rfl, (blk_cell BK208.out 1).trans rfl, (blk_cell BK208.out 2).trans rfl, (blk_cell BK208.out 3).trans rfl, (blk_cell BK209.out 0).trans rfl, (blk_cell BK209.out 1).trans rfl, (blk_cell BK209.out 2).trans rfl, (blk_cell BK209.out 3).trans rfl⟩ (fun hHeld => ?_)
    clear hK K
    refine norm_ (a' := ?_) ?_ ?_
    rotate_left
    ·
     show Act.put _ (some 38) _ = _
     simp only [Act.put, List.setIfInBounds_toArray, List.set_cons_zero, List.set_cons_succ, i64_w, i32_w]
     rfl
    refine pureA HT_ (i := 6) (N := some 39) (bA 24 127) ?_
    refine pureA HT_ (i := 7) (N := some 40) (bA 24 255) ?_
    refine pureU HT_ (i := 8) (N := some 41) (bA 24 511) ?_
    refine pureU HT_ (i := 9) (N := some 42) (bA 24 1023) ?_
    refine pureU HT_ (i := 10) (N := some 43) (bA 24 2047) ?_
    refine pureU HT_ (i := 11) (N := some 44) (bA 24 4095) ?_
    refine pureU HT_ (i := 12) (N := some 45) (bA 24 8191) ?_
    refine pureA HT_ (i := 13) (N := some 46) (bA 24 16383) ?_
    refine pureA HT_ (i := 14) (N := some 47) (bA 24 32767) ?_
    refine pureU HT_ (i := 15) (N := some 48) (bA 24 65535) ?_
    refine pureU HT_ (i := 16) (N := some 49) (bA 24 131071) ?_
    refine pureU HT_ (i := 17) (N := some 50) (bA 24 262143) ?_
    refine pureA HT_ (i := 18) (N := some 51) (bA 24 524287) ?_
    refine pureA HT_ (i := 19) (N := some 52) (bA 24 1048575) ?_
    refine pureU HT_ (i := 20) (N := some 53) (bA 24 2097151) ?_
    refine pureU HT_ (i := 21) (N := some 54) (bA 24 4194303) ?_
    refine pureU HT_ (i := 22) (N := some 55) (bA 24 8388607) ?_
    refine pureA HT_ (i := 23) (N := some 56) (bA 24 16777215) ?_
    refine done_ (done_of HT_.out (by kernel_rfl)) ?_
    try go_wp2
    go_meet
    case rel => exact ⟨_, (true), (by first | rfl | (simp; done) | (simp [*]; done)), H', ⟨by first | omega | exact Nat.le_refl _⟩, ⟨bkL BK208.out⟩, ⟨bkL BK209.out⟩, ⟨bkL BK215.out⟩, ⟨bkL BK221.out⟩, ⟨bkL BK227.out⟩, ⟨bsL HB.out⟩⟩
   ·
    rw [if_neg c40] at H
    have c40b0 : (t228 != t229) = false := by simpa using c40
    (try (have c40b1 : decide (t228 = t229) = true := by simpa using c40))
    (try (have c40b2 : (t228 == t229) = true := by simpa using c40))
    clear c40
    (first | rw [c40b0] | (simp only [i64_w, i32_w]; rw [c40b0]) | skip)
    (first | rw [show (!(t228 == t229)) = false by revert c40b0; cases t228 <;> cases t229 <;> simp] | rw [show ((!t228) == t229) = false by revert c40b0; cases t228 <;> cases t229 <;> simp] | skip)
    replace H := Option.bind_eq_some_iff.mp H
    obtain ⟨⟨t230, t231, t232, t233⟩, A450, H⟩ := H
    replace H : (if (!(t211 == t230) || (!(t212 == t231) || (!(t213 == t232) || (!(t214 == t233))))) = true then (jacquardlaw13_IntervalLattice.j0 k a2 t220 true a0_0 a0_1 a0_2 a0_3 a1_0 a1_1 a1_2 a1_3 t211 t212 t213 t214 t216 t217 t218 t219) else (if (!(t216 == t222) || (!(t217 == t223) || (!(t218 == t224) || (!(t219 == t225))))) = true then (jacquardlaw13_IntervalLattice.j0 k a2 t220 true a0_0 a0_1 a0_2 a0_3 a1_0 a1_1 a1_2 a1_3 t211 t212 t213 t214 t216 t217 t218 t219) else (jacquardlaw13_IntervalLattice.j0 k a2 t220 (t220 != t226) a0_0 a0_1 a0_2 a0_3 a1_0 a1_1 a1_2 a1_3 t211 t212 t213 t214 t216 t217 t218 t219))) = some r := H
    have A45 := Aside0.mk A450
    clear A450
    by_cases c46 : (!(t211 == t230) || (!(t212 == t231) || (!(t213 == t232) || (!(t214 == t233))))) = true
    ·
     rw [if_pos c46] at H
     have c46b0 : (!(t211 == t230) || (!(t212 == t231) || (!(t213 == t232) || (!(t214 == t233))))) = true := c46
     clear c46
     have H' := Aside0.mk H
     clear H
     try go_wp2
     have n0_ : Aside0 (((((w32.setCell ⟨gb227, 0, none⟩ (.int .u64 t222)).setCell ⟨gb227, 1, none⟩ (.int .u64 t223)).setCell ⟨gb227, 2, none⟩ (.int .i64 t224)).setCell ⟨gb227, 3, none⟩ (.int .i64 t225)).heap[gb208]? = some (.cells #[.int .u64 a0_0, .int .u64 a0_1, .int .i64 a0_2, .int .i64 a0_3] 24 (0, 0))) := ⟨by (with_reducible repeat (first | refine blk_drewN ?_ _ | refine blk_drew ?_ | refine blk_alloc ?_ _)); refine blk_far ?_ NB208_227.out _; (with_reducible repeat (first | refine blk_drewN ?_ _ | refine blk_drew ?_ | refine blk_alloc ?_ _)); refine blk_far ?_ NB208_227.out _; (with_reducible repeat (first | refine blk_drewN ?_ _ | refine blk_drew ?_ | refine blk_alloc ?_ _)); refine blk_far ?_ NB208_227.out _; (with_reducible repeat (first | refine blk_drewN ?_ _ | refine blk_drew ?_ | refine blk_alloc ?_ _)); refine blk_far ?_ NB208_227.out _; (with_reducible repeat (first | refine blk_drewN ?_ _ | refine blk_drew ?_ | refine blk_alloc ?_ _)); exact BK208.out⟩
     have n1_ : Aside0 (((((w32.setCell ⟨gb227, 0, none⟩ (.int .u64 t222)).setCell ⟨gb227, 1, none⟩ (.int .u64 t223)).setCell ⟨gb227, 2, none⟩ (.int .i64 t224)).setCell ⟨gb227, 3, none⟩ (.int .i64 t225)).heap[gb209]? = some (.cells #[.int .u64 a1_0, .int .u64 a1_1, .int .i64 a1_2, .int .i64 a1_3] 24 (0, 0))) := ⟨by (with_reducible repeat (first | refine blk_drewN ?_ _ | refine blk_drew ?_ | refine blk_alloc ?_ _)); refine blk_far ?_ NB209_227.out _; (with_reducible repeat (first | refine blk_drewN ?_ _ | refine blk_drew ?_ | refine blk_alloc ?_ _)); refine blk_far ?_ NB209_227.out _; (with_reducible repeat (first | refine blk_drewN ?_ _ | refine blk_drew ?_ | refine blk_alloc ?_ _)); refine blk_far ?_ NB209_227.out _; (with_reducible repeat (first | refine blk_drewN ?_ _ | refine blk_drew ?_ | refine blk_alloc ?_ _)); refine blk_far ?_ NB209_227.out _; (with_reducible repeat (first | refine blk_drewN ?_ _ | refine blk_drew ?_ | refine blk_alloc ?_ _)); exact BK209.out⟩
     have n2_ : Aside0 (((((w32.setCell ⟨gb227, 0, none⟩ (.int .u64 t222)).setCell ⟨gb227, 1, none⟩ (.int .u64 t223)).setCell ⟨gb227, 2, none⟩ (.int .i64 t224)).setCell ⟨gb227, 3, none⟩ (.int .i64 t225)).heap[gb215]? = some (.cells #[.int .u64 t211, .int .u64 t212, .int .i64 t213, .int .i64 t214] 24 (0, 0))) := ⟨by (with_reducible repeat (first | refine blk_drewN ?_ _ | refine blk_drew ?_ | refine blk_alloc ?_ _)); refine blk_far ?_ NB215_227.out _; (with_reducible repeat (first | refine blk_drewN ?_ _ | refine blk_drew ?_ | refine blk_alloc ?_ _)); refine blk_far ?_ NB215_227.out _; (with_reducible repeat (first | refine blk_drewN ?_ _ | refine blk_drew ?_ | refine blk_alloc ?_ _)); refine blk_far ?_ NB215_227.out _; (with_reducible repeat (first | refine blk_drewN ?_ _ | refine blk_drew ?_ | refine blk_alloc ?_ _)); refine blk_far ?_ NB215_227.out _; (with_reducible repeat (first | refine blk_drewN ?_ _ | refine blk_drew ?_ | refine blk_alloc ?_ _)); exact BK215.out⟩
     have n3_ : Aside0 (((((w32.setCell ⟨gb227, 0, none⟩ (.int .u64 t222)).setCell ⟨gb227, 1, none⟩ (.int .u64 t223)).setCell ⟨gb227, 2, none⟩ (.int .i64 t224)).setCell ⟨gb227, 3, none⟩ (.int .i64 t225)).heap[gb221]? = some (.cells #[.int .u64 t216, .int .u64 t217, .int .i64 t218, .int .i64 t219] 24 (0, 0))) := ⟨by (with_reducible repeat (first | refine blk_drewN ?_ _ | refine blk_drew ?_ | refine blk_alloc ?_ _)); refine blk_far ?_ NB221_227.out _; (with_reducible repeat (first | refine blk_drewN ?_ _ | refine blk_drew ?_ | refine blk_alloc ?_ _)); refine blk_far ?_ NB221_227.out _; (with_reducible repeat (first | refine blk_drewN ?_ _ | refine blk_drew ?_ | refine blk_alloc ?_ _)); refine blk_far ?_ NB221_227.out _; (with_reducible repeat (first | refine blk_drewN ?_ _ | refine blk_drew ?_ | refine blk_alloc ?_ _)); refine blk_far ?_ NB221_227.out _; (with_reducible repeat (first | refine blk_drewN ?_ _ | refine blk_drew ?_ | refine blk_alloc ?_ _)); exact BK221.out⟩
     have n4_ : Aside0 (((((w32.setCell ⟨gb227, 0, none⟩ (.int .u64 t222)).setCell ⟨gb227, 1, none⟩ (.int .u64 t223)).setCell ⟨gb227, 2, none⟩ (.int .i64 t224)).setCell ⟨gb227, 3, none⟩ (.int .i64 t225)).heap[gb227]? = some (.cells #[.int .u64 t222, .int .u64 t223, .int .i64 t224, .int .i64 t225] 24 (0, 0))) := ⟨by (with_reducible repeat (first | refine blk_drewN ?_ _ | refine blk_drew ?_ | refine blk_alloc ?_ _)); refine blk_put (cs := #[.int .u64 t222, .int .u64 t223, .int .i64 t224, .int .i64 0]) ?_ 3 _ rfl; (with_reducible repeat (first | refine blk_drewN ?_ _ | refine blk_drew ?_ | refine blk_alloc ?_ _)); refine blk_put (cs := #[.int .u64 t222, .int .u64 t223, .int .i64 0, .int .i64 0]) ?_ 2 _ rfl; (with_reducible repeat (first | refine blk_drewN ?_ _ | refine blk_drew ?_ | refine blk_alloc ?_ _)); refine blk_put (cs := #[.int .u64 t222, .int .u64 0, .int .i64 0, .int .i64 0]) ?_ 1 _ rfl; (with_reducible repeat (first | refine blk_drewN ?_ _ | refine blk_drew ?_ | refine blk_alloc ?_ _)); refine blk_put (cs := #[.int .u64 0, .int .u64 0, .int .i64 0, .int .i64 0]) ?_ 0 _ rfl; (with_reducible repeat (first | refine blk_drewN ?_ _ | refine blk_drew ?_ | refine blk_alloc ?_ _)); exact BK227.out⟩
     have n5_ : Aside0 (Below w.heap.size w ((((w32.setCell ⟨gb227, 0, none⟩ (.int .u64 t222)).setCell ⟨gb227, 1, none⟩ (.int .u64 t223)).setCell ⟨gb227, 2, none⟩ (.int .i64 t224)).setCell ⟨gb227, 3, none⟩ (.int .i64 t225))) := ⟨bsL HB.out⟩
     (try clear BK208)
     (try clear BK209)
     (try clear BK215)
     (try clear BK221)
     (try clear BK227)
     (try clear HB)
     generalize ((((w32.setCell ⟨gb227, 0, none⟩ (.int .u64 t222)).setCell ⟨gb227, 1, none⟩ (.int .u64 t223)).setCell ⟨gb227, 2, none⟩ (.int .i64 t224)).setCell ⟨gb227, 3, none⟩ (.int .i64 t225)) = w47 at n0_ n1_ n2_ n3_ n4_ n5_ ⊢
     have BK208 := n0_
     have BK209 := n1_
     have BK215 := n2_
     have BK221 := n3_
     have BK227 := n4_
     have HB := n5_
     clear n0_ n1_ n2_ n3_ n4_ n5_
     have n0_ := Aside0.mk (blk_drew BK208.out)
     have n1_ := Aside0.mk (blk_drew BK209.out)
     have n2_ := Aside0.mk (blk_drew BK215.out)
     have n3_ := Aside0.mk (blk_drew BK221.out)
     have n4_ := Aside0.mk (blk_drew BK227.out)
     have n5_ := Aside0.mk (below_drew1 HB.out)
     clear BK208
     clear BK209
     clear BK215
     clear BK221
     clear BK227
     clear HB
     have BK208 := n0_
     have BK209 := n1_
     have BK215 := n2_
     have BK221 := n3_
     have BK227 := n4_
     have HB := n5_
     clear n0_ n1_ n2_ n3_ n4_ n5_
     refine start_ (n := 24) (S := fun w' => w'.cell? ⟨gb208, 0, none⟩ = some (.int .u64 a0_0) ∧ w'.cell? ⟨gb208, 1, none⟩ = some (.int .u64 a0_1) ∧ w'.cell? ⟨gb208, 2, none⟩ = some (.int .i64 a0_2) ∧ w'.cell? ⟨gb208, 3, none⟩ = some (.int .i64 a0_3) ∧ w'.cell? ⟨gb209, 0, none⟩ = some (.int .u64 a1_0) ∧ w'.cell? ⟨gb209, 1, none⟩ = some (.int .u64 a1_1) ∧ w'.cell? ⟨gb209, 2, none⟩ = some (.int .i64 a1_2) ∧ w'.cell? ⟨gb209, 3, none⟩ = some (.int .i64 a1_3) ∧ w'.cell? ⟨gb215, 0, none⟩ = some (.int .u64 t211) ∧ w'.cell? ⟨gb215, 1, none⟩ = some (.int .u64 t212) ∧ w'.cell? ⟨gb215, 2, none⟩ = some (.int .i64 t213) ∧ w'.cell? ⟨gb215, 3, none⟩ = some (.int .i64 t214)) (ds := []) (bA 24 0) (by kernel_rfl) rfl rfl ⟨(blk_cell BK208.out 0).trans rfl, (blk_cell BK208.out 1).trans rfl, (blk_cell BK208.out 2).trans rfl, (blk_cell BK208.out 3).trans rfl, (blk_cell BK209.out 0).trans rfl, (blk_cell BK209.out 1).trans rfl, (blk_cell BK209.out 2).trans rfl, (blk_cell BK209.out 3).trans rfl, (blk_cell BK215.out 0).trans rfl, (blk_cell BK215.out 1).trans rfl, (blk_cell BK215.out 2).trans rfl, (blk_cell BK215.out 3).trans rfl⟩ (fun hHeld => ?_); refine with_tabW jacquardlaw13_IntervalLattice.tab6 jacquardlaw13_IntervalLattice.bits6 (fun HT_ HW_ => ?_)
     generalize w47.drew = w48 at BK208 BK209 BK215 BK221 BK227 HB hHeld ⊢
     refine takeA HT_ HW_ hHeld (i := 0) (N := some 33) (bA 24 1) ?_ (hy := by rintro w' ⟨s0, s1, s2, s3, s4, s5, s6, s7, s8, s9, s10, s11⟩; go_simp; with_reducible rfl)
     refine takeA HT_ HW_ hHeld (i := 1) (N := some 34) (bA 24 3) ?_ (hy := by rintro w' ⟨s0, s1, s2, s3, s4, s5, s6, s7, s8, s9, s10, s11⟩; go_simp; with_reducible rfl)
     refine takeA HT_ HW_ hHeld (i := 3) (N := some 36) (bA 24 11) ?_ (hy := by rintro w' ⟨s0, s1, s2, s3, s4, s5, s6, s7, s8, s9, s10, s11⟩; go_simp; with_reducible rfl)
     refine takeA HT_ HW_ hHeld (i := 4) (N := some 37) (bA 24 27) ?_ (hy := by rintro w' ⟨s0, s1, s2, s3, s4, s5, s6, s7, s8, s9, s10, s11⟩; go_simp; with_reducible rfl)
     refine one_ (i := 2) (N := some 35) (bA 24 31) rfl rfl (one_of HT_.out (by kernel_rfl)) (by decide) (fun K hK => ?_)
     refine gO Try.func28 #[.agg #[.int .u64 a0_0, .int .u64 a0_1, .int .i64 a0_2, .int .i64 a0_3], .agg #[.int .u64 a1_0, .int .u64 a1_1, .int .i64 a1_2, .int .i64 a1_3]] ?_
     with_reducible refine (interval_Leq.calls a0_0 a0_1 a0_2 a0_3 a1_0 a1_1 a1_2 a1_3 t228 _ A38.out).mono ?_
     rintro e w49 ⟨rfl, hb⟩
     refine ⟨_, rfl, ?_⟩
     have n0_ := bkB BK208.out hb
     have n1_ := bkB BK209.out hb
     have n2_ := bkB BK215.out hb
     have n3_ := bkB BK221.out hb
     have n4_ := bkB BK227.out hb
     have n5_ := bsB HB.out hb
     clear BK208
     clear BK209
     clear BK215
     clear BK221
     clear BK227
     clear HB
     have BK208 := n0_
     have BK209 := n1_
     have BK215 := n2_
     have BK221 := n3_
     have BK227 := n4_
     have HB := n5_
     clear n0_ n1_ n2_ n3_ n4_ n5_
     (try clear hb)
     (try clear hb2)
     (try clear hk)
     (try clear hi)
     refine hK.out _ _ ⟨(blk_cell BK208.out 0).trans rfl, (blk_cell BK208.out 1).trans rfl, (blk_cell BK208.out 2).trans rfl, (blk_cell BK208.out 3).trans rfl, (blk_cell BK209.out 0).trans rfl, (blk_cell BK209.out 1).trans rfl, (blk_cell BK209.out 2).trans rfl, (blk_cell BK209.out 3).trans rfl, (blk_cell BK215.out 0).trans rfl, (blk_cell BK215.out 1).trans rfl, (blk_cell BK215.out 2).trans rfl, (blk_cell BK215.out 3).trans rfl⟩ (fun hHeld => ?_)
     clear hK K
     refine norm_ (a' := ?_) ?_ ?_
     rotate_left
     ·
      show Act.put _ (some 35) _ = _
      simp only [Act.put, List.setIfInBounds_toArray, List.set_cons_zero, List.set_cons_succ, i64_w, i32_w]
      rfl
     refine one_ (i := 5) (N := some 38) (bA 24 63) rfl rfl (one_of HT_.out (by kernel_rfl)) (by decide) (fun K hK => ?_)
     refine gO Try.func29 #[.agg #[.int .u64 a0_0, .int .u64 a0_1, .int .i64 a0_2, .int .i64 a0_3], .agg #[.int .u64 a1_0, .int .u64 a1_1, .int .i64 a1_2, .int .i64 a1_3]] ?_
     with_reducible refine (jacquardref13_Leq.calls a0_0 a0_1 a0_2 a0_3 a1_0 a1_1 a1_2 a1_3 t229 _ A39.out).mono ?_
     rintro e w50 ⟨rfl, hb⟩
     refine ⟨_, rfl, ?_⟩
     have n0_ := bkB BK208.out hb
     have n1_ := bkB BK209.out hb
     have n2_ := bkB BK215.out hb
     have n3_ := bkB BK221.out hb
     have n4_ := bkB BK227.out hb
     have n5_ := bsB HB.out hb
     clear BK208
     clear BK209
     clear BK215
     clear BK221
     clear BK227
     clear HB
     have BK208 := n0_
     have BK209 := n1_
     have BK215 := n2_
     have BK221 := n3_
     have BK227 := n4_
     have HB := n5_
     clear n0_ n1_ n2_ n3_ n4_ n5_
     (try clear hb)
     (try clear hb2)
     (try clear hk)
     (try clear hi)
     refine hK.out _ _ ⟨(blk_cell BK208.out 0).trans rfl, (blk_cell BK208.out 1).trans rfl, (blk_cell BK208.out 2).trans rfl, (blk_cell BK208.out 3).trans rfl, (blk_cell BK209.out 0).trans rfl, (blk_cell BK209.out 1).trans rfl, (blk_cell BK209.out 2).trans rfl, (blk_cell BK209.out 3).trans rfl, (blk_cell BK215.out 0).trans rfl, (blk_cell BK215.out 1).trans rfl, (blk_cell BK215.out 2).trans rfl, (blk_cell BK215.out 3).trans rfl⟩ (fun hHeld => ?_)
     clear hK K
     refine norm_ (a' := ?_) ?_ ?_
     rotate_left
     ·
      show Act.put _ (some 38) _ = _
      simp only [Act.put, List.setIfInBounds_toArray, List.set_cons_zero, List.set_cons_succ, i64_w, i32_w]
      rfl
     refine pureA HT_ (i := 6) (N := some 39) (bA 24 127) ?_
     refine pureA HT_ (i := 7) (N := some 40) (bA 24 255) ?_
     refine takeA HT_ HW_ hHeld (i := 8) (N := some 41) (bA 24 511) ?_ (hy := by rintro w' ⟨s0, s1, s2, s3, s4, s5, s6, s7, s8, s9, s10, s11⟩; go_simp; with_reducible rfl)
     refine takeA HT_ HW_ hHeld (i := 9) (N := some 42) (bA 24 1023) ?_ (hy := by rintro w' ⟨s0, s1, s2, s3, s4, s5, s6, s7, s8, s9, s10, s11⟩; go_simp; with_reducible rfl)
     refine takeA HT_ HW_ hHeld (i := 10) (N := some 43) (bA 24 2047) ?_ (hy := by rintro w' ⟨s0, s1, s2, s3, s4, s5, s6, s7, s8, s9, s10, s11⟩; go_simp; with_reducible rfl)
     refine one_ (i := 11) (N := some 44) (bA 24 4095) rfl rfl (one_of HT_.out (by kernel_rfl)) (by decide) (fun K hK => ?_)
     refine gO Try.func30 #[.agg #[.int .u64 a0_0, .int .u64 a0_1, .int .i64 a0_2, .int .i64 a0_3], .agg #[.int .u64 a1_0, .int .u64 a1_1, .int .i64 a1_2, .int .i64 a1_3]] ?_
     with_reducible refine (jacquardref13_Join.calls a0_0 a0_1 a0_2 a0_3 a1_0 a1_1 a1_2 a1_3 t230 t231 t232 t233 _ A45.out).mono ?_
     rintro e w51 ⟨rfl, hb⟩
     refine ⟨_, rfl, ?_⟩
     have n0_ := bkB BK208.out hb
     have n1_ := bkB BK209.out hb
     have n2_ := bkB BK215.out hb
     have n3_ := bkB BK221.out hb
     have n4_ := bkB BK227.out hb
     have n5_ := bsB HB.out hb
     clear BK208
     clear BK209
     clear BK215
     clear BK221
     clear BK227
     clear HB
     have BK208 := n0_
     have BK209 := n1_
     have BK215 := n2_
     have BK221 := n3_
     have BK227 := n4_
     have HB := n5_
     clear n0_ n1_ n2_ n3_ n4_ n5_
     (try clear hb)
     (try clear hb2)
     (try clear hk)
     (try clear hi)
     refine hK.out _ _ ⟨(blk_cell BK208.out 0).trans rfl, (blk_cell BK208.out 1).trans rfl, (blk_cell BK208.out 2).trans rfl, (blk_cell BK208.out 3).trans rfl, (blk_cell BK209.out 0).trans rfl, (blk_cell BK209.out 1).trans rfl, (blk_cell BK209.out 2).trans rfl, (blk_cell BK209.out 3).trans rfl, (blk_cell BK215.out 0).trans rfl, (blk_cell BK215.out 1).trans rfl, (blk_cell BK215.out 2).trans rfl, (blk_cell BK215.out 3).trans rfl⟩ (fun hHeld => ?_)
     clear hK K
     refine norm_ (a' := ?_) ?_ ?_
     rotate_left
     ·
      show Act.put _ (some 44) _ = _
      simp only [Act.put, List.setIfInBounds_toArray, List.set_cons_zero, List.set_cons_succ, i64_w, i32_w]
      rfl
     refine pureA HT_ (i := 12) (N := some 45) (bA 24 8191) ?_
     refine pureA HT_ (i := 13) (N := some 46) (bA 24 16383) ?_
     refine pureA HT_ (i := 14) (N := some 47) (bA 24 32767) ?_
     refine pureU HT_ (i := 15) (N := some 48) (bA 24 65535) ?_
     refine pureU HT_ (i := 16) (N := some 49) (bA 24 131071) ?_
     refine pureU HT_ (i := 17) (N := some 50) (bA 24 262143) ?_
     refine pureA HT_ (i := 18) (N := some 51) (bA 24 524287) ?_
     refine pureA HT_ (i := 19) (N := some 52) (bA 24 1048575) ?_
     refine pureU HT_ (i := 20) (N := some 53) (bA 24 2097151) ?_
     refine pureU HT_ (i := 21) (N := some 54) (bA 24 4194303) ?_
     refine pureU HT_ (i := 22) (N := some 55) (bA 24 8388607) ?_
     refine pureA HT_ (i := 23) (N := some 56) (bA 24 16777215) ?_
     refine done_ (done_of HT_.out (by kernel_rfl)) ?_
     try go_wp2
     go_meet
     case rel => exact ⟨_, (true), (by first | rfl | (simp; done) | (simp [*]; done)), H', ⟨by first | omega | exact Nat.le_refl _⟩, ⟨bkL BK208.out⟩, ⟨bkL BK209.out⟩, ⟨bkL BK215.out⟩, ⟨bkL BK221.out⟩, ⟨bkL BK227.out⟩, ⟨bsL HB.out⟩⟩
    ·
     rw [if_neg c46] at H
     have c46b0 : (!(t211 == t230) || (!(t212 == t231) || (!(t213 == t232) || (!(t214 == t233))))) = false := by simpa using c46
     clear c46
     by_cases c52 : (!(t216 == t222) || (!(t217 == t223) || (!(t218 == t224) || (!(t219 == t225))))) = true
     ·
      rw [if_pos c52] at H
      have c52b0 : (!(t216 == t222) || (!(t217 == t223) || (!(t218 == t224) || (!(t219 == t225))))) = true := c52
      clear c52
      have H' := Aside0.mk H
      clear H
      try go_wp2
      have n0_ : Aside0 (((((w32.setCell ⟨gb227, 0, none⟩ (.int .u64 t222)).setCell ⟨gb227, 1, none⟩ (.int .u64 t223)).setCell ⟨gb227, 2, none⟩ (.int .i64 t224)).setCell ⟨gb227, 3, none⟩ (.int .i64 t225)).heap[gb208]? = some (.cells #[.int .u64 a0_0, .int .u64 a0_1, .int .i64 a0_2, .int .i64 a0_3] 24 (0, 0))) := ⟨by (with_reducible repeat (first | refine blk_drewN ?_ _ | refine blk_drew ?_ | refine blk_alloc ?_ _)); refine blk_far ?_ NB208_227.out _; (with_reducible repeat (first | refine blk_drewN ?_ _ | refine blk_drew ?_ | refine blk_alloc ?_ _)); refine blk_far ?_ NB208_227.out _; (with_reducible repeat (first | refine blk_drewN ?_ _ | refine blk_drew ?_ | refine blk_alloc ?_ _)); refine blk_far ?_ NB208_227.out _; (with_reducible repeat (first | refine blk_drewN ?_ _ | refine blk_drew ?_ | refine blk_alloc ?_ _)); refine blk_far ?_ NB208_227.out _; (with_reducible repeat (first | refine blk_drewN ?_ _ | refine blk_drew ?_ | refine blk_alloc ?_ _)); exact BK208.out⟩
      have n1_ : Aside0 (((((w32.setCell ⟨gb227, 0, none⟩ (.int .u64 t222)).setCell ⟨gb227, 1, none⟩ (.int .u64 t223)).setCell ⟨gb227, 2, none⟩ (.int .i64 t224)).setCell ⟨gb227, 3, none⟩ (.int .i64 t225)).heap[gb209]? = some (.cells #[.int .u64 a1_0, .int .u64 a1_1, .int .i64 a1_2, .int .i64 a1_3] 24 (0, 0))) := ⟨by (with_reducible repeat (first | refine blk_drewN ?_ _ | refine blk_drew ?_ | refine blk_alloc ?_ _)); refine blk_far ?_ NB209_227.out _; (with_reducible repeat (first | refine blk_drewN ?_ _ | refine blk_drew ?_ | refine blk_alloc ?_ _)); refine blk_far ?_ NB209_227.out _; (with_reducible repeat (first | refine blk_drewN ?_ _ | refine blk_drew ?_ | refine blk_alloc ?_ _)); refine blk_far ?_ NB209_227.out _; (with_reducible repeat (first | refine blk_drewN ?_ _ | refine blk_drew ?_ | refine blk_alloc ?_ _)); refine blk_far ?_ NB209_227.out _; (with_reducible repeat (first | refine blk_drewN ?_ _ | refine blk_drew ?_ | refine blk_alloc ?_ _)); exact BK209.out⟩
      have n2_ : Aside0 (((((w32.setCell ⟨gb227, 0, none⟩ (.int .u64 t222)).setCell ⟨gb227, 1, none⟩ (.int .u64 t223)).setCell ⟨gb227, 2, none⟩ (.int .i64 t224)).setCell ⟨gb227, 3, none⟩ (.int .i64 t225)).heap[gb215]? = some (.cells #[.int .u64 t211, .int .u64 t212, .int .i64 t213, .int .i64 t214] 24 (0, 0))) := ⟨by (with_reducible repeat (first | refine blk_drewN ?_ _ | refine blk_drew ?_ | refine blk_alloc ?_ _)); refine blk_far ?_ NB215_227.out _; (with_reducible repeat (first | refine blk_drewN ?_ _ | refine blk_drew ?_ | refine blk_alloc ?_ _)); refine blk_far ?_ NB215_227.out _; (with_reducible repeat (first | refine blk_drewN ?_ _ | refine blk_drew ?_ | refine blk_alloc ?_ _)); refine blk_far ?_ NB215_227.out _; (with_reducible repeat (first | refine blk_drewN ?_ _ | refine blk_drew ?_ | refine blk_alloc ?_ _)); refine blk_far ?_ NB215_227.out _; (with_reducible repeat (first | refine blk_drewN ?_ _ | refine blk_drew ?_ | refine blk_alloc ?_ _)); exact BK215.out⟩
      have n3_ : Aside0 (((((w32.setCell ⟨gb227, 0, none⟩ (.int .u64 t222)).setCell ⟨gb227, 1, none⟩ (.int .u64 t223)).setCell ⟨gb227, 2, none⟩ (.int .i64 t224)).setCell ⟨gb227, 3, none⟩ (.int .i64 t225)).heap[gb221]? = some (.cells #[.int .u64 t216, .int .u64 t217, .int .i64 t218, .int .i64 t219] 24 (0, 0))) := ⟨by (with_reducible repeat (first | refine blk_drewN ?_ _ | refine blk_drew ?_ | refine blk_alloc ?_ _)); refine blk_far ?_ NB221_227.out _; (with_reducible repeat (first | refine blk_drewN ?_ _ | refine blk_drew ?_ | refine blk_alloc ?_ _)); refine blk_far ?_ NB221_227.out _; (with_reducible repeat (first | refine blk_drewN ?_ _ | refine blk_drew ?_ | refine blk_alloc ?_ _)); refine blk_far ?_ NB221_227.out _; (with_reducible repeat (first | refine blk_drewN ?_ _ | refine blk_drew ?_ | refine blk_alloc ?_ _)); refine blk_far ?_ NB221_227.out _; (with_reducible repeat (first | refine blk_drewN ?_ _ | refine blk_drew ?_ | refine blk_alloc ?_ _)); exact BK221.out⟩
      have n4_ : Aside0 (((((w32.setCell ⟨gb227, 0, none⟩ (.int .u64 t222)).setCell ⟨gb227, 1, none⟩ (.int .u64 t223)).setCell ⟨gb227, 2, none⟩ (.int .i64 t224)).setCell ⟨gb227, 3, none⟩ (.int .i64 t225)).heap[gb227]? = some (.cells #[.int .u64 t222, .int .u64 t223, .int .i64 t224, .int .i64 t225] 24 (0, 0))) := ⟨by (with_reducible repeat (first | refine blk_drewN ?_ _ | refine blk_drew ?_ | refine blk_alloc ?_ _)); refine blk_put (cs := #[.int .u64 t222, .int .u64 t223, .int .i64 t224, .int .i64 0]) ?_ 3 _ rfl; (with_reducible repeat (first | refine blk_drewN ?_ _ | refine blk_drew ?_ | refine blk_alloc ?_ _)); refine blk_put (cs := #[.int .u64 t222, .int .u64 t223, .int .i64 0, .int .i64 0]) ?_ 2 _ rfl; (with_reducible repeat (first | refine blk_drewN ?_ _ | refine blk_drew ?_ | refine blk_alloc ?_ _)); refine blk_put (cs := #[.int .u64 t222, .int .u64 0, .int .i64 0, .int .i64 0]) ?_ 1 _ rfl; (with_reducible repeat (first | refine blk_drewN ?_ _ | refine blk_drew ?_ | refine blk_alloc ?_ _)); refine blk_put (cs := #[.int .u64 0, .int .u64 0, .int .i64 0, .int .i64 0]) ?_ 0 _ rfl; (with_reducible repeat (first | refine blk_drewN ?_ _ | refine blk_drew ?_ | refine blk_alloc ?_ _)); exact BK227.out⟩
      have n5_ : Aside0 (Below w.heap.size w ((((w32.setCell ⟨gb227, 0, none⟩ (.int .u64 t222)).setCell ⟨gb227, 1, none⟩ (.int .u64 t223)).setCell ⟨gb227, 2, none⟩ (.int .i64 t224)).setCell ⟨gb227, 3, none⟩ (.int .i64 t225))) := ⟨bsL HB.out⟩
      (try clear BK208)
      (try clear BK209)
      (try clear BK215)
      (try clear BK221)
      (try clear BK227)
      (try clear HB)
      generalize ((((w32.setCell ⟨gb227, 0, none⟩ (.int .u64 t222)).setCell ⟨gb227, 1, none⟩ (.int .u64 t223)).setCell ⟨gb227, 2, none⟩ (.int .i64 t224)).setCell ⟨gb227, 3, none⟩ (.int .i64 t225)) = w53 at n0_ n1_ n2_ n3_ n4_ n5_ ⊢
      have BK208 := n0_
      have BK209 := n1_
      have BK215 := n2_
      have BK221 := n3_
      have BK227 := n4_
      have HB := n5_
      clear n0_ n1_ n2_ n3_ n4_ n5_
      have n0_ := Aside0.mk (blk_drew BK208.out)
      have n1_ := Aside0.mk (blk_drew BK209.out)
      have n2_ := Aside0.mk (blk_drew BK215.out)
      have n3_ := Aside0.mk (blk_drew BK221.out)
      have n4_ := Aside0.mk (blk_drew BK227.out)
      have n5_ := Aside0.mk (below_drew1 HB.out)
      clear BK208
      clear BK209
      clear BK215
      clear BK221
      clear BK227
      clear HB
      have BK208 := n0_
      have BK209 := n1_
      have BK215 := n2_
      have BK221 := n3_
      have BK227 := n4_
      have HB := n5_
      clear n0_ n1_ n2_ n3_ n4_ n5_
      refine start_ (n := 24) (S := fun w' => w'.cell? ⟨gb208, 0, none⟩ = some (.int .u64 a0_0) ∧ w'.cell? ⟨gb208, 1, none⟩ = some (.int .u64 a0_1) ∧ w'.cell? ⟨gb208, 2, none⟩ = some (.int .i64 a0_2) ∧ w'.cell? ⟨gb208, 3, none⟩ = some (.int .i64 a0_3) ∧ w'.cell? ⟨gb209, 0, none⟩ = some (.int .u64 a1_0) ∧ w'.cell? ⟨gb209, 1, none⟩ = some (.int .u64 a1_1) ∧ w'.cell? ⟨gb209, 2, none⟩ = some (.int .i64 a1_2) ∧ w'.cell? ⟨gb209, 3, none⟩ = some (.int .i64 a1_3) ∧ w'.cell? ⟨gb215, 0, none⟩ = some (.int .u64 t211) ∧ w'.cell? ⟨gb215, 1, none⟩ = some (.int .u64 t212) ∧ w'.cell? ⟨gb215, 2, none⟩ = some (.int .i64 t213) ∧ w'.cell? ⟨gb215, 3, none⟩ = some (.int .i64 t214) ∧ w'.cell? ⟨gb221, 0, none⟩ = some (.int .u64 t216) ∧ w'.cell? ⟨gb221, 1, none⟩ = some (.int .u64 t217) ∧ w'.cell? ⟨gb221, 2, none⟩ = some (.int .i64 t218) ∧ w'.cell? ⟨gb221, 3, none⟩ = some (.int .i64 t219) ∧ w'.cell? ⟨gb227, 0, none⟩ = some (.int .u64 t222) ∧ w'.cell? ⟨gb227, 1, none⟩ = some (.int .u64 t223) ∧ w'.cell? ⟨gb227, 2, none⟩ = some (.int .i64 t224) ∧ w'.cell? ⟨gb227, 3, none⟩ = some (.int .i64 t225)) (ds := []) (bA 24 0) (by kernel_rfl) rfl rfl ⟨(blk_cell BK208.out 0).trans rfl, (blk_cell BK208.out 1).trans rfl, (blk_cell BK208.out 2).trans rfl, (blk_cell BK208.out 3).trans rfl, (blk_cell BK209.out 0).trans rfl, (blk_cell BK209.out 1).trans rfl, (blk_cell BK209.out 2).trans rfl, (blk_cell BK209.out 3).trans rfl, (blk_cell BK215.out 0).trans rfl, (blk_cell BK215.out 1).trans rfl, (blk_cell BK215.out 2).trans rfl, (blk_cell BK215.out 3).trans rfl, (blk_cell BK221.out 0).trans rfl, (blk_cell BK221.out 1).trans rfl, (blk_cell BK221.out 2).trans rfl, (blk_cell BK221.out 3).trans rfl, (blk_cell BK227.out 0).trans rfl, (blk_cell BK227.out 1).trans rfl, (blk_cell BK227.out 2).trans rfl, (blk_cell BK227.out 3).trans rfl⟩ (fun hHeld => ?_); refine with_tabW jacquardlaw13_IntervalLattice.tab6 jacquardlaw13_IntervalLattice.bits6 (fun HT_ HW_ => ?_)
      generalize w53.drew = w54 at BK208 BK209 BK215 BK221 BK227 HB hHeld ⊢
      refine takeA HT_ HW_ hHeld (i := 0) (N := some 33) (bA 24 1) ?_ (hy := by rintro w' ⟨s0, s1, s2, s3, s4, s5, s6, s7, s8, s9, s10, s11, s12, s13, s14, s15, s16, s17, s18, s19⟩; go_simp; with_reducible rfl)
      refine takeA HT_ HW_ hHeld (i := 1) (N := some 34) (bA 24 3) ?_ (hy := by rintro w' ⟨s0, s1, s2, s3, s4, s5, s6, s7, s8, s9, s10, s11, s12, s13, s14, s15, s16, s17, s18, s19⟩; go_simp; with_reducible rfl)
      refine takeA HT_ HW_ hHeld (i := 3) (N := some 36) (bA 24 11) ?_ (hy := by rintro w' ⟨s0, s1, s2, s3, s4, s5, s6, s7, s8, s9, s10, s11, s12, s13, s14, s15, s16, s17, s18, s19⟩; go_simp; with_reducible rfl)
      refine takeA HT_ HW_ hHeld (i := 4) (N := some 37) (bA 24 27) ?_ (hy := by rintro w' ⟨s0, s1, s2, s3, s4, s5, s6, s7, s8, s9, s10, s11, s12, s13, s14, s15, s16, s17, s18, s19⟩; go_simp; with_reducible rfl)
      refine one_ (i := 2) (N := some 35) (bA 24 31) rfl rfl (one_of HT_.out (by kernel_rfl)) (by decide) (fun K hK => ?_)
      refine gO Try.func28 #[.agg #[.int .u64 a0_0, .int .u64 a0_1, .int .i64 a0_2, .int .i64 a0_3], .agg #[.int .u64 a1_0, .int .u64 a1_1, .int .i64 a1_2, .int .i64 a1_3]] ?_
      with_reducible refine (interval_Leq.calls a0_0 a0_1 a0_2 a0_3 a1_0 a1_1 a1_2 a1_3 t228 _ A38.out).mono ?_
      rintro e w55 ⟨rfl, hb⟩
      refine ⟨_, rfl, ?_⟩
      have n0_ := bkB BK208.out hb
      have n1_ := bkB BK209.out hb
      have n2_ := bkB BK215.out hb
      have n3_ := bkB BK221.out hb
      have n4_ := bkB BK227.out hb
      have n5_ := bsB HB.out hb
      clear BK208
      clear BK209
      clear BK215
      clear BK221
      clear BK227
      clear HB
      have BK208 := n0_
      have BK209 := n1_
      have BK215 := n2_
      have BK221 := n3_
      have BK227 := n4_
      have HB := n5_
      clear n0_ n1_ n2_ n3_ n4_ n5_
      (try clear hb)
      (try clear hb2)
      (try clear hk)
      (try clear hi)
      refine hK.out _ _ ⟨(blk_cell BK208.out 0).trans rfl, (blk_cell BK208.out 1).trans rfl, (blk_cell BK208.out 2).trans rfl, (blk_cell BK208.out 3).trans rfl, (blk_cell BK209.out 0).trans rfl, (blk_cell BK209.out 1).trans rfl, (blk_cell BK209.out 2).trans rfl, (blk_cell BK209.out 3).trans rfl, (blk_cell BK215.out 0).trans rfl, (blk_cell BK215.out 1).trans rfl, (blk_cell BK215.out 2).trans rfl, (blk_cell BK215.out 3).trans rfl, (blk_cell BK221.out 0).trans rfl, (blk_cell BK221.out 1).trans rfl, (blk_cell BK221.out 2).trans rfl, (blk_cell BK221.out 3).trans rfl, (blk_cell BK227.out 0).trans rfl, (blk_cell BK227.out 1).trans rfl, (blk_cell BK227.out 2).trans rfl, (blk_cell BK227.out 3).trans rfl⟩ (fun hHeld => ?_)
      clear hK K
      refine norm_ (a' := ?_) ?_ ?_
      rotate_left
      ·
       show Act.put _ (some 35) _ = _
       simp only [Act.put, List.setIfInBounds_toArray, List.set_cons_zero, List.set_cons_succ, i64_w, i32_w]
       rfl
      refine one_ (i := 5) (N := some 38) (bA 24 63) rfl rfl (one_of HT_.out (by kernel_rfl)) (by decide) (fun K hK => ?_)
      refine gO Try.func29 #[.agg #[.int .u64 a0_0, .int .u64 a0_1, .int .i64 a0_2, .int .i64 a0_3], .agg #[.int .u64 a1_0, .int .u64 a1_1, .int .i64 a1_2, .int .i64 a1_3]] ?_
      with_reducible refine (jacquardref13_Leq.calls a0_0 a0_1 a0_2 a0_3 a1_0 a1_1 a1_2 a1_3 t229 _ A39.out).mono ?_
      rintro e w56 ⟨rfl, hb⟩
      refine ⟨_, rfl, ?_⟩
      have n0_ := bkB BK208.out hb
      have n1_ := bkB BK209.out hb
      have n2_ := bkB BK215.out hb
      have n3_ := bkB BK221.out hb
      have n4_ := bkB BK227.out hb
      have n5_ := bsB HB.out hb
      clear BK208
      clear BK209
      clear BK215
      clear BK221
      clear BK227
      clear HB
      have BK208 := n0_
      have BK209 := n1_
      have BK215 := n2_
      have BK221 := n3_
      have BK227 := n4_
      have HB := n5_
      clear n0_ n1_ n2_ n3_ n4_ n5_
      (try clear hb)
      (try clear hb2)
      (try clear hk)
      (try clear hi)
      refine hK.out _ _ ⟨(blk_cell BK208.out 0).trans rfl, (blk_cell BK208.out 1).trans rfl, (blk_cell BK208.out 2).trans rfl, (blk_cell BK208.out 3).trans rfl, (blk_cell BK209.out 0).trans rfl, (blk_cell BK209.out 1).trans rfl, (blk_cell BK209.out 2).trans rfl, (blk_cell BK209.out 3).trans rfl, (blk_cell BK215.out 0).trans rfl, (blk_cell BK215.out 1).trans rfl, (blk_cell BK215.out 2).trans rfl, (blk_cell BK215.out 3).trans rfl, (blk_cell BK221.out 0).trans rfl, (blk_cell BK221.out 1).trans rfl, (blk_cell BK221.out 2).trans rfl, (blk_cell BK221.out 3).trans rfl, (blk_cell BK227.out 0).trans rfl, (blk_cell BK227.out 1).trans rfl, (blk_cell BK227.out 2).trans rfl, (blk_cell BK227.out 3).trans rfl⟩ (fun hHeld => ?_)
      clear hK K
      refine norm_ (a' := ?_) ?_ ?_
      rotate_left
      ·
       show Act.put _ (some 38) _ = _
       simp only [Act.put, List.setIfInBounds_toArray, List.set_cons_zero, List.set_cons_succ, i64_w, i32_w]
       rfl
      refine pureA HT_ (i := 6) (N := some 39) (bA 24 127) ?_
      refine pureA HT_ (i := 7) (N := some 40) (bA 24 255) ?_
      refine takeA HT_ HW_ hHeld (i := 8) (N := some 41) (bA 24 511) ?_ (hy := by rintro w' ⟨s0, s1, s2, s3, s4, s5, s6, s7, s8, s9, s10, s11, s12, s13, s14, s15, s16, s17, s18, s19⟩; go_simp; with_reducible rfl)
      refine takeA HT_ HW_ hHeld (i := 9) (N := some 42) (bA 24 1023) ?_ (hy := by rintro w' ⟨s0, s1, s2, s3, s4, s5, s6, s7, s8, s9, s10, s11, s12, s13, s14, s15, s16, s17, s18, s19⟩; go_simp; with_reducible rfl)
      refine takeA HT_ HW_ hHeld (i := 10) (N := some 43) (bA 24 2047) ?_ (hy := by rintro w' ⟨s0, s1, s2, s3, s4, s5, s6, s7, s8, s9, s10, s11, s12, s13, s14, s15, s16, s17, s18, s19⟩; go_simp; with_reducible rfl)
      refine one_ (i := 11) (N := some 44) (bA 24 4095) rfl rfl (one_of HT_.out (by kernel_rfl)) (by decide) (fun K hK => ?_)
      refine gO Try.func30 #[.agg #[.int .u64 a0_0, .int .u64 a0_1, .int .i64 a0_2, .int .i64 a0_3], .agg #[.int .u64 a1_0, .int .u64 a1_1, .int .i64 a1_2, .int .i64 a1_3]] ?_
      with_reducible refine (jacquardref13_Join.calls a0_0 a0_1 a0_2 a0_3 a1_0 a1_1 a1_2 a1_3 t230 t231 t232 t233 _ A45.out).mono ?_
      rintro e w57 ⟨rfl, hb⟩
      refine ⟨_, rfl, ?_⟩
      have n0_ := bkB BK208.out hb
      have n1_ := bkB BK209.out hb
      have n2_ := bkB BK215.out hb
      have n3_ := bkB BK221.out hb
      have n4_ := bkB BK227.out hb
      have n5_ := bsB HB.out hb
      clear BK208
      clear BK209
      clear BK215
      clear BK221
      clear BK227
      clear HB
      have BK208 := n0_
      have BK209 := n1_
      have BK215 := n2_
      have BK221 := n3_
      have BK227 := n4_
      have HB := n5_
      clear n0_ n1_ n2_ n3_ n4_ n5_
      (try clear hb)
      (try clear hb2)
      (try clear hk)
      (try clear hi)
      refine hK.out _ _ ⟨(blk_cell BK208.out 0).trans rfl, (blk_cell BK208.out 1).trans rfl, (blk_cell BK208.out 2).trans rfl, (blk_cell BK208.out 3).trans rfl, (blk_cell BK209.out 0).trans rfl, (blk_cell BK209.out 1).trans rfl, (blk_cell BK209.out 2).trans rfl, (blk_cell BK209.out 3).trans rfl, (blk_cell BK215.out 0).trans rfl, (blk_cell BK215.out 1).trans rfl, (blk_cell BK215.out 2).trans rfl, (blk_cell BK215.out 3).trans rfl, (blk_cell BK221.out 0).trans rfl, (blk_cell BK221.out 1).trans rfl, (blk_cell BK221.out 2).trans rfl, (blk_cell BK221.out 3).trans rfl, (blk_cell BK227.out 0).trans rfl, (blk_cell BK227.out 1).trans rfl, (blk_cell BK227.out 2).trans rfl, (blk_cell BK227.out 3).trans rfl⟩ (fun hHeld => ?_)
      clear hK K
      refine norm_ (a' := ?_) ?_ ?_
      rotate_left
      ·
       show Act.put _ (some 44) _ = _
       simp only [Act.put, List.setIfInBounds_toArray, List.set_cons_zero, List.set_cons_succ, i64_w, i32_w]
       rfl
      refine pureA HT_ (i := 12) (N := some 45) (bA 24 8191) ?_
      refine pureA HT_ (i := 13) (N := some 46) (bA 24 16383) ?_
      refine pureA HT_ (i := 14) (N := some 47) (bA 24 32767) ?_
      refine takeA HT_ HW_ hHeld (i := 15) (N := some 48) (bA 24 65535) ?_ (hy := by rintro w' ⟨s0, s1, s2, s3, s4, s5, s6, s7, s8, s9, s10, s11, s12, s13, s14, s15, s16, s17, s18, s19⟩; go_simp; with_reducible rfl)
      refine takeA HT_ HW_ hHeld (i := 16) (N := some 49) (bA 24 131071) ?_ (hy := by rintro w' ⟨s0, s1, s2, s3, s4, s5, s6, s7, s8, s9, s10, s11, s12, s13, s14, s15, s16, s17, s18, s19⟩; go_simp; with_reducible rfl)
      refine pureA HT_ (i := 17) (N := some 50) (bA 24 262143) ?_
      refine pureA HT_ (i := 18) (N := some 51) (bA 24 524287) ?_
      refine pureA HT_ (i := 19) (N := some 52) (bA 24 1048575) ?_
      refine pureU HT_ (i := 20) (N := some 53) (bA 24 2097151) ?_
      refine pureU HT_ (i := 21) (N := some 54) (bA 24 4194303) ?_
      refine pureU HT_ (i := 22) (N := some 55) (bA 24 8388607) ?_
      refine pureA HT_ (i := 23) (N := some 56) (bA 24 16777215) ?_
      refine done_ (done_of HT_.out (by kernel_rfl)) ?_
      try go_wp2
      go_meet
      case rel => exact ⟨_, (true), (by first | rfl | (simp; done) | (simp [*]; done)), H', ⟨by first | omega | exact Nat.le_refl _⟩, ⟨bkL BK208.out⟩, ⟨bkL BK209.out⟩, ⟨bkL BK215.out⟩, ⟨bkL BK221.out⟩, ⟨bkL BK227.out⟩, ⟨bsL HB.out⟩⟩
     ·
      rw [if_neg c52] at H
      have c52b0 : (!(t216 == t222) || (!(t217 == t223) || (!(t218 == t224) || (!(t219 == t225))))) = false := by simpa using c52
      clear c52
      have H' := Aside0.mk H
      clear H
      try go_wp2
      have n0_ : Aside0 (((((w32.setCell ⟨gb227, 0, none⟩ (.int .u64 t222)).setCell ⟨gb227, 1, none⟩ (.int .u64 t223)).setCell ⟨gb227, 2, none⟩ (.int .i64 t224)).setCell ⟨gb227, 3, none⟩ (.int .i64 t225)).heap[gb208]? = some (.cells #[.int .u64 a0_0, .int .u64 a0_1, .int .i64 a0_2, .int .i64 a0_3] 24 (0, 0))) := ⟨by (with_reducible repeat (first | refine blk_drewN ?_ _ | refine blk_drew ?_ | refine blk_alloc ?_ _)); refine blk_far ?_ NB208_227.out _; (with_reducible repeat (first | refine blk_drewN ?_ _ | refine blk_drew ?_ | refine blk_alloc ?_ _)); refine blk_far ?_ NB208_227.out _; (with_reducible repeat (first | refine blk_drewN ?_ _ | refine blk_drew ?_ | refine blk_alloc ?_ _)); refine blk_far ?_ NB208_227.out _; (with_reducible repeat (first | refine blk_drewN ?_ _ | refine blk_drew ?_ | refine blk_alloc ?_ _)); refine blk_far ?_ NB208_227.out _; (with_reducible repeat (first | refine blk_drewN ?_ _ | refine blk_drew ?_ | refine blk_alloc ?_ _)); exact BK208.out⟩
      have n1_ : Aside0 (((((w32.setCell ⟨gb227, 0, none⟩ (.int .u64 t222)).setCell ⟨gb227, 1, none⟩ (.int .u64 t223)).setCell ⟨gb227, 2, none⟩ (.int .i64 t224)).setCell ⟨gb227, 3, none⟩ (.int .i64 t225)).heap[gb209]? = some (.cells #[.int .u64 a1_0, .int .u64 a1_1, .int .i64 a1_2, .int .i64 a1_3] 24 (0, 0))) := ⟨by (with_reducible repeat (first | refine blk_drewN ?_ _ | refine blk_drew ?_ | refine blk_alloc ?_ _)); refine blk_far ?_ NB209_227.out _; (with_reducible repeat (first | refine blk_drewN ?_ _ | refine blk_drew ?_ | refine blk_alloc ?_ _)); refine blk_far ?_ NB209_227.out _; (with_reducible repeat (first | refine blk_drewN ?_ _ | refine blk_drew ?_ | refine blk_alloc ?_ _)); refine blk_far ?_ NB209_227.out _; (with_reducible repeat (first | refine blk_drewN ?_ _ | refine blk_drew ?_ | refine blk_alloc ?_ _)); refine blk_far ?_ NB209_227.out _; (with_reducible repeat (first | refine blk_drewN ?_ _ | refine blk_drew ?_ | refine blk_alloc ?_ _)); exact BK209.out⟩
      have n2_ : Aside0 (((((w32.setCell ⟨gb227, 0, none⟩ (.int .u64 t222)).setCell ⟨gb227, 1, none⟩ (.int .u64 t223)).setCell ⟨gb227, 2, none⟩ (.int .i64 t224)).setCell ⟨gb227, 3, none⟩ (.int .i64 t225)).heap[gb215]? = some (.cells #[.int .u64 t211, .int .u64 t212, .int .i64 t213, .int .i64 t214] 24 (0, 0))) := ⟨by (with_reducible repeat (first | refine blk_drewN ?_ _ | refine blk_drew ?_ | refine blk_alloc ?_ _)); refine blk_far ?_ NB215_227.out _; (with_reducible repeat (first | refine blk_drewN ?_ _ | refine blk_drew ?_ | refine blk_alloc ?_ _)); refine blk_far ?_ NB215_227.out _; (with_reducible repeat (first | refine blk_drewN ?_ _ | refine blk_drew ?_ | refine blk_alloc ?_ _)); refine blk_far ?_ NB215_227.out _; (with_reducible repeat (first | refine blk_drewN ?_ _ | refine blk_drew ?_ | refine blk_alloc ?_ _)); refine blk_far ?_ NB215_227.out _; (with_reducible repeat (first | refine blk_drewN ?_ _ | refine blk_drew ?_ | refine blk_alloc ?_ _)); exact BK215.out⟩
      have n3_ : Aside0 (((((w32.setCell ⟨gb227, 0, none⟩ (.int .u64 t222)).setCell ⟨gb227, 1, none⟩ (.int .u64 t223)).setCell ⟨gb227, 2, none⟩ (.int .i64 t224)).setCell ⟨gb227, 3, none⟩ (.int .i64 t225)).heap[gb221]? = some (.cells #[.int .u64 t216, .int .u64 t217, .int .i64 t218, .int .i64 t219] 24 (0, 0))) := ⟨by (with_reducible repeat (first | refine blk_drewN ?_ _ | refine blk_drew ?_ | refine blk_alloc ?_ _)); refine blk_far ?_ NB221_227.out _; (with_reducible repeat (first | refine blk_drewN ?_ _ | refine blk_drew ?_ | refine blk_alloc ?_ _)); refine blk_far ?_ NB221_227.out _; (with_reducible repeat (first | refine blk_drewN ?_ _ | refine blk_drew ?_ | refine blk_alloc ?_ _)); refine blk_far ?_ NB221_227.out _; (with_reducible repeat (first | refine blk_drewN ?_ _ | refine blk_drew ?_ | refine blk_alloc ?_ _)); refine blk_far ?_ NB221_227.out _; (with_reducible repeat (first | refine blk_drewN ?_ _ | refine blk_drew ?_ | refine blk_alloc ?_ _)); exact BK221.out⟩
      have n4_ : Aside0 (((((w32.setCell ⟨gb227, 0, none⟩ (.int .u64 t222)).setCell ⟨gb227, 1, none⟩ (.int .u64 t223)).setCell ⟨gb227, 2, none⟩ (.int .i64 t224)).setCell ⟨gb227, 3, none⟩ (.int .i64 t225)).heap[gb227]? = some (.cells #[.int .u64 t222, .int .u64 t223, .int .i64 t224, .int .i64 t225] 24 (0, 0))) := ⟨by (with_reducible repeat (first | refine blk_drewN ?_ _ | refine blk_drew ?_ | refine blk_alloc ?_ _)); refine blk_put (cs := #[.int .u64 t222, .int .u64 t223, .int .i64 t224, .int .i64 0]) ?_ 3 _ rfl; (with_reducible repeat (first | refine blk_drewN ?_ _ | refine blk_drew ?_ | refine blk_alloc ?_ _)); refine blk_put (cs := #[.int .u64 t222, .int .u64 t223, .int .i64 0, .int .i64 0]) ?_ 2 _ rfl; (with_reducible repeat (first | refine blk_drewN ?_ _ | refine blk_drew ?_ | refine blk_alloc ?_ _)); refine blk_put (cs := #[.int .u64 t222, .int .u64 0, .int .i64 0, .int .i64 0]) ?_ 1 _ rfl; (with_reducible repeat (first | refine blk_drewN ?_ _ | refine blk_drew ?_ | refine blk_alloc ?_ _)); refine blk_put (cs := #[.int .u64 0, .int .u64 0, .int .i64 0, .int .i64 0]) ?_ 0 _ rfl; (with_reducible repeat (first | refine blk_drewN ?_ _ | refine blk_drew ?_ | refine blk_alloc ?_ _)); exact BK227.out⟩
      have n5_ : Aside0 (Below w.heap.size w ((((w32.setCell ⟨gb227, 0, none⟩ (.int .u64 t222)).setCell ⟨gb227, 1, none⟩ (.int .u64 t223)).setCell ⟨gb227, 2, none⟩ (.int .i64 t224)).setCell ⟨gb227, 3, none⟩ (.int .i64 t225))) := ⟨bsL HB.out⟩
      (try clear BK208)
      (try clear BK209)
      (try clear BK215)
      (try clear BK221)
      (try clear BK227)
      (try clear HB)
      generalize ((((w32.setCell ⟨gb227, 0, none⟩ (.int .u64 t222)).setCell ⟨gb227, 1, none⟩ (.int .u64 t223)).setCell ⟨gb227, 2, none⟩ (.int .i64 t224)).setCell ⟨gb227, 3, none⟩ (.int .i64 t225)) = w58 at n0_ n1_ n2_ n3_ n4_ n5_ ⊢
      have BK208 := n0_
      have BK209 := n1_
      have BK215 := n2_
      have BK221 := n3_
      have BK227 := n4_
      have HB := n5_
      clear n0_ n1_ n2_ n3_ n4_ n5_
      have n0_ := Aside0.mk (blk_drew BK208.out)
      have n1_ := Aside0.mk (blk_drew BK209.out)
      have n2_ := Aside0.mk (blk_drew BK215.out)
      have n3_ := Aside0.mk (blk_drew BK221.out)
      have n4_ := Aside0.mk (blk_drew BK227.out)
      have n5_ := Aside0.mk (below_drew1 HB.out)
      clear BK208
      clear BK209
      clear BK215
      clear BK221
      clear BK227
      clear HB
      have BK208 := n0_
      have BK209 := n1_
      have BK215 := n2_
      have BK221 := n3_
      have BK227 := n4_
      have HB := n5_
      clear n0_ n1_ n2_ n3_ n4_ n5_
      refine start_ (n := 24) (S := fun w' => w'.cell? ⟨gb208, 0, none⟩ = some (.int .u64 a0_0) ∧ w'.cell? ⟨gb208, 1, none⟩ = some (.int .u64 a0_1) ∧ w'.cell? ⟨gb208, 2, none⟩ = some (.int .i64 a0_2) ∧ w'.cell? ⟨gb208, 3, none⟩ = some (.int .i64 a0_3) ∧ w'.cell? ⟨gb209, 0, none⟩ = some (.int .u64 a1_0) ∧ w'.cell? ⟨gb209, 1, none⟩ = some (.int .u64 a1_1) ∧ w'.cell? ⟨gb209, 2, none⟩ = some (.int .i64 a1_2) ∧ w'.cell? ⟨gb209, 3, none⟩ = some (.int .i64 a1_3) ∧ w'.cell? ⟨gb215, 0, none⟩ = some (.int .u64 t211) ∧ w'.cell? ⟨gb215, 1, none⟩ = some (.int .u64 t212) ∧ w'.cell? ⟨gb215, 2, none⟩ = some (.int .i64 t213) ∧ w'.cell? ⟨gb215, 3, none⟩ = some (.int .i64 t214) ∧ w'.cell? ⟨gb221, 0, none⟩ = some (.int .u64 t216) ∧ w'.cell? ⟨gb221, 1, none⟩ = some (.int .u64 t217) ∧ w'.cell? ⟨gb221, 2, none⟩ = some (.int .i64 t218) ∧ w'.cell? ⟨gb221, 3, none⟩ = some (.int .i64 t219) ∧ w'.cell? ⟨gb227, 0, none⟩ = some (.int .u64 t222) ∧ w'.cell? ⟨gb227, 1, none⟩ = some (.int .u64 t223) ∧ w'.cell? ⟨gb227, 2, none⟩ = some (.int .i64 t224) ∧ w'.cell? ⟨gb227, 3, none⟩ = some (.int .i64 t225)) (ds := []) (bA 24 0) (by kernel_rfl) rfl rfl ⟨(blk_cell BK208.out 0).trans rfl, (blk_cell BK208.out 1).trans rfl, (blk_cell BK208.out 2).trans rfl, (blk_cell BK208.out 3).trans rfl, (blk_cell BK209.out 0).trans rfl, (blk_cell BK209.out 1).trans rfl, (blk_cell BK209.out 2).trans rfl, (blk_cell BK209.out 3).trans rfl, (blk_cell BK215.out 0).trans rfl, (blk_cell BK215.out 1).trans rfl, (blk_cell BK215.out 2).trans rfl, (blk_cell BK215.out 3).trans rfl, (blk_cell BK221.out 0).trans rfl, (blk_cell BK221.out 1).trans rfl, (blk_cell BK221.out 2).trans rfl, (blk_cell BK221.out 3).trans rfl, (blk_cell BK227.out 0).trans rfl, (blk_cell BK227.out 1).trans rfl, (blk_cell BK227.out 2).trans rfl, (blk_cell BK227.out 3).trans rfl⟩ (fun hHeld => ?_); refine with_tabW jacquardlaw13_IntervalLattice.tab6 jacquardlaw13_IntervalLattice.bits6 (fun HT_ HW_ => ?_)
      generalize w58.drew = w59 at BK208 BK209 BK215 BK221 BK227 HB hHeld ⊢
      refine takeA HT_ HW_ hHeld (i := 0) (N := some 33) (bA 24 1) ?_ (hy := by rintro w' ⟨s0, s1, s2, s3, s4, s5, s6, s7, s8, s9, s10, s11, s12, s13, s14, s15, s16, s17, s18, s19⟩; go_simp; with_reducible rfl)
      refine takeA HT_ HW_ hHeld (i := 1) (N := some 34) (bA 24 3) ?_ (hy := by rintro w' ⟨s0, s1, s2, s3, s4, s5, s6, s7, s8, s9, s10, s11, s12, s13, s14, s15, s16, s17, s18, s19⟩; go_simp; with_reducible rfl)
      refine takeA HT_ HW_ hHeld (i := 3) (N := some 36) (bA 24 11) ?_ (hy := by rintro w' ⟨s0, s1, s2, s3, s4, s5, s6, s7, s8, s9, s10, s11, s12, s13, s14, s15, s16, s17, s18, s19⟩; go_simp; with_reducible rfl)
      refine takeA HT_ HW_ hHeld (i := 4) (N := some 37) (bA 24 27) ?_ (hy := by rintro w' ⟨s0, s1, s2, s3, s4, s5, s6, s7, s8, s9, s10, s11, s12, s13, s14, s15, s16, s17, s18, s19⟩; go_simp; with_reducible rfl)
      refine one_ (i := 2) (N := some 35) (bA 24 31) rfl rfl (one_of HT_.out (by kernel_rfl)) (by decide) (fun K hK => ?_)
      refine gO Try.func28 #[.agg #[.int .u64 a0_0, .int .u64 a0_1, .int .i64 a0_2, .int .i64 a0_3], .agg #[.int .u64 a1_0, .int .u64 a1_1, .int .i64 a1_2, .int .i64 a1_3]] ?_
      with_reducible refine (interval_Leq.calls a0_0 a0_1 a0_2 a0_3 a1_0 a1_1 a1_2 a1_3 t228 _ A38.out).mono ?_
      rintro e w60 ⟨rfl, hb⟩
      refine ⟨_, rfl, ?_⟩
      have n0_ := bkB BK208.out hb
      have n1_ := bkB BK209.out hb
      have n2_ := bkB BK215.out hb
      have n3_ := bkB BK221.out hb
      have n4_ := bkB BK227.out hb
      have n5_ := bsB HB.out hb
      clear BK208
      clear BK209
      clear BK215
      clear BK221
      clear BK227
      clear HB
      have BK208 := n0_
      have BK209 := n1_
      have BK215 := n2_
      have BK221 := n3_
      have BK227 := n4_
      have HB := n5_
      clear n0_ n1_ n2_ n3_ n4_ n5_
      (try clear hb)
      (try clear hb2)
      (try clear hk)
      (try clear hi)
      refine hK.out _ _ ⟨(blk_cell BK208.out 0).trans rfl, (blk_cell BK208.out 1).trans rfl, (blk_cell BK208.out 2).trans rfl, (blk_cell BK208.out 3).trans rfl, (blk_cell BK209.out 0).trans rfl, (blk_cell BK209.out 1).trans rfl, (blk_cell BK209.out 2).trans rfl, (blk_cell BK209.out 3).trans rfl, (blk_cell BK215.out 0).trans rfl, (blk_cell BK215.out 1).trans rfl, (blk_cell BK215.out 2).trans rfl, (blk_cell BK215.out 3).trans rfl, (blk_cell BK221.out 0).trans rfl, (blk_cell BK221.out 1).trans rfl, (blk_cell BK221.out 2).trans rfl, (blk_cell BK221.out 3).trans rfl, (blk_cell BK227.out 0).trans rfl, (blk_cell BK227.out 1).trans rfl, (blk_cell BK227.out 2).trans rfl, (blk_cell BK227.out 3).trans rfl⟩ (fun hHeld => ?_)
      clear hK K
      refine norm_ (a' := ?_) ?_ ?_
      rotate_left
      ·
       show Act.put _ (some 35) _ = _
       simp only [Act.put, List.setIfInBounds_toArray, List.set_cons_zero, List.set_cons_succ, i64_w, i32_w]
       rfl
      refine one_ (i := 5) (N := some 38) (bA 24 63) rfl rfl (one_of HT_.out (by kernel_rfl)) (by decide) (fun K hK => ?_)
      refine gO Try.func29 #[.agg #[.int .u64 a0_0, .int .u64 a0_1, .int .i64 a0_2, .int .i64 a0_3], .agg #[.int .u64 a1_0, .int .u64 a1_1, .int .i64 a1_2, .int .i64 a1_3]] ?_
      with_reducible refine (jacquardref13_Leq.calls a0_0 a0_1 a0_2 a0_3 a1_0 a1_1 a1_2 a1_3 t229 _ A39.out).mono ?_
      rintro e w61 ⟨rfl, hb⟩
      refine ⟨_, rfl, ?_⟩
      have n0_ := bkB BK208.out hb
      have n1_ := bkB BK209.out hb
      have n2_ := bkB BK215.out hb
      have n3_ := bkB BK221.out hb
      have n4_ := bkB BK227.out hb
      have n5_ := bsB HB.out hb
      clear BK208
      clear BK209
      clear BK215
      clear BK221
      clear BK227
      clear HB
      have BK208 := n0_
      have BK209 := n1_
      have BK215 := n2_
      have BK221 := n3_
      have BK227 := n4_
      have HB := n5_
      clear n0_ n1_ n2_ n3_ n4_ n5_
      (try clear hb)
      (try clear hb2)
      (try clear hk)
      (try clear hi)
      refine hK.out _ _ ⟨(blk_cell BK208.out 0).trans rfl, (blk_cell BK208.out 1).trans rfl, (blk_cell BK208.out 2).trans rfl, (blk_cell BK208.out 3).trans rfl, (blk_cell BK209.out 0).trans rfl, (blk_cell BK209.out 1).trans rfl, (blk_cell BK209.out 2).trans rfl, (blk_cell BK209.out 3).trans rfl, (blk_cell BK215.out 0).trans rfl, (blk_cell BK215.out 1).trans rfl, (blk_cell BK215.out 2).trans rfl, (blk_cell BK215.out 3).trans rfl, (blk_cell BK221.out 0).trans rfl, (blk_cell BK221.out 1).trans rfl, (blk_cell BK221.out 2).trans rfl, (blk_cell BK221.out 3).trans rfl, (blk_cell BK227.out 0).trans rfl, (blk_cell BK227.out 1).trans rfl, (blk_cell BK227.out 2).trans rfl, (blk_cell BK227.out 3).trans rfl⟩ (fun hHeld => ?_)
      clear hK K
      refine norm_ (a' := ?_) ?_ ?_
      rotate_left
      ·
       show Act.put _ (some 38) _ = _
       simp only [Act.put, List.setIfInBounds_toArray, List.set_cons_zero, List.set_cons_succ, i64_w, i32_w]
       rfl
      refine pureA HT_ (i := 6) (N := some 39) (bA 24 127) ?_
      refine pureA HT_ (i := 7) (N := some 40) (bA 24 255) ?_
      refine takeA HT_ HW_ hHeld (i := 8) (N := some 41) (bA 24 511) ?_ (hy := by rintro w' ⟨s0, s1, s2, s3, s4, s5, s6, s7, s8, s9, s10, s11, s12, s13, s14, s15, s16, s17, s18, s19⟩; go_simp; with_reducible rfl)
      refine takeA HT_ HW_ hHeld (i := 9) (N := some 42) (bA 24 1023) ?_ (hy := by rintro w' ⟨s0, s1, s2, s3, s4, s5, s6, s7, s8, s9, s10, s11, s12, s13, s14, s15, s16, s17, s18, s19⟩; go_simp; with_reducible rfl)
      refine takeA HT_ HW_ hHeld (i := 10) (N := some 43) (bA 24 2047) ?_ (hy := by rintro w' ⟨s0, s1, s2, s3, s4, s5, s6, s7, s8, s9, s10, s11, s12, s13, s14, s15, s16, s17, s18, s19⟩; go_simp; with_reducible rfl)
      refine one_ (i := 11) (N := some 44) (bA 24 4095) rfl rfl (one_of HT_.out (by kernel_rfl)) (by decide) (fun K hK => ?_)
      refine gO Try.func30 #[.agg #[.int .u64 a0_0, .int .u64 a0_1, .int .i64 a0_2, .int .i64 a0_3], .agg #[.int .u64 a1_0, .int .u64 a1_1, .int .i64 a1_2, .int .i64 a1_3]] ?_
      with_reducible refine (jacquardref13_Join.calls a0_0 a0_1 a0_2 a0_3 a1_0 a1_1 a1_2 a1_3 t230 t231 t232 t233 _ A45.out).mono ?_
      rintro e w62 ⟨rfl, hb⟩
      refine ⟨_, rfl, ?_⟩
      have n0_ := bkB BK208.out hb
      have n1_ := bkB BK209.out hb
      have n2_ := bkB BK215.out hb
      have n3_ := bkB BK221.out hb
      have n4_ := bkB BK227.out hb
      have n5_ := bsB HB.out hb
      clear BK208
      clear BK209
      clear BK215
      clear BK221
      clear BK227
      clear HB
      have BK208 := n0_
      have BK209 := n1_
      have BK215 := n2_
      have BK221 := n3_
      have BK227 := n4_
      have HB := n5_
      clear n0_ n1_ n2_ n3_ n4_ n5_
      (try clear hb)
      (try clear hb2)
      (try clear hk)
      (try clear hi)
      refine hK.out _ _ ⟨(blk_cell BK208.out 0).trans rfl, (blk_cell BK208.out 1).trans rfl, (blk_cell BK208.out 2).trans rfl, (blk_cell BK208.out 3).trans rfl, (blk_cell BK209.out 0).trans rfl, (blk_cell BK209.out 1).trans rfl, (blk_cell BK209.out 2).trans rfl, (blk_cell BK209.out 3).trans rfl, (blk_cell BK215.out 0).trans rfl, (blk_cell BK215.out 1).trans rfl, (blk_cell BK215.out 2).trans rfl, (blk_cell BK215.out 3).trans rfl, (blk_cell BK221.out 0).trans rfl, (blk_cell BK221.out 1).trans rfl, (blk_cell BK221.out 2).trans rfl, (blk_cell BK221.out 3).trans rfl, (blk_cell BK227.out 0).trans rfl, (blk_cell BK227.out 1).trans rfl, (blk_cell BK227.out 2).trans rfl, (blk_cell BK227.out 3).trans rfl⟩ (fun hHeld => ?_)
      clear hK K
      refine norm_ (a' := ?_) ?_ ?_
      rotate_left
      ·
       show Act.put _ (some 44) _ = _
       simp only [Act.put, List.setIfInBounds_toArray, List.set_cons_zero, List.set_cons_succ, i64_w, i32_w]
       rfl
      refine pureA HT_ (i := 12) (N := some 45) (bA 24 8191) ?_
      refine pureA HT_ (i := 13) (N := some 46) (bA 24 16383) ?_
      refine pureA HT_ (i := 14) (N := some 47) (bA 24 32767) ?_
      refine takeA HT_ HW_ hHeld (i := 15) (N := some 48) (bA 24 65535) ?_ (hy := by rintro w' ⟨s0, s1, s2, s3, s4, s5, s6, s7, s8, s9, s10, s11, s12, s13, s14, s15, s16, s17, s18, s19⟩; go_simp; with_reducible rfl)
      refine takeA HT_ HW_ hHeld (i := 16) (N := some 49) (bA 24 131071) ?_ (hy := by rintro w' ⟨s0, s1, s2, s3, s4, s5, s6, s7, s8, s9, s10, s11, s12, s13, s14, s15, s16, s17, s18, s19⟩; go_simp; with_reducible rfl)
      refine pureA HT_ (i := 17) (N := some 50) (bA 24 262143) ?_
      refine pureA HT_ (i := 18) (N := some 51) (bA 24 524287) ?_
      refine pureA HT_ (i := 19) (N := some 52) (bA 24 1048575) ?_
      refine pureA HT_ (i := 20) (N := some 53) (bA 24 2097151) ?_
      refine pureA HT_ (i := 21) (N := some 54) (bA 24 4194303) ?_
      refine pureA HT_ (i := 22) (N := some 55) (bA 24 8388607) ?_
      refine pureA HT_ (i := 23) (N := some 56) (bA 24 16777215) ?_
      refine done_ (done_of HT_.out (by kernel_rfl)) ?_
      try go_wp2
      go_meet
      case rel => exact ⟨_, ((t220 != t226)), (by first | rfl | (simp; done) | (simp [*]; done)), H', ⟨by first | omega | exact Nat.le_refl _⟩, ⟨bkL BK208.out⟩, ⟨bkL BK209.out⟩, ⟨bkL BK215.out⟩, ⟨bkL BK221.out⟩, ⟨bkL BK227.out⟩, ⟨bsL HB.out⟩⟩
  case rest =>
   clear HC9
   try clear c2
   try clear p2
   try clear c3
   try clear c5
   try clear c28
   try clear c29
   try clear c30
   try clear c52
   try clear c52b0
   obtain ⟨kq, x56_8, rfl, HA, HJ8, BK208, BK209, BK215, BK221, BK227, HB⟩ := hcut
   cases kq with
   | zero => exact absurd HA.out (by simp [jacquardlaw13_IntervalLattice.j0])
   | succ kj8 =>
    have H := HA.out
    clear HA
    simp only [jacquardlaw13_IntervalLattice.j0] at H
    by_cases c63 : x56_8 = true
    ·
     subst c63
     have H1 : (some false) = some r := by rw [if_pos rfl] at H; exact H
     clear H
     have H := H1
     clear H1
     obtain rfl := Option.some.inj H
     go_wp2
     go_ret
     exact ⟨by first | rfl | (simp [errW_none, errW_some] <;> rfl) | (simp [*, errW_none, errW_some] <;> rfl), bsL HB.out⟩
    ·
     replace c63 := Bool.eq_false_iff.mpr c63
     subst c63
     have H1 : ((interval_Leq.f a0_0 a0_1 a0_2 a0_3 t211 t212 t213 t214).bind fun t234 => (if t234 = true then ((interval_Leq.f a1_0 a1_1 a1_2 a1_3 t211 t212 t213 t214).bind fun t235 => (if t235 = true then (if t220 = true then ((interval_Leq.f t216 t217 t218 t219 a0_0 a0_1 a0_2 a0_3).bind fun t236 => (if t236 = true then ((interval_Leq.f t216 t217 t218 t219 a1_0 a1_1 a1_2 a1_3).bind fun t237 => (jacquardlaw13_IntervalLattice.j1 kj8 a2 t220 (!t237) a0_0 a0_1 a0_2 a0_3 a1_0 a1_1 a1_2 a1_3 t211 t212 t213 t214 t216 t217 t218 t219)) else (jacquardlaw13_IntervalLattice.j1 kj8 a2 t220 true a0_0 a0_1 a0_2 a0_3 a1_0 a1_1 a1_2 a1_3 t211 t212 t213 t214 t216 t217 t218 t219))) else (jacquardlaw13_IntervalLattice.j1 kj8 a2 t220 false a0_0 a0_1 a0_2 a0_3 a1_0 a1_1 a1_2 a1_3 t211 t212 t213 t214 t216 t217 t218 t219)) else (jacquardlaw13_IntervalLattice.j1 kj8 a2 t220 true a0_0 a0_1 a0_2 a0_3 a1_0 a1_1 a1_2 a1_3 t211 t212 t213 t214 t216 t217 t218 t219))) else (jacquardlaw13_IntervalLattice.j1 kj8 a2 t220 true a0_0 a0_1 a0_2 a0_3 a1_0 a1_1 a1_2 a1_3 t211 t212 t213 t214 t216 t217 t218 t219))) = some r := by rw [if_neg (show ¬ (false = true) by decide)] at H; exact H
     clear H
     have H := H1
     clear H1
     have HC64 := Aside0.mk H
     clear H
     go_upto_region 8 with (fail)
     go_cut [81] (fun v81 wc => ∃ (kq : Nat) (x81_63 : Bool), v81 = .bool x81_63 ∧ Aside0 (jacquardlaw13_IntervalLattice.j1 kq a2 t220 x81_63 a0_0 a0_1 a0_2 a0_3 a1_0 a1_1 a1_2 a1_3 t211 t212 t213 t214 t216 t217 t218 t219 = some r) ∧ Aside0 (kq ≤ kj8) ∧ Aside0 (wc.heap[gb208]? = some (.cells #[.int .u64 a0_0, .int .u64 a0_1, .int .i64 a0_2, .int .i64 a0_3] 24 (0, 0))) ∧ Aside0 (wc.heap[gb209]? = some (.cells #[.int .u64 a1_0, .int .u64 a1_1, .int .i64 a1_2, .int .i64 a1_3] 24 (0, 0))) ∧ Aside0 (wc.heap[gb215]? = some (.cells #[.int .u64 t211, .int .u64 t212, .int .i64 t213, .int .i64 t214] 24 (0, 0))) ∧ Aside0 (wc.heap[gb221]? = some (.cells #[.int .u64 t216, .int .u64 t217, .int .i64 t218, .int .i64 t219] 24 (0, 0))) ∧ Aside0 (wc.heap[gb227]? = some (.cells #[.int .u64 t222, .int .u64 t223, .int .i64 t224, .int .i64 t225] 24 (0, 0))) ∧ Aside0 (Below w.heap.size w wc))
     case first =>
      have H := HC64.out
      clear HC64
      replace H := Option.bind_eq_some_iff.mp H
      obtain ⟨t234, A650, H⟩ := H
      replace H : (if t234 = true then ((interval_Leq.f a1_0 a1_1 a1_2 a1_3 t211 t212 t213 t214).bind fun t235 => (if t235 = true then (if t220 = true then ((interval_Leq.f t216 t217 t218 t219 a0_0 a0_1 a0_2 a0_3).bind fun t236 => (if t236 = true then ((interval_Leq.f t216 t217 t218 t219 a1_0 a1_1 a1_2 a1_3).bind fun t237 => (jacquardlaw13_IntervalLattice.j1 kj8 a2 t220 (!t237) a0_0 a0_1 a0_2 a0_3 a1_0 a1_1 a1_2 a1_3 t211 t212 t213 t214 t216 t217 t218 t219)) else (jacquardlaw13_IntervalLattice.j1 kj8 a2 t220 true a0_0 a0_1 a0_2 a0_3 a1_0 a1_1 a1_2 a1_3 t211 t212 t213 t214 t216 t217 t218 t219))) else (jacquardlaw13_IntervalLattice.j1 kj8 a2 t220 false a0_0 a0_1 a0_2 a0_3 a1_0 a1_1 a1_2 a1_3 t211 t212 t213 t214 t216 t217 t218 t219)) else (jacquardlaw13_IntervalLattice.j1 kj8 a2 t220 true a0_0 a0_1 a0_2 a0_3 a1_0 a1_1 a1_2 a1_3 t211 t212 t213 t214 t216 t217 t218 t219))) else (jacquardlaw13_IntervalLattice.j1 kj8 a2 t220 true a0_0 a0_1 a0_2 a0_3 a1_0 a1_1 a1_2 a1_3 t211 t212 t213 t214 t216 t217 t218 t219)) = some r := H
      have A65 := Aside0.mk A650
      clear A650
      by_cases c66 : t234 = true
      ·
       subst c66
       have H1 : ((interval_Leq.f a1_0 a1_1 a1_2 a1_3 t211 t212 t213 t214).bind fun t235 => (if t235 = true then (if t220 = true then ((interval_Leq.f t216 t217 t218 t219 a0_0 a0_1 a0_2 a0_3).bind fun t236 => (if t236 = true then ((interval_Leq.f t216 t217 t218 t219 a1_0 a1_1 a1_2 a1_3).bind fun t237 => (jacquardlaw13_IntervalLattice.j1 kj8 a2 t220 (!t237) a0_0 a0_1 a0_2 a0_3 a1_0 a1_1 a1_2 a1_3 t211 t212 t213 t214 t216 t217 t218 t219)) else (jacquardlaw13_IntervalLattice.j1 kj8 a2 t220 true a0_0 a0_1 a0_2 a0_3 a1_0 a1_1 a1_2 a1_3 t211 t212 t213 t214 t216 t217 t218 t219))) else (jacquardlaw13_IntervalLattice.j1 kj8 a2 t220 false a0_0 a0_1 a0_2 a0_3 a1_0 a1_1 a1_2 a1_3 t211 t212 t213 t214 t216 t217 t218 t219)) else (jacquardlaw13_IntervalLattice.j1 kj8 a2 t220 true a0_0 a0_1 a0_2 a0_3 a1_0 a1_1 a1_2 a1_3 t211 t212 t213 t214 t216 t217 t218 t219))) = some r := by rw [if_pos rfl] at H; exact H
       clear H
       have H := H1
       clear H1
       replace H := Option.bind_eq_some_iff.mp H
       obtain ⟨t235, A670, H⟩ := H
       replace H : (if t235 = true then (if t220 = true then ((interval_Leq.f t216 t217 t218 t219 a0_0 a0_1 a0_2 a0_3).bind fun t236 => (if t236 = true then ((interval_Leq.f t216 t217 t218 t219 a1_0 a1_1 a1_2 a1_3).bind fun t237 => (jacquardlaw13_IntervalLattice.j1 kj8 a2 t220 (!t237) a0_0 a0_1 a0_2 a0_3 a1_0 a1_1 a1_2 a1_3 t211 t212 t213 t214 t216 t217 t218 t219)) else (jacquardlaw13_IntervalLattice.j1 kj8 a2 t220 true a0_0 a0_1 a0_2 a0_3 a1_0 a1_1 a1_2 a1_3 t211 t212 t213 t214 t216 t217 t218 t219))) else (jacquardlaw13_IntervalLattice.j1 kj8 a2 t220 false a0_0 a0_1 a0_2 a0_3 a1_0 a1_1 a1_2 a1_3 t211 t212 t213 t214 t216 t217 t218 t219)) else (jacquardlaw13_IntervalLattice.j1 kj8 a2 t220 true a0_0 a0_1 a0_2 a0_3 a1_0 a1_1 a1_2 a1_3 t211 t212 t213 t214 t216 t217 t218 t219)) = some r := H
       have A67 := Aside0.mk A670
       clear A670
       by_cases c68 : t235 = true
       ·
        subst c68
        have H1 : (if t220 = true then ((interval_Leq.f t216 t217 t218 t219 a0_0 a0_1 a0_2 a0_3).bind fun t236 => (if t236 = true then ((interval_Leq.f t216 t217 t218 t219 a1_0 a1_1 a1_2 a1_3).bind fun t237 => (jacquardlaw13_IntervalLattice.j1 kj8 a2 t220 (!t237) a0_0 a0_1 a0_2 a0_3 a1_0 a1_1 a1_2 a1_3 t211 t212 t213 t214 t216 t217 t218 t219)) else (jacquardlaw13_IntervalLattice.j1 kj8 a2 t220 true a0_0 a0_1 a0_2 a0_3 a1_0 a1_1 a1_2 a1_3 t211 t212 t213 t214 t216 t217 t218 t219))) else (jacquardlaw13_IntervalLattice.j1 kj8 a2 t220 false a0_0 a0_1 a0_2 a0_3 a1_0 a1_1 a1_2 a1_3 t211 t212 t213 t214 t216 t217 t218 t219)) = some r := by rw [if_pos rfl] at H; exact H
        clear H
        have H := H1
        clear H1
        by_cases c69 : t220 = true
        ·
         subst c69
         have H1 : ((interval_Leq.f t216 t217 t218 t219 a0_0 a0_1 a0_2 a0_3).bind fun t236 => (if t236 = true then ((interval_Leq.f t216 t217 t218 t219 a1_0 a1_1 a1_2 a1_3).bind fun t237 => (jacquardlaw13_IntervalLattice.j1 kj8 a2 true (!t237) a0_0 a0_1 a0_2 a0_3 a1_0 a1_1 a1_2 a1_3 t211 t212 t213 t214 t216 t217 t218 t219)) else (jacquardlaw13_IntervalLattice.j1 kj8 a2 true true a0_0 a0_1 a0_2 a0_3 a1_0 a1_1 a1_2 a1_3 t211 t212 t213 t214 t216 t217 t218 t219))) = some r := by rw [if_pos rfl] at H; exact H
         clear H
         have H := H1
         clear H1
         replace H := Option.bind_eq_some_iff.mp H
         obtain ⟨t236, A700, H⟩ := H
         replace H : (if t236 = true then ((interval_Leq.f t216 t217 t218 t219 a1_0 a1_1 a1_2 a1_3).bind fun t237 => (jacquardlaw13_IntervalLattice.j1 kj8 a2 true (!t237) a0_0 a0_1 a0_2 a0_3 a1_0 a1_1 a1_2 a1_3 t211 t212 t213 t214 t216 t217 t218 t219)) else (jacquardlaw13_IntervalLattice.j1 kj8 a2 true true a0_0 a0_1 a0_2 a0_3 a1_0 a1_1 a1_2 a1_3 t211 t212 t213 t214 t216 t217 t218 t219)) = some r := H
         have A70 := Aside0.mk A700
         clear A700
         by_cases c71 : t236 = true
         ·
          subst c71
          have H1 : ((interval_Leq.f t216 t217 t218 t219 a1_0 a1_1 a1_2 a1_3).bind fun t237 => (jacquardlaw13_IntervalLattice.j1 kj8 a2 true (!t237) a0_0 a0_1 a0_2 a0_3 a1_0 a1_1 a1_2 a1_3 t211 t212 t213 t214 t216 t217 t218 t219)) = some r := by rw [if_pos rfl] at H; exact H
          clear H
          have H := H1
          clear H1
          replace H := Option.bind_eq_some_iff.mp H
          obtain ⟨t237, A720, H⟩ := H
          replace H : (jacquardlaw13_IntervalLattice.j1 kj8 a2 true (!t237) a0_0 a0_1 a0_2 a0_3 a1_0 a1_1 a1_2 a1_3 t211 t212 t213 t214 t216 t217 t218 t219) = some r := H
          have A72 := Aside0.mk A720
          clear A720
          have H' := Aside0.mk H
          clear H
          have hnb73 := NB208_209.out
          have hnc73 := NB209_208.out
          have hnb74 := NB208_215.out
          have hnc74 := NB215_208.out
          have hnb75 := NB208_221.out
          have hnc75 := NB221_208.out
          have hnb76 := NB208_227.out
          have hnc76 := NB227_208.out
          have hcz77_0 : wc.cell? ⟨gb208, 0, none⟩ = some (.int .u64 a0_0) := (blk_cell BK208.out 0).trans rfl
          have hcz77_1 : wc.cell? ⟨gb208, 1, none⟩ = some (.int .u64 a0_1) := (blk_cell BK208.out 1).trans rfl
          have hcz77_2 : wc.cell? ⟨gb208, 2, none⟩ = some (.int .i64 a0_2) := (blk_cell BK208.out 2).trans rfl
          have hcz77_3 : wc.cell? ⟨gb208, 3, none⟩ = some (.int .i64 a0_3) := (blk_cell BK208.out 3).trans rfl
          have hfz77_0 := blk_frozen BK208.out 0
          have hfz77_1 := blk_frozen BK208.out 1
          have hfz77_2 := blk_frozen BK208.out 2
          have hfz77_3 := blk_frozen BK208.out 3
          have hnb78 := NB215_209.out
          have hnc78 := NB209_215.out
          have hnb79 := NB215_221.out
          have hnc79 := NB221_215.out
          have hnb80 := NB215_227.out
          have hnc80 := NB227_215.out
          have hcz81_0 : wc.cell? ⟨gb215, 0, none⟩ = some (.int .u64 t211) := (blk_cell BK215.out 0).trans rfl
          have hcz81_1 : wc.cell? ⟨gb215, 1, none⟩ = some (.int .u64 t212) := (blk_cell BK215.out 1).trans rfl
          have hcz81_2 : wc.cell? ⟨gb215, 2, none⟩ = some (.int .i64 t213) := (blk_cell BK215.out 2).trans rfl
          have hcz81_3 : wc.cell? ⟨gb215, 3, none⟩ = some (.int .i64 t214) := (blk_cell BK215.out 3).trans rfl
          have hfz81_0 := blk_frozen BK215.out 0
          have hfz81_1 := blk_frozen BK215.out 1
          have hfz81_2 := blk_frozen BK215.out 2
          have hfz81_3 := blk_frozen BK215.out 3
          go_wp2_with (first | ((with_reducible refine gate_callee (f := 28) rfl ?_); refine gL (some 59) Try.func28 #[.agg #[.int .u64 a0_0, .int .u64 a0_1, .int .i64 a0_2, .int .i64 a0_3], .agg #[.int .u64 t211, .int .u64 t212, .int .i64 t213, .int .i64 t214]] ?_; (with_reducible refine (interval_Leq.calls a0_0 a0_1 a0_2 a0_3 t211 t212 t213 t214 true _ A65.out).mono ?_); rintro e w82 ⟨rfl, hb⟩; refine ⟨_, rfl, ?_⟩; replace BK208 := bkB BK208.out hb; replace BK209 := bkB BK209.out hb; replace BK215 := bkB BK215.out hb; replace BK221 := bkB BK221.out hb; replace BK227 := bkB BK227.out hb; replace HB := bsB HB.out hb; (try clear hb); have hnb83 := NB209_221.out; have hnc83 := NB221_209.out; have hnb84 := NB209_227.out; have hnc84 := NB227_209.out; have hcz85_0 : w82.cell? ⟨gb209, 0, none⟩ = some (.int .u64 a1_0) := (blk_cell BK209.out 0).trans rfl; have hcz85_1 : w82.cell? ⟨gb209, 1, none⟩ = some (.int .u64 a1_1) := (blk_cell BK209.out 1).trans rfl; have hcz85_2 : w82.cell? ⟨gb209, 2, none⟩ = some (.int .i64 a1_2) := (blk_cell BK209.out 2).trans rfl; have hcz85_3 : w82.cell? ⟨gb209, 3, none⟩ = some (.int .i64 a1_3) := (blk_cell BK209.out 3).trans rfl; have hfz85_0 := blk_frozen BK209.out 0; have hfz85_1 := blk_frozen BK209.out 1; have hfz85_2 := blk_frozen BK209.out 2; have hfz85_3 := blk_frozen BK209.out 3; have hcz86_0 : w82.cell? ⟨gb215, 0, none⟩ = some (.int .u64 t211) := (blk_cell BK215.out 0).trans rfl; have hcz86_1 : w82.cell? ⟨gb215, 1, none⟩ = some (.int .u64 t212) := (blk_cell BK215.out 1).trans rfl; have hcz86_2 : w82.cell? ⟨gb215, 2, none⟩ = some (.int .i64 t213) := (blk_cell BK215.out 2).trans rfl; have hcz86_3 : w82.cell? ⟨gb215, 3, none⟩ = some (.int .i64 t214) := (blk_cell BK215.out 3).trans rfl; have hfz86_0 := blk_frozen BK215.out 0; have hfz86_1 := blk_frozen BK215.out 1; have hfz86_2 := blk_frozen BK215.out 2; have hfz86_3 := blk_frozen BK215.out 3) | (go_at_call 28; (with_reducible refine (interval_Leq.calls a1_0 a1_1 a1_2 a1_3 t211 t212 t213 t214 true _ A67.out).mono ?_); rintro e w87 ⟨rfl, hb⟩; replace BK208 := bkB BK208.out hb; replace BK209 := bkB BK209.out hb; replace BK215 := bkB BK215.out hb; replace BK221 := bkB BK221.out hb; replace BK227 := bkB BK227.out hb; replace HB := bsB HB.out hb; (try clear hb); have hnb88 := NB221_227.out; have hnc88 := NB227_221.out; have hcz89_0 : w87.cell? ⟨gb221, 0, none⟩ = some (.int .u64 t216) := (blk_cell BK221.out 0).trans rfl; have hcz89_1 : w87.cell? ⟨gb221, 1, none⟩ = some (.int .u64 t217) := (blk_cell BK221.out 1).trans rfl; have hcz89_2 : w87.cell? ⟨gb221, 2, none⟩ = some (.int .i64 t218) := (blk_cell BK221.out 2).trans rfl; have hcz89_3 : w87.cell? ⟨gb221, 3, none⟩ = some (.int .i64 t219) := (blk_cell BK221.out 3).trans rfl; have hfz89_0 := blk_frozen BK221.out 0; have hfz89_1 := blk_frozen BK221.out 1; have hfz89_2 := blk_frozen BK221.out 2; have hfz89_3 := blk_frozen BK221.out 3; have hcz90_0 : w87.cell? ⟨gb208, 0, none⟩ = some (.int .u64 a0_0) := (blk_cell BK208.out 0).trans rfl; have hcz90_1 : w87.cell? ⟨gb208, 1, none⟩ = some (.int .u64 a0_1) := (blk_cell BK208.out 1).trans rfl; have hcz90_2 : w87.cell? ⟨gb208, 2, none⟩ = some (.int .i64 a0_2) := (blk_cell BK208.out 2).trans rfl; have hcz90_3 : w87.cell? ⟨gb208, 3, none⟩ = some (.int .i64 a0_3) := (blk_cell BK208.out 3).trans rfl; have hfz90_0 := blk_frozen BK208.out 0; have hfz90_1 := blk_frozen BK208.out 1; have hfz90_2 := blk_frozen BK208.out 2; have hfz90_3 := blk_frozen BK208.out 3) | (go_at_call 28; (with_reducible refine (interval_Leq.calls t216 t217 t218 t219 a0_0 a0_1 a0_2 a0_3 true _ A70.out).mono ?_); rintro e w91 ⟨rfl, hb⟩; replace BK208 := bkB BK208.out hb; replace BK209 := bkB BK209.out hb; replace BK215 := bkB BK215.out hb; replace BK221 := bkB BK221.out hb; replace BK227 := bkB BK227.out hb; replace HB := bsB HB.out hb; (try clear hb); have hcz92_0 : w91.cell? ⟨gb221, 0, none⟩ = some (.int .u64 t216) := (blk_cell BK221.out 0).trans rfl; have hcz92_1 : w91.cell? ⟨gb221, 1, none⟩ = some (.int .u64 t217) := (blk_cell BK221.out 1).trans rfl; have hcz92_2 : w91.cell? ⟨gb221, 2, none⟩ = some (.int .i64 t218) := (blk_cell BK221.out 2).trans rfl; have hcz92_3 : w91.cell? ⟨gb221, 3, none⟩ = some (.int .i64 t219) := (blk_cell BK221.out 3).trans rfl; have hfz92_0 := blk_frozen BK221.out 0; have hfz92_1 := blk_frozen BK221.out 1; have hfz92_2 := blk_frozen BK221.out 2; have hfz92_3 := blk_frozen BK221.out 3; have hcz93_0 : w91.cell? ⟨gb209, 0, none⟩ = some (.int .u64 a1_0) := (blk_cell BK209.out 0).trans rfl; have hcz93_1 : w91.cell? ⟨gb209, 1, none⟩ = some (.int .u64 a1_1) := (blk_cell BK209.out 1).trans rfl; have hcz93_2 : w91.cell? ⟨gb209, 2, none⟩ = some (.int .i64 a1_2) := (blk_cell BK209.out 2).trans rfl; have hcz93_3 : w91.cell? ⟨gb209, 3, none⟩ = some (.int .i64 a1_3) := (blk_cell BK209.out 3).trans rfl; have hfz93_0 := blk_frozen BK209.out 0; have hfz93_1 := blk_frozen BK209.out 1; have hfz93_2 := blk_frozen BK209.out 2; have hfz93_3 := blk_frozen BK209.out 3) | (go_at_call 28; (with_reducible refine (interval_Leq.calls t216 t217 t218 t219 a1_0 a1_1 a1_2 a1_3 t237 _ A72.out).mono ?_); rintro e w94 ⟨rfl, hb⟩; replace BK208 := bkB BK208.out hb; replace BK209 := bkB BK209.out hb; replace BK215 := bkB BK215.out hb; replace BK221 := bkB BK221.out hb; replace BK227 := bkB BK227.out hb; replace HB := bsB HB.out hb; (try clear hb)))
          go_meet
          case rel => exact ⟨_, (!t237), (by first | rfl | (simp; done) | (simp [*]; done)), H', ⟨by have := HJ8.out; first | omega | exact Nat.le_refl _⟩, ⟨bkL BK208.out⟩, ⟨bkL BK209.out⟩, ⟨bkL BK215.out⟩, ⟨bkL BK221.out⟩, ⟨bkL BK227.out⟩, ⟨bsL HB.out⟩⟩
         ·
          replace c71 := Bool.eq_false_iff.mpr c71
          subst c71
          have H1 : (jacquardlaw13_IntervalLattice.j1 kj8 a2 true true a0_0 a0_1 a0_2 a0_3 a1_0 a1_1 a1_2 a1_3 t211 t212 t213 t214 t216 t217 t218 t219) = some r := by rw [if_neg (show ¬ (false = true) by decide)] at H; exact H
          clear H
          have H := H1
          clear H1
          have H' := Aside0.mk H
          clear H
          have hnb95 := NB208_209.out
          have hnc95 := NB209_208.out
          have hnb96 := NB208_215.out
          have hnc96 := NB215_208.out
          have hnb97 := NB208_221.out
          have hnc97 := NB221_208.out
          have hnb98 := NB208_227.out
          have hnc98 := NB227_208.out
          have hcz99_0 : wc.cell? ⟨gb208, 0, none⟩ = some (.int .u64 a0_0) := (blk_cell BK208.out 0).trans rfl
          have hcz99_1 : wc.cell? ⟨gb208, 1, none⟩ = some (.int .u64 a0_1) := (blk_cell BK208.out 1).trans rfl
          have hcz99_2 : wc.cell? ⟨gb208, 2, none⟩ = some (.int .i64 a0_2) := (blk_cell BK208.out 2).trans rfl
          have hcz99_3 : wc.cell? ⟨gb208, 3, none⟩ = some (.int .i64 a0_3) := (blk_cell BK208.out 3).trans rfl
          have hfz99_0 := blk_frozen BK208.out 0
          have hfz99_1 := blk_frozen BK208.out 1
          have hfz99_2 := blk_frozen BK208.out 2
          have hfz99_3 := blk_frozen BK208.out 3
          have hnb100 := NB215_209.out
          have hnc100 := NB209_215.out
          have hnb101 := NB215_221.out
          have hnc101 := NB221_215.out
          have hnb102 := NB215_227.out
          have hnc102 := NB227_215.out
          have hcz103_0 : wc.cell? ⟨gb215, 0, none⟩ = some (.int .u64 t211) := (blk_cell BK215.out 0).trans rfl
          have hcz103_1 : wc.cell? ⟨gb215, 1, none⟩ = some (.int .u64 t212) := (blk_cell BK215.out 1).trans rfl
          have hcz103_2 : wc.cell? ⟨gb215, 2, none⟩ = some (.int .i64 t213) := (blk_cell BK215.out 2).trans rfl
          have hcz103_3 : wc.cell? ⟨gb215, 3, none⟩ = some (.int .i64 t214) := (blk_cell BK215.out 3).trans rfl
          have hfz103_0 := blk_frozen BK215.out 0
          have hfz103_1 := blk_frozen BK215.out 1
          have hfz103_2 := blk_frozen BK215.out 2
          have hfz103_3 := blk_frozen BK215.out 3
          go_wp2_with (first | ((with_reducible refine gate_callee (f := 28) rfl ?_); refine gL (some 59) Try.func28 #[.agg #[.int .u64 a0_0, .int .u64 a0_1, .int .i64 a0_2, .int .i64 a0_3], .agg #[.int .u64 t211, .int .u64 t212, .int .i64 t213, .int .i64 t214]] ?_; (with_reducible refine (interval_Leq.calls a0_0 a0_1 a0_2 a0_3 t211 t212 t213 t214 true _ A65.out).mono ?_); rintro e w104 ⟨rfl, hb⟩; refine ⟨_, rfl, ?_⟩; replace BK208 := bkB BK208.out hb; replace BK209 := bkB BK209.out hb; replace BK215 := bkB BK215.out hb; replace BK221 := bkB BK221.out hb; replace BK227 := bkB BK227.out hb; replace HB := bsB HB.out hb; (try clear hb); have hnb105 := NB209_221.out; have hnc105 := NB221_209.out; have hnb106 := NB209_227.out; have hnc106 := NB227_209.out; have hcz107_0 : w104.cell? ⟨gb209, 0, none⟩ = some (.int .u64 a1_0) := (blk_cell BK209.out 0).trans rfl; have hcz107_1 : w104.cell? ⟨gb209, 1, none⟩ = some (.int .u64 a1_1) := (blk_cell BK209.out 1).trans rfl; have hcz107_2 : w104.cell? ⟨gb209, 2, none⟩ = some (.int .i64 a1_2) := (blk_cell BK209.out 2).trans rfl; have hcz107_3 : w104.cell? ⟨gb209, 3, none⟩ = some (.int .i64 a1_3) := (blk_cell BK209.out 3).trans rfl; have hfz107_0 := blk_frozen BK209.out 0; have hfz107_1 := blk_frozen BK209.out 1; have hfz107_2 := blk_frozen BK209.out 2; have hfz107_3 := blk_frozen BK209.out 3; have hcz108_0 : w104.cell? ⟨gb215, 0, none⟩ = some (.int .u64 t211) := (blk_cell BK215.out 0).trans rfl; have hcz108_1 : w104.cell? ⟨gb215, 1, none⟩ = some (.int .u64 t212) := (blk_cell BK215.out 1).trans rfl; have hcz108_2 : w104.cell? ⟨gb215, 2, none⟩ = some (.int .i64 t213) := (blk_cell BK215.out 2).trans rfl; have hcz108_3 : w104.cell? ⟨gb215, 3, none⟩ = some (.int .i64 t214) := (blk_cell BK215.out 3).trans rfl; have hfz108_0 := blk_frozen BK215.out 0; have hfz108_1 := blk_frozen BK215.out 1; have hfz108_2 := blk_frozen BK215.out 2; have hfz108_3 := blk_frozen BK215.out 3) | (go_at_call 28; (with_reducible refine (interval_Leq.calls a1_0 a1_1 a1_2 a1_3 t211 t212 t213 t214 true _ A67.out).mono ?_); rintro e w109 ⟨rfl, hb⟩; replace BK208 := bkB BK208.out hb; replace BK209 := bkB BK209.out hb; replace BK215 := bkB BK215.out hb; replace BK221 := bkB BK221.out hb; replace BK227 := bkB BK227.out hb; replace HB := bsB HB.out hb; (try clear hb); have hnb110 := NB221_227.out; have hnc110 := NB227_221.out; have hcz111_0 : w109.cell? ⟨gb221, 0, none⟩ = some (.int .u64 t216) := (blk_cell BK221.out 0).trans rfl; have hcz111_1 : w109.cell? ⟨gb221, 1, none⟩ = some (.int .u64 t217) := (blk_cell BK221.out 1).trans rfl; have hcz111_2 : w109.cell? ⟨gb221, 2, none⟩ = some (.int .i64 t218) := (blk_cell BK221.out 2).trans rfl; have hcz111_3 : w109.cell? ⟨gb221, 3, none⟩ = some (.int .i64 t219) := (blk_cell BK221.out 3).trans rfl; have hfz111_0 := blk_frozen BK221.out 0; have hfz111_1 := blk_frozen BK221.out 1; have hfz111_2 := blk_frozen BK221.out 2; have hfz111_3 := blk_frozen BK221.out 3; have hcz112_0 : w109.cell? ⟨gb208, 0, none⟩ = some (.int .u64 a0_0) := (blk_cell BK208.out 0).trans rfl; have hcz112_1 : w109.cell? ⟨gb208, 1, none⟩ = some (.int .u64 a0_1) := (blk_cell BK208.out 1).trans rfl; have hcz112_2 : w109.cell? ⟨gb208, 2, none⟩ = some (.int .i64 a0_2) := (blk_cell BK208.out 2).trans rfl; have hcz112_3 : w109.cell? ⟨gb208, 3, none⟩ = some (.int .i64 a0_3) := (blk_cell BK208.out 3).trans rfl; have hfz112_0 := blk_frozen BK208.out 0; have hfz112_1 := blk_frozen BK208.out 1; have hfz112_2 := blk_frozen BK208.out 2; have hfz112_3 := blk_frozen BK208.out 3) | (go_at_call 28; (with_reducible refine (interval_Leq.calls t216 t217 t218 t219 a0_0 a0_1 a0_2 a0_3 false _ A70.out).mono ?_); rintro e w113 ⟨rfl, hb⟩; replace BK208 := bkB BK208.out hb; replace BK209 := bkB BK209.out hb; replace BK215 := bkB BK215.out hb; replace BK221 := bkB BK221.out hb; replace BK227 := bkB BK227.out hb; replace HB := bsB HB.out hb; (try clear hb)))
          go_meet
          case rel => exact ⟨_, (true), (by first | rfl | (simp; done) | (simp [*]; done)), H', ⟨by have := HJ8.out; first | omega | exact Nat.le_refl _⟩, ⟨bkL BK208.out⟩, ⟨bkL BK209.out⟩, ⟨bkL BK215.out⟩, ⟨bkL BK221.out⟩, ⟨bkL BK227.out⟩, ⟨bsL HB.out⟩⟩
        ·
         replace c69 := Bool.eq_false_iff.mpr c69
         subst c69
         have H1 : (jacquardlaw13_IntervalLattice.j1 kj8 a2 false false a0_0 a0_1 a0_2 a0_3 a1_0 a1_1 a1_2 a1_3 t211 t212 t213 t214 t216 t217 t218 t219) = some r := by rw [if_neg (show ¬ (false = true) by decide)] at H; exact H
         clear H
         have H := H1
         clear H1
         have H' := Aside0.mk H
         clear H
         have hnb114 := NB208_209.out
         have hnc114 := NB209_208.out
         have hnb115 := NB208_215.out
         have hnc115 := NB215_208.out
         have hnb116 := NB208_221.out
         have hnc116 := NB221_208.out
         have hnb117 := NB208_227.out
         have hnc117 := NB227_208.out
         have hcz118_0 : wc.cell? ⟨gb208, 0, none⟩ = some (.int .u64 a0_0) := (blk_cell BK208.out 0).trans rfl
         have hcz118_1 : wc.cell? ⟨gb208, 1, none⟩ = some (.int .u64 a0_1) := (blk_cell BK208.out 1).trans rfl
         have hcz118_2 : wc.cell? ⟨gb208, 2, none⟩ = some (.int .i64 a0_2) := (blk_cell BK208.out 2).trans rfl
         have hcz118_3 : wc.cell? ⟨gb208, 3, none⟩ = some (.int .i64 a0_3) := (blk_cell BK208.out 3).trans rfl
         have hfz118_0 := blk_frozen BK208.out 0
         have hfz118_1 := blk_frozen BK208.out 1
         have hfz118_2 := blk_frozen BK208.out 2
         have hfz118_3 := blk_frozen BK208.out 3
         have hnb119 := NB215_209.out
         have hnc119 := NB209_215.out
         have hnb120 := NB215_221.out
         have hnc120 := NB221_215.out
         have hnb121 := NB215_227.out
         have hnc121 := NB227_215.out
         have hcz122_0 : wc.cell? ⟨gb215, 0, none⟩ = some (.int .u64 t211) := (blk_cell BK215.out 0).trans rfl
         have hcz122_1 : wc.cell? ⟨gb215, 1, none⟩ = some (.int .u64 t212) := (blk_cell BK215.out 1).trans rfl
         have hcz122_2 : wc.cell? ⟨gb215, 2, none⟩ = some (.int .i64 t213) := (blk_cell BK215.out 2).trans rfl
         have hcz122_3 : wc.cell? ⟨gb215, 3, none⟩ = some (.int .i64 t214) := (blk_cell BK215.out 3).trans rfl
         have hfz122_0 := blk_frozen BK215.out 0
         have hfz122_1 := blk_frozen BK215.out 1
         have hfz122_2 := blk_frozen BK215.out 2
         have hfz122_3 := blk_frozen BK215.out 3
         go_wp2_with (first | ((with_reducible refine gate_callee (f := 28) rfl ?_); refine gL (some 59) Try.func28 #[.agg #[.int .u64 a0_0, .int .u64 a0_1, .int .i64 a0_2, .int .i64 a0_3], .agg #[.int .u64 t211, .int .u64 t212, .int .i64 t213, .int .i64 t214]] ?_; (with_reducible refine (interval_Leq.calls a0_0 a0_1 a0_2 a0_3 t211 t212 t213 t214 true _ A65.out).mono ?_); rintro e w123 ⟨rfl, hb⟩; refine ⟨_, rfl, ?_⟩; replace BK208 := bkB BK208.out hb; replace BK209 := bkB BK209.out hb; replace BK215 := bkB BK215.out hb; replace BK221 := bkB BK221.out hb; replace BK227 := bkB BK227.out hb; replace HB := bsB HB.out hb; (try clear hb); have hnb124 := NB209_221.out; have hnc124 := NB221_209.out; have hnb125 := NB209_227.out; have hnc125 := NB227_209.out; have hcz126_0 : w123.cell? ⟨gb209, 0, none⟩ = some (.int .u64 a1_0) := (blk_cell BK209.out 0).trans rfl; have hcz126_1 : w123.cell? ⟨gb209, 1, none⟩ = some (.int .u64 a1_1) := (blk_cell BK209.out 1).trans rfl; have hcz126_2 : w123.cell? ⟨gb209, 2, none⟩ = some (.int .i64 a1_2) := (blk_cell BK209.out 2).trans rfl; have hcz126_3 : w123.cell? ⟨gb209, 3, none⟩ = some (.int .i64 a1_3) := (blk_cell BK209.out 3).trans rfl; have hfz126_0 := blk_frozen BK209.out 0; have hfz126_1 := blk_frozen BK209.out 1; have hfz126_2 := blk_frozen BK209.out 2; have hfz126_3 := blk_frozen BK209.out 3; have hcz127_0 : w123.cell? ⟨gb215, 0, none⟩ = some (.int .u64 t211) := (blk_cell BK215.out 0).trans rfl; have hcz127_1 : w123.cell? ⟨gb215, 1, none⟩ = some (.int .u64 t212) := (blk_cell BK215.out 1).trans rfl; have hcz127_2 : w123.cell? ⟨gb215, 2, none⟩ = some (.int .i64 t213) := (blk_cell BK215.out 2).trans rfl; have hcz127_3 : w123.cell? ⟨gb215, 3, none⟩ = some (.int .i64 t214) := (blk_cell BK215.out 3).trans rfl; have hfz127_0 := blk_frozen BK215.out 0; have hfz127_1 := blk_frozen BK215.out 1; have hfz127_2 := blk_frozen BK215.out 2; have hfz127_3 := blk_frozen BK215.out 3) | (go_at_call 28; (with_reducible refine (interval_Leq.calls a1_0 a1_1 a1_2 a1_3 t211 t212 t213 t214 true _ A67.out).mono ?_); rintro e w128 ⟨rfl, hb⟩; replace BK208 := bkB BK208.out hb; replace BK209 := bkB BK209.out hb; replace BK215 := bkB BK215.out hb; replace BK221 := bkB BK221.out hb; replace BK227 := bkB BK227.out hb; replace HB := bsB HB.out hb; (try clear hb)))
         go_meet
         case rel => exact ⟨_, (false), (by first | rfl | (simp; done) | (simp [*]; done)), H', ⟨by have := HJ8.out; first | omega | exact Nat.le_refl _⟩, ⟨bkL BK208.out⟩, ⟨bkL BK209.out⟩, ⟨bkL BK215.out⟩, ⟨bkL BK221.out⟩, ⟨bkL BK227.out⟩, ⟨bsL HB.out⟩⟩
       ·
        replace c68 := Bool.eq_false_iff.mpr c68
        subst c68
        have H1 : (jacquardlaw13_IntervalLattice.j1 kj8 a2 t220 true a0_0 a0_1 a0_2 a0_3 a1_0 a1_1 a1_2 a1_3 t211 t212 t213 t214 t216 t217 t218 t219) = some r := by rw [if_neg (show ¬ (false = true) by decide)] at H; exact H
        clear H
        have H := H1
        clear H1
        have H' := Aside0.mk H
        clear H
        have hnb129 := NB208_209.out
        have hnc129 := NB209_208.out
        have hnb130 := NB208_215.out
        have hnc130 := NB215_208.out
        have hnb131 := NB208_221.out
        have hnc131 := NB221_208.out
        have hnb132 := NB208_227.out
        have hnc132 := NB227_208.out
        have hcz133_0 : wc.cell? ⟨gb208, 0, none⟩ = some (.int .u64 a0_0) := (blk_cell BK208.out 0).trans rfl
        have hcz133_1 : wc.cell? ⟨gb208, 1, none⟩ = some (.int .u64 a0_1) := (blk_cell BK208.out 1).trans rfl
        have hcz133_2 : wc.cell? ⟨gb208, 2, none⟩ = some (.int .i64 a0_2) := (blk_cell BK208.out 2).trans rfl
        have hcz133_3 : wc.cell? ⟨gb208, 3, none⟩ = some (.int .i64 a0_3) := (blk_cell BK208.out 3).trans rfl
        have hfz133_0 := blk_frozen BK208.out 0
        have hfz133_1 := blk_frozen BK208.out 1
        have hfz133_2 := blk_frozen BK208.out 2
        have hfz133_3 := blk_frozen BK208.out 3
        have hnb134 := NB215_209.out
        have hnc134 := NB209_215.out
        have hnb135 := NB215_221.out
        have hnc135 := NB221_215.out
        have hnb136 := NB215_227.out
        have hnc136 := NB227_215.out
        have hcz137_0 : wc.cell? ⟨gb215, 0, none⟩ = some (.int .u64 t211) := (blk_cell BK215.out 0).trans rfl
        have hcz137_1 : wc.cell? ⟨gb215, 1, none⟩ = some (.int .u64 t212) := (blk_cell BK215.out 1).trans rfl
        have hcz137_2 : wc.cell? ⟨gb215, 2, none⟩ = some (.int .i64 t213) := (blk_cell BK215.out 2).trans rfl
        have hcz137_3 : wc.cell? ⟨gb215, 3, none⟩ = some (.int .i64 t214) := (blk_cell BK215.out 3).trans rfl
        have hfz137_0 := blk_frozen BK215.out 0
        have hfz137_1 := blk_frozen BK215.out 1
        have hfz137_2 := blk_frozen BK215.out 2
        have hfz137_3 := blk_frozen BK215.out 3
        go_wp2_with (first | ((with_reducible refine gate_callee (f := 28) rfl ?_); refine gL (some 59) Try.func28 #[.agg #[.int .u64 a0_0, .int .u64 a0_1, .int .i64 a0_2, .int .i64 a0_3], .agg #[.int .u64 t211, .int .u64 t212, .int .i64 t213, .int .i64 t214]] ?_; (with_reducible refine (interval_Leq.calls a0_0 a0_1 a0_2 a0_3 t211 t212 t213 t214 true _ A65.out).mono ?_); rintro e w138 ⟨rfl, hb⟩; refine ⟨_, rfl, ?_⟩; replace BK208 := bkB BK208.out hb; replace BK209 := bkB BK209.out hb; replace BK215 := bkB BK215.out hb; replace BK221 := bkB BK221.out hb; replace BK227 := bkB BK227.out hb; replace HB := bsB HB.out hb; (try clear hb); have hnb139 := NB209_221.out; have hnc139 := NB221_209.out; have hnb140 := NB209_227.out; have hnc140 := NB227_209.out; have hcz141_0 : w138.cell? ⟨gb209, 0, none⟩ = some (.int .u64 a1_0) := (blk_cell BK209.out 0).trans rfl; have hcz141_1 : w138.cell? ⟨gb209, 1, none⟩ = some (.int .u64 a1_1) := (blk_cell BK209.out 1).trans rfl; have hcz141_2 : w138.cell? ⟨gb209, 2, none⟩ = some (.int .i64 a1_2) := (blk_cell BK209.out 2).trans rfl; have hcz141_3 : w138.cell? ⟨gb209, 3, none⟩ = some (.int .i64 a1_3) := (blk_cell BK209.out 3).trans rfl; have hfz141_0 := blk_frozen BK209.out 0; have hfz141_1 := blk_frozen BK209.out 1; have hfz141_2 := blk_frozen BK209.out 2; have hfz141_3 := blk_frozen BK209.out 3; have hcz142_0 : w138.cell? ⟨gb215, 0, none⟩ = some (.int .u64 t211) := (blk_cell BK215.out 0).trans rfl; have hcz142_1 : w138.cell? ⟨gb215, 1, none⟩ = some (.int .u64 t212) := (blk_cell BK215.out 1).trans rfl; have hcz142_2 : w138.cell? ⟨gb215, 2, none⟩ = some (.int .i64 t213) := (blk_cell BK215.out 2).trans rfl; have hcz142_3 : w138.cell? ⟨gb215, 3, none⟩ = some (.int .i64 t214) := (blk_cell BK215.out 3).trans rfl; have hfz142_0 := blk_frozen BK215.out 0; have hfz142_1 := blk_frozen BK215.out 1; have hfz142_2 := blk_frozen BK215.out 2; have hfz142_3 := blk_frozen BK215.out 3) | (go_at_call 28; (with_reducible refine (interval_Leq.calls a1_0 a1_1 a1_2 a1_3 t211 t212 t213 t214 false _ A67.out).mono ?_); rintro e w143 ⟨rfl, hb⟩; replace BK208 := bkB BK208.out hb; replace BK209 := bkB BK209.out hb; replace BK215 := bkB BK215.out hb; replace BK221 := bkB BK221.out hb; replace BK227 := bkB BK227.out hb; replace HB := bsB HB.out hb; (try clear hb)))
        go_meet
        case rel => exact ⟨_, (true), (by first | rfl | (simp; done) | (simp [*]; done)), H', ⟨by have := HJ8.out; first | omega | exact Nat.le_refl _⟩, ⟨bkL BK208.out⟩, ⟨bkL BK209.out⟩, ⟨bkL BK215.out⟩, ⟨bkL BK221.out⟩, ⟨bkL BK227.out⟩, ⟨bsL HB.out⟩⟩
      ·
       replace c66 := Bool.eq_false_iff.mpr c66
       subst c66
       have H1 : (jacquardlaw13_IntervalLattice.j1 kj8 a2 t220 true a0_0 a0_1 a0_2 a0_3 a1_0 a1_1 a1_2 a1_3 t211 t212 t213 t214 t216 t217 t218 t219) = some r := by rw [if_neg (show ¬ (false = true) by decide)] at H; exact H
       clear H
       have H := H1
       clear H1
       have H' := Aside0.mk H
       clear H
       have hnb144 := NB208_209.out
       have hnc144 := NB209_208.out
       have hnb145 := NB208_215.out
       have hnc145 := NB215_208.out
       have hnb146 := NB208_221.out
       have hnc146 := NB221_208.out
       have hnb147 := NB208_227.out
       have hnc147 := NB227_208.out
       have hcz148_0 : wc.cell? ⟨gb208, 0, none⟩ = some (.int .u64 a0_0) := (blk_cell BK208.out 0).trans rfl
       have hcz148_1 : wc.cell? ⟨gb208, 1, none⟩ = some (.int .u64 a0_1) := (blk_cell BK208.out 1).trans rfl
       have hcz148_2 : wc.cell? ⟨gb208, 2, none⟩ = some (.int .i64 a0_2) := (blk_cell BK208.out 2).trans rfl
       have hcz148_3 : wc.cell? ⟨gb208, 3, none⟩ = some (.int .i64 a0_3) := (blk_cell BK208.out 3).trans rfl
       have hfz148_0 := blk_frozen BK208.out 0
       have hfz148_1 := blk_frozen BK208.out 1
       have hfz148_2 := blk_frozen BK208.out 2
       have hfz148_3 := blk_frozen BK208.out 3
       have hnb149 := NB215_209.out
       have hnc149 := NB209_215.out
       have hnb150 := NB215_221.out
       have hnc150 := NB221_215.out
       have hnb151 := NB215_227.out
       have hnc151 := NB227_215.out
       have hcz152_0 : wc.cell? ⟨gb215, 0, none⟩ = some (.int .u64 t211) := (blk_cell BK215.out 0).trans rfl
       have hcz152_1 : wc.cell? ⟨gb215, 1, none⟩ = some (.int .u64 t212) := (blk_cell BK215.out 1).trans rfl
       have hcz152_2 : wc.cell? ⟨gb215, 2, none⟩ = some (.int .i64 t213) := (blk_cell BK215.out 2).trans rfl
       have hcz152_3 : wc.cell? ⟨gb215, 3, none⟩ = some (.int .i64 t214) := (blk_cell BK215.out 3).trans rfl
       have hfz152_0 := blk_frozen BK215.out 0
       have hfz152_1 := blk_frozen BK215.out 1
       have hfz152_2 := blk_frozen BK215.out 2
       have hfz152_3 := blk_frozen BK215.out 3
       go_wp2_with (first | ((with_reducible refine gate_callee (f := 28) rfl ?_); refine gL (some 59) Try.func28 #[.agg #[.int .u64 a0_0, .int .u64 a0_1, .int .i64 a0_2, .int .i64 a0_3], .agg #[.int .u64 t211, .int .u64 t212, .int .i64 t213, .int .i64 t214]] ?_; (with_reducible refine (interval_Leq.calls a0_0 a0_1 a0_2 a0_3 t211 t212 t213 t214 false _ A65.out).mono ?_); rintro e w153 ⟨rfl, hb⟩; refine ⟨_, rfl, ?_⟩; replace BK208 := bkB BK208.out hb; replace BK209 := bkB BK209.out hb; replace BK215 := bkB BK215.out hb; replace BK221 := bkB BK221.out hb; replace BK227 := bkB BK227.out hb; replace HB := bsB HB.out hb; (try clear hb)))
       go_meet
       case rel => exact ⟨_, (true), (by first | rfl | (simp; done) | (simp [*]; done)), H', ⟨by have := HJ8.out; first | omega | exact Nat.le_refl _⟩, ⟨bkL BK208.out⟩, ⟨bkL BK209.out⟩, ⟨bkL BK215.out⟩, ⟨bkL BK221.out⟩, ⟨bkL BK227.out⟩, ⟨bsL HB.out⟩⟩
     case rest =>
      clear HC64
      try clear c1
      try clear c2
      try clear p2
      try clear c3
      try clear c5
      try clear c6
      try clear c7
      try clear c8
      try clear c9
      try clear c10
      try clear c11
      try clear c12
      try clear c13
      try clear c14
      try clear c15
      try clear c28
      try clear c29
      try clear c30
      try clear c52
      try clear c52b0
      try clear c63
      try clear c66
      try clear c68
      try clear c69
      try clear c71
      try clear c73
      try clear c74
      try clear c75
      try clear c76
      try clear c78
      try clear c79
      try clear c80
      try clear c83
      try clear c84
      try clear c88
      try clear c95
      try clear c96
      try clear c97
      try clear c98
      try clear c100
      try clear c101
      try clear c102
      try clear c105
      try clear c106
      try clear c110
      try clear c114
      try clear c115
      try clear c116
      try clear c117
      try clear c119
      try clear c120
      try clear c121
      try clear c124
      try clear c125
      try clear c129
      try clear c130
      try clear c131
      try clear c132
      try clear c134
      try clear c135
      try clear c136
      try clear c139
      try clear c140
      try clear c144
      try clear c145
      try clear c146
      try clear c147
      try clear c149
      try clear c150
      try clear c151
      try clear hcz103_0
      try clear hcz103_1
      try clear hcz103_2
      try clear hcz103_3
      try clear hcz107_0
      try clear hcz107_1
      try clear hcz107_2
      try clear hcz107_3
      try clear hcz108_0
      try clear hcz108_1
      try clear hcz108_2
      try clear hcz108_3
      try clear hcz111_0
      try clear hcz111_1
      try clear hcz111_2
      try clear hcz111_3
      try clear hcz112_0
      try clear hcz112_1
      try clear hcz112_2
      try clear hcz112_3
      try clear hcz118_0
      try clear hcz118_1
      try clear hcz118_2
      try clear hcz118_3
      try clear hcz122_0
      try clear hcz122_1
      try clear hcz122_2
      try clear hcz122_3
      try clear hcz126_0
      try clear hcz126_1
      try clear hcz126_2
      try clear hcz126_3
      try clear hcz127_0
      try clear hcz127_1
      try clear hcz127_2
      try clear hcz127_3
      try clear hcz133_0
      try clear hcz133_1
      try clear hcz133_2
      try clear hcz133_3
      try clear hcz137_0
      try clear hcz137_1
      try clear hcz137_2
      try clear hcz137_3
      try clear hcz141_0
      try clear hcz141_1
      try clear hcz141_2
      try clear hcz141_3
      try clear hcz142_0
      try clear hcz142_1
      try clear hcz142_2
      try clear hcz142_3
      try clear hcz148_0
      try clear hcz148_1
      try clear hcz148_2
      try clear hcz148_3
      try clear hcz152_0
      try clear hcz152_1
      try clear hcz152_2
      try clear hcz152_3
      try clear hcz77_0
      try clear hcz77_1
      try clear hcz77_2
      try clear hcz77_3
      try clear hcz81_0
      try clear hcz81_1
      try clear hcz81_2
      try clear hcz81_3
      try clear hcz85_0
      try clear hcz85_1
      try clear hcz85_2
      try clear hcz85_3
      try clear hcz86_0
      try clear hcz86_1
      try clear hcz86_2
      try clear hcz86_3
      try clear hcz89_0
      try clear hcz89_1
      try clear hcz89_2
      try clear hcz89_3
      try clear hcz90_0
      try clear hcz90_1
      try clear hcz90_2
      try clear hcz90_3
      try clear hcz92_0
      try clear hcz92_1
      try clear hcz92_2
      try clear hcz92_3
      try clear hcz93_0
      try clear hcz93_1
      try clear hcz93_2
      try clear hcz93_3
      try clear hcz99_0
      try clear hcz99_1
      try clear hcz99_2
      try clear hcz99_3
      try clear hfz103_0
      try clear hfz103_1
      try clear hfz103_2
      try clear hfz103_3
      try clear hfz107_0
      try clear hfz107_1
      try clear hfz107_2
      try clear hfz107_3
      try clear hfz108_0
      try clear hfz108_1
      try clear hfz108_2
      try clear hfz108_3
      try clear hfz111_0
      try clear hfz111_1
      try clear hfz111_2
      try clear hfz111_3
      try clear hfz112_0
      try clear hfz112_1
      try clear hfz112_2
      try clear hfz112_3
      try clear hfz118_0
      try clear hfz118_1
      try clear hfz118_2
      try clear hfz118_3
      try clear hfz122_0
      try clear hfz122_1
      try clear hfz122_2
      try clear hfz122_3
      try clear hfz126_0
      try clear hfz126_1
      try clear hfz126_2
      try clear hfz126_3
      try clear hfz127_0
      try clear hfz127_1
      try clear hfz127_2
      try clear hfz127_3
      try clear hfz133_0
      try clear hfz133_1
      try clear hfz133_2
      try clear hfz133_3
      try clear hfz137_0
      try clear hfz137_1
      try clear hfz137_2
      try clear hfz137_3
      try clear hfz141_0
      try clear hfz141_1
      try clear hfz141_2
      try clear hfz141_3
      try clear hfz142_0
      try clear hfz142_1
      try clear hfz142_2
      try clear hfz142_3
      try clear hfz148_0
      try clear hfz148_1
      try clear hfz148_2
      try clear hfz148_3
      try clear hfz152_0
      try clear hfz152_1
      try clear hfz152_2
      try clear hfz152_3
      try clear hfz77_0
      try clear hfz77_1
      try clear hfz77_2
      try clear hfz77_3
      try clear hfz81_0
      try clear hfz81_1
      try clear hfz81_2
      try clear hfz81_3
      try clear hfz85_0
      try clear hfz85_1
      try clear hfz85_2
      try clear hfz85_3
      try clear hfz86_0
      try clear hfz86_1
      try clear hfz86_2
      try clear hfz86_3
      try clear hfz89_0
      try clear hfz89_1
      try clear hfz89_2
      try clear hfz89_3
      try clear hfz90_0
      try clear hfz90_1
      try clear hfz90_2
      try clear hfz90_3
      try clear hfz92_0
      try clear hfz92_1
      try clear hfz92_2
      try clear hfz92_3
      try clear hfz93_0
      try clear hfz93_1
      try clear hfz93_2
      try clear hfz93_3
      try clear hfz99_0
      try clear hfz99_1
      try clear hfz99_2
      try clear hfz99_3
      try clear p2
      obtain ⟨kq, x81_63, rfl, HA, HJ63, BK208, BK209, BK215, BK221, BK227, HB⟩ := hcut
      cases kq with
      | zero => exact absurd HA.out (by simp [jacquardlaw13_IntervalLattice.j1])
      | succ kj63 =>
       have H := HA.out
       clear HA
       simp only [jacquardlaw13_IntervalLattice.j1] at H
       by_cases c154 : x81_63 = true
       ·
        subst c154
        have H1 : (some false) = some r := by rw [if_pos rfl] at H; exact H
        clear H
        have H := H1
        clear H1
        obtain rfl := Option.some.inj H
        go_wp2
        go_ret
        exact ⟨by first | rfl | (simp [errW_none, errW_some] <;> rfl) | (simp [*, errW_none, errW_some] <;> rfl), bsL HB.out⟩
       ·
        replace c154 := Bool.eq_false_iff.mpr c154
        subst c154
        have H1 : ((some (([1, 4, 64] : List Int) : List Int)).bind fun y238 => (jacquardlaw13_IntervalLattice.l0 kj63 a2 t220 y238 (y238.length : Int) 0 a0_0 a0_1 a0_2 a0_3 a1_0 a1_1 a1_2 a1_3 t211 t212 t213 t214 t216 t217 t218 t219)) = some r := by rw [if_neg (show ¬ (false = true) by decide)] at H; exact H
        clear H
        have H := H1
        clear H1
        obtain ⟨y238, hy238⟩ : ∃ y_ : List Int, y_ = (([1, 4, 64] : List Int)) := ⟨_, rfl⟩
        replace H : (jacquardlaw13_IntervalLattice.l0 kj63 a2 t220 y238 (y238.length : Int) 0 a0_0 a0_1 a0_2 a0_3 a1_0 a1_1 a1_2 a1_3 t211 t212 t213 t214 t216 t217 t218 t219) = some r := by first | (rw [hy238]; with_reducible exact H) | (have H2_ := (Option.bind_some _ _).symm.trans H; rw [hy238]; with_reducible exact H2_) | (have H2_ := (Option.bind_some _ _).symm.trans H; with_reducible exact H2_) | with_reducible exact H | (rw [hy238]; exact H) | exact H
        have Ny238 := Aside0.mk hy238
        clear hy238
        have H' := Aside0.mk H
        clear H
        go_wp2_with (first | ((with_reducible refine gate_dst (N := 82) rfl ?_); refine Kd.R_lit (Kd.int .i64) _ 3 ?hg (N := 82) ?hd (xs := ([1, 4, 64] : List Int)) (inner := [.int .i64 1, .int .i64 4, .int .i64 64]) (ok := fun _ => True) (okp := fun _ => True) ?hr ?hp (fun _ hk => hk) trivial (Below.refl _ _) (Nat.le_refl _) (by simp) ?_; (case hd => rfl); (case hg => rfl); (case hr => first | (go_simp; done) | (go_simp; rfl)); (case hp => exact (Reps.one (show Kd.M (Kd.int .i64) _ _ _ 1 [.int .i64 1] from rfl) (Reps.one (show Kd.M (Kd.int .i64) _ _ _ 4 [.int .i64 4] from rfl) (Reps.one (show Kd.M (Kd.int .i64) _ _ _ 64 [.int .i64 64] from rfl) (Reps.none _ _))))); intro v239 w155 ho156 hb hg_ hnew_; clear hg_ hnew_; (first | rw [← Ny238.out] at ho156 | (simp only [Int.reduceToNat] at ho156; rw [← Ny238.out] at ho156)); have n0_ := Aside0.mk (Kd.R_lower ho156 (below_size (by repeat (first | (with_reducible first | exact HB.out | apply below_alloc | apply pw_below_drewN | apply below_drew1 | refine below_set ?_ GE208.out | refine below_set ?_ GE209.out | refine below_set ?_ GE215.out | refine below_set ?_ GE221.out | refine below_set ?_ GE227.out) | exact HB.out)))); have n1_ := bkB BK208.out hb; have n2_ := bkB BK209.out hb; have n3_ := bkB BK215.out hb; have n4_ := bkB BK221.out hb; have n5_ := bkB BK227.out hb; have n6_ := bsB HB.out hb; clear BK208; clear BK209; clear BK215; clear BK221; clear BK227; clear HB; have HO240 := n0_; have BK208 := n1_; have BK209 := n2_; have BK215 := n3_; have BK221 := n4_; have BK227 := n5_; have HB := n6_; clear n0_ n1_ n2_ n3_ n4_ n5_ n6_; clear hb ho156; obtain ⟨Ao157, co157, eo157⟩ := Kd.R_slice HO240.out; subst eo157))
        go_loopg [84] kj63 (fun kq v84 w' => ∃ (x84_3 : Int), v84 = .int .i64 x84_3 ∧ Aside0 (jacquardlaw13_IntervalLattice.l0 kq a2 t220 y238 (y238.length : Int) x84_3 a0_0 a0_1 a0_2 a0_3 a1_0 a1_1 a1_2 a1_3 t211 t212 t213 t214 t216 t217 t218 t219 = some r) ∧ Aside0 (kq ≤ kj63) ∧ Aside0 (Kd.R (Kd.int .i64) 3 w' w.heap.size (fun _ => True) (.slice Ao157 y238.length co157) y238) ∧ Aside0 (w'.heap[gb208]? = some (.cells #[.int .u64 a0_0, .int .u64 a0_1, .int .i64 a0_2, .int .i64 a0_3] 24 (0, 0))) ∧ Aside0 (w'.heap[gb209]? = some (.cells #[.int .u64 a1_0, .int .u64 a1_1, .int .i64 a1_2, .int .i64 a1_3] 24 (0, 0))) ∧ Aside0 (w'.heap[gb215]? = some (.cells #[.int .u64 t211, .int .u64 t212, .int .i64 t213, .int .i64 t214] 24 (0, 0))) ∧ Aside0 (w'.heap[gb221]? = some (.cells #[.int .u64 t216, .int .u64 t217, .int .i64 t218, .int .i64 t219] 24 (0, 0))) ∧ Aside0 (w'.heap[gb227]? = some (.cells #[.int .u64 t222, .int .u64 t223, .int .i64 t224, .int .i64 t225] 24 (0, 0))) ∧ Aside0 (Below w.heap.size w w'))
        case atStart => exact ⟨(0), (by first | rfl | (simp; done) | (simp [*]; done)), H', ⟨Nat.le_refl _⟩, ⟨by (with_reducible repeat (first | apply Kd.R_alloc | apply Kd.R_drewN | apply Kd.R_drew)); exact HO240.out⟩, ⟨bkL BK208.out⟩, ⟨bkL BK209.out⟩, ⟨bkL BK215.out⟩, ⟨bkL BK221.out⟩, ⟨bkL BK227.out⟩, ⟨bsL HB.out⟩⟩
        case round =>
         clear H'
         try clear c1
         try clear c2
         try clear p2
         try clear c3
         try clear c5
         try clear c6
         try clear c7
         try clear c8
         try clear c9
         try clear c10
         try clear c11
         try clear c12
         try clear c13
         try clear c14
         try clear c15
         try clear c28
         try clear c29
         try clear c30
         try clear c52
         try clear c52b0
         try clear c63
         try clear c66
         try clear c68
         try clear c69
         try clear c71
         try clear c73
         try clear c74
         try clear c75
         try clear c76
         try clear c78
         try clear c79
         try clear c80
         try clear c83
         try clear c84
         try clear c88
         try clear c95
         try clear c96
         try clear c97
         try clear c98
         try clear c100
         try clear c101
         try clear c102
         try clear c105
         try clear c106
         try clear c110
         try clear c114
         try clear c115
         try clear c116
         try clear c117
         try clear c119
         try clear c120
         try clear c121
         try clear c124
         try clear c125
         try clear c129
         try clear c130
         try clear c131
         try clear c132
         try clear c134
         try clear c135
         try clear c136
         try clear c139
         try clear c140
         try clear c144
         try clear c145
         try clear c146
         try clear c147
         try clear c149
         try clear c150
         try clear c151
         try clear c154
         try clear hcz103_0
         try clear hcz103_1
         try clear hcz103_2
         try clear hcz103_3
         try clear hcz107_0
         try clear hcz107_1
         try clear hcz107_2
         try clear hcz107_3
         try clear hcz108_0
         try clear hcz108_1
         try clear hcz108_2
         try clear hcz108_3
         try clear hcz111_0
         try clear hcz111_1
         try clear hcz111_2
         try clear hcz111_3
         try clear hcz112_0
         try clear hcz112_1
         try clear hcz112_2
         try clear hcz112_3
         try clear hcz118_0
         try clear hcz118_1
         try clear hcz118_2
         try clear hcz118_3
         try clear hcz122_0
         try clear hcz122_1
         try clear hcz122_2
         try clear hcz122_3
         try clear hcz126_0
         try clear hcz126_1
         try clear hcz126_2
         try clear hcz126_3
         try clear hcz127_0
         try clear hcz127_1
         try clear hcz127_2
         try clear hcz127_3
         try clear hcz133_0
         try clear hcz133_1
         try clear hcz133_2
         try clear hcz133_3
         try clear hcz137_0
         try clear hcz137_1
         try clear hcz137_2
         try clear hcz137_3
         try clear hcz141_0
         try clear hcz141_1
         try clear hcz141_2
         try clear hcz141_3
         try clear hcz142_0
         try clear hcz142_1
         try clear hcz142_2
         try clear hcz142_3
         try clear hcz148_0
         try clear hcz148_1
         try clear hcz148_2
         try clear hcz148_3
         try clear hcz152_0
         try clear hcz152_1
         try clear hcz152_2
         try clear hcz152_3
         try clear hcz77_0
         try clear hcz77_1
         try clear hcz77_2
         try clear hcz77_3
         try clear hcz81_0
         try clear hcz81_1
         try clear hcz81_2
         try clear hcz81_3
         try clear hcz85_0
         try clear hcz85_1
         try clear hcz85_2
         try clear hcz85_3
         try clear hcz86_0
         try clear hcz86_1
         try clear hcz86_2
         try clear hcz86_3
         try clear hcz89_0
         try clear hcz89_1
         try clear hcz89_2
         try clear hcz89_3
         try clear hcz90_0
         try clear hcz90_1
         try clear hcz90_2
         try clear hcz90_3
         try clear hcz92_0
         try clear hcz92_1
         try clear hcz92_2
         try clear hcz92_3
         try clear hcz93_0
         try clear hcz93_1
         try clear hcz93_2
         try clear hcz93_3
         try clear hcz99_0
         try clear hcz99_1
         try clear hcz99_2
         try clear hcz99_3
         try clear hfz103_0
         try clear hfz103_1
         try clear hfz103_2
         try clear hfz103_3
         try clear hfz107_0
         try clear hfz107_1
         try clear hfz107_2
         try clear hfz107_3
         try clear hfz108_0
         try clear hfz108_1
         try clear hfz108_2
         try clear hfz108_3
         try clear hfz111_0
         try clear hfz111_1
         try clear hfz111_2
         try clear hfz111_3
         try clear hfz112_0
         try clear hfz112_1
         try clear hfz112_2
         try clear hfz112_3
         try clear hfz118_0
         try clear hfz118_1
         try clear hfz118_2
         try clear hfz118_3
         try clear hfz122_0
         try clear hfz122_1
         try clear hfz122_2
         try clear hfz122_3
         try clear hfz126_0
         try clear hfz126_1
         try clear hfz126_2
         try clear hfz126_3
         try clear hfz127_0
         try clear hfz127_1
         try clear hfz127_2
         try clear hfz127_3
         try clear hfz133_0
         try clear hfz133_1
         try clear hfz133_2
         try clear hfz133_3
         try clear hfz137_0
         try clear hfz137_1
         try clear hfz137_2
         try clear hfz137_3
         try clear hfz141_0
         try clear hfz141_1
         try clear hfz141_2
         try clear hfz141_3
         try clear hfz142_0
         try clear hfz142_1
         try clear hfz142_2
         try clear hfz142_3
         try clear hfz148_0
         try clear hfz148_1
         try clear hfz148_2
         try clear hfz148_3
         try clear hfz152_0
         try clear hfz152_1
         try clear hfz152_2
         try clear hfz152_3
         try clear hfz77_0
         try clear hfz77_1
         try clear hfz77_2
         try clear hfz77_3
         try clear hfz81_0
         try clear hfz81_1
         try clear hfz81_2
         try clear hfz81_3
         try clear hfz85_0
         try clear hfz85_1
         try clear hfz85_2
         try clear hfz85_3
         try clear hfz86_0
         try clear hfz86_1
         try clear hfz86_2
         try clear hfz86_3
         try clear hfz89_0
         try clear hfz89_1
         try clear hfz89_2
         try clear hfz89_3
         try clear hfz90_0
         try clear hfz90_1
         try clear hfz90_2
         try clear hfz90_3
         try clear hfz92_0
         try clear hfz92_1
         try clear hfz92_2
         try clear hfz92_3
         try clear hfz93_0
         try clear hfz93_1
         try clear hfz93_2
         try clear hfz93_3
         try clear hfz99_0
         try clear hfz99_1
         try clear hfz99_2
         try clear hfz99_3
         try clear p2
         obtain ⟨x84_3, rfl, HA, HK3, HO_82, BK208, BK209, BK215, BK221, BK227, HB⟩ := hrel
         cases gk with
         | zero => exact absurd HA.out (by simp [jacquardlaw13_IntervalLattice.l0])
         | succ k3 =>
          have H := HA.out
          clear HA
          simp only [jacquardlaw13_IntervalLattice.l0] at H
          by_cases c158 : x84_3 < (y238.length : Int)
          ·
           rw [if_pos c158] at H
           have c158b0 : decide (x84_3 < (y238.length : Int)) = true := decide_eq_true c158
           clear c158
           by_cases c159 : 0 ≤ x84_3
           ·
            rw [if_pos c159] at H
            have c159b0 : decide (0 ≤ x84_3) = true := decide_eq_true c159
            clear c159
            by_cases c160 : x84_3 < (y238.length : Int)
            ·
             rw [if_pos c160] at H
             have c160b0 : decide (x84_3 < (y238.length : Int)) = true := decide_eq_true c160
             clear c160
             replace H := Option.bind_eq_some_iff.mp H
             obtain ⟨t242, A1610, H⟩ := H
             replace H : ((interval_Contains.f (rd y238 x84_3) a1_0 a1_1 a1_2 a1_3 a2).bind fun t243 => (if t242 = true then ((interval_Contains.f (rd y238 x84_3) t211 t212 t213 t214 a2).bind fun t244 => (if t244 = true then (if t220 = true then ((interval_Contains.f (rd y238 x84_3) t216 t217 t218 t219 a2).bind fun t245 => (if (t243 != t245) = true then (some false) else (jacquardlaw13_IntervalLattice.l0 k3 a2 t220 y238 (y238.length : Int) (wrap64 (x84_3 + 1)) a0_0 a0_1 a0_2 a0_3 a1_0 a1_1 a1_2 a1_3 t211 t212 t213 t214 t216 t217 t218 t219))) else (if (t243 != false) = true then (some false) else (jacquardlaw13_IntervalLattice.l0 k3 a2 t220 y238 (y238.length : Int) (wrap64 (x84_3 + 1)) a0_0 a0_1 a0_2 a0_3 a1_0 a1_1 a1_2 a1_3 t211 t212 t213 t214 t216 t217 t218 t219))) else (some false))) else (if t243 = true then ((interval_Contains.f (rd y238 x84_3) t211 t212 t213 t214 a2).bind fun t246 => (if t246 = true then (jacquardlaw13_IntervalLattice.l0 k3 a2 t220 y238 (y238.length : Int) (wrap64 (x84_3 + 1)) a0_0 a0_1 a0_2 a0_3 a1_0 a1_1 a1_2 a1_3 t211 t212 t213 t214 t216 t217 t218 t219) else (some false))) else (jacquardlaw13_IntervalLattice.l0 k3 a2 t220 y238 (y238.length : Int) (wrap64 (x84_3 + 1)) a0_0 a0_1 a0_2 a0_3 a1_0 a1_1 a1_2 a1_3 t211 t212 t213 t214 t216 t217 t218 t219)))) = some r := H
             have A161 := Aside0.mk A1610
             clear A1610
             replace H := Option.bind_eq_some_iff.mp H
             obtain ⟨t243, A1620, H⟩ := H
             replace H : (if t242 = true then ((interval_Contains.f (rd y238 x84_3) t211 t212 t213 t214 a2).bind fun t244 => (if t244 = true then (if t220 = true then ((interval_Contains.f (rd y238 x84_3) t216 t217 t218 t219 a2).bind fun t245 => (if (t243 != t245) = true then (some false) else (jacquardlaw13_IntervalLattice.l0 k3 a2 t220 y238 (y238.length : Int) (wrap64 (x84_3 + 1)) a0_0 a0_1 a0_2 a0_3 a1_0 a1_1 a1_2 a1_3 t211 t212 t213 t214 t216 t217 t218 t219))) else (if (t243 != false) = true then (some false) else (jacquardlaw13_IntervalLattice.l0 k3 a2 t220 y238 (y238.length : Int) (wrap64 (x84_3 + 1)) a0_0 a0_1 a0_2 a0_3 a1_0 a1_1 a1_2 a1_3 t211 t212 t213 t214 t216 t217 t218 t219))) else (some false))) else (if t243 = true then ((interval_Contains.f (rd y238 x84_3) t211 t212 t213 t214 a2).bind fun t246 => (if t246 = true then (jacquardlaw13_IntervalLattice.l0 k3 a2 t220 y238 (y238.length : Int) (wrap64 (x84_3 + 1)) a0_0 a0_1 a0_2 a0_3 a1_0 a1_1 a1_2 a1_3 t211 t212 t213 t214 t216 t217 t218 t219) else (some false))) else (jacquardlaw13_IntervalLattice.l0 k3 a2 t220 y238 (y238.length : Int) (wrap64 (x84_3 + 1)) a0_0 a0_1 a0_2 a0_3 a1_0 a1_1 a1_2 a1_3 t211 t212 t213 t214 t216 t217 t218 t219))) = some r := H
             have A162 := Aside0.mk A1620
             clear A1620
             by_cases c163 : t242 = true
             ·
              subst c163
              have H1 : ((interval_Contains.f (rd y238 x84_3) t211 t212 t213 t214 a2).bind fun t244 => (if t244 = true then (if t220 = true then ((interval_Contains.f (rd y238 x84_3) t216 t217 t218 t219 a2).bind fun t245 => (if (t243 != t245) = true then (some false) else (jacquardlaw13_IntervalLattice.l0 k3 a2 t220 y238 (y238.length : Int) (wrap64 (x84_3 + 1)) a0_0 a0_1 a0_2 a0_3 a1_0 a1_1 a1_2 a1_3 t211 t212 t213 t214 t216 t217 t218 t219))) else (if (t243 != false) = true then (some false) else (jacquardlaw13_IntervalLattice.l0 k3 a2 t220 y238 (y238.length : Int) (wrap64 (x84_3 + 1)) a0_0 a0_1 a0_2 a0_3 a1_0 a1_1 a1_2 a1_3 t211 t212 t213 t214 t216 t217 t218 t219))) else (some false))) = some r := by rw [if_pos rfl] at H; exact H
              clear H
              have H := H1
              clear H1
              replace H := Option.bind_eq_some_iff.mp H
              obtain ⟨t244, A1640, H⟩ := H
              replace H : (if t244 = true then (if t220 = true then ((interval_Contains.f (rd y238 x84_3) t216 t217 t218 t219 a2).bind fun t245 => (if (t243 != t245) = true then (some false) else (jacquardlaw13_IntervalLattice.l0 k3 a2 t220 y238 (y238.length : Int) (wrap64 (x84_3 + 1)) a0_0 a0_1 a0_2 a0_3 a1_0 a1_1 a1_2 a1_3 t211 t212 t213 t214 t216 t217 t218 t219))) else (if (t243 != false) = true then (some false) else (jacquardlaw13_IntervalLattice.l0 k3 a2 t220 y238 (y238.length : Int) (wrap64 (x84_3 + 1)) a0_0 a0_1 a0_2 a0_3 a1_0 a1_1 a1_2 a1_3 t211 t212 t213 t214 t216 t217 t218 t219))) else (some false)) = some r := H
              have A164 := Aside0.mk A1640
              clear A1640
              by_cases c165 : t244 = true
              ·
               subst c165
               have H1 : (if t220 = true then ((interval_Contains.f (rd y238 x84_3) t216 t217 t218 t219 a2).bind fun t245 => (if (t243 != t245) = true then (some false) else (jacquardlaw13_IntervalLattice.l0 k3 a2 t220 y238 (y238.length : Int) (wrap64 (x84_3 + 1)) a0_0 a0_1 a0_2 a0_3 a1_0 a1_1 a1_2 a1_3 t211 t212 t213 t214 t216 t217 t218 t219))) else (if (t243 != false) = true then (some false) else (jacquardlaw13_IntervalLattice.l0 k3 a2 t220 y238 (y238.length : Int) (wrap64 (x84_3 + 1)) a0_0 a0_1 a0_2 a0_3 a1_0 a1_1 a1_2 a1_3 t211 t212 t213 t214 t216 t217 t218 t219))) = some r := by rw [if_pos rfl] at H; exact H
               clear H
               have H := H1
               clear H1
               by_cases c166 : t220 = true
               ·
                subst c166
                have H1 : ((interval_Contains.f (rd y238 x84_3) t216 t217 t218 t219 a2).bind fun t245 => (if (t243 != t245) = true then (some false) else (jacquardlaw13_IntervalLattice.l0 k3 a2 true y238 (y238.length : Int) (wrap64 (x84_3 + 1)) a0_0 a0_1 a0_2 a0_3 a1_0 a1_1 a1_2 a1_3 t211 t212 t213 t214 t216 t217 t218 t219))) = some r := by rw [if_pos rfl] at H; exact H
                clear H
                have H := H1
                clear H1
                replace H := Option.bind_eq_some_iff.mp H
                obtain ⟨t245, A1670, H⟩ := H
                replace H : (if (t243 != t245) = true then (some false) else (jacquardlaw13_IntervalLattice.l0 k3 a2 true y238 (y238.length : Int) (wrap64 (x84_3 + 1)) a0_0 a0_1 a0_2 a0_3 a1_0 a1_1 a1_2 a1_3 t211 t212 t213 t214 t216 t217 t218 t219)) = some r := H
                have A167 := Aside0.mk A1670
                clear A1670
                by_cases c168 : (t243 != t245) = true
                ·
                 rw [if_pos c168] at H
                 have c168b0 : (t243 != t245) = true := c168
                 (try (have c168b1 : decide (t243 = t245) = false := by simpa using c168))
                 (try (have c168b2 : (t243 == t245) = false := by simpa using c168))
                 (try (have c168b3 : ¬ (t243 = t245) := by simpa using c168))
                 clear c168
                 obtain rfl := Option.some.inj H
                 have p241 : 0 ≤ (x84_3 : Int) := of_decide_eq_true (by first | (with_reducible assumption) | assumption)
                 have q241 : x84_3 < (y238.length : Int) := of_decide_eq_true (by first | (with_reducible assumption) | assumption)
                 obtain ⟨ad241, e241, hx241_0⟩ := Kd.at_int (Kd.R_reads' HO_82.out).2.2 x84_3 p241 q241
                 cases e241
                 replace p241 := eq_true p241
                 replace q241 := eq_true q241
                 try go_wp2
                 have n0_ := Aside0.mk (Kd.R_drew HO_82.out)
                 have n1_ := Aside0.mk (blk_drew BK208.out)
                 have n2_ := Aside0.mk (blk_drew BK209.out)
                 have n3_ := Aside0.mk (blk_drew BK215.out)
                 have n4_ := Aside0.mk (blk_drew BK221.out)
                 have n5_ := Aside0.mk (blk_drew BK227.out)
                 have n6_ := Aside0.mk (below_drew1 HB.out)
                 clear HO_82
                 clear BK208
                 clear BK209
                 clear BK215
                 clear BK221
                 clear BK227
                 clear HB
                 have HO_82 := n0_
                 have BK208 := n1_
                 have BK209 := n2_
                 have BK215 := n3_
                 have BK221 := n4_
                 have BK227 := n5_
                 have HB := n6_
                 clear n0_ n1_ n2_ n3_ n4_ n5_ n6_
                 refine start_ (n := 10) (S := fun w' => w'.cell? ⟨gb208, 0, none⟩ = some (.int .u64 a0_0) ∧ w'.cell? ⟨gb208, 1, none⟩ = some (.int .u64 a0_1) ∧ w'.cell? ⟨gb208, 2, none⟩ = some (.int .i64 a0_2) ∧ w'.cell? ⟨gb208, 3, none⟩ = some (.int .i64 a0_3) ∧ w'.cell? ⟨gb209, 0, none⟩ = some (.int .u64 a1_0) ∧ w'.cell? ⟨gb209, 1, none⟩ = some (.int .u64 a1_1) ∧ w'.cell? ⟨gb209, 2, none⟩ = some (.int .i64 a1_2) ∧ w'.cell? ⟨gb209, 3, none⟩ = some (.int .i64 a1_3)) (ds := []) (bA 10 0) (by kernel_rfl) rfl rfl ⟨(blk_cell BK208.out 0).trans rfl, (blk_cell BK208.out 1).trans rfl, (blk_cell BK208.out 2).trans rfl, (blk_cell BK208.out 3).trans rfl, (blk_cell BK209.out 0).trans rfl, (blk_cell BK209.out 1).trans rfl, (blk_cell BK209.out 2).trans rfl, (blk_cell BK209.out 3).trans rfl⟩ (fun hHeld => ?_); refine with_tabW jacquardlaw13_IntervalLattice.tab13 jacquardlaw13_IntervalLattice.bits13 (fun HT_ HW_ => ?_)
                 generalize wr.drew = w169 at HO_82 BK208 BK209 BK215 BK221 BK227 HB hHeld ⊢
                 refine pureA HT_ (i := 0) (N := some 88) (bA 10 1) ?_
                 refine pureA HT_ (i := 2) (N := some 90) (bA 10 5) ?_
                 refine pureA HT_ (i := 4) (N := some 92) (bA 10 21) ?_
                 refine pureA HT_ (i := 6) (N := some 94) (bA 10 85) ?_
                 refine takeA HT_ HW_ hHeld (i := 1) (N := some 89) (bA 10 87) ?_ (hy := by rintro w' ⟨s0, s1, s2, s3, s4, s5, s6, s7⟩; go_simp; with_reducible rfl)
                 refine takeA HT_ HW_ hHeld (i := 5) (N := some 93) (bA 10 119) ?_ (hy := by rintro w' ⟨s0, s1, s2, s3, s4, s5, s6, s7⟩; go_simp; with_reducible rfl)
                 refine one_ (i := 3) (N := some 91) (bA 10 127) rfl rfl (one_of HT_.out (by kernel_rfl)) (by decide) (fun K hK => ?_)
                 refine gO Try.func18 #[.int .i64 (rd y238 x84_3), .agg #[.int .u64 a0_0, .int .u64 a0_1, .int .i64 a0_2, .int .i64 a0_3], .int .u64 a2] ?_
                 with_reducible refine (interval_Contains.calls (rd y238 x84_3) a0_0 a0_1 a0_2 a0_3 a2 true _ A161.out).mono ?_
                 rintro e w170 ⟨rfl, hb⟩
                 refine ⟨_, rfl, ?_⟩
                 have n0_ := Aside0.mk (Kd.R_below (by (with_reducible repeat (first | apply Kd.R_alloc | apply Kd.R_drewN | apply Kd.R_drew)); exact HO_82.out) hb)
                 have n1_ := bkB BK208.out hb
                 have n2_ := bkB BK209.out hb
                 have n3_ := bkB BK215.out hb
                 have n4_ := bkB BK221.out hb
                 have n5_ := bkB BK227.out hb
                 have n6_ := bsB HB.out hb
                 clear HO_82
                 clear BK208
                 clear BK209
                 clear BK215
                 clear BK221
                 clear BK227
                 clear HB
                 have HO_82 := n0_
                 have BK208 := n1_
                 have BK209 := n2_
                 have BK215 := n3_
                 have BK221 := n4_
                 have BK227 := n5_
                 have HB := n6_
                 clear n0_ n1_ n2_ n3_ n4_ n5_ n6_
                 (try clear hb)
                 (try clear hb2)
                 (try clear hk)
                 (try clear hi)
                 refine hK.out _ _ ⟨(blk_cell BK208.out 0).trans rfl, (blk_cell BK208.out 1).trans rfl, (blk_cell BK208.out 2).trans rfl, (blk_cell BK208.out 3).trans rfl, (blk_cell BK209.out 0).trans rfl, (blk_cell BK209.out 1).trans rfl, (blk_cell BK209.out 2).trans rfl, (blk_cell BK209.out 3).trans rfl⟩ (fun hHeld => ?_)
                 clear hK K
                 refine norm_ (a' := ?_) ?_ ?_
                 rotate_left
                 ·
                  show Act.put _ (some 91) _ = _
                  simp only [Act.put, List.setIfInBounds_toArray, List.set_cons_zero, List.set_cons_succ, i64_w, i32_w]
                  rfl
                 refine one_ (i := 7) (N := some 95) (bA 10 255) rfl rfl (one_of HT_.out (by kernel_rfl)) (by decide) (fun K hK => ?_)
                 refine gO Try.func18 #[.int .i64 (rd y238 x84_3), .agg #[.int .u64 a1_0, .int .u64 a1_1, .int .i64 a1_2, .int .i64 a1_3], .int .u64 a2] ?_
                 with_reducible refine (interval_Contains.calls (rd y238 x84_3) a1_0 a1_1 a1_2 a1_3 a2 t243 _ A162.out).mono ?_
                 rintro e w171 ⟨rfl, hb⟩
                 refine ⟨_, rfl, ?_⟩
                 have n0_ := Aside0.mk (Kd.R_below (by (with_reducible repeat (first | apply Kd.R_alloc | apply Kd.R_drewN | apply Kd.R_drew)); exact HO_82.out) hb)
                 have n1_ := bkB BK208.out hb
                 have n2_ := bkB BK209.out hb
                 have n3_ := bkB BK215.out hb
                 have n4_ := bkB BK221.out hb
                 have n5_ := bkB BK227.out hb
                 have n6_ := bsB HB.out hb
                 clear HO_82
                 clear BK208
                 clear BK209
                 clear BK215
                 clear BK221
                 clear BK227
                 clear HB
                 have HO_82 := n0_
                 have BK208 := n1_
                 have BK209 := n2_
                 have BK215 := n3_
                 have BK221 := n4_
                 have BK227 := n5_
                 have HB := n6_
                 clear n0_ n1_ n2_ n3_ n4_ n5_ n6_
                 (try clear hb)
                 (try clear hb2)
                 (try clear hk)
                 (try clear hi)
                 refine hK.out _ _ ⟨(blk_cell BK208.out 0).trans rfl, (blk_cell BK208.out 1).trans rfl, (blk_cell BK208.out 2).trans rfl, (blk_cell BK208.out 3).trans rfl, (blk_cell BK209.out 0).trans rfl, (blk_cell BK209.out 1).trans rfl, (blk_cell BK209.out 2).trans rfl, (blk_cell BK209.out 3).trans rfl⟩ (fun hHeld => ?_)
                 clear hK K
                 refine norm_ (a' := ?_) ?_ ?_
                 rotate_left
                 ·
                  show Act.put _ (some 95) _ = _
                  simp only [Act.put, List.setIfInBounds_toArray, List.set_cons_zero, List.set_cons_succ, i64_w, i32_w]
                  rfl
                 refine pureA HT_ (i := 8) (N := some 14) (bA 10 511) ?_
                 refine pureA HT_ (i := 9) (N := some 15) (bA 10 1023) ?_
                 refine done_ (done_of HT_.out (by kernel_rfl)) ?_
                 have hnb172 := NB215_208.out
                 have hnc172 := NB208_215.out
                 have hnb173 := NB215_209.out
                 have hnc173 := NB209_215.out
                 have hnb174 := NB215_221.out
                 have hnc174 := NB221_215.out
                 have hnb175 := NB215_227.out
                 have hnc175 := NB227_215.out
                 have hcz176_0 : w171.cell? ⟨gb215, 0, none⟩ = some (.int .u64 t211) := (blk_cell BK215.out 0).trans rfl
                 have hcz176_1 : w171.cell? ⟨gb215, 1, none⟩ = some (.int .u64 t212) := (blk_cell BK215.out 1).trans rfl
                 have hcz176_2 : w171.cell? ⟨gb215, 2, none⟩ = some (.int .i64 t213) := (blk_cell BK215.out 2).trans rfl
                 have hcz176_3 : w171.cell? ⟨gb215, 3, none⟩ = some (.int .i64 t214) := (blk_cell BK215.out 3).trans rfl
                 have hfz176_0 := blk_frozen BK215.out 0
                 have hfz176_1 := blk_frozen BK215.out 1
                 have hfz176_2 := blk_frozen BK215.out 2
                 have hfz176_3 := blk_frozen BK215.out 3
                 try go_wp2_with (first | (go_at_call 18; (with_reducible refine (interval_Contains.calls (rd y238 x84_3) t211 t212 t213 t214 a2 true _ A164.out).mono ?_); rintro e w177 ⟨rfl, hb⟩; replace HO_82 := Aside0.mk (Kd.R_below (by (with_reducible repeat (first | apply Kd.R_alloc | apply Kd.R_drewN | apply Kd.R_drew)); exact HO_82.out) hb); replace BK208 := bkB BK208.out hb; replace BK209 := bkB BK209.out hb; replace BK215 := bkB BK215.out hb; replace BK221 := bkB BK221.out hb; replace BK227 := bkB BK227.out hb; replace HB := bsB HB.out hb; (try clear hb); have hnb178 := NB221_208.out; have hnc178 := NB208_221.out; have hnb179 := NB221_209.out; have hnc179 := NB209_221.out; have hnb180 := NB221_227.out; have hnc180 := NB227_221.out; have hcz181_0 : w177.cell? ⟨gb221, 0, none⟩ = some (.int .u64 t216) := (blk_cell BK221.out 0).trans rfl; have hcz181_1 : w177.cell? ⟨gb221, 1, none⟩ = some (.int .u64 t217) := (blk_cell BK221.out 1).trans rfl; have hcz181_2 : w177.cell? ⟨gb221, 2, none⟩ = some (.int .i64 t218) := (blk_cell BK221.out 2).trans rfl; have hcz181_3 : w177.cell? ⟨gb221, 3, none⟩ = some (.int .i64 t219) := (blk_cell BK221.out 3).trans rfl; have hfz181_0 := blk_frozen BK221.out 0; have hfz181_1 := blk_frozen BK221.out 1; have hfz181_2 := blk_frozen BK221.out 2; have hfz181_3 := blk_frozen BK221.out 3) | (go_at_call 18; (with_reducible refine (interval_Contains.calls (rd y238 x84_3) t216 t217 t218 t219 a2 t245 _ A167.out).mono ?_); rintro e w182 ⟨rfl, hb⟩; replace HO_82 := Aside0.mk (Kd.R_below (by (with_reducible repeat (first | apply Kd.R_alloc | apply Kd.R_drewN | apply Kd.R_drew)); exact HO_82.out) hb); replace BK208 := bkB BK208.out hb; replace BK209 := bkB BK209.out hb; replace BK215 := bkB BK215.out hb; replace BK221 := bkB BK221.out hb; replace BK227 := bkB BK227.out hb; replace HB := bsB HB.out hb; (try clear hb)))
                 go_ret
                 exact ⟨by first | rfl | (simp [errW_none, errW_some] <;> rfl) | (simp [*, errW_none, errW_some] <;> rfl), bsL HB.out⟩
                ·
                 rw [if_neg c168] at H
                 have c168b0 : (t243 != t245) = false := by simpa using c168
                 (try (have c168b1 : decide (t243 = t245) = true := by simpa using c168))
                 (try (have c168b2 : (t243 == t245) = true := by simpa using c168))
                 clear c168
                 have H' := Aside0.mk H
                 clear H
                 have p241 : 0 ≤ (x84_3 : Int) := of_decide_eq_true (by first | (with_reducible assumption) | assumption)
                 have q241 : x84_3 < (y238.length : Int) := of_decide_eq_true (by first | (with_reducible assumption) | assumption)
                 obtain ⟨ad241, e241, hx241_0⟩ := Kd.at_int (Kd.R_reads' HO_82.out).2.2 x84_3 p241 q241
                 cases e241
                 replace p241 := eq_true p241
                 replace q241 := eq_true q241
                 try go_wp2
                 have n0_ := Aside0.mk (Kd.R_drew HO_82.out)
                 have n1_ := Aside0.mk (blk_drew BK208.out)
                 have n2_ := Aside0.mk (blk_drew BK209.out)
                 have n3_ := Aside0.mk (blk_drew BK215.out)
                 have n4_ := Aside0.mk (blk_drew BK221.out)
                 have n5_ := Aside0.mk (blk_drew BK227.out)
                 have n6_ := Aside0.mk (below_drew1 HB.out)
                 clear HO_82
                 clear BK208
                 clear BK209
                 clear BK215
                 clear BK221
                 clear BK227
                 clear HB
                 have HO_82 := n0_
                 have BK208 := n1_
                 have BK209 := n2_
                 have BK215 := n3_
                 have BK221 := n4_
                 have BK227 := n5_
                 have HB := n6_
                 clear n0_ n1_ n2_ n3_ n4_ n5_ n6_
                 refine start_ (n := 10) (S := fun w' => w'.cell? ⟨gb208, 0, none⟩ = some (.int .u64 a0_0) ∧ w'.cell? ⟨gb208, 1, none⟩ = some (.int .u64 a0_1) ∧ w'.cell? ⟨gb208, 2, none⟩ = some (.int .i64 a0_2) ∧ w'.cell? ⟨gb208, 3, none⟩ = some (.int .i64 a0_3) ∧ w'.cell? ⟨gb209, 0, none⟩ = some (.int .u64 a1_0) ∧ w'.cell? ⟨gb209, 1, none⟩ = some (.int .u64 a1_1) ∧ w'.cell? ⟨gb209, 2, none⟩ = some (.int .i64 a1_2) ∧ w'.cell? ⟨gb209, 3, none⟩ = some (.int .i64 a1_3)) (ds := []) (bA 10 0) (by kernel_rfl) rfl rfl ⟨(blk_cell BK208.out 0).trans rfl, (blk_cell BK208.out 1).trans rfl, (blk_cell BK208.out 2).trans rfl, (blk_cell BK208.out 3).trans rfl, (blk_cell BK209.out 0).trans rfl, (blk_cell BK209.out 1).trans rfl, (blk_cell BK209.out 2).trans rfl, (blk_cell BK209.out 3).trans rfl⟩ (fun hHeld => ?_); refine with_tabW jacquardlaw13_IntervalLattice.tab13 jacquardlaw13_IntervalLattice.bits13 (fun HT_ HW_ => ?_)
                 generalize wr.drew = w183 at HO_82 BK208 BK209 BK215 BK221 BK227 HB hHeld ⊢
                 refine pureA HT_ (i := 0) (N := some 88) (bA 10 1) ?_
                 refine pureA HT_ (i := 2) (N := some 90) (bA 10 5) ?_
                 refine pureA HT_ (i := 4) (N := some 92) (bA 10 21) ?_
                 refine pureA HT_ (i := 6) (N := some 94) (bA 10 85) ?_
                 refine takeA HT_ HW_ hHeld (i := 1) (N := some 89) (bA 10 87) ?_ (hy := by rintro w' ⟨s0, s1, s2, s3, s4, s5, s6, s7⟩; go_simp; with_reducible rfl)
                 refine takeA HT_ HW_ hHeld (i := 5) (N := some 93) (bA 10 119) ?_ (hy := by rintro w' ⟨s0, s1, s2, s3, s4, s5, s6, s7⟩; go_simp; with_reducible rfl)
                 refine one_ (i := 3) (N := some 91) (bA 10 127) rfl rfl (one_of HT_.out (by kernel_rfl)) (by decide) (fun K hK => ?_)
                 refine gO Try.func18 #[.int .i64 (rd y238 x84_3), .agg #[.int .u64 a0_0, .int .u64 a0_1, .int .i64 a0_2, .int .i64 a0_3], .int .u64 a2] ?_
                 with_reducible refine (interval_Contains.calls (rd y238 x84_3) a0_0 a0_1 a0_2 a0_3 a2 true _ A161.out).mono ?_
                 rintro e w184 ⟨rfl, hb⟩
                 refine ⟨_, rfl, ?_⟩
                 have n0_ := Aside0.mk (Kd.R_below (by (with_reducible repeat (first | apply Kd.R_alloc | apply Kd.R_drewN | apply Kd.R_drew)); exact HO_82.out) hb)
                 have n1_ := bkB BK208.out hb
                 have n2_ := bkB BK209.out hb
                 have n3_ := bkB BK215.out hb
                 have n4_ := bkB BK221.out hb
                 have n5_ := bkB BK227.out hb
                 have n6_ := bsB HB.out hb
                 clear HO_82
                 clear BK208
                 clear BK209
                 clear BK215
                 clear BK221
                 clear BK227
                 clear HB
                 have HO_82 := n0_
                 have BK208 := n1_
                 have BK209 := n2_
                 have BK215 := n3_
                 have BK221 := n4_
                 have BK227 := n5_
                 have HB := n6_
                 clear n0_ n1_ n2_ n3_ n4_ n5_ n6_
                 (try clear hb)
                 (try clear hb2)
                 (try clear hk)
                 (try clear hi)
                 refine hK.out _ _ ⟨(blk_cell BK208.out 0).trans rfl, (blk_cell BK208.out 1).trans rfl, (blk_cell BK208.out 2).trans rfl, (blk_cell BK208.out 3).trans rfl, (blk_cell BK209.out 0).trans rfl, (blk_cell BK209.out 1).trans rfl, (blk_cell BK209.out 2).trans rfl, (blk_cell BK209.out 3).trans rfl⟩ (fun hHeld => ?_)
                 clear hK K
                 refine norm_ (a' := ?_) ?_ ?_
                 rotate_left
                 ·
                  show Act.put _ (some 91) _ = _
                  simp only [Act.put, List.setIfInBounds_toArray, List.set_cons_zero, List.set_cons_succ, i64_w, i32_w]
                  rfl
                 refine one_ (i := 7) (N := some 95) (bA 10 255) rfl rfl (one_of HT_.out (by kernel_rfl)) (by decide) (fun K hK => ?_)
                 refine gO Try.func18 #[.int .i64 (rd y238 x84_3), .agg #[.int .u64 a1_0, .int .u64 a1_1, .int .i64 a1_2, .int .i64 a1_3], .int .u64 a2] ?_
                 with_reducible refine (interval_Contains.calls (rd y238 x84_3) a1_0 a1_1 a1_2 a1_3 a2 t243 _ A162.out).mono ?_
                 rintro e w185 ⟨rfl, hb⟩
                 refine ⟨_, rfl, ?_⟩
                 have n0_ := Aside0.mk (Kd.R_below (by (with_reducible repeat (first | apply Kd.R_alloc | apply Kd.R_drewN | apply Kd.R_drew)); exact HO_82.out) hb)
                 have n1_ := bkB BK208.out hb
                 have n2_ := bkB BK209.out hb
                 have n3_ := bkB BK215.out hb
                 have n4_ := bkB BK221.out hb
                 have n5_ := bkB BK227.out hb
                 have n6_ := bsB HB.out hb
                 clear HO_82
                 clear BK208
                 clear BK209
                 clear BK215
                 clear BK221
                 clear BK227
                 clear HB
                 have HO_82 := n0_
                 have BK208 := n1_
                 have BK209 := n2_
                 have BK215 := n3_
                 have BK221 := n4_
                 have BK227 := n5_
                 have HB := n6_
                 clear n0_ n1_ n2_ n3_ n4_ n5_ n6_
                 (try clear hb)
                 (try clear hb2)
                 (try clear hk)
                 (try clear hi)
                 refine hK.out _ _ ⟨(blk_cell BK208.out 0).trans rfl, (blk_cell BK208.out 1).trans rfl, (blk_cell BK208.out 2).trans rfl, (blk_cell BK208.out 3).trans rfl, (blk_cell BK209.out 0).trans rfl, (blk_cell BK209.out 1).trans rfl, (blk_cell BK209.out 2).trans rfl, (blk_cell BK209.out 3).trans rfl⟩ (fun hHeld => ?_)
                 clear hK K
                 refine norm_ (a' := ?_) ?_ ?_
                 rotate_left
                 ·
                  show Act.put _ (some 95) _ = _
                  simp only [Act.put, List.setIfInBounds_toArray, List.set_cons_zero, List.set_cons_succ, i64_w, i32_w]
                  rfl
                 refine pureA HT_ (i := 8) (N := some 14) (bA 10 511) ?_
                 refine pureA HT_ (i := 9) (N := some 15) (bA 10 1023) ?_
                 refine done_ (done_of HT_.out (by kernel_rfl)) ?_
                 have hnb186 := NB215_208.out
                 have hnc186 := NB208_215.out
                 have hnb187 := NB215_209.out
                 have hnc187 := NB209_215.out
                 have hnb188 := NB215_221.out
                 have hnc188 := NB221_215.out
                 have hnb189 := NB215_227.out
                 have hnc189 := NB227_215.out
                 have hcz190_0 : w185.cell? ⟨gb215, 0, none⟩ = some (.int .u64 t211) := (blk_cell BK215.out 0).trans rfl
                 have hcz190_1 : w185.cell? ⟨gb215, 1, none⟩ = some (.int .u64 t212) := (blk_cell BK215.out 1).trans rfl
                 have hcz190_2 : w185.cell? ⟨gb215, 2, none⟩ = some (.int .i64 t213) := (blk_cell BK215.out 2).trans rfl
                 have hcz190_3 : w185.cell? ⟨gb215, 3, none⟩ = some (.int .i64 t214) := (blk_cell BK215.out 3).trans rfl
                 have hfz190_0 := blk_frozen BK215.out 0
                 have hfz190_1 := blk_frozen BK215.out 1
                 have hfz190_2 := blk_frozen BK215.out 2
                 have hfz190_3 := blk_frozen BK215.out 3
                 try go_wp2_with (first | (go_at_call 18; (with_reducible refine (interval_Contains.calls (rd y238 x84_3) t211 t212 t213 t214 a2 true _ A164.out).mono ?_); rintro e w191 ⟨rfl, hb⟩; replace HO_82 := Aside0.mk (Kd.R_below (by (with_reducible repeat (first | apply Kd.R_alloc | apply Kd.R_drewN | apply Kd.R_drew)); exact HO_82.out) hb); replace BK208 := bkB BK208.out hb; replace BK209 := bkB BK209.out hb; replace BK215 := bkB BK215.out hb; replace BK221 := bkB BK221.out hb; replace BK227 := bkB BK227.out hb; replace HB := bsB HB.out hb; (try clear hb); have hnb192 := NB221_208.out; have hnc192 := NB208_221.out; have hnb193 := NB221_209.out; have hnc193 := NB209_221.out; have hnb194 := NB221_227.out; have hnc194 := NB227_221.out; have hcz195_0 : w191.cell? ⟨gb221, 0, none⟩ = some (.int .u64 t216) := (blk_cell BK221.out 0).trans rfl; have hcz195_1 : w191.cell? ⟨gb221, 1, none⟩ = some (.int .u64 t217) := (blk_cell BK221.out 1).trans rfl; have hcz195_2 : w191.cell? ⟨gb221, 2, none⟩ = some (.int .i64 t218) := (blk_cell BK221.out 2).trans rfl; have hcz195_3 : w191.cell? ⟨gb221, 3, none⟩ = some (.int .i64 t219) := (blk_cell BK221.out 3).trans rfl; have hfz195_0 := blk_frozen BK221.out 0; have hfz195_1 := blk_frozen BK221.out 1; have hfz195_2 := blk_frozen BK221.out 2; have hfz195_3 := blk_frozen BK221.out 3) | (go_at_call 18; (with_reducible refine (interval_Contains.calls (rd y238 x84_3) t216 t217 t218 t219 a2 t245 _ A167.out).mono ?_); rintro e w196 ⟨rfl, hb⟩; replace HO_82 := Aside0.mk (Kd.R_below (by (with_reducible repeat (first | apply Kd.R_alloc | apply Kd.R_drewN | apply Kd.R_drew)); exact HO_82.out) hb); replace BK208 := bkB BK208.out hb; replace BK209 := bkB BK209.out hb; replace BK215 := bkB BK215.out hb; replace BK221 := bkB BK221.out hb; replace BK227 := bkB BK227.out hb; replace HB := bsB HB.out hb; (try clear hb)))
                 go_roundg k3
                 case measure => have := HJ8.out; have := HJ63.out; have := HK3.out; omega
                 case rel => exact ⟨(wrap64 (x84_3 + 1)), (by first | rfl | (simp; done) | (simp [*]; done)), H', ⟨by have := HJ8.out; have := HJ63.out; have := HK3.out; omega⟩, ⟨by (with_reducible repeat (first | apply Kd.R_alloc | apply Kd.R_drewN | apply Kd.R_drew)); exact HO_82.out⟩, ⟨bkL BK208.out⟩, ⟨bkL BK209.out⟩, ⟨bkL BK215.out⟩, ⟨bkL BK221.out⟩, ⟨bkL BK227.out⟩, ⟨bsL HB.out⟩⟩
               ·
                replace c166 := Bool.eq_false_iff.mpr c166
                subst c166
                have H1 : (if (t243 != false) = true then (some false) else (jacquardlaw13_IntervalLattice.l0 k3 a2 false y238 (y238.length : Int) (wrap64 (x84_3 + 1)) a0_0 a0_1 a0_2 a0_3 a1_0 a1_1 a1_2 a1_3 t211 t212 t213 t214 t216 t217 t218 t219)) = some r := by rw [if_neg (show ¬ (false = true) by decide)] at H; exact H
                clear H
                have H := H1
                clear H1
                by_cases c197 : (t243 != false) = true
                ·
                 rw [if_pos c197] at H
                 have c197b0 : (t243 != false) = true := c197
                 (try (have c197b1 : decide (t243 = false) = false := by simpa using c197))
                 (try (have c197b2 : (t243 == false) = false := by simpa using c197))
                 (try (have c197b3 : ¬ (t243 = false) := by simpa using c197))
                 clear c197
                 obtain rfl := Option.some.inj H
                 have p241 : 0 ≤ (x84_3 : Int) := of_decide_eq_true (by first | (with_reducible assumption) | assumption)
                 have q241 : x84_3 < (y238.length : Int) := of_decide_eq_true (by first | (with_reducible assumption) | assumption)
                 obtain ⟨ad241, e241, hx241_0⟩ := Kd.at_int (Kd.R_reads' HO_82.out).2.2 x84_3 p241 q241
                 cases e241
                 replace p241 := eq_true p241
                 replace q241 := eq_true q241
                 try go_wp2
                 have n0_ := Aside0.mk (Kd.R_drew HO_82.out)
                 have n1_ := Aside0.mk (blk_drew BK208.out)
                 have n2_ := Aside0.mk (blk_drew BK209.out)
                 have n3_ := Aside0.mk (blk_drew BK215.out)
                 have n4_ := Aside0.mk (blk_drew BK221.out)
                 have n5_ := Aside0.mk (blk_drew BK227.out)
                 have n6_ := Aside0.mk (below_drew1 HB.out)
                 clear HO_82
                 clear BK208
                 clear BK209
                 clear BK215
                 clear BK221
                 clear BK227
                 clear HB
                 have HO_82 := n0_
                 have BK208 := n1_
                 have BK209 := n2_
                 have BK215 := n3_
                 have BK221 := n4_
                 have BK227 := n5_
                 have HB := n6_
                 clear n0_ n1_ n2_ n3_ n4_ n5_ n6_
                 refine start_ (n := 10) (S := fun w' => w'.cell? ⟨gb208, 0, none⟩ = some (.int .u64 a0_0) ∧ w'.cell? ⟨gb208, 1, none⟩ = some (.int .u64 a0_1) ∧ w'.cell? ⟨gb208, 2, none⟩ = some (.int .i64 a0_2) ∧ w'.cell? ⟨gb208, 3, none⟩ = some (.int .i64 a0_3) ∧ w'.cell? ⟨gb209, 0, none⟩ = some (.int .u64 a1_0) ∧ w'.cell? ⟨gb209, 1, none⟩ = some (.int .u64 a1_1) ∧ w'.cell? ⟨gb209, 2, none⟩ = some (.int .i64 a1_2) ∧ w'.cell? ⟨gb209, 3, none⟩ = some (.int .i64 a1_3)) (ds := []) (bA 10 0) (by kernel_rfl) rfl rfl ⟨(blk_cell BK208.out 0).trans rfl, (blk_cell BK208.out 1).trans rfl, (blk_cell BK208.out 2).trans rfl, (blk_cell BK208.out 3).trans rfl, (blk_cell BK209.out 0).trans rfl, (blk_cell BK209.out 1).trans rfl, (blk_cell BK209.out 2).trans rfl, (blk_cell BK209.out 3).trans rfl⟩ (fun hHeld => ?_); refine with_tabW jacquardlaw13_IntervalLattice.tab13 jacquardlaw13_IntervalLattice.bits13 (fun HT_ HW_ => ?_)
                 generalize wr.drew = w198 at HO_82 BK208 BK209 BK215 BK221 BK227 HB hHeld ⊢
                 refine pureA HT_ (i := 0) (N := some 88) (bA 10 1) ?_
                 refine pureA HT_ (i := 2) (N := some 90) (bA 10 5) ?_
                 refine pureA HT_ (i := 4) (N := some 92) (bA 10 21) ?_
                 refine pureA HT_ (i := 6) (N := some 94) (bA 10 85) ?_
                 refine takeA HT_ HW_ hHeld (i := 1) (N := some 89) (bA 10 87) ?_ (hy := by rintro w' ⟨s0, s1, s2, s3, s4, s5, s6, s7⟩; go_simp; with_reducible rfl)
                 refine takeA HT_ HW_ hHeld (i := 5) (N := some 93) (bA 10 119) ?_ (hy := by rintro w' ⟨s0, s1, s2, s3, s4, s5, s6, s7⟩; go_simp; with_reducible rfl)
                 refine one_ (i := 3) (N := some 91) (bA 10 127) rfl rfl (one_of HT_.out (by kernel_rfl)) (by decide) (fun K hK => ?_)
                 refine gO Try.func18 #[.int .i64 (rd y238 x84_3), .agg #[.int .u64 a0_0, .int .u64 a0_1, .int .i64 a0_2, .int .i64 a0_3], .int .u64 a2] ?_
                 with_reducible refine (interval_Contains.calls (rd y238 x84_3) a0_0 a0_1 a0_2 a0_3 a2 true _ A161.out).mono ?_
                 rintro e w199 ⟨rfl, hb⟩
                 refine ⟨_, rfl, ?_⟩
                 have n0_ := Aside0.mk (Kd.R_below (by (with_reducible repeat (first | apply Kd.R_alloc | apply Kd.R_drewN | apply Kd.R_drew)); exact HO_82.out) hb)
                 have n1_ := bkB BK208.out hb
                 have n2_ := bkB BK209.out hb
                 have n3_ := bkB BK215.out hb
                 have n4_ := bkB BK221.out hb
                 have n5_ := bkB BK227.out hb
                 have n6_ := bsB HB.out hb
                 clear HO_82
                 clear BK208
                 clear BK209
                 clear BK215
                 clear BK221
                 clear BK227
                 clear HB
                 have HO_82 := n0_
                 have BK208 := n1_
                 have BK209 := n2_
                 have BK215 := n3_
                 have BK221 := n4_
                 have BK227 := n5_
                 have HB := n6_
                 clear n0_ n1_ n2_ n3_ n4_ n5_ n6_
                 (try clear hb)
                 (try clear hb2)
                 (try clear hk)
                 (try clear hi)
                 refine hK.out _ _ ⟨(blk_cell BK208.out 0).trans rfl, (blk_cell BK208.out 1).trans rfl, (blk_cell BK208.out 2).trans rfl, (blk_cell BK208.out 3).trans rfl, (blk_cell BK209.out 0).trans rfl, (blk_cell BK209.out 1).trans rfl, (blk_cell BK209.out 2).trans rfl, (blk_cell BK209.out 3).trans rfl⟩ (fun hHeld => ?_)
                 clear hK K
                 refine norm_ (a' := ?_) ?_ ?_
                 rotate_left
                 ·
                  show Act.put _ (some 91) _ = _
                  simp only [Act.put, List.setIfInBounds_toArray, List.set_cons_zero, List.set_cons_succ, i64_w, i32_w]
                  rfl
                 refine one_ (i := 7) (N := some 95) (bA 10 255) rfl rfl (one_of HT_.out (by kernel_rfl)) (by decide) (fun K hK => ?_)
                 refine gO Try.func18 #[.int .i64 (rd y238 x84_3), .agg #[.int .u64 a1_0, .int .u64 a1_1, .int .i64 a1_2, .int .i64 a1_3], .int .u64 a2] ?_
                 with_reducible refine (interval_Contains.calls (rd y238 x84_3) a1_0 a1_1 a1_2 a1_3 a2 t243 _ A162.out).mono ?_
                 rintro e w200 ⟨rfl, hb⟩
                 refine ⟨_, rfl, ?_⟩
                 have n0_ := Aside0.mk (Kd.R_below (by (with_reducible repeat (first | apply Kd.R_alloc | apply Kd.R_drewN | apply Kd.R_drew)); exact HO_82.out) hb)
                 have n1_ := bkB BK208.out hb
                 have n2_ := bkB BK209.out hb
                 have n3_ := bkB BK215.out hb
                 have n4_ := bkB BK221.out hb
                 have n5_ := bkB BK227.out hb
                 have n6_ := bsB HB.out hb
                 clear HO_82
                 clear BK208
                 clear BK209
                 clear BK215
                 clear BK221
                 clear BK227
                 clear HB
                 have HO_82 := n0_
                 have BK208 := n1_
                 have BK209 := n2_
                 have BK215 := n3_
                 have BK221 := n4_
                 have BK227 := n5_
                 have HB := n6_
                 clear n0_ n1_ n2_ n3_ n4_ n5_ n6_
                 (try clear hb)
                 (try clear hb2)
                 (try clear hk)
                 (try clear hi)
                 refine hK.out _ _ ⟨(blk_cell BK208.out 0).trans rfl, (blk_cell BK208.out 1).trans rfl, (blk_cell BK208.out 2).trans rfl, (blk_cell BK208.out 3).trans rfl, (blk_cell BK209.out 0).trans rfl, (blk_cell BK209.out 1).trans rfl, (blk_cell BK209.out 2).trans rfl, (blk_cell BK209.out 3).trans rfl⟩ (fun hHeld => ?_)
                 clear hK K
                 refine norm_ (a' := ?_) ?_ ?_
                 rotate_left
                 ·
                  show Act.put _ (some 95) _ = _
                  simp only [Act.put, List.setIfInBounds_toArray, List.set_cons_zero, List.set_cons_succ, i64_w, i32_w]
                  rfl
                 refine pureA HT_ (i := 8) (N := some 14) (bA 10 511) ?_
                 refine pureA HT_ (i := 9) (N := some 15) (bA 10 1023) ?_
                 refine done_ (done_of HT_.out (by kernel_rfl)) ?_
                 have hnb201 := NB215_208.out
                 have hnc201 := NB208_215.out
                 have hnb202 := NB215_209.out
                 have hnc202 := NB209_215.out
                 have hnb203 := NB215_221.out
                 have hnc203 := NB221_215.out
                 have hnb204 := NB215_227.out
                 have hnc204 := NB227_215.out
                 have hcz205_0 : w200.cell? ⟨gb215, 0, none⟩ = some (.int .u64 t211) := (blk_cell BK215.out 0).trans rfl
                 have hcz205_1 : w200.cell? ⟨gb215, 1, none⟩ = some (.int .u64 t212) := (blk_cell BK215.out 1).trans rfl
                 have hcz205_2 : w200.cell? ⟨gb215, 2, none⟩ = some (.int .i64 t213) := (blk_cell BK215.out 2).trans rfl
                 have hcz205_3 : w200.cell? ⟨gb215, 3, none⟩ = some (.int .i64 t214) := (blk_cell BK215.out 3).trans rfl
                 have hfz205_0 := blk_frozen BK215.out 0
                 have hfz205_1 := blk_frozen BK215.out 1
                 have hfz205_2 := blk_frozen BK215.out 2
                 have hfz205_3 := blk_frozen BK215.out 3
                 try go_wp2_with (first | (go_at_call 18; (with_reducible refine (interval_Contains.calls (rd y238 x84_3) t211 t212 t213 t214 a2 true _ A164.out).mono ?_); rintro e w206 ⟨rfl, hb⟩; replace HO_82 := Aside0.mk (Kd.R_below (by (with_reducible repeat (first | apply Kd.R_alloc | apply Kd.R_drewN | apply Kd.R_drew)); exact HO_82.out) hb); replace BK208 := bkB BK208.out hb; replace BK209 := bkB BK209.out hb; replace BK215 := bkB BK215.out hb; replace BK221 := bkB BK221.out hb; replace BK227 := bkB BK227.out hb; replace HB := bsB HB.out hb; (try clear hb)))
                 go_ret
                 exact ⟨by first | rfl | (simp [errW_none, errW_some] <;> rfl) | (simp [*, errW_none, errW_some] <;> rfl), bsL HB.out⟩
                ·
                 rw [if_neg c197] at H
                 have c197b0 : (t243 != false) = false := by simpa using c197
                 (try (have c197b1 : decide (t243 = false) = true := by simpa using c197))
                 (try (have c197b2 : (t243 == false) = true := by simpa using c197))
                 clear c197
                 have H' := Aside0.mk H
                 clear H
                 have p241 : 0 ≤ (x84_3 : Int) := of_decide_eq_true (by first | (with_reducible assumption) | assumption)
                 have q241 : x84_3 < (y238.length : Int) := of_decide_eq_true (by first | (with_reducible assumption) | assumption)
                 obtain ⟨ad241, e241, hx241_0⟩ := Kd.at_int (Kd.R_reads' HO_82.out).2.2 x84_3 p241 q241
                 cases e241
                 replace p241 := eq_true p241
                 replace q241 := eq_true q241
                 try go_wp2
                 have n0_ := Aside0.mk (Kd.R_drew HO_82.out)
                 have n1_ := Aside0.mk (blk_drew BK208.out)
                 have n2_ := Aside0.mk (blk_drew BK209.out)
                 have n3_ := Aside0.mk (blk_drew BK215.out)
                 have n4_ := Aside0.mk (blk_drew BK221.out)
                 have n5_ := Aside0.mk (blk_drew BK227.out)
                 have n6_ := Aside0.mk (below_drew1 HB.out)
                 clear HO_82
                 clear BK208
                 clear BK209
                 clear BK215
                 clear BK221
                 clear BK227
                 clear HB
                 have HO_82 := n0_
                 have BK208 := n1_
                 have BK209 := n2_
                 have BK215 := n3_
                 have BK221 := n4_
                 have BK227 := n5_
                 have HB := n6_
                 clear n0_ n1_ n2_ n3_ n4_ n5_ n6_
                 refine start_ (n := 10) (S := fun w' => w'.cell? ⟨gb208, 0, none⟩ = some (.int .u64 a0_0) ∧ w'.cell? ⟨gb208, 1, none⟩ = some (.int .u64 a0_1) ∧ w'.cell? ⟨gb208, 2, none⟩ = some (.int .i64 a0_2) ∧ w'.cell? ⟨gb208, 3, none⟩ = some (.int .i64 a0_3) ∧ w'.cell? ⟨gb209, 0, none⟩ = some (.int .u64 a1_0) ∧ w'.cell? ⟨gb209, 1, none⟩ = some (.int .u64 a1_1) ∧ w'.cell? ⟨gb209, 2, none⟩ = some (.int .i64 a1_2) ∧ w'.cell? ⟨gb209, 3, none⟩ = some (.int .i64 a1_3)) (ds := []) (bA 10 0) (by kernel_rfl) rfl rfl ⟨(blk_cell BK208.out 0).trans rfl, (blk_cell BK208.out 1).trans rfl, (blk_cell BK208.out 2).trans rfl, (blk_cell BK208.out 3).trans rfl, (blk_cell BK209.out 0).trans rfl, (blk_cell BK209.out 1).trans rfl, (blk_cell BK209.out 2).trans rfl, (blk_cell BK209.out 3).trans rfl⟩ (fun hHeld => ?_); refine with_tabW jacquardlaw13_IntervalLattice.tab13 jacquardlaw13_IntervalLattice.bits13 (fun HT_ HW_ => ?_)
                 generalize wr.drew = w207 at HO_82 BK208 BK209 BK215 BK221 BK227 HB hHeld ⊢
                 refine pureA HT_ (i := 0) (N := some 88) (bA 10 1) ?_
                 refine pureA HT_ (i := 2) (N := some 90) (bA 10 5) ?_
                 refine pureA HT_ (i := 4) (N := some 92) (bA 10 21) ?_
                 refine pureA HT_ (i := 6) (N := some 94) (bA 10 85) ?_
                 refine takeA HT_ HW_ hHeld (i := 1) (N := some 89) (bA 10 87) ?_ (hy := by rintro w' ⟨s0, s1, s2, s3, s4, s5, s6, s7⟩; go_simp; with_reducible rfl)
                 refine takeA HT_ HW_ hHeld (i := 5) (N := some 93) (bA 10 119) ?_ (hy := by rintro w' ⟨s0, s1, s2, s3, s4, s5, s6, s7⟩; go_simp; with_reducible rfl)
                 refine one_ (i := 3) (N := some 91) (bA 10 127) rfl rfl (one_of HT_.out (by kernel_rfl)) (by decide) (fun K hK => ?_)
                 refine gO Try.func18 #[.int .i64 (rd y238 x84_3), .agg #[.int .u64 a0_0, .int .u64 a0_1, .int .i64 a0_2, .int .i64 a0_3], .int .u64 a2] ?_
                 with_reducible refine (interval_Contains.calls (rd y238 x84_3) a0_0 a0_1 a0_2 a0_3 a2 true _ A161.out).mono ?_
                 rintro e w208 ⟨rfl, hb⟩
                 refine ⟨_, rfl, ?_⟩
                 have n0_ := Aside0.mk (Kd.R_below (by (with_reducible repeat (first | apply Kd.R_alloc | apply Kd.R_drewN | apply Kd.R_drew)); exact HO_82.out) hb)
                 have n1_ := bkB BK208.out hb
                 have n2_ := bkB BK209.out hb
                 have n3_ := bkB BK215.out hb
                 have n4_ := bkB BK221.out hb
                 have n5_ := bkB BK227.out hb
                 have n6_ := bsB HB.out hb
                 clear HO_82
                 clear BK208
                 clear BK209
                 clear BK215
                 clear BK221
                 clear BK227
                 clear HB
                 have HO_82 := n0_
                 have BK208 := n1_
                 have BK209 := n2_
                 have BK215 := n3_
                 have BK221 := n4_
                 have BK227 := n5_
                 have HB := n6_
                 clear n0_ n1_ n2_ n3_ n4_ n5_ n6_
                 (try clear hb)
                 (try clear hb2)
                 (try clear hk)
                 (try clear hi)
                 refine hK.out _ _ ⟨(blk_cell BK208.out 0).trans rfl, (blk_cell BK208.out 1).trans rfl, (blk_cell BK208.out 2).trans rfl, (blk_cell BK208.out 3).trans rfl, (blk_cell BK209.out 0).trans rfl, (blk_cell BK209.out 1).trans rfl, (blk_cell BK209.out 2).trans rfl, (blk_cell BK209.out 3).trans rfl⟩ (fun hHeld => ?_)
                 clear hK K
                 refine norm_ (a' := ?_) ?_ ?_
                 rotate_left
                 ·
                  show Act.put _ (some 91) _ = _
                  simp only [Act.put, List.setIfInBounds_toArray, List.set_cons_zero, List.set_cons_succ, i64_w, i32_w]
                  rfl
                 refine one_ (i := 7) (N := some 95) (bA 10 255) rfl rfl (one_of HT_.out (by kernel_rfl)) (by decide) (fun K hK => ?_)
                 refine gO Try.func18 #[.int .i64 (rd y238 x84_3), .agg #[.int .u64 a1_0, .int .u64 a1_1, .int .i64 a1_2, .int .i64 a1_3], .int .u64 a2] ?_
                 with_reducible refine (interval_Contains.calls (rd y238 x84_3) a1_0 a1_1 a1_2 a1_3 a2 t243 _ A162.out).mono ?_
                 rintro e w209 ⟨rfl, hb⟩
                 refine ⟨_, rfl, ?_⟩
                 have n0_ := Aside0.mk (Kd.R_below (by (with_reducible repeat (first | apply Kd.R_alloc | apply Kd.R_drewN | apply Kd.R_drew)); exact HO_82.out) hb)
                 have n1_ := bkB BK208.out hb
                 have n2_ := bkB BK209.out hb
                 have n3_ := bkB BK215.out hb
                 have n4_ := bkB BK221.out hb
                 have n5_ := bkB BK227.out hb
                 have n6_ := bsB HB.out hb
                 clear HO_82
                 clear BK208
                 clear BK209
                 clear BK215
                 clear BK221
                 clear BK227
                 clear HB
                 have HO_82 := n0_
                 have BK208 := n1_
                 have BK209 := n2_
                 have BK215 := n3_
                 have BK221 := n4_
                 have BK227 := n5_
                 have HB := n6_
                 clear n0_ n1_ n2_ n3_ n4_ n5_ n6_
                 (try clear hb)
                 (try clear hb2)
                 (try clear hk)
                 (try clear hi)
                 refine hK.out _ _ ⟨(blk_cell BK208.out 0).trans rfl, (blk_cell BK208.out 1).trans rfl, (blk_cell BK208.out 2).trans rfl, (blk_cell BK208.out 3).trans rfl, (blk_cell BK209.out 0).trans rfl, (blk_cell BK209.out 1).trans rfl, (blk_cell BK209.out 2).trans rfl, (blk_cell BK209.out 3).trans rfl⟩ (fun hHeld => ?_)
                 clear hK K
                 refine norm_ (a' := ?_) ?_ ?_
                 rotate_left
                 ·
                  show Act.put _ (some 95) _ = _
                  simp only [Act.put, List.setIfInBounds_toArray, List.set_cons_zero, List.set_cons_succ, i64_w, i32_w]
                  rfl
                 refine pureA HT_ (i := 8) (N := some 14) (bA 10 511) ?_
                 refine pureA HT_ (i := 9) (N := some 15) (bA 10 1023) ?_
                 refine done_ (done_of HT_.out (by kernel_rfl)) ?_
                 have hnb210 := NB215_208.out
                 have hnc210 := NB208_215.out
                 have hnb211 := NB215_209.out
                 have hnc211 := NB209_215.out
                 have hnb212 := NB215_221.out
                 have hnc212 := NB221_215.out
                 have hnb213 := NB215_227.out
                 have hnc213 := NB227_215.out
                 have hcz214_0 : w209.cell? ⟨gb215, 0, none⟩ = some (.int .u64 t211) := (blk_cell BK215.out 0).trans rfl
                 have hcz214_1 : w209.cell? ⟨gb215, 1, none⟩ = some (.int .u64 t212) := (blk_cell BK215.out 1).trans rfl
                 have hcz214_2 : w209.cell? ⟨gb215, 2, none⟩ = some (.int .i64 t213) := (blk_cell BK215.out 2).trans rfl
                 have hcz214_3 : w209.cell? ⟨gb215, 3, none⟩ = some (.int .i64 t214) := (blk_cell BK215.out 3).trans rfl
                 have hfz214_0 := blk_frozen BK215.out 0
                 have hfz214_1 := blk_frozen BK215.out 1
                 have hfz214_2 := blk_frozen BK215.out 2
                 have hfz214_3 := blk_frozen BK215.out 3
                 try go_wp2_with (first | (go_at_call 18; (with_reducible refine (interval_Contains.calls (rd y238 x84_3) t211 t212 t213 t214 a2 true _ A164.out).mono ?_); rintro e w215 ⟨rfl, hb⟩; replace HO_82 := Aside0.mk (Kd.R_below (by (with_reducible repeat (first | apply Kd.R_alloc | apply Kd.R_drewN | apply Kd.R_drew)); exact HO_82.out) hb); replace BK208 := bkB BK208.out hb; replace BK209 := bkB BK209.out hb; replace BK215 := bkB BK215.out hb; replace BK221 := bkB BK221.out hb; replace BK227 := bkB BK227.out hb; replace HB := bsB HB.out hb; (try clear hb)))
                 go_roundg k3
                 case measure => have := HJ8.out; have := HJ63.out; have := HK3.out; omega
                 case rel => exact ⟨(wrap64 (x84_3 + 1)), (by first | rfl | (simp; done) | (simp [*]; done)), H', ⟨by have := HJ8.out; have := HJ63.out; have := HK3.out; omega⟩, ⟨by (with_reducible repeat (first | apply Kd.R_alloc | apply Kd.R_drewN | apply Kd.R_drew)); exact HO_82.out⟩, ⟨bkL BK208.out⟩, ⟨bkL BK209.out⟩, ⟨bkL BK215.out⟩, ⟨bkL BK221.out⟩, ⟨bkL BK227.out⟩, ⟨bsL HB.out⟩⟩
              ·
               replace c165 := Bool.eq_false_iff.mpr c165
               subst c165
               have H1 : (some false) = some r := by rw [if_neg (show ¬ (false = true) by decide)] at H; exact H
               clear H
               have H := H1
               clear H1
               obtain rfl := Option.some.inj H
               have p241 : 0 ≤ (x84_3 : Int) := of_decide_eq_true (by first | (with_reducible assumption) | assumption)
               have q241 : x84_3 < (y238.length : Int) := of_decide_eq_true (by first | (with_reducible assumption) | assumption)
               obtain ⟨ad241, e241, hx241_0⟩ := Kd.at_int (Kd.R_reads' HO_82.out).2.2 x84_3 p241 q241
               cases e241
               replace p241 := eq_true p241
               replace q241 := eq_true q241
               try go_wp2
               have n0_ := Aside0.mk (Kd.R_drew HO_82.out)
               have n1_ := Aside0.mk (blk_drew BK208.out)
               have n2_ := Aside0.mk (blk_drew BK209.out)
               have n3_ := Aside0.mk (blk_drew BK215.out)
               have n4_ := Aside0.mk (blk_drew BK221.out)
               have n5_ := Aside0.mk (blk_drew BK227.out)
               have n6_ := Aside0.mk (below_drew1 HB.out)
               clear HO_82
               clear BK208
               clear BK209
               clear BK215
               clear BK221
               clear BK227
               clear HB
               have HO_82 := n0_
               have BK208 := n1_
               have BK209 := n2_
               have BK215 := n3_
               have BK221 := n4_
               have BK227 := n5_
               have HB := n6_
               clear n0_ n1_ n2_ n3_ n4_ n5_ n6_
               refine start_ (n := 10) (S := fun w' => w'.cell? ⟨gb208, 0, none⟩ = some (.int .u64 a0_0) ∧ w'.cell? ⟨gb208, 1, none⟩ = some (.int .u64 a0_1) ∧ w'.cell? ⟨gb208, 2, none⟩ = some (.int .i64 a0_2) ∧ w'.cell? ⟨gb208, 3, none⟩ = some (.int .i64 a0_3) ∧ w'.cell? ⟨gb209, 0, none⟩ = some (.int .u64 a1_0) ∧ w'.cell? ⟨gb209, 1, none⟩ = some (.int .u64 a1_1) ∧ w'.cell? ⟨gb209, 2, none⟩ = some (.int .i64 a1_2) ∧ w'.cell? ⟨gb209, 3, none⟩ = some (.int .i64 a1_3)) (ds := []) (bA 10 0) (by kernel_rfl) rfl rfl ⟨(blk_cell BK208.out 0).trans rfl, (blk_cell BK208.out 1).trans rfl, (blk_cell BK208.out 2).trans rfl, (blk_cell BK208.out 3).trans rfl, (blk_cell BK209.out 0).trans rfl, (blk_cell BK209.out 1).trans rfl, (blk_cell BK209.out 2).trans rfl, (blk_cell BK209.out 3).trans rfl⟩ (fun hHeld => ?_); refine with_tabW jacquardlaw13_IntervalLattice.tab13 jacquardlaw13_IntervalLattice.bits13 (fun HT_ HW_ => ?_)
               generalize wr.drew = w216 at HO_82 BK208 BK209 BK215 BK221 BK227 HB hHeld ⊢
               refine pureA HT_ (i := 0) (N := some 88) (bA 10 1) ?_
               refine pureA HT_ (i := 2) (N := some 90) (bA 10 5) ?_
               refine pureA HT_ (i := 4) (N := some 92) (bA 10 21) ?_
               refine pureA HT_ (i := 6) (N := some 94) (bA 10 85) ?_
               refine takeA HT_ HW_ hHeld (i := 1) (N := some 89) (bA 10 87) ?_ (hy := by rintro w' ⟨s0, s1, s2, s3, s4, s5, s6, s7⟩; go_simp; with_reducible rfl)
               refine takeA HT_ HW_ hHeld (i := 5) (N := some 93) (bA 10 119) ?_ (hy := by rintro w' ⟨s0, s1, s2, s3, s4, s5, s6, s7⟩; go_simp; with_reducible rfl)
               refine one_ (i := 3) (N := some 91) (bA 10 127) rfl rfl (one_of HT_.out (by kernel_rfl)) (by decide) (fun K hK => ?_)
               refine gO Try.func18 #[.int .i64 (rd y238 x84_3), .agg #[.int .u64 a0_0, .int .u64 a0_1, .int .i64 a0_2, .int .i64 a0_3], .int .u64 a2] ?_
               with_reducible refine (interval_Contains.calls (rd y238 x84_3) a0_0 a0_1 a0_2 a0_3 a2 true _ A161.out).mono ?_
               rintro e w217 ⟨rfl, hb⟩
               refine ⟨_, rfl, ?_⟩
               have n0_ := Aside0.mk (Kd.R_below (by (with_reducible repeat (first | apply Kd.R_alloc | apply Kd.R_drewN | apply Kd.R_drew)); exact HO_82.out) hb)
               have n1_ := bkB BK208.out hb
               have n2_ := bkB BK209.out hb
               have n3_ := bkB BK215.out hb
               have n4_ := bkB BK221.out hb
               have n5_ := bkB BK227.out hb
               have n6_ := bsB HB.out hb
               clear HO_82
               clear BK208
               clear BK209
               clear BK215
               clear BK221
               clear BK227
               clear HB
               have HO_82 := n0_
               have BK208 := n1_
               have BK209 := n2_
               have BK215 := n3_
               have BK221 := n4_
               have BK227 := n5_
               have HB := n6_
               clear n0_ n1_ n2_ n3_ n4_ n5_ n6_
               (try clear hb)
               (try clear hb2)
               (try clear hk)
               (try clear hi)
               refine hK.out _ _ ⟨(blk_cell BK208.out 0).trans rfl, (blk_cell BK208.out 1).trans rfl, (blk_cell BK208.out 2).trans rfl, (blk_cell BK208.out 3).trans rfl, (blk_cell BK209.out 0).trans rfl, (blk_cell BK209.out 1).trans rfl, (blk_cell BK209.out 2).trans rfl, (blk_cell BK209.out 3).trans rfl⟩ (fun hHeld => ?_)
               clear hK K
               refine norm_ (a' := ?_) ?_ ?_
               rotate_left
               ·
                show Act.put _ (some 91) _ = _
                simp only [Act.put, List.setIfInBounds_toArray, List.set_cons_zero, List.set_cons_succ, i64_w, i32_w]
                rfl
               refine one_ (i := 7) (N := some 95) (bA 10 255) rfl rfl (one_of HT_.out (by kernel_rfl)) (by decide) (fun K hK => ?_)
               refine gO Try.func18 #[.int .i64 (rd y238 x84_3), .agg #[.int .u64 a1_0, .int .u64 a1_1, .int .i64 a1_2, .int .i64 a1_3], .int .u64 a2] ?_
               with_reducible refine (interval_Contains.calls (rd y238 x84_3) a1_0 a1_1 a1_2 a1_3 a2 t243 _ A162.out).mono ?_
               rintro e w218 ⟨rfl, hb⟩
               refine ⟨_, rfl, ?_⟩
               have n0_ := Aside0.mk (Kd.R_below (by (with_reducible repeat (first | apply Kd.R_alloc | apply Kd.R_drewN | apply Kd.R_drew)); exact HO_82.out) hb)
               have n1_ := bkB BK208.out hb
               have n2_ := bkB BK209.out hb
               have n3_ := bkB BK215.out hb
               have n4_ := bkB BK221.out hb
               have n5_ := bkB BK227.out hb
               have n6_ := bsB HB.out hb
               clear HO_82
               clear BK208
               clear BK209
               clear BK215
               clear BK221
               clear BK227
               clear HB
               have HO_82 := n0_
               have BK208 := n1_
               have BK209 := n2_
               have BK215 := n3_
               have BK221 := n4_
               have BK227 := n5_
               have HB := n6_
               clear n0_ n1_ n2_ n3_ n4_ n5_ n6_
               (try clear hb)
               (try clear hb2)
               (try clear hk)
               (try clear hi)
               refine hK.out _ _ ⟨(blk_cell BK208.out 0).trans rfl, (blk_cell BK208.out 1).trans rfl, (blk_cell BK208.out 2).trans rfl, (blk_cell BK208.out 3).trans rfl, (blk_cell BK209.out 0).trans rfl, (blk_cell BK209.out 1).trans rfl, (blk_cell BK209.out 2).trans rfl, (blk_cell BK209.out 3).trans rfl⟩ (fun hHeld => ?_)
               clear hK K
               refine norm_ (a' := ?_) ?_ ?_
               rotate_left
               ·
                show Act.put _ (some 95) _ = _
                simp only [Act.put, List.setIfInBounds_toArray, List.set_cons_zero, List.set_cons_succ, i64_w, i32_w]
                rfl
               refine pureA HT_ (i := 8) (N := some 14) (bA 10 511) ?_
               refine pureA HT_ (i := 9) (N := some 15) (bA 10 1023) ?_
               refine done_ (done_of HT_.out (by kernel_rfl)) ?_
               have hnb219 := NB215_208.out
               have hnc219 := NB208_215.out
               have hnb220 := NB215_209.out
               have hnc220 := NB209_215.out
               have hnb221 := NB215_221.out
               have hnc221 := NB221_215.out
               have hnb222 := NB215_227.out
               have hnc222 := NB227_215.out
               have hcz223_0 : w218.cell? ⟨gb215, 0, none⟩ = some (.int .u64 t211) := (blk_cell BK215.out 0).trans rfl
               have hcz223_1 : w218.cell? ⟨gb215, 1, none⟩ = some (.int .u64 t212) := (blk_cell BK215.out 1).trans rfl
               have hcz223_2 : w218.cell? ⟨gb215, 2, none⟩ = some (.int .i64 t213) := (blk_cell BK215.out 2).trans rfl
               have hcz223_3 : w218.cell? ⟨gb215, 3, none⟩ = some (.int .i64 t214) := (blk_cell BK215.out 3).trans rfl
               have hfz223_0 := blk_frozen BK215.out 0
               have hfz223_1 := blk_frozen BK215.out 1
               have hfz223_2 := blk_frozen BK215.out 2
               have hfz223_3 := blk_frozen BK215.out 3
               try go_wp2_with (first | (go_at_call 18; (with_reducible refine (interval_Contains.calls (rd y238 x84_3) t211 t212 t213 t214 a2 false _ A164.out).mono ?_); rintro e w224 ⟨rfl, hb⟩; replace HO_82 := Aside0.mk (Kd.R_below (by (with_reducible repeat (first | apply Kd.R_alloc | apply Kd.R_drewN | apply Kd.R_drew)); exact HO_82.out) hb); replace BK208 := bkB BK208.out hb; replace BK209 := bkB BK209.out hb; replace BK215 := bkB BK215.out hb; replace BK221 := bkB BK221.out hb; replace BK227 := bkB BK227.out hb; replace HB := bsB HB.out hb; (try clear hb)))
               go_ret
               exact ⟨by first | rfl | (simp [errW_none, errW_some] <;> rfl) | (simp [*, errW_none, errW_some] <;> rfl), bsL HB.out⟩
             ·
              replace c163 := Bool.eq_false_iff.mpr c163
              subst c163
              have H1 : (if t243 = true then ((interval_Contains.f (rd y238 x84_3) t211 t212 t213 t214 a2).bind fun t246 => (if t246 = true then (jacquardlaw13_IntervalLattice.l0 k3 a2 t220 y238 (y238.length : Int) (wrap64 (x84_3 + 1)) a0_0 a0_1 a0_2 a0_3 a1_0 a1_1 a1_2 a1_3 t211 t212 t213 t214 t216 t217 t218 t219) else (some false))) else (jacquardlaw13_IntervalLattice.l0 k3 a2 t220 y238 (y238.length : Int) (wrap64 (x84_3 + 1)) a0_0 a0_1 a0_2 a0_3 a1_0 a1_1 a1_2 a1_3 t211 t212 t213 t214 t216 t217 t218 t219)) = some r := by rw [if_neg (show ¬ (false = true) by decide)] at H; exact H
              clear H
              have H := H1
              clear H1
              by_cases c225 : t243 = true
              ·
               subst c225
               have H1 : ((interval_Contains.f (rd y238 x84_3) t211 t212 t213 t214 a2).bind fun t246 => (if t246 = true then (jacquardlaw13_IntervalLattice.l0 k3 a2 t220 y238 (y238.length : Int) (wrap64 (x84_3 + 1)) a0_0 a0_1 a0_2 a0_3 a1_0 a1_1 a1_2 a1_3 t211 t212 t213 t214 t216 t217 t218 t219) else (some false))) = some r := by rw [if_pos rfl] at H; exact H
               clear H
               have H := H1
               clear H1
               replace H := Option.bind_eq_some_iff.mp H
               obtain ⟨t246, A2260, H⟩ := H
               replace H : (if t246 = true then (jacquardlaw13_IntervalLattice.l0 k3 a2 t220 y238 (y238.length : Int) (wrap64 (x84_3 + 1)) a0_0 a0_1 a0_2 a0_3 a1_0 a1_1 a1_2 a1_3 t211 t212 t213 t214 t216 t217 t218 t219) else (some false)) = some r := H
               have A226 := Aside0.mk A2260
               clear A2260
               by_cases c227 : t246 = true
               ·
                subst c227
                have H1 : (jacquardlaw13_IntervalLattice.l0 k3 a2 t220 y238 (y238.length : Int) (wrap64 (x84_3 + 1)) a0_0 a0_1 a0_2 a0_3 a1_0 a1_1 a1_2 a1_3 t211 t212 t213 t214 t216 t217 t218 t219) = some r := by rw [if_pos rfl] at H; exact H
                clear H
                have H := H1
                clear H1
                have H' := Aside0.mk H
                clear H
                have p241 : 0 ≤ (x84_3 : Int) := of_decide_eq_true (by first | (with_reducible assumption) | assumption)
                have q241 : x84_3 < (y238.length : Int) := of_decide_eq_true (by first | (with_reducible assumption) | assumption)
                obtain ⟨ad241, e241, hx241_0⟩ := Kd.at_int (Kd.R_reads' HO_82.out).2.2 x84_3 p241 q241
                cases e241
                replace p241 := eq_true p241
                replace q241 := eq_true q241
                try go_wp2
                have n0_ := Aside0.mk (Kd.R_drew HO_82.out)
                have n1_ := Aside0.mk (blk_drew BK208.out)
                have n2_ := Aside0.mk (blk_drew BK209.out)
                have n3_ := Aside0.mk (blk_drew BK215.out)
                have n4_ := Aside0.mk (blk_drew BK221.out)
                have n5_ := Aside0.mk (blk_drew BK227.out)
                have n6_ := Aside0.mk (below_drew1 HB.out)
                clear HO_82
                clear BK208
                clear BK209
                clear BK215
                clear BK221
                clear BK227
                clear HB
                have HO_82 := n0_
                have BK208 := n1_
                have BK209 := n2_
                have BK215 := n3_
                have BK221 := n4_
                have BK227 := n5_
                have HB := n6_
                clear n0_ n1_ n2_ n3_ n4_ n5_ n6_
                refine start_ (n := 10) (S := fun w' => w'.cell? ⟨gb208, 0, none⟩ = some (.int .u64 a0_0) ∧ w'.cell? ⟨gb208, 1, none⟩ = some (.int .u64 a0_1) ∧ w'.cell? ⟨gb208, 2, none⟩ = some (.int .i64 a0_2) ∧ w'.cell? ⟨gb208, 3, none⟩ = some (.int .i64 a0_3) ∧ w'.cell? ⟨gb209, 0, none⟩ = some (.int .u64 a1_0) ∧ w'.cell? ⟨gb209, 1, none⟩ = some (.int .u64 a1_1) ∧ w'.cell? ⟨gb209, 2, none⟩ = some (.int .i64 a1_2) ∧ w'.cell? ⟨gb209, 3, none⟩ = some (.int .i64 a1_3)) (ds := []) (bA 10 0) (by kernel_rfl) rfl rfl ⟨(blk_cell BK208.out 0).trans rfl, (blk_cell BK208.out 1).trans rfl, (blk_cell BK208.out 2).trans rfl, (blk_cell BK208.out 3).trans rfl, (blk_cell BK209.out 0).trans rfl, (blk_cell BK209.out 1).trans rfl, (blk_cell BK209.out 2).trans rfl, (blk_cell BK209.out 3).trans rfl⟩ (fun hHeld => ?_); refine with_tabW jacquardlaw13_IntervalLattice.tab13 jacquardlaw13_IntervalLattice.bits13 (fun HT_ HW_ => ?_)
                generalize wr.drew = w228 at HO_82 BK208 BK209 BK215 BK221 BK227 HB hHeld ⊢
                refine pureA HT_ (i := 0) (N := some 88) (bA 10 1) ?_
                refine pureA HT_ (i := 2) (N := some 90) (bA 10 5) ?_
                refine pureA HT_ (i := 4) (N := some 92) (bA 10 21) ?_
                refine pureA HT_ (i := 6) (N := some 94) (bA 10 85) ?_
                refine takeA HT_ HW_ hHeld (i := 1) (N := some 89) (bA 10 87) ?_ (hy := by rintro w' ⟨s0, s1, s2, s3, s4, s5, s6, s7⟩; go_simp; with_reducible rfl)
                refine takeA HT_ HW_ hHeld (i := 5) (N := some 93) (bA 10 119) ?_ (hy := by rintro w' ⟨s0, s1, s2, s3, s4, s5, s6, s7⟩; go_simp; with_reducible rfl)
                refine one_ (i := 3) (N := some 91) (bA 10 127) rfl rfl (one_of HT_.out (by kernel_rfl)) (by decide) (fun K hK => ?_)
                refine gO Try.func18 #[.int .i64 (rd y238 x84_3), .agg #[.int .u64 a0_0, .int .u64 a0_1, .int .i64 a0_2, .int .i64 a0_3], .int .u64 a2] ?_
                with_reducible refine (interval_Contains.calls (rd y238 x84_3) a0_0 a0_1 a0_2 a0_3 a2 false _ A161.out).mono ?_
                rintro e w229 ⟨rfl, hb⟩
                refine ⟨_, rfl, ?_⟩
                have n0_ := Aside0.mk (Kd.R_below (by (with_reducible repeat (first | apply Kd.R_alloc | apply Kd.R_drewN | apply Kd.R_drew)); exact HO_82.out) hb)
                have n1_ := bkB BK208.out hb
                have n2_ := bkB BK209.out hb
                have n3_ := bkB BK215.out hb
                have n4_ := bkB BK221.out hb
                have n5_ := bkB BK227.out hb
                have n6_ := bsB HB.out hb
                clear HO_82
                clear BK208
                clear BK209
                clear BK215
                clear BK221
                clear BK227
                clear HB
                have HO_82 := n0_
                have BK208 := n1_
                have BK209 := n2_
                have BK215 := n3_
                have BK221 := n4_
                have BK227 := n5_
                have HB := n6_
                clear n0_ n1_ n2_ n3_ n4_ n5_ n6_
                (try clear hb)
                (try clear hb2)
                (try clear hk)
                (try clear hi)
                refine hK.out _ _ ⟨(blk_cell BK208.out 0).trans rfl, (blk_cell BK208.out 1).trans rfl, (blk_cell BK208.out 2).trans rfl, (blk_cell BK208.out 3).trans rfl, (blk_cell BK209.out 0).trans rfl, (blk_cell BK209.out 1).trans rfl, (blk_cell BK209.out 2).trans rfl, (blk_cell BK209.out 3).trans rfl⟩ (fun hHeld => ?_)
                clear hK K
                refine norm_ (a' := ?_) ?_ ?_
                rotate_left
                ·
                 show Act.put _ (some 91) _ = _
                 simp only [Act.put, List.setIfInBounds_toArray, List.set_cons_zero, List.set_cons_succ, i64_w, i32_w]
                 rfl
                refine one_ (i := 7) (N := some 95) (bA 10 255) rfl rfl (one_of HT_.out (by kernel_rfl)) (by decide) (fun K hK => ?_)
                refine gO Try.func18 #[.int .i64 (rd y238 x84_3), .agg #[.int .u64 a1_0, .int .u64 a1_1, .int .i64 a1_2, .int .i64 a1_3], .int .u64 a2] ?_
                with_reducible refine (interval_Contains.calls (rd y238 x84_3) a1_0 a1_1 a1_2 a1_3 a2 true _ A162.out).mono ?_
                rintro e w230 ⟨rfl, hb⟩
                refine ⟨_, rfl, ?_⟩
                have n0_ := Aside0.mk (Kd.R_below (by (with_reducible repeat (first | apply Kd.R_alloc | apply Kd.R_drewN | apply Kd.R_drew)); exact HO_82.out) hb)
                have n1_ := bkB BK208.out hb
                have n2_ := bkB BK209.out hb
                have n3_ := bkB BK215.out hb
                have n4_ := bkB BK221.out hb
                have n5_ := bkB BK227.out hb
                have n6_ := bsB HB.out hb
                clear HO_82
                clear BK208
                clear BK209
                clear BK215
                clear BK221
                clear BK227
                clear HB
                have HO_82 := n0_
                have BK208 := n1_
                have BK209 := n2_
                have BK215 := n3_
                have BK221 := n4_
                have BK227 := n5_
                have HB := n6_
                clear n0_ n1_ n2_ n3_ n4_ n5_ n6_
                (try clear hb)
                (try clear hb2)
                (try clear hk)
                (try clear hi)
                refine hK.out _ _ ⟨(blk_cell BK208.out 0).trans rfl, (blk_cell BK208.out 1).trans rfl, (blk_cell BK208.out 2).trans rfl, (blk_cell BK208.out 3).trans rfl, (blk_cell BK209.out 0).trans rfl, (blk_cell BK209.out 1).trans rfl, (blk_cell BK209.out 2).trans rfl, (blk_cell BK209.out 3).trans rfl⟩ (fun hHeld => ?_)
                clear hK K
                refine norm_ (a' := ?_) ?_ ?_
                rotate_left
                ·
                 show Act.put _ (some 95) _ = _
                 simp only [Act.put, List.setIfInBounds_toArray, List.set_cons_zero, List.set_cons_succ, i64_w, i32_w]
                 rfl
                refine pureA HT_ (i := 8) (N := some 14) (bA 10 511) ?_
                refine pureA HT_ (i := 9) (N := some 15) (bA 10 1023) ?_
                refine done_ (done_of HT_.out (by kernel_rfl)) ?_
                have hnb231 := NB215_208.out
                have hnc231 := NB208_215.out
                have hnb232 := NB215_209.out
                have hnc232 := NB209_215.out
                have hnb233 := NB215_221.out
                have hnc233 := NB221_215.out
                have hnb234 := NB215_227.out
                have hnc234 := NB227_215.out
                have hcz235_0 : w230.cell? ⟨gb215, 0, none⟩ = some (.int .u64 t211) := (blk_cell BK215.out 0).trans rfl
                have hcz235_1 : w230.cell? ⟨gb215, 1, none⟩ = some (.int .u64 t212) := (blk_cell BK215.out 1).trans rfl
                have hcz235_2 : w230.cell? ⟨gb215, 2, none⟩ = some (.int .i64 t213) := (blk_cell BK215.out 2).trans rfl
                have hcz235_3 : w230.cell? ⟨gb215, 3, none⟩ = some (.int .i64 t214) := (blk_cell BK215.out 3).trans rfl
                have hfz235_0 := blk_frozen BK215.out 0
                have hfz235_1 := blk_frozen BK215.out 1
                have hfz235_2 := blk_frozen BK215.out 2
                have hfz235_3 := blk_frozen BK215.out 3
                try go_wp2_with (first | (go_at_call 18; (with_reducible refine (interval_Contains.calls (rd y238 x84_3) t211 t212 t213 t214 a2 true _ A226.out).mono ?_); rintro e w236 ⟨rfl, hb⟩; replace HO_82 := Aside0.mk (Kd.R_below (by (with_reducible repeat (first | apply Kd.R_alloc | apply Kd.R_drewN | apply Kd.R_drew)); exact HO_82.out) hb); replace BK208 := bkB BK208.out hb; replace BK209 := bkB BK209.out hb; replace BK215 := bkB BK215.out hb; replace BK221 := bkB BK221.out hb; replace BK227 := bkB BK227.out hb; replace HB := bsB HB.out hb; (try clear hb)))
                go_roundg k3
                case measure => have := HJ8.out; have := HJ63.out; have := HK3.out; omega
                case rel => exact ⟨(wrap64 (x84_3 + 1)), (by first | rfl | (simp; done) | (simp [*]; done)), H', ⟨by have := HJ8.out; have := HJ63.out; have := HK3.out; omega⟩, ⟨by (with_reducible repeat (first | apply Kd.R_alloc | apply Kd.R_drewN | apply Kd.R_drew)); exact HO_82.out⟩, ⟨bkL BK208.out⟩, ⟨bkL BK209.out⟩, ⟨bkL BK215.out⟩, ⟨bkL BK221.out⟩, ⟨bkL BK227.out⟩, ⟨bsL HB.out⟩⟩
               ·
                replace c227 := Bool.eq_false_iff.mpr c227
                subst c227
                have H1 : (some false) = some r := by rw [if_neg (show ¬ (false = true) by decide)] at H; exact H
                clear H
                have H := H1
                clear H1
                obtain rfl := Option.some.inj H
                have p241 : 0 ≤ (x84_3 : Int) := of_decide_eq_true (by first | (with_reducible assumption) | assumption)
                have q241 : x84_3 < (y238.length : Int) := of_decide_eq_true (by first | (with_reducible assumption) | assumption)
                obtain ⟨ad241, e241, hx241_0⟩ := Kd.at_int (Kd.R_reads' HO_82.out).2.2 x84_3 p241 q241
                cases e241
                replace p241 := eq_true p241
                replace q241 := eq_true q241
                try go_wp2
                have n0_ := Aside0.mk (Kd.R_drew HO_82.out)
                have n1_ := Aside0.mk (blk_drew BK208.out)
                have n2_ := Aside0.mk (blk_drew BK209.out)
                have n3_ := Aside0.mk (blk_drew BK215.out)
                have n4_ := Aside0.mk (blk_drew BK221.out)
                have n5_ := Aside0.mk (blk_drew BK227.out)
                have n6_ := Aside0.mk (below_drew1 HB.out)
                clear HO_82
                clear BK208
                clear BK209
                clear BK215
                clear BK221
                clear BK227
                clear HB
                have HO_82 := n0_
                have BK208 := n1_
                have BK209 := n2_
                have BK215 := n3_
                have BK221 := n4_
                have BK227 := n5_
                have HB := n6_
                clear n0_ n1_ n2_ n3_ n4_ n5_ n6_
                refine start_ (n := 10) (S := fun w' => w'.cell? ⟨gb208, 0, none⟩ = some (.int .u64 a0_0) ∧ w'.cell? ⟨gb208, 1, none⟩ = some (.int .u64 a0_1) ∧ w'.cell? ⟨gb208, 2, none⟩ = some (.int .i64 a0_2) ∧ w'.cell? ⟨gb208, 3, none⟩ = some (.int .i64 a0_3) ∧ w'.cell? ⟨gb209, 0, none⟩ = some (.int .u64 a1_0) ∧ w'.cell? ⟨gb209, 1, none⟩ = some (.int .u64 a1_1) ∧ w'.cell? ⟨gb209, 2, none⟩ = some (.int .i64 a1_2) ∧ w'.cell? ⟨gb209, 3, none⟩ = some (.int .i64 a1_3)) (ds := []) (bA 10 0) (by kernel_rfl) rfl rfl ⟨(blk_cell BK208.out 0).trans rfl, (blk_cell BK208.out 1).trans rfl, (blk_cell BK208.out 2).trans rfl, (blk_cell BK208.out 3).trans rfl, (blk_cell BK209.out 0).trans rfl, (blk_cell BK209.out 1).trans rfl, (blk_cell BK209.out 2).trans rfl, (blk_cell BK209.out 3).trans rfl⟩ (fun hHeld => ?_); refine with_tabW jacquardlaw13_IntervalLattice.tab13 jacquardlaw13_IntervalLattice.bits13 (fun HT_ HW_ => ?_)
                generalize wr.drew = w237 at HO_82 BK208 BK209 BK215 BK221 BK227 HB hHeld ⊢
                refine pureA HT_ (i := 0) (N := some 88) (bA 10 1) ?_
                refine pureA HT_ (i := 2) (N := some 90) (bA 10 5) ?_
                refine pureA HT_ (i := 4) (N := some 92) (bA 10 21) ?_
                refine pureA HT_ (i := 6) (N := some 94) (bA 10 85) ?_
                refine takeA HT_ HW_ hHeld (i := 1) (N := some 89) (bA 10 87) ?_ (hy := by rintro w' ⟨s0, s1, s2, s3, s4, s5, s6, s7⟩; go_simp; with_reducible rfl)
                refine takeA HT_ HW_ hHeld (i := 5) (N := some 93) (bA 10 119) ?_ (hy := by rintro w' ⟨s0, s1, s2, s3, s4, s5, s6, s7⟩; go_simp; with_reducible rfl)
                refine one_ (i := 3) (N := some 91) (bA 10 127) rfl rfl (one_of HT_.out (by kernel_rfl)) (by decide) (fun K hK => ?_)
                refine gO Try.func18 #[.int .i64 (rd y238 x84_3), .agg #[.int .u64 a0_0, .int .u64 a0_1, .int .i64 a0_2, .int .i64 a0_3], .int .u64 a2] ?_
                with_reducible refine (interval_Contains.calls (rd y238 x84_3) a0_0 a0_1 a0_2 a0_3 a2 false _ A161.out).mono ?_
                rintro e w238 ⟨rfl, hb⟩
                refine ⟨_, rfl, ?_⟩
                have n0_ := Aside0.mk (Kd.R_below (by (with_reducible repeat (first | apply Kd.R_alloc | apply Kd.R_drewN | apply Kd.R_drew)); exact HO_82.out) hb)
                have n1_ := bkB BK208.out hb
                have n2_ := bkB BK209.out hb
                have n3_ := bkB BK215.out hb
                have n4_ := bkB BK221.out hb
                have n5_ := bkB BK227.out hb
                have n6_ := bsB HB.out hb
                clear HO_82
                clear BK208
                clear BK209
                clear BK215
                clear BK221
                clear BK227
                clear HB
                have HO_82 := n0_
                have BK208 := n1_
                have BK209 := n2_
                have BK215 := n3_
                have BK221 := n4_
                have BK227 := n5_
                have HB := n6_
                clear n0_ n1_ n2_ n3_ n4_ n5_ n6_
                (try clear hb)
                (try clear hb2)
                (try clear hk)
                (try clear hi)
                refine hK.out _ _ ⟨(blk_cell BK208.out 0).trans rfl, (blk_cell BK208.out 1).trans rfl, (blk_cell BK208.out 2).trans rfl, (blk_cell BK208.out 3).trans rfl, (blk_cell BK209.out 0).trans rfl, (blk_cell BK209.out 1).trans rfl, (blk_cell BK209.out 2).trans rfl, (blk_cell BK209.out 3).trans rfl⟩ (fun hHeld => ?_)
                clear hK K
                refine norm_ (a' := ?_) ?_ ?_
                rotate_left
                ·
                 show Act.put _ (some 91) _ = _
                 simp only [Act.put, List.setIfInBounds_toArray, List.set_cons_zero, List.set_cons_succ, i64_w, i32_w]
                 rfl
                refine one_ (i := 7) (N := some 95) (bA 10 255) rfl rfl (one_of HT_.out (by kernel_rfl)) (by decide) (fun K hK => ?_)
                refine gO Try.func18 #[.int .i64 (rd y238 x84_3), .agg #[.int .u64 a1_0, .int .u64 a1_1, .int .i64 a1_2, .int .i64 a1_3], .int .u64 a2] ?_
                with_reducible refine (interval_Contains.calls (rd y238 x84_3) a1_0 a1_1 a1_2 a1_3 a2 true _ A162.out).mono ?_
                rintro e w239 ⟨rfl, hb⟩
                refine ⟨_, rfl, ?_⟩
                have n0_ := Aside0.mk (Kd.R_below (by (with_reducible repeat (first | apply Kd.R_alloc | apply Kd.R_drewN | apply Kd.R_drew)); exact HO_82.out) hb)
                have n1_ := bkB BK208.out hb
                have n2_ := bkB BK209.out hb
                have n3_ := bkB BK215.out hb
                have n4_ := bkB BK221.out hb
                have n5_ := bkB BK227.out hb
                have n6_ := bsB HB.out hb
                clear HO_82
                clear BK208
                clear BK209
                clear BK215
                clear BK221
                clear BK227
                clear HB
                have HO_82 := n0_
                have BK208 := n1_
                have BK209 := n2_
                have BK215 := n3_
                have BK221 := n4_
                have BK227 := n5_
                have HB := n6_
                clear n0_ n1_ n2_ n3_ n4_ n5_ n6_
                (try clear hb)
                (try clear hb2)
                (try clear hk)
                (try clear hi)
                refine hK.out _ _ ⟨(blk_cell BK208.out 0).trans rfl, (blk_cell BK208.out 1).trans rfl, (blk_cell BK208.out 2).trans rfl, (blk_cell BK208.out 3).trans rfl, (blk_cell BK209.out 0).trans rfl, (blk_cell BK209.out 1).trans rfl, (blk_cell BK209.out 2).trans rfl, (blk_cell BK209.out 3).trans rfl⟩ (fun hHeld => ?_)
                clear hK K
                refine norm_ (a' := ?_) ?_ ?_
                rotate_left
                ·
                 show Act.put _ (some 95) _ = _
                 simp only [Act.put, List.setIfInBounds_toArray, List.set_cons_zero, List.set_cons_succ, i64_w, i32_w]
                 rfl
                refine pureA HT_ (i := 8) (N := some 14) (bA 10 511) ?_
                refine pureA HT_ (i := 9) (N := some 15) (bA 10 1023) ?_
                refine done_ (done_of HT_.out (by kernel_rfl)) ?_
                have hnb240 := NB215_208.out
                have hnc240 := NB208_215.out
                have hnb241 := NB215_209.out
                have hnc241 := NB209_215.out
                have hnb242 := NB215_221.out
                have hnc242 := NB221_215.out
                have hnb243 := NB215_227.out
                have hnc243 := NB227_215.out
                have hcz244_0 : w239.cell? ⟨gb215, 0, none⟩ = some (.int .u64 t211) := (blk_cell BK215.out 0).trans rfl
                have hcz244_1 : w239.cell? ⟨gb215, 1, none⟩ = some (.int .u64 t212) := (blk_cell BK215.out 1).trans rfl
                have hcz244_2 : w239.cell? ⟨gb215, 2, none⟩ = some (.int .i64 t213) := (blk_cell BK215.out 2).trans rfl
                have hcz244_3 : w239.cell? ⟨gb215, 3, none⟩ = some (.int .i64 t214) := (blk_cell BK215.out 3).trans rfl
                have hfz244_0 := blk_frozen BK215.out 0
                have hfz244_1 := blk_frozen BK215.out 1
                have hfz244_2 := blk_frozen BK215.out 2
                have hfz244_3 := blk_frozen BK215.out 3
                try go_wp2_with (first | (go_at_call 18; (with_reducible refine (interval_Contains.calls (rd y238 x84_3) t211 t212 t213 t214 a2 false _ A226.out).mono ?_); rintro e w245 ⟨rfl, hb⟩; replace HO_82 := Aside0.mk (Kd.R_below (by (with_reducible repeat (first | apply Kd.R_alloc | apply Kd.R_drewN | apply Kd.R_drew)); exact HO_82.out) hb); replace BK208 := bkB BK208.out hb; replace BK209 := bkB BK209.out hb; replace BK215 := bkB BK215.out hb; replace BK221 := bkB BK221.out hb; replace BK227 := bkB BK227.out hb; replace HB := bsB HB.out hb; (try clear hb)))
                go_ret
                exact ⟨by first | rfl | (simp [errW_none, errW_some] <;> rfl) | (simp [*, errW_none, errW_some] <;> rfl), bsL HB.out⟩
              ·
               replace c225 := Bool.eq_false_iff.mpr c225
               subst c225
               have H1 : (jacquardlaw13_IntervalLattice.l0 k3 a2 t220 y238 (y238.length : Int) (wrap64 (x84_3 + 1)) a0_0 a0_1 a0_2 a0_3 a1_0 a1_1 a1_2 a1_3 t211 t212 t213 t214 t216 t217 t218 t219) = some r := by rw [if_neg (show ¬ (false = true) by decide)] at H; exact H
               clear H
               have H := H1
               clear H1
               have H' := Aside0.mk H
               clear H
               have p241 : 0 ≤ (x84_3 : Int) := of_decide_eq_true (by first | (with_reducible assumption) | assumption)
               have q241 : x84_3 < (y238.length : Int) := of_decide_eq_true (by first | (with_reducible assumption) | assumption)
               obtain ⟨ad241, e241, hx241_0⟩ := Kd.at_int (Kd.R_reads' HO_82.out).2.2 x84_3 p241 q241
               cases e241
               replace p241 := eq_true p241
               replace q241 := eq_true q241
               try go_wp2
               have n0_ := Aside0.mk (Kd.R_drew HO_82.out)
               have n1_ := Aside0.mk (blk_drew BK208.out)
               have n2_ := Aside0.mk (blk_drew BK209.out)
               have n3_ := Aside0.mk (blk_drew BK215.out)
               have n4_ := Aside0.mk (blk_drew BK221.out)
               have n5_ := Aside0.mk (blk_drew BK227.out)
               have n6_ := Aside0.mk (below_drew1 HB.out)
               clear HO_82
               clear BK208
               clear BK209
               clear BK215
               clear BK221
               clear BK227
               clear HB
               have HO_82 := n0_
               have BK208 := n1_
               have BK209 := n2_
               have BK215 := n3_
               have BK221 := n4_
               have BK227 := n5_
               have HB := n6_
               clear n0_ n1_ n2_ n3_ n4_ n5_ n6_
               refine start_ (n := 10) (S := fun w' => w'.cell? ⟨gb208, 0, none⟩ = some (.int .u64 a0_0) ∧ w'.cell? ⟨gb208, 1, none⟩ = some (.int .u64 a0_1) ∧ w'.cell? ⟨gb208, 2, none⟩ = some (.int .i64 a0_2) ∧ w'.cell? ⟨gb208, 3, none⟩ = some (.int .i64 a0_3) ∧ w'.cell? ⟨gb209, 0, none⟩ = some (.int .u64 a1_0) ∧ w'.cell? ⟨gb209, 1, none⟩ = some (.int .u64 a1_1) ∧ w'.cell? ⟨gb209, 2, none⟩ = some (.int .i64 a1_2) ∧ w'.cell? ⟨gb209, 3, none⟩ = some (.int .i64 a1_3)) (ds := []) (bA 10 0) (by kernel_rfl) rfl rfl ⟨(blk_cell BK208.out 0).trans rfl, (blk_cell BK208.out 1).trans rfl, (blk_cell BK208.out 2).trans rfl, (blk_cell BK208.out 3).trans rfl, (blk_cell BK209.out 0).trans rfl, (blk_cell BK209.out 1).trans rfl, (blk_cell BK209.out 2).trans rfl, (blk_cell BK209.out 3).trans rfl⟩ (fun hHeld => ?_); refine with_tabW jacquardlaw13_IntervalLattice.tab13 jacquardlaw13_IntervalLattice.bits13 (fun HT_ HW_ => ?_)
               generalize wr.drew = w246 at HO_82 BK208 BK209 BK215 BK221 BK227 HB hHeld ⊢
               refine pureA HT_ (i := 0) (N := some 88) (bA 10 1) ?_
               refine pureA HT_ (i := 2) (N := some 90) (bA 10 5) ?_
               refine pureA HT_ (i := 4) (N := some 92) (bA 10 21) ?_
               refine pureA HT_ (i := 6) (N := some 94) (bA 10 85) ?_
               refine takeA HT_ HW_ hHeld (i := 1) (N := some 89) (bA 10 87) ?_ (hy := by rintro w' ⟨s0, s1, s2, s3, s4, s5, s6, s7⟩; go_simp; with_reducible rfl)
               refine takeA HT_ HW_ hHeld (i := 5) (N := some 93) (bA 10 119) ?_ (hy := by rintro w' ⟨s0, s1, s2, s3, s4, s5, s6, s7⟩; go_simp; with_reducible rfl)
               refine one_ (i := 3) (N := some 91) (bA 10 127) rfl rfl (one_of HT_.out (by kernel_rfl)) (by decide) (fun K hK => ?_)
               refine gO Try.func18 #[.int .i64 (rd y238 x84_3), .agg #[.int .u64 a0_0, .int .u64 a0_1, .int .i64 a0_2, .int .i64 a0_3], .int .u64 a2] ?_
               with_reducible refine (interval_Contains.calls (rd y238 x84_3) a0_0 a0_1 a0_2 a0_3 a2 false _ A161.out).mono ?_
               rintro e w247 ⟨rfl, hb⟩
               refine ⟨_, rfl, ?_⟩
               have n0_ := Aside0.mk (Kd.R_below (by (with_reducible repeat (first | apply Kd.R_alloc | apply Kd.R_drewN | apply Kd.R_drew)); exact HO_82.out) hb)
               have n1_ := bkB BK208.out hb
               have n2_ := bkB BK209.out hb
               have n3_ := bkB BK215.out hb
               have n4_ := bkB BK221.out hb
               have n5_ := bkB BK227.out hb
               have n6_ := bsB HB.out hb
               clear HO_82
               clear BK208
               clear BK209
               clear BK215
               clear BK221
               clear BK227
               clear HB
               have HO_82 := n0_
               have BK208 := n1_
               have BK209 := n2_
               have BK215 := n3_
               have BK221 := n4_
               have BK227 := n5_
               have HB := n6_
               clear n0_ n1_ n2_ n3_ n4_ n5_ n6_
               (try clear hb)
               (try clear hb2)
               (try clear hk)
               (try clear hi)
               refine hK.out _ _ ⟨(blk_cell BK208.out 0).trans rfl, (blk_cell BK208.out 1).trans rfl, (blk_cell BK208.out 2).trans rfl, (blk_cell BK208.out 3).trans rfl, (blk_cell BK209.out 0).trans rfl, (blk_cell BK209.out 1).trans rfl, (blk_cell BK209.out 2).trans rfl, (blk_cell BK209.out 3).trans rfl⟩ (fun hHeld => ?_)
               clear hK K
               refine norm_ (a' := ?_) ?_ ?_
               rotate_left
               ·
                show Act.put _ (some 91) _ = _
                simp only [Act.put, List.setIfInBounds_toArray, List.set_cons_zero, List.set_cons_succ, i64_w, i32_w]
                rfl
               refine one_ (i := 7) (N := some 95) (bA 10 255) rfl rfl (one_of HT_.out (by kernel_rfl)) (by decide) (fun K hK => ?_)
               refine gO Try.func18 #[.int .i64 (rd y238 x84_3), .agg #[.int .u64 a1_0, .int .u64 a1_1, .int .i64 a1_2, .int .i64 a1_3], .int .u64 a2] ?_
               with_reducible refine (interval_Contains.calls (rd y238 x84_3) a1_0 a1_1 a1_2 a1_3 a2 false _ A162.out).mono ?_
               rintro e w248 ⟨rfl, hb⟩
               refine ⟨_, rfl, ?_⟩
               have n0_ := Aside0.mk (Kd.R_below (by (with_reducible repeat (first | apply Kd.R_alloc | apply Kd.R_drewN | apply Kd.R_drew)); exact HO_82.out) hb)
               have n1_ := bkB BK208.out hb
               have n2_ := bkB BK209.out hb
               have n3_ := bkB BK215.out hb
               have n4_ := bkB BK221.out hb
               have n5_ := bkB BK227.out hb
               have n6_ := bsB HB.out hb
               clear HO_82
               clear BK208
               clear BK209
               clear BK215
               clear BK221
               clear BK227
               clear HB
               have HO_82 := n0_
               have BK208 := n1_
               have BK209 := n2_
               have BK215 := n3_
               have BK221 := n4_
               have BK227 := n5_
               have HB := n6_
               clear n0_ n1_ n2_ n3_ n4_ n5_ n6_
               (try clear hb)
               (try clear hb2)
               (try clear hk)
               (try clear hi)
               refine hK.out _ _ ⟨(blk_cell BK208.out 0).trans rfl, (blk_cell BK208.out 1).trans rfl, (blk_cell BK208.out 2).trans rfl, (blk_cell BK208.out 3).trans rfl, (blk_cell BK209.out 0).trans rfl, (blk_cell BK209.out 1).trans rfl, (blk_cell BK209.out 2).trans rfl, (blk_cell BK209.out 3).trans rfl⟩ (fun hHeld => ?_)
               clear hK K
               refine norm_ (a' := ?_) ?_ ?_
               rotate_left
               ·
                show Act.put _ (some 95) _ = _
                simp only [Act.put, List.setIfInBounds_toArray, List.set_cons_zero, List.set_cons_succ, i64_w, i32_w]
                rfl
               refine pureA HT_ (i := 8) (N := some 14) (bA 10 511) ?_
               refine pureA HT_ (i := 9) (N := some 15) (bA 10 1023) ?_
               refine done_ (done_of HT_.out (by kernel_rfl)) ?_
               try go_wp2
               go_roundg k3
               case measure => have := HJ8.out; have := HJ63.out; have := HK3.out; omega
               case rel => exact ⟨(wrap64 (x84_3 + 1)), (by first | rfl | (simp; done) | (simp [*]; done)), H', ⟨by have := HJ8.out; have := HJ63.out; have := HK3.out; omega⟩, ⟨by (with_reducible repeat (first | apply Kd.R_alloc | apply Kd.R_drewN | apply Kd.R_drew)); exact HO_82.out⟩, ⟨bkL BK208.out⟩, ⟨bkL BK209.out⟩, ⟨bkL BK215.out⟩, ⟨bkL BK221.out⟩, ⟨bkL BK227.out⟩, ⟨bsL HB.out⟩⟩
            ·
             rw [if_neg c160] at H
             exact absurd H (by simp)
           ·
            rw [if_neg c159] at H
            exact absurd H (by simp)
          ·
           rw [if_neg c158] at H
           have c158b0 : decide (x84_3 < (y238.length : Int)) = false := decide_eq_false c158
           clear c158
           obtain rfl := Option.some.inj H
           go_wp2
           go_ret
           exact ⟨by first | rfl | (simp [errW_none, errW_some] <;> rfl) | (simp [*, errW_none, errW_some] <;> rfl), bsL HB.out⟩
 ·
  replace c5 := Bool.eq_false_iff.mpr c5
  subst c5
  have H1 : (some false) = some r := by rw [if_neg (show ¬ (false = true) by decide)] at H; exact H
  clear H
  have H := H1
  clear H1
  obtain rfl := Option.some.inj H
  go_enter Try.func4, Try.ntmps4
  go_wp2_with (first | ((with_reducible refine gate_dst (N := 3) rfl ?_); refine box_event ?hg (N := 3) ?hd (cs := #[.int .u64 a0_0, .int .u64 a0_1, .int .i64 a0_2, .int .i64 a0_3]) (t := 24) ?hr ?_; (case hd => rfl); (case hg => rfl); (case hr => first | (go_simp; done) | (go_simp; rfl)); intro gb208 hg w249 hbox hb; have n0_ := bsB HB.out hb; have n1_ := Aside0.mk (hbox); have n2_ := Aside0.mk ((by rw [hg]; exact (below_size (by repeat (first | (with_reducible first | exact HB.out | apply below_alloc | apply pw_below_drewN | apply below_drew1) | exact HB.out))) : w.heap.size ≤ gb208)); have n3_ := Aside0.mk ((by rw [hg]; exact (below_size (by repeat (first | (with_reducible first | exact HB.out | apply below_alloc | apply pw_below_drewN | apply below_drew1) | exact HB.out))) : w.heap.size ≤ gb208)); clear HB; have HB := n0_; have BK208 := n1_; have GW208 := n2_; have GE208 := n3_; clear n0_ n1_ n2_ n3_; clear hb hbox hg) | ((with_reducible refine gate_dst (N := 4) rfl ?_); refine box_event ?hg (N := 4) ?hd (cs := #[.int .u64 a1_0, .int .u64 a1_1, .int .i64 a1_2, .int .i64 a1_3]) (t := 24) ?hr ?_; (case hd => rfl); (case hg => rfl); (case hr => first | (go_simp; done) | (go_simp; rfl)); intro gb209 hg w250 hbox hb; have n0_ := bkB BK208.out hb; have n1_ := bsB HB.out hb; have n2_ := Aside0.mk (hbox); have n3_ := Aside0.mk ((by rw [hg]; exact (below_size (by repeat (first | (with_reducible first | exact HB.out | apply below_alloc | apply pw_below_drewN | apply below_drew1 | refine below_set ?_ GE208.out) | exact HB.out))) : w.heap.size ≤ gb209)); have n4_ := Aside0.mk ((by rw [hg]; exact (below_size (by repeat (first | (with_reducible first | exact HB.out | apply below_alloc | apply pw_below_drewN | apply below_drew1 | refine below_set ?_ GE208.out) | exact HB.out))) : w.heap.size ≤ gb209)); have n5_ := Aside0.mk ((by rw [hg]; exact Nat.ne_of_lt (blk_lt (g := gb208) (o := .cells #[.int .u64 a0_0, .int .u64 a0_1, .int .i64 a0_2, .int .i64 a0_3] 24 (0, 0)) (by (with_reducible repeat (first | refine blk_drewN ?_ _ | refine blk_drew ?_ | refine blk_alloc ?_ _)); exact BK208.out)) : gb208 ≠ gb209)); have n6_ := Aside0.mk ((by rw [hg]; exact Nat.ne_of_gt (blk_lt (g := gb208) (o := .cells #[.int .u64 a0_0, .int .u64 a0_1, .int .i64 a0_2, .int .i64 a0_3] 24 (0, 0)) (by (with_reducible repeat (first | refine blk_drewN ?_ _ | refine blk_drew ?_ | refine blk_alloc ?_ _)); exact BK208.out)) : gb209 ≠ gb208)); clear BK208; clear HB; have BK208 := n0_; have HB := n1_; have BK209 := n2_; have GW209 := n3_; have GE209 := n4_; have NB208_209 := n5_; have NB209_208 := n6_; clear n0_ n1_ n2_ n3_ n4_ n5_ n6_; clear hb hbox hg) | ((with_reducible refine gate_callee (f := 15) rfl ?_); refine gL (some 16) Try.func15 #[] ?_; (with_reducible refine (jacquardlaw13_awake.calls  false _ A4.out).mono ?_); rintro e w251 ⟨rfl, hb⟩; refine ⟨_, rfl, ?_⟩; replace BK208 := bkB BK208.out hb; replace BK209 := bkB BK209.out hb; replace HB := bsB HB.out hb; (try clear hb)))
  go_ret
  exact ⟨by first | rfl | (simp [errW_none, errW_some] <;> rfl) | (simp [*, errW_none, errW_some] <;> rfl), bsL HB.out⟩

/-- THE ONE PURE STATEMENT of jacquardlaw13_IntervalLattice. -/
def jacquardlaw13_IntervalLattice.Pure : Prop := ∀ (a0_0 : Int) (a0_1 : Int) (a0_2 : Int) (a0_3 : Int) (a1_0 : Int) (a1_1 : Int) (a1_2 : Int) (a1_3 : Int) (a2 : Int), (Lit.int .u64 a0_0).wf = true → (Lit.int .u64 a0_1).wf = true → (Lit.int .i64 a0_2).wf = true → (Lit.int .i64 a0_3).wf = true → (Lit.int .u64 a1_0).wf = true → (Lit.int .u64 a1_1).wf = true → (Lit.int .i64 a1_2).wf = true → (Lit.int .i64 a1_3).wf = true → (Lit.int .u64 a2).wf = true → ∃ k, jacquardlaw13_IntervalLattice.f k a0_0 a0_1 a0_2 a0_3 a1_0 a1_1 a1_2 a1_3 a2 = some true

end Go.Proofs.Ytanmehdcccldfaa.P
