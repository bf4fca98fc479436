-- made by a program of this work (wip/mkprint.py, wip/mp.sh) out of the translation
import Derived.Test.YtanmehdcccldfaaPx0
import Derived.Test.YtanmehdcccldfaaPx1
import Derived.Test.YtanmehdcccldfaaPx2
import Derived.Test.YtanmehdcccldfaaPx3
import Derived.Test.YtanmehdcccldfaaPx4
import Derived.Test.YtanmehdcccldfaaPx5
import Derived.Test.YtanmehdcccldfaaPx6
import Derived.Test.YtanmehdcccldfaaPx7
namespace Go.Proofs.Ytanmehdcccldfaa.P
open Go.RowKit Go.Proofs.YtanmehdcccldfaaW.PrintWords Go.Proofs.YtanmehdcccldfaaW.PrintLast Go.Proofs.YtanmehdcccldfaaW.PrintMore
attribute [local go_sem] max2_int min2_int max_two min_two max_three min_three max_four min_four   -- for this text's walks alone
set_option linter.unusedVariables false
set_option linter.unusedSimpArgs false

attribute [local go_sem high] eqA24
/-! ### jacquardlaw13_IntervalElements: function 3 -/
mutual
def jacquardlaw13_IntervalElements.j0 : Nat → Int → Bool → Int → Int → Option (Bool)
 | 0, _, _, _, _ => none
 | k + 1, x0, x49, x154000, x154001 => if x49 = true then (some false) else (if x0 < 1 then (jacquardlaw13_IntervalElements.j1 k x0 true x154000 x154001) else (jacquardlaw13_IntervalElements.j1 k x0 (decide (x0 > 64)) x154000 x154001))
def jacquardlaw13_IntervalElements.j1 : Nat → Int → Bool → Int → Int → Option (Bool)
 | 0, _, _, _, _ => none
 | k + 1, x0, x55, x154000, x154001 => if x55 = true then (some true) else ((jacquardref12_Mask.f k x0).bind fun t175 => ((jacquardref12_Mask.f k x0).bind fun t176 => ((interval_Of.f x0 (Go.bits .and .u64 x154000 t175)).bind fun bt177 => ((interval_Valid.f x0 bt177.1 bt177.2.1 bt177.2.2.1 bt177.2.2.2).bind fun t182 => (if t182 = true then ((interval_Top.f x0).bind fun bt183 => ((interval_Valid.f x0 bt183.1 bt183.2.1 bt183.2.2.1 bt183.2.2.2).bind fun t187 => (if t187 = true then ((interval_Contains.f x0 bt183.1 bt183.2.1 bt183.2.2.1 bt183.2.2.2 (Go.bits .and .u64 x154000 t175)).bind fun t188 => (if t188 = true then ((interval_Contains.f x0 bt177.1 bt177.2.1 bt177.2.2.1 bt177.2.2.2 (Go.bits .and .u64 x154001 t176)).bind fun t189 => (some (t189 == ((Go.bits .and .u64 x154000 t175) == (Go.bits .and .u64 x154001 t176))))) else (some false))) else (some false)))) else (some false))))))
end
def jacquardlaw13_IntervalElements.f (k : Nat) (a0 : Int) (a1_0 : Int) (a1_1 : Int) (a1_2 : Int) (a1_3 : Int) (a2_0 : Int) (a2_1 : Int) : Option (Bool) := (jacquardlaw13_awake.f).bind fun t154 => (if t154 = true then ((interval_Valid.f a0 a1_0 a1_1 a1_2 a1_3).bind fun t155 => ((jacquardref13_Valid.f k a0 a1_0 a1_1 a1_2 a1_3).bind fun t156 => (if (t155 != t156) = true then (jacquardlaw13_IntervalElements.j0 k a0 true a2_0 a2_1) else ((interval_Contains.f a0 a1_0 a1_1 a1_2 a1_3 a2_0).bind fun t157 => ((jacquardref13_Contains.f k a0 a1_0 a1_1 a1_2 a1_3 a2_0).bind fun t158 => (if (t157 != t158) = true then (jacquardlaw13_IntervalElements.j0 k a0 true a2_0 a2_1) else ((interval_Top.f a0).bind fun bt159 => ((jacquardref13_Top.f k a0).bind fun bt163 => (if (!(bt159.1 == bt163.1) || (!(bt159.2.1 == bt163.2.1) || (!(bt159.2.2.1 == bt163.2.2.1) || (!(bt159.2.2.2 == bt163.2.2.2))))) = true then (jacquardlaw13_IntervalElements.j0 k a0 true a2_0 a2_1) else ((interval_Of.f a0 a2_0).bind fun bt167 => ((jacquardref13_Of.f k a0 a2_0).bind fun bt171 => (jacquardlaw13_IntervalElements.j0 k a0 (!(bt167.1 == bt171.1) || (!(bt167.2.1 == bt171.2.1) || (!(bt167.2.2.1 == bt171.2.2.1) || (!(bt167.2.2.2 == bt171.2.2.2))))) a2_0 a2_1)))))))))))) else (some false))
theorem jacquardlaw13_IntervalElements.mono_l : ∀ k, (∀ y0 y1 y2 y3, LeO (jacquardlaw13_IntervalElements.j0 k y0 y1 y2 y3) (jacquardlaw13_IntervalElements.j0 (k + 1) y0 y1 y2 y3)) ∧ (∀ y0 y1 y2 y3, LeO (jacquardlaw13_IntervalElements.j1 k y0 y1 y2 y3) (jacquardlaw13_IntervalElements.j1 (k + 1) y0 y1 y2 y3))
 | 0 => ⟨fun _ _ _ _ r h => by simp [jacquardlaw13_IntervalElements.j0] at h, fun _ _ _ _ r h => by simp [jacquardlaw13_IntervalElements.j1] at h⟩
 | k + 1 => by
  obtain ⟨ih0, ih1⟩ := jacquardlaw13_IntervalElements.mono_l k
  refine ⟨?_, ?_⟩
  ·
   intro y0 y1 y2 y3
   unfold jacquardlaw13_IntervalElements.j0
   repeat' first
   | (with_reducible exact ih0 _ _ _ _)
   | (with_reducible exact ih1 _ _ _ _)
   | (with_reducible exact jacquardref12_Mask.mono _ _)
   | (with_reducible exact jacquardref13_Contains.mono _ _ _ _ _ _ _)
   | (with_reducible exact jacquardref13_Of.mono _ _ _)
   | (with_reducible exact jacquardref13_Top.mono _ _)
   | (with_reducible exact jacquardref13_Valid.mono _ _ _ _ _ _)
   | (with_reducible exact LeO.refl _)
   | (with_reducible exact LeO.none _)
   | (with_reducible refine LeO.ite ?_ ?_)
   | (with_reducible refine LeO.bind ?_ (fun _ => ?_))
   | exact ih0 _ _ _ _
   | exact ih1 _ _ _ _
   | exact jacquardref12_Mask.mono _ _
   | exact jacquardref13_Contains.mono _ _ _ _ _ _ _
   | exact jacquardref13_Of.mono _ _ _
   | exact jacquardref13_Top.mono _ _
   | exact jacquardref13_Valid.mono _ _ _ _ _ _
   | exact LeO.none _
   | refine LeO.ite ?_ ?_
   | refine LeO.bind ?_ (fun _ => ?_)
  ·
   intro y0 y1 y2 y3
   unfold jacquardlaw13_IntervalElements.j1
   repeat' first
   | (with_reducible exact ih0 _ _ _ _)
   | (with_reducible exact ih1 _ _ _ _)
   | (with_reducible exact jacquardref12_Mask.mono _ _)
   | (with_reducible exact jacquardref13_Contains.mono _ _ _ _ _ _ _)
   | (with_reducible exact jacquardref13_Of.mono _ _ _)
   | (with_reducible exact jacquardref13_Top.mono _ _)
   | (with_reducible exact jacquardref13_Valid.mono _ _ _ _ _ _)
   | (with_reducible exact LeO.refl _)
   | (with_reducible exact LeO.none _)
   | (with_reducible refine LeO.ite ?_ ?_)
   | (with_reducible refine LeO.bind ?_ (fun _ => ?_))
   | exact ih0 _ _ _ _
   | exact ih1 _ _ _ _
   | exact jacquardref12_Mask.mono _ _
   | exact jacquardref13_Contains.mono _ _ _ _ _ _ _
   | exact jacquardref13_Of.mono _ _ _
   | exact jacquardref13_Top.mono _ _
   | exact jacquardref13_Valid.mono _ _ _ _ _ _
   | exact LeO.none _
   | refine LeO.ite ?_ ?_
   | refine LeO.bind ?_ (fun _ => ?_)
theorem jacquardlaw13_IntervalElements.mono : ∀ a0 a1 a2 a3 a4 a5 a6 k, LeO (jacquardlaw13_IntervalElements.f k a0 a1 a2 a3 a4 a5 a6) (jacquardlaw13_IntervalElements.f (k + 1) a0 a1 a2 a3 a4 a5 a6) := by
 intro a0 a1 a2 a3 a4 a5 a6 k
 obtain ⟨ih0, ih1⟩ := jacquardlaw13_IntervalElements.mono_l k
 unfold jacquardlaw13_IntervalElements.f
 repeat' first
   | (with_reducible exact ih0 _ _ _ _)
   | (with_reducible exact ih1 _ _ _ _)
   | (with_reducible exact jacquardref12_Mask.mono _ _)
   | (with_reducible exact jacquardref13_Contains.mono _ _ _ _ _ _ _)
   | (with_reducible exact jacquardref13_Of.mono _ _ _)
   | (with_reducible exact jacquardref13_Top.mono _ _)
   | (with_reducible exact jacquardref13_Valid.mono _ _ _ _ _ _)
   | (with_reducible exact LeO.refl _)
   | (with_reducible exact LeO.none _)
   | (with_reducible refine LeO.ite ?_ ?_)
   | (with_reducible refine LeO.bind ?_ (fun _ => ?_))
   | exact ih0 _ _ _ _
   | exact ih1 _ _ _ _
   | exact jacquardref12_Mask.mono _ _
   | exact jacquardref13_Contains.mono _ _ _ _ _ _ _
   | exact jacquardref13_Of.mono _ _ _
   | exact jacquardref13_Top.mono _ _
   | exact jacquardref13_Valid.mono _ _ _ _ _ _
   | exact LeO.none _
   | refine LeO.ite ?_ ?_
   | refine LeO.bind ?_ (fun _ => ?_)
def jacquardlaw13_IntervalElements.T3 : Bool × List (List Nat × List Nat) := (true, [([], []), ([], []), ([0, 1], [0, 1]), ([], []), ([], []), ([3, 4, 2], [3, 4]), ([2, 5], [2, 5]), ([6, 5], [6]), ([7], [7]), ([7], [7]), ([7], [7]), ([10, 7], [7, 10]), ([8, 9, 11, 7, 7], [7, 8, 9, 11]), ([7], [7]), ([7], [7]), ([7], [7]), ([15, 7], [7, 15]), ([13, 14, 16, 12, 7], [7, 13, 14, 16]), ([12, 17, 7], [7, 12, 17]), ([7, 18], [7, 18]), ([19, 17], [19]), ([20], [20]), ([21, 20, 20], [20, 21]), ([20], [20]), ([23, 22, 20], [20, 23]), ([22, 24, 20], [20, 22, 24]), ([20, 25], [20, 25]), ([26, 24], [26]), ([27], [27]), ([27], [27]), ([29, 27], [27, 29]), ([28, 30, 27, 27], [27, 28, 30]), ([27], [27]), ([27], [27]), ([33, 27], [27, 33]), ([32, 34, 31, 27], [27, 32, 34]), ([31, 35, 27], [27, 31, 35]), ([27, 36], [27, 36])])
def jacquardlaw13_IntervalElements.B3 : List Nat := [0, 0, 3, 0, 0, 31, 63, 127, 255, 255, 255, 1279, 4095, 255, 255, 255, 33023, 131071, 262143, 524287, 1048575, 2097151, 4194303, 2097151, 16777215, 33554431, 67108863, 134217727, 268435455, 268435455, 805306367, 2147483647, 268435455, 268435455, 8858370047, 34359738367, 68719476735, 137438953471]
theorem jacquardlaw13_IntervalElements.tab3 : rtab .any (opsOf Try.f3 3) = jacquardlaw13_IntervalElements.T3 := by kernel_rfl
theorem jacquardlaw13_IntervalElements.bits3 : waitsOk jacquardlaw13_IntervalElements.T3.2 jacquardlaw13_IntervalElements.B3 = true := by kernel_rfl
def jacquardlaw13_IntervalElements.T7 : Bool × List (List Nat × List Nat) := (true, [([], []), ([0], [0]), ([], []), ([2], [2]), ([1, 3], [1, 3]), ([], []), ([5], [5]), ([], []), ([7, 3], [7]), ([6, 8], [6, 8]), ([4, 8, 0, 1, 2, 3, 4], [4]), ([9, 10, 0, 1, 2, 3, 4, 5, 6, 7, 8, 9, 10], [9])])
def jacquardlaw13_IntervalElements.B7 : List Nat := [0, 1, 0, 4, 15, 0, 32, 0, 140, 492, 415, 2047]
theorem jacquardlaw13_IntervalElements.tab7 : rtab .any (opsOf Try.f3 7) = jacquardlaw13_IntervalElements.T7 := by kernel_rfl
theorem jacquardlaw13_IntervalElements.bits7 : waitsOk jacquardlaw13_IntervalElements.T7.2 jacquardlaw13_IntervalElements.B7 = true := by kernel_rfl
set_option maxHeartbeats 8000000 in
set_option maxRecDepth 100000 in
theorem jacquardlaw13_IntervalElements.calls (k : Nat) (a0 : Int) (a1_0 : Int) (a1_1 : Int) (a1_2 : Int) (a1_3 : Int) (a2_0 : Int) (a2_1 : Int) (r : Bool) (w : World) (h : jacquardlaw13_IntervalElements.f k a0 a1_0 a1_1 a1_2 a1_3 a2_0 a2_1 = some r) :
  Calls Try.prog 3 #[.int .i64 a0, .agg #[.int .u64 a1_0, .int .u64 a1_1, .int .i64 a1_2, .int .i64 a1_3], .agg #[.int .u64 a2_0, .int .u64 a2_1]] w fun e w' => e = .returned (.bool r) ∧ Below w.heap.size w w' := by
 have hu24 := Try.underlying24
 have hu25 := Try.underlying25
 have HB := Aside0.mk (Below.refl w.heap.size w)
 have H : ((jacquardlaw13_awake.f).bind fun t154 => (if t154 = true then ((interval_Valid.f a0 a1_0 a1_1 a1_2 a1_3).bind fun t155 => ((jacquardref13_Valid.f k a0 a1_0 a1_1 a1_2 a1_3).bind fun t156 => (if (t155 != t156) = true then (jacquardlaw13_IntervalElements.j0 k a0 true a2_0 a2_1) else ((interval_Contains.f a0 a1_0 a1_1 a1_2 a1_3 a2_0).bind fun t157 => ((jacquardref13_Contains.f k a0 a1_0 a1_1 a1_2 a1_3 a2_0).bind fun t158 => (if (t157 != t158) = true then (jacquardlaw13_IntervalElements.j0 k a0 true a2_0 a2_1) else ((interval_Top.f a0).bind fun bt159 => ((jacquardref13_Top.f k a0).bind fun bt163 => (if (!(bt159.1 == bt163.1) || (!(bt159.2.1 == bt163.2.1) || (!(bt159.2.2.1 == bt163.2.2.1) || (!(bt159.2.2.2 == bt163.2.2.2))))) = true then (jacquardlaw13_IntervalElements.j0 k a0 true a2_0 a2_1) else ((interval_Of.f a0 a2_0).bind fun bt167 => ((jacquardref13_Of.f k a0 a2_0).bind fun bt171 => (jacquardlaw13_IntervalElements.j0 k a0 (!(bt167.1 == bt171.1) || (!(bt167.2.1 == bt171.2.1) || (!(bt167.2.2.1 == bt171.2.2.1) || (!(bt167.2.2.2 == bt171.2.2.2))))) a2_0 a2_1)))))))))))) else (some false))) = some r := h
 clear h
 replace H := Option.bind_eq_some_iff.mp H
 obtain ⟨t154, A40, H⟩ := H
 replace H : (if t154 = true then ((interval_Valid.f a0 a1_0 a1_1 a1_2 a1_3).bind fun t155 => ((jacquardref13_Valid.f k a0 a1_0 a1_1 a1_2 a1_3).bind fun t156 => (if (t155 != t156) = true then (jacquardlaw13_IntervalElements.j0 k a0 true a2_0 a2_1) else ((interval_Contains.f a0 a1_0 a1_1 a1_2 a1_3 a2_0).bind fun t157 => ((jacquardref13_Contains.f k a0 a1_0 a1_1 a1_2 a1_3 a2_0).bind fun t158 => (if (t157 != t158) = true then (jacquardlaw13_IntervalElements.j0 k a0 true a2_0 a2_1) else ((interval_Top.f a0).bind fun bt159 => ((jacquardref13_Top.f k a0).bind fun bt163 => (if (!(bt159.1 == bt163.1) || (!(bt159.2.1 == bt163.2.1) || (!(bt159.2.2.1 == bt163.2.2.1) || (!(bt159.2.2.2 == bt163.2.2.2))))) = true then (jacquardlaw13_IntervalElements.j0 k a0 true a2_0 a2_1) else ((interval_Of.f a0 a2_0).bind fun bt167 => ((jacquardref13_Of.f k a0 a2_0).bind fun bt171 => (jacquardlaw13_IntervalElements.j0 k a0 (!(bt167.1 == bt171.1) || (!(bt167.2.1 == bt171.2.1) || (!(bt167.2.2.1 == bt171.2.2.1) || (!(bt167.2.2.2 == bt171.2.2.2))))) a2_0 a2_1)))))))))))) else (some false)) = some r := H
 have A4 := Aside0.mk A40
 clear A40
 by_cases c5 : t154 = true
 ·
  subst c5
  have H1 : ((interval_Valid.f a0 a1_0 a1_1 a1_2 a1_3).bind fun t155 => ((jacquardref13_Valid.f k a0 a1_0 a1_1 a1_2 a1_3).bind fun t156 => (if (t155 != t156) = true then (jacquardlaw13_IntervalElements.j0 k a0 true a2_0 a2_1) else ((interval_Contains.f a0 a1_0 a1_1 a1_2 a1_3 a2_0).bind fun t157 => ((jacquardref13_Contains.f k a0 a1_0 a1_1 a1_2 a1_3 a2_0).bind fun t158 => (if (t157 != t158) = true then (jacquardlaw13_IntervalElements.j0 k a0 true a2_0 a2_1) else ((interval_Top.f a0).bind fun bt159 => ((jacquardref13_Top.f k a0).bind fun bt163 => (if (!(bt159.1 == bt163.1) || (!(bt159.2.1 == bt163.2.1) || (!(bt159.2.2.1 == bt163.2.2.1) || (!(bt159.2.2.2 == bt163.2.2.2))))) = true then (jacquardlaw13_IntervalElements.j0 k a0 true a2_0 a2_1) else ((interval_Of.f a0 a2_0).bind fun bt167 => ((jacquardref13_Of.f k a0 a2_0).bind fun bt171 => (jacquardlaw13_IntervalElements.j0 k a0 (!(bt167.1 == bt171.1) || (!(bt167.2.1 == bt171.2.1) || (!(bt167.2.2.1 == bt171.2.2.1) || (!(bt167.2.2.2 == bt171.2.2.2))))) a2_0 a2_1)))))))))))) = some r := by rw [if_pos rfl] at H; exact H
  clear H
  have H := H1
  clear H1
  have HC6 := Aside0.mk H
  clear H
  go_enter Try.func3, Try.ntmps3
  go_upto_region 3 with (first | ((with_reducible refine gate_dst (N := 4) rfl ?_); refine box_event ?hg (N := 4) ?hd (cs := #[.int .u64 a1_0, .int .u64 a1_1, .int .i64 a1_2, .int .i64 a1_3]) (t := 24) ?hr ?_; (case hd => rfl); (case hg => rfl); (case hr => first | (go_simp; done) | (go_simp; rfl)); intro gb152 hg w7 hbox hb; have n0_ := bsB HB.out hb; have n1_ := Aside0.mk (hbox); have n2_ := Aside0.mk ((by rw [hg]; exact (below_size (by repeat (first | (with_reducible first | exact HB.out | apply below_alloc | apply pw_below_drewN | apply below_drew1) | exact HB.out))) : w.heap.size ≤ gb152)); have n3_ := Aside0.mk ((by rw [hg]; exact (below_size (by repeat (first | (with_reducible first | exact HB.out | apply below_alloc | apply pw_below_drewN | apply below_drew1) | exact HB.out))) : w.heap.size ≤ gb152)); clear HB; have HB := n0_; have BK152 := n1_; have GW152 := n2_; have GE152 := n3_; clear n0_ n1_ n2_ n3_; clear hb hbox hg) | ((with_reducible refine gate_dst (N := 5) rfl ?_); refine box_event ?hg (N := 5) ?hd (cs := #[.int .u64 a2_0, .int .u64 a2_1]) (t := 25) ?hr ?_; (case hd => rfl); (case hg => rfl); (case hr => first | (go_simp; done) | (go_simp; rfl)); intro gb153 hg w8 hbox hb; have n0_ := bkB BK152.out hb; have n1_ := bsB HB.out hb; have n2_ := Aside0.mk (hbox); have n3_ := Aside0.mk ((by rw [hg]; exact (below_size (by repeat (first | (with_reducible first | exact HB.out | apply below_alloc | apply pw_below_drewN | apply below_drew1 | refine below_set ?_ GE152.out) | exact HB.out))) : w.heap.size ≤ gb153)); have n4_ := Aside0.mk ((by rw [hg]; exact (below_size (by repeat (first | (with_reducible first | exact HB.out | apply below_alloc | apply pw_below_drewN | apply below_drew1 | refine below_set ?_ GE152.out) | exact HB.out))) : w.heap.size ≤ gb153)); have n5_ := Aside0.mk ((by rw [hg]; exact Nat.ne_of_lt (blk_lt (g := gb152) (o := .cells #[.int .u64 a1_0, .int .u64 a1_1, .int .i64 a1_2, .int .i64 a1_3] 24 (0, 0)) (by (with_reducible repeat (first | refine blk_drewN ?_ _ | refine blk_drew ?_ | refine blk_alloc ?_ _)); exact BK152.out)) : gb152 ≠ gb153)); have n6_ := Aside0.mk ((by rw [hg]; exact Nat.ne_of_gt (blk_lt (g := gb152) (o := .cells #[.int .u64 a1_0, .int .u64 a1_1, .int .i64 a1_2, .int .i64 a1_3] 24 (0, 0)) (by (with_reducible repeat (first | refine blk_drewN ?_ _ | refine blk_drew ?_ | refine blk_alloc ?_ _)); exact BK152.out)) : gb153 ≠ gb152)); clear BK152; clear HB; have BK152 := n0_; have HB := n1_; have BK153 := n2_; have GW153 := n3_; have GE153 := n4_; have NB152_153 := n5_; have NB153_152 := n6_; clear n0_ n1_ n2_ n3_ n4_ n5_ n6_; clear hb hbox hg) | ((with_reducible refine gate_callee (f := 15) rfl ?_); refine gL (some 10) Try.func15 #[] ?_; (with_reducible refine (jacquardlaw13_awake.calls  true _ A4.out).mono ?_); rintro e w9 ⟨rfl, hb⟩; refine ⟨_, rfl, ?_⟩; replace BK152 := bkB BK152.out hb; replace BK153 := bkB BK153.out hb; replace HB := bsB HB.out hb; (try clear hb)))
  (try simp only [Act.put, List.setIfInBounds_toArray, List.set_cons_zero, List.set_cons_succ])
  go_cut [49] (fun v49 wc => ∃ (kq : Nat) (x49_5 : Bool), v49 = .bool x49_5 ∧ Aside0 (jacquardlaw13_IntervalElements.j0 kq a0 x49_5 a2_0 a2_1 = some r) ∧ Aside0 (kq ≤ k) ∧ Aside0 (wc.heap[gb152]? = some (.cells #[.int .u64 a1_0, .int .u64 a1_1, .int .i64 a1_2, .int .i64 a1_3] 24 (0, 0))) ∧ Aside0 (wc.heap[gb153]? = some (.cells #[.int .u64 a2_0, .int .u64 a2_1] 25 (0, 0))) ∧ Aside0 (Below w.heap.size w wc))
  case first =>
   have H := HC6.out
   clear HC6
   replace H := Option.bind_eq_some_iff.mp H
   obtain ⟨t155, A100, H⟩ := H
   replace H : ((jacquardref13_Valid.f k a0 a1_0 a1_1 a1_2 a1_3).bind fun t156 => (if (t155 != t156) = true then (jacquardlaw13_IntervalElements.j0 k a0 true a2_0 a2_1) else ((interval_Contains.f a0 a1_0 a1_1 a1_2 a1_3 a2_0).bind fun t157 => ((jacquardref13_Contains.f k a0 a1_0 a1_1 a1_2 a1_3 a2_0).bind fun t158 => (if (t157 != t158) = true then (jacquardlaw13_IntervalElements.j0 k a0 true a2_0 a2_1) else ((interval_Top.f a0).bind fun bt159 => ((jacquardref13_Top.f k a0).bind fun bt163 => (if (!(bt159.1 == bt163.1) || (!(bt159.2.1 == bt163.2.1) || (!(bt159.2.2.1 == bt163.2.2.1) || (!(bt159.2.2.2 == bt163.2.2.2))))) = true then (jacquardlaw13_IntervalElements.j0 k a0 true a2_0 a2_1) else ((interval_Of.f a0 a2_0).bind fun bt167 => ((jacquardref13_Of.f k a0 a2_0).bind fun bt171 => (jacquardlaw13_IntervalElements.j0 k a0 (!(bt167.1 == bt171.1) || (!(bt167.2.1 == bt171.2.1) || (!(bt167.2.2.1 == bt171.2.2.1) || (!(bt167.2.2.2 == bt171.2.2.2))))) a2_0 a2_1))))))))))) = some r := H
   have A10 := Aside0.mk A100
   clear A100
   replace H := Option.bind_eq_some_iff.mp H
   obtain ⟨t156, A110, H⟩ := H
   replace H : (if (t155 != t156) = true then (jacquardlaw13_IntervalElements.j0 k a0 true a2_0 a2_1) else ((interval_Contains.f a0 a1_0 a1_1 a1_2 a1_3 a2_0).bind fun t157 => ((jacquardref13_Contains.f k a0 a1_0 a1_1 a1_2 a1_3 a2_0).bind fun t158 => (if (t157 != t158) = true then (jacquardlaw13_IntervalElements.j0 k a0 true a2_0 a2_1) else ((interval_Top.f a0).bind fun bt159 => ((jacquardref13_Top.f k a0).bind fun bt163 => (if (!(bt159.1 == bt163.1) || (!(bt159.2.1 == bt163.2.1) || (!(bt159.2.2.1 == bt163.2.2.1) || (!(bt159.2.2.2 == bt163.2.2.2))))) = true then (jacquardlaw13_IntervalElements.j0 k a0 true a2_0 a2_1) else ((interval_Of.f a0 a2_0).bind fun bt167 => ((jacquardref13_Of.f k a0 a2_0).bind fun bt171 => (jacquardlaw13_IntervalElements.j0 k a0 (!(bt167.1 == bt171.1) || (!(bt167.2.1 == bt171.2.1) || (!(bt167.2.2.1 == bt171.2.2.1) || (!(bt167.2.2.2 == bt171.2.2.2))))) a2_0 a2_1)))))))))) = some r := H
   have A11 := Aside0.mk A110
   clear A110
   by_cases c12 : (t155 != t156) = true
   ·
    rw [if_pos c12] at H
    have c12b0 : (t155 != t156) = true := c12
    (try (have c12b1 : decide (t155 = t156) = false := by simpa using c12))
    (try (have c12b2 : (t155 == t156) = false := by simpa using c12))
    (try (have c12b3 : ¬ (t155 = t156) := by simpa using c12))
    clear c12
    (first | rw [c12b0] | (simp only [i64_w, i32_w]; rw [c12b0]) | skip)
    (first | rw [show (!(t155 == t156)) = true by revert c12b0; cases t155 <;> cases t156 <;> simp] | rw [show ((!t155) == t156) = true by revert c12b0; cases t155 <;> cases t156 <;> simp] | skip)
    have H' := Aside0.mk H
    clear H
    try go_wp2
    have n0_ := Aside0.mk (blk_drew BK152.out)
    have n1_ := Aside0.mk (blk_drew BK153.out)
    have n2_ := Aside0.mk (below_drew1 HB.out)
    clear BK152
    clear BK153
    clear HB
    have BK152 := n0_
    have BK153 := n1_
    have HB := n2_
    clear n0_ n1_ n2_
    refine start_ (n := 38) (S := fun w' => w'.cell? ⟨gb152, 0, none⟩ = some (.int .u64 a1_0) ∧ w'.cell? ⟨gb152, 1, none⟩ = some (.int .u64 a1_1) ∧ w'.cell? ⟨gb152, 2, none⟩ = some (.int .i64 a1_2) ∧ w'.cell? ⟨gb152, 3, none⟩ = some (.int .i64 a1_3)) (ds := []) (bA 38 0) (by kernel_rfl) rfl rfl ⟨(blk_cell BK152.out 0).trans rfl, (blk_cell BK152.out 1).trans rfl, (blk_cell BK152.out 2).trans rfl, (blk_cell BK152.out 3).trans rfl⟩ (fun hHeld => ?_); refine with_tabW jacquardlaw13_IntervalElements.tab3 jacquardlaw13_IntervalElements.bits3 (fun HT_ HW_ => ?_)
    generalize w9.drew = w13 at BK152 BK153 HB hHeld ⊢
    refine pureA HT_ (i := 0) (N := some 12) (bA 38 1) ?_
    refine pureA HT_ (i := 3) (N := some 15) (bA 38 9) ?_
    refine takeA HT_ HW_ hHeld (i := 1) (N := some 13) (bA 38 11) ?_ (hy := by rintro w' ⟨s0, s1, s2, s3⟩; go_simp; with_reducible rfl)
    refine takeA HT_ HW_ hHeld (i := 4) (N := some 16) (bA 38 27) ?_ (hy := by rintro w' ⟨s0, s1, s2, s3⟩; go_simp; with_reducible rfl)
    refine one_ (i := 2) (N := some 14) (bA 38 31) rfl rfl (one_of HT_.out (by kernel_rfl)) (by decide) (fun K hK => ?_)
    refine gO Try.func16 #[.int .i64 a0, .agg #[.int .u64 a1_0, .int .u64 a1_1, .int .i64 a1_2, .int .i64 a1_3]] ?_
    with_reducible refine (interval_Valid.calls a0 a1_0 a1_1 a1_2 a1_3 t155 _ A10.out).mono ?_
    rintro e w14 ⟨rfl, hb⟩
    refine ⟨_, rfl, ?_⟩
    have n0_ := bkB BK152.out hb
    have n1_ := bkB BK153.out hb
    have n2_ := bsB HB.out hb
    clear BK152
    clear BK153
    clear HB
    have BK152 := n0_
    have BK153 := n1_
    have HB := n2_
    clear n0_ n1_ n2_
    (try clear hb)
    (try clear hb2)
    (try clear hk)
    (try clear hi)
    refine hK.out _ _ ⟨(blk_cell BK152.out 0).trans rfl, (blk_cell BK152.out 1).trans rfl, (blk_cell BK152.out 2).trans rfl, (blk_cell BK152.out 3).trans rfl⟩ (fun hHeld => ?_)
    clear hK K
    refine norm_ (a' := ?_) ?_ ?_
    rotate_left
    ·
     show Act.put _ (some 14) _ = _
     simp only [Act.put, List.setIfInBounds_toArray, List.set_cons_zero, List.set_cons_succ, i64_w, i32_w]
     rfl
    refine one_ (i := 5) (N := some 17) (bA 38 63) rfl rfl (one_of HT_.out (by kernel_rfl)) (by decide) (fun K hK => ?_)
    refine gO Try.func17 #[.int .i64 a0, .agg #[.int .u64 a1_0, .int .u64 a1_1, .int .i64 a1_2, .int .i64 a1_3]] ?_
    with_reducible refine (jacquardref13_Valid.calls k a0 a1_0 a1_1 a1_2 a1_3 t156 _ A11.out).mono ?_
    rintro e w15 ⟨rfl, hb⟩
    refine ⟨_, rfl, ?_⟩
    have n0_ := bkB BK152.out hb
    have n1_ := bkB BK153.out hb
    have n2_ := bsB HB.out hb
    clear BK152
    clear BK153
    clear HB
    have BK152 := n0_
    have BK153 := n1_
    have HB := n2_
    clear n0_ n1_ n2_
    (try clear hb)
    (try clear hb2)
    (try clear hk)
    (try clear hi)
    refine hK.out _ _ ⟨(blk_cell BK152.out 0).trans rfl, (blk_cell BK152.out 1).trans rfl, (blk_cell BK152.out 2).trans rfl, (blk_cell BK152.out 3).trans rfl⟩ (fun hHeld => ?_)
    clear hK K
    refine norm_ (a' := ?_) ?_ ?_
    rotate_left
    ·
     show Act.put _ (some 17) _ = _
     simp only [Act.put, List.setIfInBounds_toArray, List.set_cons_zero, List.set_cons_succ, i64_w, i32_w]
     rfl
    refine pureA HT_ (i := 6) (N := some 18) (bA 38 127) ?_
    refine pureA HT_ (i := 7) (N := some 19) (bA 38 255) ?_
    refine pureU HT_ (i := 8) (N := some 20) (bA 38 511) ?_
    refine pureU HT_ (i := 9) (N := some 21) (bA 38 1023) ?_
    refine pureU HT_ (i := 10) (N := some 22) (bA 38 2047) ?_
    refine pureU HT_ (i := 11) (N := some 23) (bA 38 4095) ?_
    refine pureU HT_ (i := 12) (N := some 24) (bA 38 8191) ?_
    refine pureU HT_ (i := 13) (N := some 25) (bA 38 16383) ?_
    refine pureU HT_ (i := 14) (N := some 26) (bA 38 32767) ?_
    refine pureU HT_ (i := 15) (N := some 27) (bA 38 65535) ?_
    refine pureU HT_ (i := 16) (N := some 28) (bA 38 131071) ?_
    refine pureU HT_ (i := 17) (N := some 29) (bA 38 262143) ?_
    refine pureU HT_ (i := 18) (N := some 30) (bA 38 524287) ?_
    refine pureA HT_ (i := 19) (N := some 31) (bA 38 1048575) ?_
    refine pureA HT_ (i := 20) (N := some 32) (bA 38 2097151) ?_
    refine pureU HT_ (i := 21) (N := some 33) (bA 38 4194303) ?_
    refine pureU HT_ (i := 22) (N := some 34) (bA 38 8388607) ?_
    refine pureU HT_ (i := 23) (N := some 35) (bA 38 16777215) ?_
    refine pureU HT_ (i := 24) (N := some 36) (bA 38 33554431) ?_
    refine pureU HT_ (i := 25) (N := some 37) (bA 38 67108863) ?_
    refine pureA HT_ (i := 26) (N := some 38) (bA 38 134217727) ?_
    refine pureA HT_ (i := 27) (N := some 39) (bA 38 268435455) ?_
    refine pureU HT_ (i := 28) (N := some 40) (bA 38 536870911) ?_
    refine pureU HT_ (i := 29) (N := some 41) (bA 38 1073741823) ?_
    refine pureU HT_ (i := 30) (N := some 42) (bA 38 2147483647) ?_
    refine pureU HT_ (i := 31) (N := some 43) (bA 38 4294967295) ?_
    refine pureU HT_ (i := 32) (N := some 44) (bA 38 8589934591) ?_
    refine pureU HT_ (i := 33) (N := some 45) (bA 38 17179869183) ?_
    refine pureU HT_ (i := 34) (N := some 46) (bA 38 34359738367) ?_
    refine pureU HT_ (i := 35) (N := some 47) (bA 38 68719476735) ?_
    refine pureU HT_ (i := 36) (N := some 48) (bA 38 137438953471) ?_
    refine pureA HT_ (i := 37) (N := some 49) (bA 38 274877906943) ?_
    refine done_ (done_of HT_.out (by kernel_rfl)) ?_
    try go_wp2
    go_meet
    case rel => exact ⟨_, (true), (by first | rfl | (simp; done) | (simp [*]; done)), H', ⟨by first | omega | exact Nat.le_refl _⟩, ⟨bkL BK152.out⟩, ⟨bkL BK153.out⟩, ⟨bsL HB.out⟩⟩
   ·
    rw [if_neg c12] at H
    have c12b0 : (t155 != t156) = false := by simpa using c12
    (try (have c12b1 : decide (t155 = t156) = true := by simpa using c12))
    (try (have c12b2 : (t155 == t156) = true := by simpa using c12))
    clear c12
    (first | rw [c12b0] | (simp only [i64_w, i32_w]; rw [c12b0]) | skip)
    (first | rw [show (!(t155 == t156)) = false by revert c12b0; cases t155 <;> cases t156 <;> simp] | rw [show ((!t155) == t156) = false by revert c12b0; cases t155 <;> cases t156 <;> simp] | skip)
    replace H := Option.bind_eq_some_iff.mp H
    obtain ⟨t157, A160, H⟩ := H
    replace H : ((jacquardref13_Contains.f k a0 a1_0 a1_1 a1_2 a1_3 a2_0).bind fun t158 => (if (t157 != t158) = true then (jacquardlaw13_IntervalElements.j0 k a0 true a2_0 a2_1) else ((interval_Top.f a0).bind fun bt159 => ((jacquardref13_Top.f k a0).bind fun bt163 => (if (!(bt159.1 == bt163.1) || (!(bt159.2.1 == bt163.2.1) || (!(bt159.2.2.1 == bt163.2.2.1) || (!(bt159.2.2.2 == bt163.2.2.2))))) = true then (jacquardlaw13_IntervalElements.j0 k a0 true a2_0 a2_1) else ((interval_Of.f a0 a2_0).bind fun bt167 => ((jacquardref13_Of.f k a0 a2_0).bind fun bt171 => (jacquardlaw13_IntervalElements.j0 k a0 (!(bt167.1 == bt171.1) || (!(bt167.2.1 == bt171.2.1) || (!(bt167.2.2.1 == bt171.2.2.1) || (!(bt167.2.2.2 == bt171.2.2.2))))) a2_0 a2_1)))))))) = some r := H
    have A16 := Aside0.mk A160
    clear A160
    replace H := Option.bind_eq_some_iff.mp H
    obtain ⟨t158, A170, H⟩ := H
    replace H : (if (t157 != t158) = true then (jacquardlaw13_IntervalElements.j0 k a0 true a2_0 a2_1) else ((interval_Top.f a0).bind fun bt159 => ((jacquardref13_Top.f k a0).bind fun bt163 => (if (!(bt159.1 == bt163.1) || (!(bt159.2.1 == bt163.2.1) || (!(bt159.2.2.1 == bt163.2.2.1) || (!(bt159.2.2.2 == bt163.2.2.2))))) = true then (jacquardlaw13_IntervalElements.j0 k a0 true a2_0 a2_1) else ((interval_Of.f a0 a2_0).bind fun bt167 => ((jacquardref13_Of.f k a0 a2_0).bind fun bt171 => (jacquardlaw13_IntervalElements.j0 k a0 (!(bt167.1 == bt171.1) || (!(bt167.2.1 == bt171.2.1) || (!(bt167.2.2.1 == bt171.2.2.1) || (!(bt167.2.2.2 == bt171.2.2.2))))) a2_0 a2_1))))))) = some r := H
    have A17 := Aside0.mk A170
    clear A170
    by_cases c18 : (t157 != t158) = true
    ·
     rw [if_pos c18] at H
     have c18b0 : (t157 != t158) = true := c18
     (try (have c18b1 : decide (t157 = t158) = false := by simpa using c18))
     (try (have c18b2 : (t157 == t158) = false := by simpa using c18))
     (try (have c18b3 : ¬ (t157 = t158) := by simpa using c18))
     clear c18
     have H' := Aside0.mk H
     clear H
     try go_wp2
     have n0_ := Aside0.mk (blk_drew BK152.out)
     have n1_ := Aside0.mk (blk_drew BK153.out)
     have n2_ := Aside0.mk (below_drew1 HB.out)
     clear BK152
     clear BK153
     clear HB
     have BK152 := n0_
     have BK153 := n1_
     have HB := n2_
     clear n0_ n1_ n2_
     refine start_ (n := 38) (S := fun w' => w'.cell? ⟨gb152, 0, none⟩ = some (.int .u64 a1_0) ∧ w'.cell? ⟨gb152, 1, none⟩ = some (.int .u64 a1_1) ∧ w'.cell? ⟨gb152, 2, none⟩ = some (.int .i64 a1_2) ∧ w'.cell? ⟨gb152, 3, none⟩ = some (.int .i64 a1_3) ∧ w'.cell? ⟨gb153, 0, none⟩ = some (.int .u64 a2_0) ∧ w'.cell? ⟨gb153, 1, none⟩ = some (.int .u64 a2_1)) (ds := []) (bA 38 0) (by kernel_rfl) rfl rfl ⟨(blk_cell BK152.out 0).trans rfl, (blk_cell BK152.out 1).trans rfl, (blk_cell BK152.out 2).trans rfl, (blk_cell BK152.out 3).trans rfl, (blk_cell BK153.out 0).trans rfl, (blk_cell BK153.out 1).trans rfl⟩ (fun hHeld => ?_); refine with_tabW jacquardlaw13_IntervalElements.tab3 jacquardlaw13_IntervalElements.bits3 (fun HT_ HW_ => ?_)
     generalize w9.drew = w19 at BK152 BK153 HB hHeld ⊢
     refine pureA HT_ (i := 0) (N := some 12) (bA 38 1) ?_
     refine pureA HT_ (i := 3) (N := some 15) (bA 38 9) ?_
     refine takeA HT_ HW_ hHeld (i := 1) (N := some 13) (bA 38 11) ?_ (hy := by rintro w' ⟨s0, s1, s2, s3, s4, s5⟩; go_simp; with_reducible rfl)
     refine takeA HT_ HW_ hHeld (i := 4) (N := some 16) (bA 38 27) ?_ (hy := by rintro w' ⟨s0, s1, s2, s3, s4, s5⟩; go_simp; with_reducible rfl)
     refine one_ (i := 2) (N := some 14) (bA 38 31) rfl rfl (one_of HT_.out (by kernel_rfl)) (by decide) (fun K hK => ?_)
     refine gO Try.func16 #[.int .i64 a0, .agg #[.int .u64 a1_0, .int .u64 a1_1, .int .i64 a1_2, .int .i64 a1_3]] ?_
     with_reducible refine (interval_Valid.calls a0 a1_0 a1_1 a1_2 a1_3 t155 _ A10.out).mono ?_
     rintro e w20 ⟨rfl, hb⟩
     refine ⟨_, rfl, ?_⟩
     have n0_ := bkB BK152.out hb
     have n1_ := bkB BK153.out hb
     have n2_ := bsB HB.out hb
     clear BK152
     clear BK153
     clear HB
     have BK152 := n0_
     have BK153 := n1_
     have HB := n2_
     clear n0_ n1_ n2_
     (try clear hb)
     (try clear hb2)
     (try clear hk)
     (try clear hi)
     refine hK.out _ _ ⟨(blk_cell BK152.out 0).trans rfl, (blk_cell BK152.out 1).trans rfl, (blk_cell BK152.out 2).trans rfl, (blk_cell BK152.out 3).trans rfl, (blk_cell BK153.out 0).trans rfl, (blk_cell BK153.out 1).trans rfl⟩ (fun hHeld => ?_)
     clear hK K
     refine norm_ (a' := ?_) ?_ ?_
     rotate_left
     ·
      show Act.put _ (some 14) _ = _
      simp only [Act.put, List.setIfInBounds_toArray, List.set_cons_zero, List.set_cons_succ, i64_w, i32_w]
      rfl
     refine one_ (i := 5) (N := some 17) (bA 38 63) rfl rfl (one_of HT_.out (by kernel_rfl)) (by decide) (fun K hK => ?_)
     refine gO Try.func17 #[.int .i64 a0, .agg #[.int .u64 a1_0, .int .u64 a1_1, .int .i64 a1_2, .int .i64 a1_3]] ?_
     with_reducible refine (jacquardref13_Valid.calls k a0 a1_0 a1_1 a1_2 a1_3 t156 _ A11.out).mono ?_
     rintro e w21 ⟨rfl, hb⟩
     refine ⟨_, rfl, ?_⟩
     have n0_ := bkB BK152.out hb
     have n1_ := bkB BK153.out hb
     have n2_ := bsB HB.out hb
     clear BK152
     clear BK153
     clear HB
     have BK152 := n0_
     have BK153 := n1_
     have HB := n2_
     clear n0_ n1_ n2_
     (try clear hb)
     (try clear hb2)
     (try clear hk)
     (try clear hi)
     refine hK.out _ _ ⟨(blk_cell BK152.out 0).trans rfl, (blk_cell BK152.out 1).trans rfl, (blk_cell BK152.out 2).trans rfl, (blk_cell BK152.out 3).trans rfl, (blk_cell BK153.out 0).trans rfl, (blk_cell BK153.out 1).trans rfl⟩ (fun hHeld => ?_)
     clear hK K
     refine norm_ (a' := ?_) ?_ ?_
     rotate_left
     ·
      show Act.put _ (some 17) _ = _
      simp only [Act.put, List.setIfInBounds_toArray, List.set_cons_zero, List.set_cons_succ, i64_w, i32_w]
      rfl
     refine pureA HT_ (i := 6) (N := some 18) (bA 38 127) ?_
     refine pureA HT_ (i := 7) (N := some 19) (bA 38 255) ?_
     refine pureA HT_ (i := 8) (N := some 20) (bA 38 511) ?_
     refine pureA HT_ (i := 10) (N := some 22) (bA 38 1535) ?_
     refine pureA HT_ (i := 13) (N := some 25) (bA 38 9727) ?_
     refine pureA HT_ (i := 15) (N := some 27) (bA 38 42495) ?_
     refine takeA HT_ HW_ hHeld (i := 9) (N := some 21) (bA 38 43007) ?_ (hy := by rintro w' ⟨s0, s1, s2, s3, s4, s5⟩; go_simp; with_reducible rfl)
     refine takeA HT_ HW_ hHeld (i := 11) (N := some 23) (bA 38 45055) ?_ (hy := by rintro w' ⟨s0, s1, s2, s3, s4, s5⟩; go_simp; with_reducible rfl)
     refine takeA HT_ HW_ hHeld (i := 14) (N := some 26) (bA 38 61439) ?_ (hy := by rintro w' ⟨s0, s1, s2, s3, s4, s5⟩; go_simp; with_reducible rfl)
     refine takeA HT_ HW_ hHeld (i := 16) (N := some 28) (bA 38 126975) ?_ (hy := by rintro w' ⟨s0, s1, s2, s3, s4, s5⟩; go_simp; with_reducible rfl)
     refine one_ (i := 12) (N := some 24) (bA 38 131071) rfl rfl (one_of HT_.out (by kernel_rfl)) (by decide) (fun K hK => ?_)
     refine gO Try.func18 #[.int .i64 a0, .agg #[.int .u64 a1_0, .int .u64 a1_1, .int .i64 a1_2, .int .i64 a1_3], .int .u64 a2_0] ?_
     with_reducible refine (interval_Contains.calls a0 a1_0 a1_1 a1_2 a1_3 a2_0 t157 _ A16.out).mono ?_
     rintro e w22 ⟨rfl, hb⟩
     refine ⟨_, rfl, ?_⟩
     have n0_ := bkB BK152.out hb
     have n1_ := bkB BK153.out hb
     have n2_ := bsB HB.out hb
     clear BK152
     clear BK153
     clear HB
     have BK152 := n0_
     have BK153 := n1_
     have HB := n2_
     clear n0_ n1_ n2_
     (try clear hb)
     (try clear hb2)
     (try clear hk)
     (try clear hi)
     refine hK.out _ _ ⟨(blk_cell BK152.out 0).trans rfl, (blk_cell BK152.out 1).trans rfl, (blk_cell BK152.out 2).trans rfl, (blk_cell BK152.out 3).trans rfl, (blk_cell BK153.out 0).trans rfl, (blk_cell BK153.out 1).trans rfl⟩ (fun hHeld => ?_)
     clear hK K
     refine norm_ (a' := ?_) ?_ ?_
     rotate_left
     ·
      show Act.put _ (some 24) _ = _
      simp only [Act.put, List.setIfInBounds_toArray, List.set_cons_zero, List.set_cons_succ, i64_w, i32_w]
      rfl
     refine one_ (i := 17) (N := some 29) (bA 38 262143) rfl rfl (one_of HT_.out (by kernel_rfl)) (by decide) (fun K hK => ?_)
     refine gO Try.func19 #[.int .i64 a0, .agg #[.int .u64 a1_0, .int .u64 a1_1, .int .i64 a1_2, .int .i64 a1_3], .int .u64 a2_0] ?_
     with_reducible refine (jacquardref13_Contains.calls k a0 a1_0 a1_1 a1_2 a1_3 a2_0 t158 _ A17.out).mono ?_
     rintro e w23 ⟨rfl, hb⟩
     refine ⟨_, rfl, ?_⟩
     have n0_ := bkB BK152.out hb
     have n1_ := bkB BK153.out hb
     have n2_ := bsB HB.out hb
     clear BK152
     clear BK153
     clear HB
     have BK152 := n0_
     have BK153 := n1_
     have HB := n2_
     clear n0_ n1_ n2_
     (try clear hb)
     (try clear hb2)
     (try clear hk)
     (try clear hi)
     refine hK.out _ _ ⟨(blk_cell BK152.out 0).trans rfl, (blk_cell BK152.out 1).trans rfl, (blk_cell BK152.out 2).trans rfl, (blk_cell BK152.out 3).trans rfl, (blk_cell BK153.out 0).trans rfl, (blk_cell BK153.out 1).trans rfl⟩ (fun hHeld => ?_)
     clear hK K
     refine norm_ (a' := ?_) ?_ ?_
     rotate_left
     ·
      show Act.put _ (some 29) _ = _
      simp only [Act.put, List.setIfInBounds_toArray, List.set_cons_zero, List.set_cons_succ, i64_w, i32_w]
      rfl
     refine pureA HT_ (i := 18) (N := some 30) (bA 38 524287) ?_
     refine pureA HT_ (i := 19) (N := some 31) (bA 38 1048575) ?_
     refine pureA HT_ (i := 20) (N := some 32) (bA 38 2097151) ?_
     refine pureU HT_ (i := 21) (N := some 33) (bA 38 4194303) ?_
     refine pureU HT_ (i := 22) (N := some 34) (bA 38 8388607) ?_
     refine pureU HT_ (i := 23) (N := some 35) (bA 38 16777215) ?_
     refine pureU HT_ (i := 24) (N := some 36) (bA 38 33554431) ?_
     refine pureU HT_ (i := 25) (N := some 37) (bA 38 67108863) ?_
     refine pureA HT_ (i := 26) (N := some 38) (bA 38 134217727) ?_
     refine pureA HT_ (i := 27) (N := some 39) (bA 38 268435455) ?_
     refine pureU HT_ (i := 28) (N := some 40) (bA 38 536870911) ?_
     refine pureU HT_ (i := 29) (N := some 41) (bA 38 1073741823) ?_
     refine pureU HT_ (i := 30) (N := some 42) (bA 38 2147483647) ?_
     refine pureU HT_ (i := 31) (N := some 43) (bA 38 4294967295) ?_
     refine pureU HT_ (i := 32) (N := some 44) (bA 38 8589934591) ?_
     refine pureU HT_ (i := 33) (N := some 45) (bA 38 17179869183) ?_
     refine pureU HT_ (i := 34) (N := some 46) (bA 38 34359738367) ?_
     refine pureU HT_ (i := 35) (N := some 47) (bA 38 68719476735) ?_
     refine pureU HT_ (i := 36) (N := some 48) (bA 38 137438953471) ?_
     refine pureA HT_ (i := 37) (N := some 49) (bA 38 274877906943) ?_
     refine done_ (done_of HT_.out (by kernel_rfl)) ?_
     try go_wp2
     go_meet
     case rel => exact ⟨_, (true), (by first | rfl | (simp; done) | (simp [*]; done)), H', ⟨by first | omega | exact Nat.le_refl _⟩, ⟨bkL BK152.out⟩, ⟨bkL BK153.out⟩, ⟨bsL HB.out⟩⟩
    ·
     rw [if_neg c18] at H
     have c18b0 : (t157 != t158) = false := by simpa using c18
     (try (have c18b1 : decide (t157 = t158) = true := by simpa using c18))
     (try (have c18b2 : (t157 == t158) = true := by simpa using c18))
     clear c18
     replace H := Option.bind_eq_some_iff.mp H
     obtain ⟨⟨t159, t160, t161, t162⟩, A240, H⟩ := H
     replace H : ((jacquardref13_Top.f k a0).bind fun bt163 => (if (!(t159 == bt163.1) || (!(t160 == bt163.2.1) || (!(t161 == bt163.2.2.1) || (!(t162 == bt163.2.2.2))))) = true then (jacquardlaw13_IntervalElements.j0 k a0 true a2_0 a2_1) else ((interval_Of.f a0 a2_0).bind fun bt167 => ((jacquardref13_Of.f k a0 a2_0).bind fun bt171 => (jacquardlaw13_IntervalElements.j0 k a0 (!(bt167.1 == bt171.1) || (!(bt167.2.1 == bt171.2.1) || (!(bt167.2.2.1 == bt171.2.2.1) || (!(bt167.2.2.2 == bt171.2.2.2))))) a2_0 a2_1))))) = some r := H
     have A24 := Aside0.mk A240
     clear A240
     replace H := Option.bind_eq_some_iff.mp H
     obtain ⟨⟨t163, t164, t165, t166⟩, A250, H⟩ := H
     replace H : (if (!(t159 == t163) || (!(t160 == t164) || (!(t161 == t165) || (!(t162 == t166))))) = true then (jacquardlaw13_IntervalElements.j0 k a0 true a2_0 a2_1) else ((interval_Of.f a0 a2_0).bind fun bt167 => ((jacquardref13_Of.f k a0 a2_0).bind fun bt171 => (jacquardlaw13_IntervalElements.j0 k a0 (!(bt167.1 == bt171.1) || (!(bt167.2.1 == bt171.2.1) || (!(bt167.2.2.1 == bt171.2.2.1) || (!(bt167.2.2.2 == bt171.2.2.2))))) a2_0 a2_1)))) = some r := H
     have A25 := Aside0.mk A250
     clear A250
     by_cases c26 : (!(t159 == t163) || (!(t160 == t164) || (!(t161 == t165) || (!(t162 == t166))))) = true
     ·
      rw [if_pos c26] at H
      have c26b0 : (!(t159 == t163) || (!(t160 == t164) || (!(t161 == t165) || (!(t162 == t166))))) = true := c26
      clear c26
      have H' := Aside0.mk H
      clear H
      try go_wp2
      have n0_ := Aside0.mk (blk_drew BK152.out)
      have n1_ := Aside0.mk (blk_drew BK153.out)
      have n2_ := Aside0.mk (below_drew1 HB.out)
      clear BK152
      clear BK153
      clear HB
      have BK152 := n0_
      have BK153 := n1_
      have HB := n2_
      clear n0_ n1_ n2_
      refine start_ (n := 38) (S := fun w' => w'.cell? ⟨gb152, 0, none⟩ = some (.int .u64 a1_0) ∧ w'.cell? ⟨gb152, 1, none⟩ = some (.int .u64 a1_1) ∧ w'.cell? ⟨gb152, 2, none⟩ = some (.int .i64 a1_2) ∧ w'.cell? ⟨gb152, 3, none⟩ = some (.int .i64 a1_3) ∧ w'.cell? ⟨gb153, 0, none⟩ = some (.int .u64 a2_0) ∧ w'.cell? ⟨gb153, 1, none⟩ = some (.int .u64 a2_1)) (ds := []) (bA 38 0) (by kernel_rfl) rfl rfl ⟨(blk_cell BK152.out 0).trans rfl, (blk_cell BK152.out 1).trans rfl, (blk_cell BK152.out 2).trans rfl, (blk_cell BK152.out 3).trans rfl, (blk_cell BK153.out 0).trans rfl, (blk_cell BK153.out 1).trans rfl⟩ (fun hHeld => ?_); refine with_tabW jacquardlaw13_IntervalElements.tab3 jacquardlaw13_IntervalElements.bits3 (fun HT_ HW_ => ?_)
      generalize w9.drew = w27 at BK152 BK153 HB hHeld ⊢
      refine pureA HT_ (i := 0) (N := some 12) (bA 38 1) ?_
      refine pureA HT_ (i := 3) (N := some 15) (bA 38 9) ?_
      refine takeA HT_ HW_ hHeld (i := 1) (N := some 13) (bA 38 11) ?_ (hy := by rintro w' ⟨s0, s1, s2, s3, s4, s5⟩; go_simp; with_reducible rfl)
      refine takeA HT_ HW_ hHeld (i := 4) (N := some 16) (bA 38 27) ?_ (hy := by rintro w' ⟨s0, s1, s2, s3, s4, s5⟩; go_simp; with_reducible rfl)
      refine one_ (i := 2) (N := some 14) (bA 38 31) rfl rfl (one_of HT_.out (by kernel_rfl)) (by decide) (fun K hK => ?_)
      refine gO Try.func16 #[.int .i64 a0, .agg #[.int .u64 a1_0, .int .u64 a1_1, .int .i64 a1_2, .int .i64 a1_3]] ?_
      with_reducible refine (interval_Valid.calls a0 a1_0 a1_1 a1_2 a1_3 t155 _ A10.out).mono ?_
      rintro e w28 ⟨rfl, hb⟩
      refine ⟨_, rfl, ?_⟩
      have n0_ := bkB BK152.out hb
      have n1_ := bkB BK153.out hb
      have n2_ := bsB HB.out hb
      clear BK152
      clear BK153
      clear HB
      have BK152 := n0_
      have BK153 := n1_
      have HB := n2_
      clear n0_ n1_ n2_
      (try clear hb)
      (try clear hb2)
      (try clear hk)
      (try clear hi)
      refine hK.out _ _ ⟨(blk_cell BK152.out 0).trans rfl, (blk_cell BK152.out 1).trans rfl, (blk_cell BK152.out 2).trans rfl, (blk_cell BK152.out 3).trans rfl, (blk_cell BK153.out 0).trans rfl, (blk_cell BK153.out 1).trans rfl⟩ (fun hHeld => ?_)
      clear hK K
      refine norm_ (a' := ?_) ?_ ?_
      rotate_left
      ·
       show Act.put _ (some 14) _ = _
       simp only [Act.put, List.setIfInBounds_toArray, List.set_cons_zero, List.set_cons_succ, i64_w, i32_w]
       rfl
      refine one_ (i := 5) (N := some 17) (bA 38 63) rfl rfl (one_of HT_.out (by kernel_rfl)) (by decide) (fun K hK => ?_)
      refine gO Try.func17 #[.int .i64 a0, .agg #[.int .u64 a1_0, .int .u64 a1_1, .int .i64 a1_2, .int .i64 a1_3]] ?_
      with_reducible refine (jacquardref13_Valid.calls k a0 a1_0 a1_1 a1_2 a1_3 t156 _ A11.out).mono ?_
      rintro e w29 ⟨rfl, hb⟩
      refine ⟨_, rfl, ?_⟩
      have n0_ := bkB BK152.out hb
      have n1_ := bkB BK153.out hb
      have n2_ := bsB HB.out hb
      clear BK152
      clear BK153
      clear HB
      have BK152 := n0_
      have BK153 := n1_
      have HB := n2_
      clear n0_ n1_ n2_
      (try clear hb)
      (try clear hb2)
      (try clear hk)
      (try clear hi)
      refine hK.out _ _ ⟨(blk_cell BK152.out 0).trans rfl, (blk_cell BK152.out 1).trans rfl, (blk_cell BK152.out 2).trans rfl, (blk_cell BK152.out 3).trans rfl, (blk_cell BK153.out 0).trans rfl, (blk_cell BK153.out 1).trans rfl⟩ (fun hHeld => ?_)
      clear hK K
      refine norm_ (a' := ?_) ?_ ?_
      rotate_left
      ·
       show Act.put _ (some 17) _ = _
       simp only [Act.put, List.setIfInBounds_toArray, List.set_cons_zero, List.set_cons_succ, i64_w, i32_w]
       rfl
      refine pureA HT_ (i := 6) (N := some 18) (bA 38 127) ?_
      refine pureA HT_ (i := 7) (N := some 19) (bA 38 255) ?_
      refine pureA HT_ (i := 8) (N := some 20) (bA 38 511) ?_
      refine pureA HT_ (i := 10) (N := some 22) (bA 38 1535) ?_
      refine pureA HT_ (i := 13) (N := some 25) (bA 38 9727) ?_
      refine pureA HT_ (i := 15) (N := some 27) (bA 38 42495) ?_
      refine takeA HT_ HW_ hHeld (i := 9) (N := some 21) (bA 38 43007) ?_ (hy := by rintro w' ⟨s0, s1, s2, s3, s4, s5⟩; go_simp; with_reducible rfl)
      refine takeA HT_ HW_ hHeld (i := 11) (N := some 23) (bA 38 45055) ?_ (hy := by rintro w' ⟨s0, s1, s2, s3, s4, s5⟩; go_simp; with_reducible rfl)
      refine takeA HT_ HW_ hHeld (i := 14) (N := some 26) (bA 38 61439) ?_ (hy := by rintro w' ⟨s0, s1, s2, s3, s4, s5⟩; go_simp; with_reducible rfl)
      refine takeA HT_ HW_ hHeld (i := 16) (N := some 28) (bA 38 126975) ?_ (hy := by rintro w' ⟨s0, s1, s2, s3, s4, s5⟩; go_simp; with_reducible rfl)
      refine one_ (i := 12) (N := some 24) (bA 38 131071) rfl rfl (one_of HT_.out (by kernel_rfl)) (by decide) (fun K hK => ?_)
      refine gO Try.func18 #[.int .i64 a0, .agg #[.int .u64 a1_0, .int .u64 a1_1, .int .i64 a1_2, .int .i64 a1_3], .int .u64 a2_0] ?_
      with_reducible refine (interval_Contains.calls a0 a1_0 a1_1 a1_2 a1_3 a2_0 t157 _ A16.out).mono ?_
      rintro e w30 ⟨rfl, hb⟩
      refine ⟨_, rfl, ?_⟩
      have n0_ := bkB BK152.out hb
      have n1_ := bkB BK153.out hb
      have n2_ := bsB HB.out hb
      clear BK152
      clear BK153
      clear HB
      have BK152 := n0_
      have BK153 := n1_
      have HB := n2_
      clear n0_ n1_ n2_
      (try clear hb)
      (try clear hb2)
      (try clear hk)
      (try clear hi)
      refine hK.out _ _ ⟨(blk_cell BK152.out 0).trans rfl, (blk_cell BK152.out 1).trans rfl, (blk_cell BK152.out 2).trans rfl, (blk_cell BK152.out 3).trans rfl, (blk_cell BK153.out 0).trans rfl, (blk_cell BK153.out 1).trans rfl⟩ (fun hHeld => ?_)
      clear hK K
      refine norm_ (a' := ?_) ?_ ?_
      rotate_left
      ·
       show Act.put _ (some 24) _ = _
       simp only [Act.put, List.setIfInBounds_toArray, List.set_cons_zero, List.set_cons_succ, i64_w, i32_w]
       rfl
      refine one_ (i := 17) (N := some 29) (bA 38 262143) rfl rfl (one_of HT_.out (by kernel_rfl)) (by decide) (fun K hK => ?_)
      refine gO Try.func19 #[.int .i64 a0, .agg #[.int .u64 a1_0, .int .u64 a1_1, .int .i64 a1_2, .int .i64 a1_3], .int .u64 a2_0] ?_
      with_reducible refine (jacquardref13_Contains.calls k a0 a1_0 a1_1 a1_2 a1_3 a2_0 t158 _ A17.out).mono ?_
      rintro e w31 ⟨rfl, hb⟩
      refine ⟨_, rfl, ?_⟩
      have n0_ := bkB BK152.out hb
      have n1_ := bkB BK153.out hb
      have n2_ := bsB HB.out hb
      clear BK152
      clear BK153
      clear HB
      have BK152 := n0_
      have BK153 := n1_
      have HB := n2_
      clear n0_ n1_ n2_
      (try clear hb)
      (try clear hb2)
      (try clear hk)
      (try clear hi)
      refine hK.out _ _ ⟨(blk_cell BK152.out 0).trans rfl, (blk_cell BK152.out 1).trans rfl, (blk_cell BK152.out 2).trans rfl, (blk_cell BK152.out 3).trans rfl, (blk_cell BK153.out 0).trans rfl, (blk_cell BK153.out 1).trans rfl⟩ (fun hHeld => ?_)
      clear hK K
      refine norm_ (a' := ?_) ?_ ?_
      rotate_left
      ·
       show Act.put _ (some 29) _ = _
       simp only [Act.put, List.setIfInBounds_toArray, List.set_cons_zero, List.set_cons_succ, i64_w, i32_w]
       rfl
      refine pureA HT_ (i := 18) (N := some 30) (bA 38 524287) ?_
      refine pureA HT_ (i := 19) (N := some 31) (bA 38 1048575) ?_
      refine pureA HT_ (i := 20) (N := some 32) (bA 38 2097151) ?_
      refine pureA HT_ (i := 21) (N := some 33) (bA 38 4194303) ?_
      refine pureA HT_ (i := 23) (N := some 35) (bA 38 12582911) ?_
      refine one_ (i := 22) (N := some 34) (bA 38 16777215) rfl rfl (one_of HT_.out (by kernel_rfl)) (by decide) (fun K hK => ?_)
      refine gO Try.func20 #[.int .i64 a0] ?_
      with_reducible refine (interval_Top.calls a0 t159 t160 t161 t162 _ A24.out).mono ?_
      rintro e w32 ⟨rfl, hb⟩
      refine ⟨_, rfl, ?_⟩
      have n0_ := bkB BK152.out hb
      have n1_ := bkB BK153.out hb
      have n2_ := bsB HB.out hb
      clear BK152
      clear BK153
      clear HB
      have BK152 := n0_
      have BK153 := n1_
      have HB := n2_
      clear n0_ n1_ n2_
      (try clear hb)
      (try clear hb2)
      (try clear hk)
      (try clear hi)
      refine hK.out _ _ ⟨(blk_cell BK152.out 0).trans rfl, (blk_cell BK152.out 1).trans rfl, (blk_cell BK152.out 2).trans rfl, (blk_cell BK152.out 3).trans rfl, (blk_cell BK153.out 0).trans rfl, (blk_cell BK153.out 1).trans rfl⟩ (fun hHeld => ?_)
      clear hK K
      refine norm_ (a' := ?_) ?_ ?_
      rotate_left
      ·
       show Act.put _ (some 34) _ = _
       simp only [Act.put, List.setIfInBounds_toArray, List.set_cons_zero, List.set_cons_succ, i64_w, i32_w]
       rfl
      refine one_ (i := 24) (N := some 36) (bA 38 33554431) rfl rfl (one_of HT_.out (by kernel_rfl)) (by decide) (fun K hK => ?_)
      refine gO Try.func21 #[.int .i64 a0] ?_
      with_reducible refine (jacquardref13_Top.calls k a0 t163 t164 t165 t166 _ A25.out).mono ?_
      rintro e w33 ⟨rfl, hb⟩
      refine ⟨_, rfl, ?_⟩
      have n0_ := bkB BK152.out hb
      have n1_ := bkB BK153.out hb
      have n2_ := bsB HB.out hb
      clear BK152
      clear BK153
      clear HB
      have BK152 := n0_
      have BK153 := n1_
      have HB := n2_
      clear n0_ n1_ n2_
      (try clear hb)
      (try clear hb2)
      (try clear hk)
      (try clear hi)
      refine hK.out _ _ ⟨(blk_cell BK152.out 0).trans rfl, (blk_cell BK152.out 1).trans rfl, (blk_cell BK152.out 2).trans rfl, (blk_cell BK152.out 3).trans rfl, (blk_cell BK153.out 0).trans rfl, (blk_cell BK153.out 1).trans rfl⟩ (fun hHeld => ?_)
      clear hK K
      refine norm_ (a' := ?_) ?_ ?_
      rotate_left
      ·
       show Act.put _ (some 36) _ = _
       simp only [Act.put, List.setIfInBounds_toArray, List.set_cons_zero, List.set_cons_succ, i64_w, i32_w]
       rfl
      refine pureA HT_ (i := 25) (N := some 37) (bA 38 67108863) ?_
      refine pureA HT_ (i := 26) (N := some 38) (bA 38 134217727) ?_
      refine pureA HT_ (i := 27) (N := some 39) (bA 38 268435455) ?_
      refine pureU HT_ (i := 28) (N := some 40) (bA 38 536870911) ?_
      refine pureU HT_ (i := 29) (N := some 41) (bA 38 1073741823) ?_
      refine pureU HT_ (i := 30) (N := some 42) (bA 38 2147483647) ?_
      refine pureU HT_ (i := 31) (N := some 43) (bA 38 4294967295) ?_
      refine pureU HT_ (i := 32) (N := some 44) (bA 38 8589934591) ?_
      refine pureU HT_ (i := 33) (N := some 45) (bA 38 17179869183) ?_
      refine pureU HT_ (i := 34) (N := some 46) (bA 38 34359738367) ?_
      refine pureU HT_ (i := 35) (N := some 47) (bA 38 68719476735) ?_
      refine pureU HT_ (i := 36) (N := some 48) (bA 38 137438953471) ?_
      refine pureA HT_ (i := 37) (N := some 49) (bA 38 274877906943) ?_
      refine done_ (done_of HT_.out (by kernel_rfl)) ?_
      try go_wp2
      go_meet
      case rel => exact ⟨_, (true), (by first | rfl | (simp; done) | (simp [*]; done)), H', ⟨by first | omega | exact Nat.le_refl _⟩, ⟨bkL BK152.out⟩, ⟨bkL BK153.out⟩, ⟨bsL HB.out⟩⟩
     ·
      rw [if_neg c26] at H
      have c26b0 : (!(t159 == t163) || (!(t160 == t164) || (!(t161 == t165) || (!(t162 == t166))))) = false := by simpa using c26
      clear c26
      replace H := Option.bind_eq_some_iff.mp H
      obtain ⟨⟨t167, t168, t169, t170⟩, A340, H⟩ := H
      replace H : ((jacquardref13_Of.f k a0 a2_0).bind fun bt171 => (jacquardlaw13_IntervalElements.j0 k a0 (!(t167 == bt171.1) || (!(t168 == bt171.2.1) || (!(t169 == bt171.2.2.1) || (!(t170 == bt171.2.2.2))))) a2_0 a2_1)) = some r := H
      have A34 := Aside0.mk A340
      clear A340
      replace H := Option.bind_eq_some_iff.mp H
      obtain ⟨⟨t171, t172, t173, t174⟩, A350, H⟩ := H
      replace H : (jacquardlaw13_IntervalElements.j0 k a0 (!(t167 == t171) || (!(t168 == t172) || (!(t169 == t173) || (!(t170 == t174))))) a2_0 a2_1) = some r := H
      have A35 := Aside0.mk A350
      clear A350
      have H' := Aside0.mk H
      clear H
      try go_wp2
      have n0_ := Aside0.mk (blk_drew BK152.out)
      have n1_ := Aside0.mk (blk_drew BK153.out)
      have n2_ := Aside0.mk (below_drew1 HB.out)
      clear BK152
      clear BK153
      clear HB
      have BK152 := n0_
      have BK153 := n1_
      have HB := n2_
      clear n0_ n1_ n2_
      refine start_ (n := 38) (S := fun w' => w'.cell? ⟨gb152, 0, none⟩ = some (.int .u64 a1_0) ∧ w'.cell? ⟨gb152, 1, none⟩ = some (.int .u64 a1_1) ∧ w'.cell? ⟨gb152, 2, none⟩ = some (.int .i64 a1_2) ∧ w'.cell? ⟨gb152, 3, none⟩ = some (.int .i64 a1_3) ∧ w'.cell? ⟨gb153, 0, none⟩ = some (.int .u64 a2_0) ∧ w'.cell? ⟨gb153, 1, none⟩ = some (.int .u64 a2_1)) (ds := []) (bA 38 0) (by kernel_rfl) rfl rfl ⟨(blk_cell BK152.out 0).trans rfl, (blk_cell BK152.out 1).trans rfl, (blk_cell BK152.out 2).trans rfl, (blk_cell BK152.out 3).trans rfl, (blk_cell BK153.out 0).trans rfl, (blk_cell BK153.out 1).trans rfl⟩ (fun hHeld => ?_); refine with_tabW jacquardlaw13_IntervalElements.tab3 jacquardlaw13_IntervalElements.bits3 (fun HT_ HW_ => ?_)
      generalize w9.drew = w36 at BK152 BK153 HB hHeld ⊢
      refine pureA HT_ (i := 0) (N := some 12) (bA 38 1) ?_
      refine pureA HT_ (i := 3) (N := some 15) (bA 38 9) ?_
      refine takeA HT_ HW_ hHeld (i := 1) (N := some 13) (bA 38 11) ?_ (hy := by rintro w' ⟨s0, s1, s2, s3, s4, s5⟩; go_simp; with_reducible rfl)
      refine takeA HT_ HW_ hHeld (i := 4) (N := some 16) (bA 38 27) ?_ (hy := by rintro w' ⟨s0, s1, s2, s3, s4, s5⟩; go_simp; with_reducible rfl)
      refine one_ (i := 2) (N := some 14) (bA 38 31) rfl rfl (one_of HT_.out (by kernel_rfl)) (by decide) (fun K hK => ?_)
      refine gO Try.func16 #[.int .i64 a0, .agg #[.int .u64 a1_0, .int .u64 a1_1, .int .i64 a1_2, .int .i64 a1_3]] ?_
      with_reducible refine (interval_Valid.calls a0 a1_0 a1_1 a1_2 a1_3 t155 _ A10.out).mono ?_
      rintro e w37 ⟨rfl, hb⟩
      refine ⟨_, rfl, ?_⟩
      have n0_ := bkB BK152.out hb
      have n1_ := bkB BK153.out hb
      have n2_ := bsB HB.out hb
      clear BK152
      clear BK153
      clear HB
      have BK152 := n0_
      have BK153 := n1_
      have HB := n2_
      clear n0_ n1_ n2_
      (try clear hb)
      (try clear hb2)
      (try clear hk)
      (try clear hi)
      refine hK.out _ _ ⟨(blk_cell BK152.out 0).trans rfl, (blk_cell BK152.out 1).trans rfl, (blk_cell BK152.out 2).trans rfl, (blk_cell BK152.out 3).trans rfl, (blk_cell BK153.out 0).trans rfl, (blk_cell BK153.out 1).trans rfl⟩ (fun hHeld => ?_)
      clear hK K
      refine norm_ (a' := ?_) ?_ ?_
      rotate_left
      ·
       show Act.put _ (some 14) _ = _
       simp only [Act.put, List.setIfInBounds_toArray, List.set_cons_zero, List.set_cons_succ, i64_w, i32_w]
       rfl
      refine one_ (i := 5) (N := some 17) (bA 38 63) rfl rfl (one_of HT_.out (by kernel_rfl)) (by decide) (fun K hK => ?_)
      refine gO Try.func17 #[.int .i64 a0, .agg #[.int .u64 a1_0, .int .u64 a1_1, .int .i64 a1_2, .int .i64 a1_3]] ?_
      with_reducible refine (jacquardref13_Valid.calls k a0 a1_0 a1_1 a1_2 a1_3 t156 _ A11.out).mono ?_
      rintro e w38 ⟨rfl, hb⟩
      refine ⟨_, rfl, ?_⟩
      have n0_ := bkB BK152.out hb
      have n1_ := bkB BK153.out hb
      have n2_ := bsB HB.out hb
      clear BK152
      clear BK153
      clear HB
      have BK152 := n0_
      have BK153 := n1_
      have HB := n2_
      clear n0_ n1_ n2_
      (try clear hb)
      (try clear hb2)
      (try clear hk)
      (try clear hi)
      refine hK.out _ _ ⟨(blk_cell BK152.out 0).trans rfl, (blk_cell BK152.out 1).trans rfl, (blk_cell BK152.out 2).trans rfl, (blk_cell BK152.out 3).trans rfl, (blk_cell BK153.out 0).trans rfl, (blk_cell BK153.out 1).trans rfl⟩ (fun hHeld => ?_)
      clear hK K
      refine norm_ (a' := ?_) ?_ ?_
      rotate_left
      ·
       show Act.put _ (some 17) _ = _
       simp only [Act.put, List.setIfInBounds_toArray, List.set_cons_zero, List.set_cons_succ, i64_w, i32_w]
       rfl
      refine pureA HT_ (i := 6) (N := some 18) (bA 38 127) ?_
      refine pureA HT_ (i := 7) (N := some 19) (bA 38 255) ?_
      refine pureA HT_ (i := 8) (N := some 20) (bA 38 511) ?_
      refine pureA HT_ (i := 10) (N := some 22) (bA 38 1535) ?_
      refine pureA HT_ (i := 13) (N := some 25) (bA 38 9727) ?_
      refine pureA HT_ (i := 15) (N := some 27) (bA 38 42495) ?_
      refine takeA HT_ HW_ hHeld (i := 9) (N := some 21) (bA 38 43007) ?_ (hy := by rintro w' ⟨s0, s1, s2, s3, s4, s5⟩; go_simp; with_reducible rfl)
      refine takeA HT_ HW_ hHeld (i := 11) (N := some 23) (bA 38 45055) ?_ (hy := by rintro w' ⟨s0, s1, s2, s3, s4, s5⟩; go_simp; with_reducible rfl)
      refine takeA HT_ HW_ hHeld (i := 14) (N := some 26) (bA 38 61439) ?_ (hy := by rintro w' ⟨s0, s1, s2, s3, s4, s5⟩; go_simp; with_reducible rfl)
      refine takeA HT_ HW_ hHeld (i := 16) (N := some 28) (bA 38 126975) ?_ (hy := by rintro w' ⟨s0, s1, s2, s3, s4, s5⟩; go_simp; with_reducible rfl)
      refine one_ (i := 12) (N := some 24) (bA 38 131071) rfl rfl (one_of HT_.out (by kernel_rfl)) (by decide) (fun K hK => ?_)
      refine gO Try.func18 #[.int .i64 a0, .agg #[.int .u64 a1_0, .int .u64 a1_1, .int .i64 a1_2, .int .i64 a1_3], .int .u64 a2_0] ?_
      with_reducible refine (interval_Contains.calls a0 a1_0 a1_1 a1_2 a1_3 a2_0 t157 _ A16.out).mono ?_
      rintro e w39 ⟨rfl, hb⟩
      refine ⟨_, rfl, ?_⟩
      have n0_ := bkB BK152.out hb
      have n1_ := bkB BK153.out hb
      have n2_ := bsB HB.out hb
      clear BK152
      clear BK153
      clear HB
      have BK152 := n0_
      have BK153 := n1_
      have HB := n2_
      clear n0_ n1_ n2_
      (try clear hb)
      (try clear hb2)
      (try clear hk)
      (try clear hi)
      refine hK.out _ _ ⟨(blk_cell BK152.out 0).trans rfl, (blk_cell BK152.out 1).trans rfl, (blk_cell BK152.out 2).trans rfl, (blk_cell BK152.out 3).trans rfl, (blk_cell BK153.out 0).trans rfl, (blk_cell BK153.out 1).trans rfl⟩ (fun hHeld => ?_)
      clear hK K
      refine norm_ (a' := ?_) ?_ ?_
      rotate_left
      ·
       show Act.put _ (some 24) _ = _
       simp only [Act.put, List.setIfInBounds_toArray, List.set_cons_zero, List.set_cons_succ, i64_w, i32_w]
       rfl
      refine one_ (i := 17) (N := some 29) (bA 38 262143) rfl rfl (one_of HT_.out (by kernel_rfl)) (by decide) (fun K hK => ?_)
      refine gO Try.func19 #[.int .i64 a0, .agg #[.int .u64 a1_0, .int .u64 a1_1, .int .i64 a1_2, .int .i64 a1_3], .int .u64 a2_0] ?_
      with_reducible refine (jacquardref13_Contains.calls k a0 a1_0 a1_1 a1_2 a1_3 a2_0 t158 _ A17.out).mono ?_
      rintro e w40 ⟨rfl, hb⟩
      refine ⟨_, rfl, ?_⟩
      have n0_ := bkB BK152.out hb
      have n1_ := bkB BK153.out hb
      have n2_ := bsB HB.out hb
      clear BK152
      clear BK153
      clear HB
      have BK152 := n0_
      have BK153 := n1_
      have HB := n2_
      clear n0_ n1_ n2_
      (try clear hb)
      (try clear hb2)
      (try clear hk)
      (try clear hi)
      refine hK.out _ _ ⟨(blk_cell BK152.out 0).trans rfl, (blk_cell BK152.out 1).trans rfl, (blk_cell BK152.out 2).trans rfl, (blk_cell BK152.out 3).trans rfl, (blk_cell BK153.out 0).trans rfl, (blk_cell BK153.out 1).trans rfl⟩ (fun hHeld => ?_)
      clear hK K
      refine norm_ (a' := ?_) ?_ ?_
      rotate_left
      ·
       show Act.put _ (some 29) _ = _
       simp only [Act.put, List.setIfInBounds_toArray, List.set_cons_zero, List.set_cons_succ, i64_w, i32_w]
       rfl
      refine pureA HT_ (i := 18) (N := some 30) (bA 38 524287) ?_
      refine pureA HT_ (i := 19) (N := some 31) (bA 38 1048575) ?_
      refine pureA HT_ (i := 20) (N := some 32) (bA 38 2097151) ?_
      refine pureA HT_ (i := 21) (N := some 33) (bA 38 4194303) ?_
      refine pureA HT_ (i := 23) (N := some 35) (bA 38 12582911) ?_
      refine one_ (i := 22) (N := some 34) (bA 38 16777215) rfl rfl (one_of HT_.out (by kernel_rfl)) (by decide) (fun K hK => ?_)
      refine gO Try.func20 #[.int .i64 a0] ?_
      with_reducible refine (interval_Top.calls a0 t159 t160 t161 t162 _ A24.out).mono ?_
      rintro e w41 ⟨rfl, hb⟩
      refine ⟨_, rfl, ?_⟩
      have n0_ := bkB BK152.out hb
      have n1_ := bkB BK153.out hb
      have n2_ := bsB HB.out hb
      clear BK152
      clear BK153
      clear HB
      have BK152 := n0_
      have BK153 := n1_
      have HB := n2_
      clear n0_ n1_ n2_
      (try clear hb)
      (try clear hb2)
      (try clear hk)
      (try clear hi)
      refine hK.out _ _ ⟨(blk_cell BK152.out 0).trans rfl, (blk_cell BK152.out 1).trans rfl, (blk_cell BK152.out 2).trans rfl, (blk_cell BK152.out 3).trans rfl, (blk_cell BK153.out 0).trans rfl, (blk_cell BK153.out 1).trans rfl⟩ (fun hHeld => ?_)
      clear hK K
      refine norm_ (a' := ?_) ?_ ?_
      rotate_left
      ·
       show Act.put _ (some 34) _ = _
       simp only [Act.put, List.setIfInBounds_toArray, List.set_cons_zero, List.set_cons_succ, i64_w, i32_w]
       rfl
      refine one_ (i := 24) (N := some 36) (bA 38 33554431) rfl rfl (one_of HT_.out (by kernel_rfl)) (by decide) (fun K hK => ?_)
      refine gO Try.func21 #[.int .i64 a0] ?_
      with_reducible refine (jacquardref13_Top.calls k a0 t163 t164 t165 t166 _ A25.out).mono ?_
      rintro e w42 ⟨rfl, hb⟩
      refine ⟨_, rfl, ?_⟩
      have n0_ := bkB BK152.out hb
      have n1_ := bkB BK153.out hb
      have n2_ := bsB HB.out hb
      clear BK152
      clear BK153
      clear HB
      have BK152 := n0_
      have BK153 := n1_
      have HB := n2_
      clear n0_ n1_ n2_
      (try clear hb)
      (try clear hb2)
      (try clear hk)
      (try clear hi)
      refine hK.out _ _ ⟨(blk_cell BK152.out 0).trans rfl, (blk_cell BK152.out 1).trans rfl, (blk_cell BK152.out 2).trans rfl, (blk_cell BK152.out 3).trans rfl, (blk_cell BK153.out 0).trans rfl, (blk_cell BK153.out 1).trans rfl⟩ (fun hHeld => ?_)
      clear hK K
      refine norm_ (a' := ?_) ?_ ?_
      rotate_left
      ·
       show Act.put _ (some 36) _ = _
       simp only [Act.put, List.setIfInBounds_toArray, List.set_cons_zero, List.set_cons_succ, i64_w, i32_w]
       rfl
      refine pureA HT_ (i := 25) (N := some 37) (bA 38 67108863) ?_
      refine pureA HT_ (i := 26) (N := some 38) (bA 38 134217727) ?_
      refine pureA HT_ (i := 27) (N := some 39) (bA 38 268435455) ?_
      refine pureA HT_ (i := 28) (N := some 40) (bA 38 536870911) ?_
      refine pureA HT_ (i := 29) (N := some 41) (bA 38 1073741823) ?_
      refine pureA HT_ (i := 32) (N := some 44) (bA 38 5368709119) ?_
      refine pureA HT_ (i := 33) (N := some 45) (bA 38 13958643711) ?_
      refine takeA HT_ HW_ hHeld (i := 30) (N := some 42) (bA 38 15032385535) ?_ (hy := by rintro w' ⟨s0, s1, s2, s3, s4, s5⟩; go_simp; with_reducible rfl)
      refine takeA HT_ HW_ hHeld (i := 34) (N := some 46) (bA 38 32212254719) ?_ (hy := by rintro w' ⟨s0, s1, s2, s3, s4, s5⟩; go_simp; with_reducible rfl)
      refine one_ (i := 31) (N := some 43) (bA 38 34359738367) rfl rfl (one_of HT_.out (by kernel_rfl)) (by decide) (fun K hK => ?_)
      refine gO Try.func22 #[.int .i64 a0, .int .u64 a2_0] ?_
      with_reducible refine (interval_Of.calls a0 a2_0 t167 t168 t169 t170 _ A34.out).mono ?_
      rintro e w43 ⟨rfl, hb⟩
      refine ⟨_, rfl, ?_⟩
      have n0_ := bkB BK152.out hb
      have n1_ := bkB BK153.out hb
      have n2_ := bsB HB.out hb
      clear BK152
      clear BK153
      clear HB
      have BK152 := n0_
      have BK153 := n1_
      have HB := n2_
      clear n0_ n1_ n2_
      (try clear hb)
      (try clear hb2)
      (try clear hk)
      (try clear hi)
      refine hK.out _ _ ⟨(blk_cell BK152.out 0).trans rfl, (blk_cell BK152.out 1).trans rfl, (blk_cell BK152.out 2).trans rfl, (blk_cell BK152.out 3).trans rfl, (blk_cell BK153.out 0).trans rfl, (blk_cell BK153.out 1).trans rfl⟩ (fun hHeld => ?_)
      clear hK K
      refine norm_ (a' := ?_) ?_ ?_
      rotate_left
      ·
       show Act.put _ (some 43) _ = _
       simp only [Act.put, List.setIfInBounds_toArray, List.set_cons_zero, List.set_cons_succ, i64_w, i32_w]
       rfl
      refine one_ (i := 35) (N := some 47) (bA 38 68719476735) rfl rfl (one_of HT_.out (by kernel_rfl)) (by decide) (fun K hK => ?_)
      refine gO Try.func23 #[.int .i64 a0, .int .u64 a2_0] ?_
      with_reducible refine (jacquardref13_Of.calls k a0 a2_0 t171 t172 t173 t174 _ A35.out).mono ?_
      rintro e w44 ⟨rfl, hb⟩
      refine ⟨_, rfl, ?_⟩
      have n0_ := bkB BK152.out hb
      have n1_ := bkB BK153.out hb
      have n2_ := bsB HB.out hb
      clear BK152
      clear BK153
      clear HB
      have BK152 := n0_
      have BK153 := n1_
      have HB := n2_
      clear n0_ n1_ n2_
      (try clear hb)
      (try clear hb2)
      (try clear hk)
      (try clear hi)
      refine hK.out _ _ ⟨(blk_cell BK152.out 0).trans rfl, (blk_cell BK152.out 1).trans rfl, (blk_cell BK152.out 2).trans rfl, (blk_cell BK152.out 3).trans rfl, (blk_cell BK153.out 0).trans rfl, (blk_cell BK153.out 1).trans rfl⟩ (fun hHeld => ?_)
      clear hK K
      refine norm_ (a' := ?_) ?_ ?_
      rotate_left
      ·
       show Act.put _ (some 47) _ = _
       simp only [Act.put, List.setIfInBounds_toArray, List.set_cons_zero, List.set_cons_succ, i64_w, i32_w]
       rfl
      refine pureA HT_ (i := 36) (N := some 48) (bA 38 137438953471) ?_
      refine pureA HT_ (i := 37) (N := some 49) (bA 38 274877906943) ?_
      refine done_ (done_of HT_.out (by kernel_rfl)) ?_
      try go_wp2
      go_meet
      case rel => exact ⟨_, ((!(t167 == t171) || (!(t168 == t172) || (!(t169 == t173) || (!(t170 == t174)))))), (by first | rfl | (simp; done) | (simp [*]; done)), H', ⟨by first | omega | exact Nat.le_refl _⟩, ⟨bkL BK152.out⟩, ⟨bkL BK153.out⟩, ⟨bsL HB.out⟩⟩
  case rest =>
   clear HC6
   try clear c1
   try clear c2
   try clear p2
   try clear c16
   try clear c17
   try clear c18
   try clear c19
   try clear c20
   try clear c21
   try clear c22
   try clear c23
   try clear c26
   try clear c26b0
   obtain ⟨kq, x49_5, rfl, HA, HJ5, BK152, BK153, HB⟩ := hcut
   cases kq with
   | zero => exact absurd HA.out (by simp [jacquardlaw13_IntervalElements.j0])
   | succ kj5 =>
    have H := HA.out
    clear HA
    simp only [jacquardlaw13_IntervalElements.j0] at H
    by_cases c45 : x49_5 = true
    ·
     subst c45
     have H1 : (some false) = some r := by rw [if_pos rfl] at H; exact H
     clear H
     have H := H1
     clear H1
     obtain rfl := Option.some.inj H
     go_wp2
     go_ret
     exact ⟨by first | rfl | (simp [errW_none, errW_some] <;> rfl) | (simp [*, errW_none, errW_some] <;> rfl), bsL HB.out⟩
    ·
     replace c45 := Bool.eq_false_iff.mpr c45
     subst c45
     have H1 : (if a0 < 1 then (jacquardlaw13_IntervalElements.j1 kj5 a0 true a2_0 a2_1) else (jacquardlaw13_IntervalElements.j1 kj5 a0 (decide (a0 > 64)) a2_0 a2_1)) = some r := by rw [if_neg (show ¬ (false = true) by decide)] at H; exact H
     clear H
     have H := H1
     clear H1
     have HC46 := Aside0.mk H
     clear H
     go_upto_region 5 with (fail)
     go_cut [55] (fun v55 wc => ∃ (kq : Nat) (x55_45 : Bool), v55 = .bool x55_45 ∧ Aside0 (jacquardlaw13_IntervalElements.j1 kq a0 x55_45 a2_0 a2_1 = some r) ∧ Aside0 (kq ≤ kj5) ∧ Aside0 (wc.heap[gb152]? = some (.cells #[.int .u64 a1_0, .int .u64 a1_1, .int .i64 a1_2, .int .i64 a1_3] 24 (0, 0))) ∧ Aside0 (wc.heap[gb153]? = some (.cells #[.int .u64 a2_0, .int .u64 a2_1] 25 (0, 0))) ∧ Aside0 (Below w.heap.size w wc))
     case first =>
      have H := HC46.out
      clear HC46
      by_cases c47 : a0 < 1
      ·
       rw [if_pos c47] at H
       have c47b0 : decide (a0 < 1) = true := decide_eq_true c47
       clear c47
       (first | rw [c47b0] | (simp only [i64_w, i32_w]; rw [c47b0]) | skip)
       have H' := Aside0.mk H
       clear H
       go_wp2
       go_meet
       case rel => exact ⟨_, (true), (by first | rfl | (simp; done) | (simp [*]; done)), H', ⟨by have := HJ5.out; first | omega | exact Nat.le_refl _⟩, ⟨bkL BK152.out⟩, ⟨bkL BK153.out⟩, ⟨bsL HB.out⟩⟩
      ·
       rw [if_neg c47] at H
       have c47b0 : decide (a0 < 1) = false := decide_eq_false c47
       clear c47
       (first | rw [c47b0] | (simp only [i64_w, i32_w]; rw [c47b0]) | skip)
       have H' := Aside0.mk H
       clear H
       go_wp2
       go_meet
       case rel => exact ⟨_, (decide (a0 > 64)), (by first | rfl | (simp; done) | (simp [*]; done)), H', ⟨by have := HJ5.out; first | omega | exact Nat.le_refl _⟩, ⟨bkL BK152.out⟩, ⟨bkL BK153.out⟩, ⟨bsL HB.out⟩⟩
     case rest =>
      clear HC46
      try clear c1
      try clear c2
      try clear p2
      try clear c4
      try clear c16
      try clear c17
      try clear c18
      try clear c19
      try clear c20
      try clear c21
      try clear c22
      try clear c23
      try clear c26
      try clear c26b0
      try clear c45
      try clear c47
      try clear c47b0
      try clear p2
      obtain ⟨kq, x55_45, rfl, HA, HJ45, BK152, BK153, HB⟩ := hcut
      cases kq with
      | zero => exact absurd HA.out (by simp [jacquardlaw13_IntervalElements.j1])
      | succ kj45 =>
       have H := HA.out
       clear HA
       simp only [jacquardlaw13_IntervalElements.j1] at H
       by_cases c48 : x55_45 = true
       ·
        subst c48
        have H1 : (some true) = some r := by rw [if_pos rfl] at H; exact H
        clear H
        have H := H1
        clear H1
        obtain rfl := Option.some.inj H
        go_wp2
        go_ret
        exact ⟨by first | rfl | (simp [errW_none, errW_some] <;> rfl) | (simp [*, errW_none, errW_some] <;> rfl), bsL HB.out⟩
       ·
        replace c48 := Bool.eq_false_iff.mpr c48
        subst c48
        have H1 : ((jacquardref12_Mask.f kj45 a0).bind fun t175 => ((jacquardref12_Mask.f kj45 a0).bind fun t176 => ((interval_Of.f a0 (Go.bits .and .u64 a2_0 t175)).bind fun bt177 => ((interval_Valid.f a0 bt177.1 bt177.2.1 bt177.2.2.1 bt177.2.2.2).bind fun t182 => (if t182 = true then ((interval_Top.f a0).bind fun bt183 => ((interval_Valid.f a0 bt183.1 bt183.2.1 bt183.2.2.1 bt183.2.2.2).bind fun t187 => (if t187 = true then ((interval_Contains.f a0 bt183.1 bt183.2.1 bt183.2.2.1 bt183.2.2.2 (Go.bits .and .u64 a2_0 t175)).bind fun t188 => (if t188 = true then ((interval_Contains.f a0 bt177.1 bt177.2.1 bt177.2.2.1 bt177.2.2.2 (Go.bits .and .u64 a2_1 t176)).bind fun t189 => (some (t189 == ((Go.bits .and .u64 a2_0 t175) == (Go.bits .and .u64 a2_1 t176))))) else (some false))) else (some false)))) else (some false)))))) = some r := by rw [if_neg (show ¬ (false = true) by decide)] at H; exact H
        clear H
        have H := H1
        clear H1
        replace H := Option.bind_eq_some_iff.mp H
        obtain ⟨t175, A490, H⟩ := H
        replace H : ((jacquardref12_Mask.f kj45 a0).bind fun t176 => ((interval_Of.f a0 (Go.bits .and .u64 a2_0 t175)).bind fun bt177 => ((interval_Valid.f a0 bt177.1 bt177.2.1 bt177.2.2.1 bt177.2.2.2).bind fun t182 => (if t182 = true then ((interval_Top.f a0).bind fun bt183 => ((interval_Valid.f a0 bt183.1 bt183.2.1 bt183.2.2.1 bt183.2.2.2).bind fun t187 => (if t187 = true then ((interval_Contains.f a0 bt183.1 bt183.2.1 bt183.2.2.1 bt183.2.2.2 (Go.bits .and .u64 a2_0 t175)).bind fun t188 => (if t188 = true then ((interval_Contains.f a0 bt177.1 bt177.2.1 bt177.2.2.1 bt177.2.2.2 (Go.bits .and .u64 a2_1 t176)).bind fun t189 => (some (t189 == ((Go.bits .and .u64 a2_0 t175) == (Go.bits .and .u64 a2_1 t176))))) else (some false))) else (some false)))) else (some false))))) = some r := H
        have A49 := Aside0.mk A490
        clear A490
        replace H := Option.bind_eq_some_iff.mp H
        obtain ⟨t176, A500, H⟩ := H
        replace H : ((interval_Of.f a0 (Go.bits .and .u64 a2_0 t175)).bind fun bt177 => ((interval_Valid.f a0 bt177.1 bt177.2.1 bt177.2.2.1 bt177.2.2.2).bind fun t182 => (if t182 = true then ((interval_Top.f a0).bind fun bt183 => ((interval_Valid.f a0 bt183.1 bt183.2.1 bt183.2.2.1 bt183.2.2.2).bind fun t187 => (if t187 = true then ((interval_Contains.f a0 bt183.1 bt183.2.1 bt183.2.2.1 bt183.2.2.2 (Go.bits .and .u64 a2_0 t175)).bind fun t188 => (if t188 = true then ((interval_Contains.f a0 bt177.1 bt177.2.1 bt177.2.2.1 bt177.2.2.2 (Go.bits .and .u64 a2_1 t176)).bind fun t189 => (some (t189 == ((Go.bits .and .u64 a2_0 t175) == (Go.bits .and .u64 a2_1 t176))))) else (some false))) else (some false)))) else (some false)))) = some r := H
        have A50 := Aside0.mk A500
        clear A500
        replace H := Option.bind_eq_some_iff.mp H
        obtain ⟨⟨t177, t178, t179, t180⟩, A510, H⟩ := H
        replace H : ((interval_Valid.f a0 t177 t178 t179 t180).bind fun t182 => (if t182 = true then ((interval_Top.f a0).bind fun bt183 => ((interval_Valid.f a0 bt183.1 bt183.2.1 bt183.2.2.1 bt183.2.2.2).bind fun t187 => (if t187 = true then ((interval_Contains.f a0 bt183.1 bt183.2.1 bt183.2.2.1 bt183.2.2.2 (Go.bits .and .u64 a2_0 t175)).bind fun t188 => (if t188 = true then ((interval_Contains.f a0 t177 t178 t179 t180 (Go.bits .and .u64 a2_1 t176)).bind fun t189 => (some (t189 == ((Go.bits .and .u64 a2_0 t175) == (Go.bits .and .u64 a2_1 t176))))) else (some false))) else (some false)))) else (some false))) = some r := H
        have A51 := Aside0.mk A510
        clear A510
        replace H := Option.bind_eq_some_iff.mp H
        obtain ⟨t182, A520, H⟩ := H
        replace H : (if t182 = true then ((interval_Top.f a0).bind fun bt183 => ((interval_Valid.f a0 bt183.1 bt183.2.1 bt183.2.2.1 bt183.2.2.2).bind fun t187 => (if t187 = true then ((interval_Contains.f a0 bt183.1 bt183.2.1 bt183.2.2.1 bt183.2.2.2 (Go.bits .and .u64 a2_0 t175)).bind fun t188 => (if t188 = true then ((interval_Contains.f a0 t177 t178 t179 t180 (Go.bits .and .u64 a2_1 t176)).bind fun t189 => (some (t189 == ((Go.bits .and .u64 a2_0 t175) == (Go.bits .and .u64 a2_1 t176))))) else (some false))) else (some false)))) else (some false)) = some r := H
        have A52 := Aside0.mk A520
        clear A520
        by_cases c53 : t182 = true
        ·
         subst c53
         have H1 : ((interval_Top.f a0).bind fun bt183 => ((interval_Valid.f a0 bt183.1 bt183.2.1 bt183.2.2.1 bt183.2.2.2).bind fun t187 => (if t187 = true then ((interval_Contains.f a0 bt183.1 bt183.2.1 bt183.2.2.1 bt183.2.2.2 (Go.bits .and .u64 a2_0 t175)).bind fun t188 => (if t188 = true then ((interval_Contains.f a0 t177 t178 t179 t180 (Go.bits .and .u64 a2_1 t176)).bind fun t189 => (some (t189 == ((Go.bits .and .u64 a2_0 t175) == (Go.bits .and .u64 a2_1 t176))))) else (some false))) else (some false)))) = some r := by rw [if_pos rfl] at H; exact H
         clear H
         have H := H1
         clear H1
         replace H := Option.bind_eq_some_iff.mp H
         obtain ⟨⟨t183, t184, t185, t186⟩, A540, H⟩ := H
         replace H : ((interval_Valid.f a0 t183 t184 t185 t186).bind fun t187 => (if t187 = true then ((interval_Contains.f a0 t183 t184 t185 t186 (Go.bits .and .u64 a2_0 t175)).bind fun t188 => (if t188 = true then ((interval_Contains.f a0 t177 t178 t179 t180 (Go.bits .and .u64 a2_1 t176)).bind fun t189 => (some (t189 == ((Go.bits .and .u64 a2_0 t175) == (Go.bits .and .u64 a2_1 t176))))) else (some false))) else (some false))) = some r := H
         have A54 := Aside0.mk A540
         clear A540
         replace H := Option.bind_eq_some_iff.mp H
         obtain ⟨t187, A550, H⟩ := H
         replace H : (if t187 = true then ((interval_Contains.f a0 t183 t184 t185 t186 (Go.bits .and .u64 a2_0 t175)).bind fun t188 => (if t188 = true then ((interval_Contains.f a0 t177 t178 t179 t180 (Go.bits .and .u64 a2_1 t176)).bind fun t189 => (some (t189 == ((Go.bits .and .u64 a2_0 t175) == (Go.bits .and .u64 a2_1 t176))))) else (some false))) else (some false)) = some r := H
         have A55 := Aside0.mk A550
         clear A550
         by_cases c56 : t187 = true
         ·
          subst c56
          have H1 : ((interval_Contains.f a0 t183 t184 t185 t186 (Go.bits .and .u64 a2_0 t175)).bind fun t188 => (if t188 = true then ((interval_Contains.f a0 t177 t178 t179 t180 (Go.bits .and .u64 a2_1 t176)).bind fun t189 => (some (t189 == ((Go.bits .and .u64 a2_0 t175) == (Go.bits .and .u64 a2_1 t176))))) else (some false))) = some r := by rw [if_pos rfl] at H; exact H
          clear H
          have H := H1
          clear H1
          replace H := Option.bind_eq_some_iff.mp H
          obtain ⟨t188, A570, H⟩ := H
          replace H : (if t188 = true then ((interval_Contains.f a0 t177 t178 t179 t180 (Go.bits .and .u64 a2_1 t176)).bind fun t189 => (some (t189 == ((Go.bits .and .u64 a2_0 t175) == (Go.bits .and .u64 a2_1 t176))))) else (some false)) = some r := H
          have A57 := Aside0.mk A570
          clear A570
          by_cases c58 : t188 = true
          ·
           subst c58
           have H1 : ((interval_Contains.f a0 t177 t178 t179 t180 (Go.bits .and .u64 a2_1 t176)).bind fun t189 => (some (t189 == ((Go.bits .and .u64 a2_0 t175) == (Go.bits .and .u64 a2_1 t176))))) = some r := by rw [if_pos rfl] at H; exact H
           clear H
           have H := H1
           clear H1
           replace H := Option.bind_eq_some_iff.mp H
           obtain ⟨t189, A590, H⟩ := H
           replace H : (some (t189 == ((Go.bits .and .u64 a2_0 t175) == (Go.bits .and .u64 a2_1 t176)))) = some r := H
           have A59 := Aside0.mk A590
           clear A590
           obtain rfl := Option.some.inj H
           try go_wp2
           have n0_ := Aside0.mk (blk_drew BK152.out)
           have n1_ := Aside0.mk (blk_drew BK153.out)
           have n2_ := Aside0.mk (below_drew1 HB.out)
           clear BK152
           clear BK153
           clear HB
           have BK152 := n0_
           have BK153 := n1_
           have HB := n2_
           clear n0_ n1_ n2_
           refine start_ (n := 12) (S := fun w' => w'.cell? ⟨gb153, 0, none⟩ = some (.int .u64 a2_0) ∧ w'.cell? ⟨gb153, 1, none⟩ = some (.int .u64 a2_1)) (ds := []) (bA 12 0) (by kernel_rfl) rfl rfl ⟨(blk_cell BK153.out 0).trans rfl, (blk_cell BK153.out 1).trans rfl⟩ (fun hHeld => ?_); refine with_tabW jacquardlaw13_IntervalElements.tab7 jacquardlaw13_IntervalElements.bits7 (fun HT_ HW_ => ?_)
           generalize wc.drew = w60 at BK152 BK153 HB hHeld ⊢
           refine pureA HT_ (i := 0) (N := some 56) (bA 12 1) ?_
           refine pureA HT_ (i := 2) (N := some 58) (bA 12 5) ?_
           refine pureA HT_ (i := 5) (N := some 61) (bA 12 37) ?_
           refine pureA HT_ (i := 7) (N := some 63) (bA 12 165) ?_
           refine takeA HT_ HW_ hHeld (i := 1) (N := some 57) (bA 12 167) ?_ (hy := by rintro w' ⟨s0, s1⟩; go_simp; with_reducible rfl)
           refine takeA HT_ HW_ hHeld (i := 6) (N := some 62) (bA 12 231) ?_ (hy := by rintro w' ⟨s0, s1⟩; go_simp; with_reducible rfl)
           refine one_ (i := 3) (N := some 59) (bA 12 239) rfl rfl (one_of HT_.out (by kernel_rfl)) (by decide) (fun K hK => ?_)
           refine gO Try.func24 #[.int .i64 a0] ?_
           with_reducible refine (jacquardref12_Mask.calls kj45 a0 t175 _ A49.out).mono ?_
           rintro e w' ⟨rfl, ⟨nd, rfl⟩⟩
           refine ⟨_, rfl, ?_⟩
           refine hK.out _ _ ⟨(blk_cell BK153.out 0).trans rfl, (blk_cell BK153.out 1).trans rfl⟩ (fun hHeld => ?_)
           clear hK K
           refine norm_ (a' := ?_) ?_ ?_
           rotate_left
           ·
            show Act.put _ (some 59) _ = _
            simp only [Act.put, List.setIfInBounds_toArray, List.set_cons_zero, List.set_cons_succ, i64_w, i32_w]
            rfl
           refine pureA HT_ (i := 4) (N := some 60) (bA 12 255) ?_
           refine one_ (i := 8) (N := some 64) (bA 12 511) rfl rfl (one_of HT_.out (by kernel_rfl)) (by decide) (fun K hK => ?_)
           refine gO Try.func24 #[.int .i64 a0] ?_
           with_reducible refine (jacquardref12_Mask.calls kj45 a0 t176 _ A50.out).mono ?_
           rintro e w' ⟨rfl, ⟨nd, rfl⟩⟩
           refine ⟨_, rfl, ?_⟩
           refine hK.out _ _ ⟨(blk_cell BK153.out 0).trans rfl, (blk_cell BK153.out 1).trans rfl⟩ (fun hHeld => ?_)
           clear hK K
           refine norm_ (a' := ?_) ?_ ?_
           rotate_left
           ·
            show Act.put _ (some 64) _ = _
            simp only [Act.put, List.setIfInBounds_toArray, List.set_cons_zero, List.set_cons_succ, i64_w, i32_w]
            rfl
           refine pureA HT_ (i := 9) (N := some 65) (bA 12 1023) ?_
           refine pureA HT_ (i := 10) (N := some 7) (bA 12 2047) ?_
           refine pureA HT_ (i := 11) (N := some 8) (bA 12 4095) ?_
           refine done_ (done_of HT_.out (by kernel_rfl)) ?_
           try go_wp2_with (first | ((with_reducible refine gate_callee (f := 22) rfl ?_); refine gL (some 68) Try.func22 #[.int .i64 a0, .int .u64 (Go.bits .and .u64 a2_0 t175)] ?_; (with_reducible refine (interval_Of.calls a0 (Go.bits .and .u64 a2_0 t175) t177 t178 t179 t180 _ A51.out).mono ?_); rintro e w61 ⟨rfl, hb⟩; refine ⟨_, rfl, ?_⟩; replace BK152 := bkB BK152.out hb; replace BK153 := bkB BK153.out hb; replace HB := bsB HB.out hb; (try clear hb)) | ((with_reducible refine gate_dst (N := 9) rfl ?_); refine box_event ?hg (N := 9) ?hd (cs := #[.int .u64 0, .int .u64 0, .int .i64 0, .int .i64 0]) (t := 24) ?hr ?_; (case hd => rfl); (case hg => rfl); (case hr => first | (go_simp; done) | (go_simp; rfl)); intro gb181 hg w62 hbox hb; have n0_ := bkB BK152.out hb; have n1_ := bkB BK153.out hb; have n2_ := bsB HB.out hb; have n3_ := Aside0.mk (hbox); have n4_ := Aside0.mk ((by rw [hg]; exact (below_size (by repeat (first | (with_reducible first | exact HB.out | apply below_alloc | apply pw_below_drewN | apply below_drew1 | refine below_set ?_ GE152.out | refine below_set ?_ GE153.out) | exact HB.out))) : w.heap.size ≤ gb181)); have n5_ := Aside0.mk ((by rw [hg]; exact (below_size (by repeat (first | (with_reducible first | exact HB.out | apply below_alloc | apply pw_below_drewN | apply below_drew1 | refine below_set ?_ GE152.out | refine below_set ?_ GE153.out) | exact HB.out))) : w.heap.size ≤ gb181)); have n6_ := Aside0.mk ((by rw [hg]; exact Nat.ne_of_lt (blk_lt (g := gb152) (o := .cells #[.int .u64 a1_0, .int .u64 a1_1, .int .i64 a1_2, .int .i64 a1_3] 24 (0, 0)) (by (with_reducible repeat (first | refine blk_drewN ?_ _ | refine blk_drew ?_ | refine blk_alloc ?_ _)); exact BK152.out)) : gb152 ≠ gb181)); have n7_ := Aside0.mk ((by rw [hg]; exact Nat.ne_of_gt (blk_lt (g := gb152) (o := .cells #[.int .u64 a1_0, .int .u64 a1_1, .int .i64 a1_2, .int .i64 a1_3] 24 (0, 0)) (by (with_reducible repeat (first | refine blk_drewN ?_ _ | refine blk_drew ?_ | refine blk_alloc ?_ _)); exact BK152.out)) : gb181 ≠ gb152)); have n8_ := Aside0.mk ((by rw [hg]; exact Nat.ne_of_lt (blk_lt (g := gb153) (o := .cells #[.int .u64 a2_0, .int .u64 a2_1] 25 (0, 0)) (by (with_reducible repeat (first | refine blk_drewN ?_ _ | refine blk_drew ?_ | refine blk_alloc ?_ _)); exact BK153.out)) : gb153 ≠ gb181)); have n9_ := Aside0.mk ((by rw [hg]; exact Nat.ne_of_gt (blk_lt (g := gb153) (o := .cells #[.int .u64 a2_0, .int .u64 a2_1] 25 (0, 0)) (by (with_reducible repeat (first | refine blk_drewN ?_ _ | refine blk_drew ?_ | refine blk_alloc ?_ _)); exact BK153.out)) : gb181 ≠ gb153)); clear BK152; clear BK153; clear HB; have BK152 := n0_; have BK153 := n1_; have HB := n2_; have BK181 := n3_; have GW181 := n4_; have GE181 := n5_; have NB152_181 := n6_; have NB181_152 := n7_; have NB153_181 := n8_; have NB181_153 := n9_; clear n0_ n1_ n2_ n3_ n4_ n5_ n6_ n7_ n8_ n9_; clear hb hbox hg; have hnb63 := NB181_152.out; have hnc63 := NB152_181.out; have hnb64 := NB181_153.out; have hnc64 := NB153_181.out; have hcz65_0 : w62.cell? ⟨gb181, 0, none⟩ = some (.int .u64 0) := (blk_cell BK181.out 0).trans rfl; have hcz65_1 : w62.cell? ⟨gb181, 1, none⟩ = some (.int .u64 0) := (blk_cell BK181.out 1).trans rfl; have hcz65_2 : w62.cell? ⟨gb181, 2, none⟩ = some (.int .i64 0) := (blk_cell BK181.out 2).trans rfl; have hcz65_3 : w62.cell? ⟨gb181, 3, none⟩ = some (.int .i64 0) := (blk_cell BK181.out 3).trans rfl; have hfz65_0 := blk_frozen BK181.out 0; have hfz65_1 := blk_frozen BK181.out 1; have hfz65_2 := blk_frozen BK181.out 2; have hfz65_3 := blk_frozen BK181.out 3) | ((with_reducible refine gate_callee (f := 16) rfl ?_); refine gL (some 71) Try.func16 #[.int .i64 a0, .agg #[.int .u64 t177, .int .u64 t178, .int .i64 t179, .int .i64 t180]] ?_; (with_reducible refine (interval_Valid.calls a0 t177 t178 t179 t180 true _ A52.out).mono ?_); rintro e w66 ⟨rfl, hb⟩; refine ⟨_, rfl, ?_⟩; have n0_ := Aside0.mk (blk_below (g := gb152) (o := .cells #[.int .u64 a1_0, .int .u64 a1_1, .int .i64 a1_2, .int .i64 a1_3] 24 (0, 0)) (by (with_reducible repeat (first | refine blk_drewN ?_ _ | refine blk_drew ?_ | refine blk_alloc ?_ _)); refine blk_far ?_ NB152_181.out _; (with_reducible repeat (first | refine blk_drewN ?_ _ | refine blk_drew ?_ | refine blk_alloc ?_ _)); refine blk_far ?_ NB152_181.out _; (with_reducible repeat (first | refine blk_drewN ?_ _ | refine blk_drew ?_ | refine blk_alloc ?_ _)); refine blk_far ?_ NB152_181.out _; (with_reducible repeat (first | refine blk_drewN ?_ _ | refine blk_drew ?_ | refine blk_alloc ?_ _)); refine blk_far ?_ NB152_181.out _; (with_reducible repeat (first | refine blk_drewN ?_ _ | refine blk_drew ?_ | refine blk_alloc ?_ _)); exact BK152.out) hb); have n1_ := Aside0.mk (blk_below (g := gb153) (o := .cells #[.int .u64 a2_0, .int .u64 a2_1] 25 (0, 0)) (by (with_reducible repeat (first | refine blk_drewN ?_ _ | refine blk_drew ?_ | refine blk_alloc ?_ _)); refine blk_far ?_ NB153_181.out _; (with_reducible repeat (first | refine blk_drewN ?_ _ | refine blk_drew ?_ | refine blk_alloc ?_ _)); refine blk_far ?_ NB153_181.out _; (with_reducible repeat (first | refine blk_drewN ?_ _ | refine blk_drew ?_ | refine blk_alloc ?_ _)); refine blk_far ?_ NB153_181.out _; (with_reducible repeat (first | refine blk_drewN ?_ _ | refine blk_drew ?_ | refine blk_alloc ?_ _)); refine blk_far ?_ NB153_181.out _; (with_reducible repeat (first | refine blk_drewN ?_ _ | refine blk_drew ?_ | refine blk_alloc ?_ _)); exact BK153.out) hb); have n2_ := Aside0.mk (blk_below (g := gb181) (o := .cells #[.int .u64 t177, .int .u64 t178, .int .i64 t179, .int .i64 t180] 24 (0, 0)) (by (with_reducible repeat (first | refine blk_drewN ?_ _ | refine blk_drew ?_ | refine blk_alloc ?_ _)); refine blk_put (cs := #[.int .u64 t177, .int .u64 t178, .int .i64 t179, .int .i64 0]) ?_ 3 _ rfl; (with_reducible repeat (first | refine blk_drewN ?_ _ | refine blk_drew ?_ | refine blk_alloc ?_ _)); refine blk_put (cs := #[.int .u64 t177, .int .u64 t178, .int .i64 0, .int .i64 0]) ?_ 2 _ rfl; (with_reducible repeat (first | refine blk_drewN ?_ _ | refine blk_drew ?_ | refine blk_alloc ?_ _)); refine blk_put (cs := #[.int .u64 t177, .int .u64 0, .int .i64 0, .int .i64 0]) ?_ 1 _ rfl; (with_reducible repeat (first | refine blk_drewN ?_ _ | refine blk_drew ?_ | refine blk_alloc ?_ _)); refine blk_put (cs := #[.int .u64 0, .int .u64 0, .int .i64 0, .int .i64 0]) ?_ 0 _ rfl; (with_reducible repeat (first | refine blk_drewN ?_ _ | refine blk_drew ?_ | refine blk_alloc ?_ _)); exact BK181.out) hb); have n3_ := bsB HB.out hb; clear BK152; clear BK153; clear BK181; clear HB; have BK152 := n0_; have BK153 := n1_; have BK181 := n2_; have HB := n3_; clear n0_ n1_ n2_ n3_; (try clear hb); (try clear hb2); (try clear hk); (try clear hi)) | (go_at_call 20; (with_reducible refine (interval_Top.calls a0 t183 t184 t185 t186 _ A54.out).mono ?_); rintro e w67 ⟨rfl, hb⟩; replace BK152 := bkB BK152.out hb; replace BK153 := bkB BK153.out hb; replace BK181 := bkB BK181.out hb; replace HB := bsB HB.out hb; (try clear hb)) | (go_at_call 16; (with_reducible refine (interval_Valid.calls a0 t183 t184 t185 t186 true _ A55.out).mono ?_); rintro e w68 ⟨rfl, hb⟩; replace BK152 := bkB BK152.out hb; replace BK153 := bkB BK153.out hb; replace BK181 := bkB BK181.out hb; replace HB := bsB HB.out hb; (try clear hb)) | (go_at_call 20; (with_reducible refine (interval_Top.calls a0 t183 t184 t185 t186 _ A54.out).mono ?_); rintro e w69 ⟨rfl, hb⟩; replace BK152 := bkB BK152.out hb; replace BK153 := bkB BK153.out hb; replace BK181 := bkB BK181.out hb; replace HB := bsB HB.out hb; (try clear hb)) | (go_at_call 18; (with_reducible refine (interval_Contains.calls a0 t183 t184 t185 t186 (Go.bits .and .u64 a2_0 t175) true _ A57.out).mono ?_); rintro e w70 ⟨rfl, hb⟩; replace BK152 := bkB BK152.out hb; replace BK153 := bkB BK153.out hb; replace BK181 := bkB BK181.out hb; replace HB := bsB HB.out hb; (try clear hb); have hcz71_0 : w70.cell? ⟨gb181, 0, none⟩ = some (.int .u64 t177) := (blk_cell BK181.out 0).trans rfl; have hcz71_1 : w70.cell? ⟨gb181, 1, none⟩ = some (.int .u64 t178) := (blk_cell BK181.out 1).trans rfl; have hcz71_2 : w70.cell? ⟨gb181, 2, none⟩ = some (.int .i64 t179) := (blk_cell BK181.out 2).trans rfl; have hcz71_3 : w70.cell? ⟨gb181, 3, none⟩ = some (.int .i64 t180) := (blk_cell BK181.out 3).trans rfl; have hfz71_0 := blk_frozen BK181.out 0; have hfz71_1 := blk_frozen BK181.out 1; have hfz71_2 := blk_frozen BK181.out 2; have hfz71_3 := blk_frozen BK181.out 3) | (go_at_call 18; (with_reducible refine (interval_Contains.calls a0 t177 t178 t179 t180 (Go.bits .and .u64 a2_1 t176) t189 _ A59.out).mono ?_); rintro e w72 ⟨rfl, hb⟩; replace BK152 := bkB BK152.out hb; replace BK153 := bkB BK153.out hb; replace BK181 := bkB BK181.out hb; replace HB := bsB HB.out hb; (try clear hb)))
           go_ret
           exact ⟨by first | rfl | (simp [errW_none, errW_some] <;> rfl) | (simp [*, errW_none, errW_some] <;> rfl), bsL HB.out⟩
          ·
           replace c58 := Bool.eq_false_iff.mpr c58
           subst c58
           have H1 : (some false) = some r := by rw [if_neg (show ¬ (false = true) by decide)] at H; exact H
           clear H
           have H := H1
           clear H1
           obtain rfl := Option.some.inj H
           try go_wp2
           have n0_ := Aside0.mk (blk_drew BK152.out)
           have n1_ := Aside0.mk (blk_drew BK153.out)
           have n2_ := Aside0.mk (below_drew1 HB.out)
           clear BK152
           clear BK153
           clear HB
           have BK152 := n0_
           have BK153 := n1_
           have HB := n2_
           clear n0_ n1_ n2_
           refine start_ (n := 12) (S := fun w' => w'.cell? ⟨gb153, 0, none⟩ = some (.int .u64 a2_0) ∧ w'.cell? ⟨gb153, 1, none⟩ = some (.int .u64 a2_1)) (ds := []) (bA 12 0) (by kernel_rfl) rfl rfl ⟨(blk_cell BK153.out 0).trans rfl, (blk_cell BK153.out 1).trans rfl⟩ (fun hHeld => ?_); refine with_tabW jacquardlaw13_IntervalElements.tab7 jacquardlaw13_IntervalElements.bits7 (fun HT_ HW_ => ?_)
           generalize wc.drew = w73 at BK152 BK153 HB hHeld ⊢
           refine pureA HT_ (i := 0) (N := some 56) (bA 12 1) ?_
           refine pureA HT_ (i := 2) (N := some 58) (bA 12 5) ?_
           refine pureA HT_ (i := 5) (N := some 61) (bA 12 37) ?_
           refine pureA HT_ (i := 7) (N := some 63) (bA 12 165) ?_
           refine takeA HT_ HW_ hHeld (i := 1) (N := some 57) (bA 12 167) ?_ (hy := by rintro w' ⟨s0, s1⟩; go_simp; with_reducible rfl)
           refine takeA HT_ HW_ hHeld (i := 6) (N := some 62) (bA 12 231) ?_ (hy := by rintro w' ⟨s0, s1⟩; go_simp; with_reducible rfl)
           refine one_ (i := 3) (N := some 59) (bA 12 239) rfl rfl (one_of HT_.out (by kernel_rfl)) (by decide) (fun K hK => ?_)
           refine gO Try.func24 #[.int .i64 a0] ?_
           with_reducible refine (jacquardref12_Mask.calls kj45 a0 t175 _ A49.out).mono ?_
           rintro e w' ⟨rfl, ⟨nd, rfl⟩⟩
           refine ⟨_, rfl, ?_⟩
           refine hK.out _ _ ⟨(blk_cell BK153.out 0).trans rfl, (blk_cell BK153.out 1).trans rfl⟩ (fun hHeld => ?_)
           clear hK K
           refine norm_ (a' := ?_) ?_ ?_
           rotate_left
           ·
            show Act.put _ (some 59) _ = _
            simp only [Act.put, List.setIfInBounds_toArray, List.set_cons_zero, List.set_cons_succ, i64_w, i32_w]
            rfl
           refine pureA HT_ (i := 4) (N := some 60) (bA 12 255) ?_
           refine one_ (i := 8) (N := some 64) (bA 12 511) rfl rfl (one_of HT_.out (by kernel_rfl)) (by decide) (fun K hK => ?_)
           refine gO Try.func24 #[.int .i64 a0] ?_
           with_reducible refine (jacquardref12_Mask.calls kj45 a0 t176 _ A50.out).mono ?_
           rintro e w' ⟨rfl, ⟨nd, rfl⟩⟩
           refine ⟨_, rfl, ?_⟩
           refine hK.out _ _ ⟨(blk_cell BK153.out 0).trans rfl, (blk_cell BK153.out 1).trans rfl⟩ (fun hHeld => ?_)
           clear hK K
           refine norm_ (a' := ?_) ?_ ?_
           rotate_left
           ·
            show Act.put _ (some 64) _ = _
            simp only [Act.put, List.setIfInBounds_toArray, List.set_cons_zero, List.set_cons_succ, i64_w, i32_w]
            rfl
           refine pureA HT_ (i := 9) (N := some 65) (bA 12 1023) ?_
           refine pureA HT_ (i := 10) (N := some 7) (bA 12 2047) ?_
           refine pureA HT_ (i := 11) (N := some 8) (bA 12 4095) ?_
           refine done_ (done_of HT_.out (by kernel_rfl)) ?_
           try go_wp2_with (first | ((with_reducible refine gate_callee (f := 22) rfl ?_); refine gL (some 68) Try.func22 #[.int .i64 a0, .int .u64 (Go.bits .and .u64 a2_0 t175)] ?_; (with_reducible refine (interval_Of.calls a0 (Go.bits .and .u64 a2_0 t175) t177 t178 t179 t180 _ A51.out).mono ?_); rintro e w74 ⟨rfl, hb⟩; refine ⟨_, rfl, ?_⟩; replace BK152 := bkB BK152.out hb; replace BK153 := bkB BK153.out hb; replace HB := bsB HB.out hb; (try clear hb)) | ((with_reducible refine gate_dst (N := 9) rfl ?_); refine box_event ?hg (N := 9) ?hd (cs := #[.int .u64 0, .int .u64 0, .int .i64 0, .int .i64 0]) (t := 24) ?hr ?_; (case hd => rfl); (case hg => rfl); (case hr => first | (go_simp; done) | (go_simp; rfl)); intro gb181 hg w75 hbox hb; have n0_ := bkB BK152.out hb; have n1_ := bkB BK153.out hb; have n2_ := bsB HB.out hb; have n3_ := Aside0.mk (hbox); have n4_ := Aside0.mk ((by rw [hg]; exact (below_size (by repeat (first | (with_reducible first | exact HB.out | apply below_alloc | apply pw_below_drewN | apply below_drew1 | refine below_set ?_ GE152.out | refine below_set ?_ GE153.out) | exact HB.out))) : w.heap.size ≤ gb181)); have n5_ := Aside0.mk ((by rw [hg]; exact (below_size (by repeat (first | (with_reducible first | exact HB.out | apply below_alloc | apply pw_below_drewN | apply below_drew1 | refine below_set ?_ GE152.out | refine below_set ?_ GE153.out) | exact HB.out))) : w.heap.size ≤ gb181)); have n6_ := Aside0.mk ((by rw [hg]; exact Nat.ne_of_lt (blk_lt (g := gb152) (o := .cells #[.int .u64 a1_0, .int .u64 a1_1, .int .i64 a1_2, .int .i64 a1_3] 24 (0, 0)) (by (with_reducible repeat (first | refine blk_drewN ?_ _ | refine blk_drew ?_ | refine blk_alloc ?_ _)); exact BK152.out)) : gb152 ≠ gb181)); have n7_ := Aside0.mk ((by rw [hg]; exact Nat.ne_of_gt (blk_lt (g := gb152) (o := .cells #[.int .u64 a1_0, .int .u64 a1_1, .int .i64 a1_2, .int .i64 a1_3] 24 (0, 0)) (by (with_reducible repeat (first | refine blk_drewN ?_ _ | refine blk_drew ?_ | refine blk_alloc ?_ _)); exact BK152.out)) : gb181 ≠ gb152)); have n8_ := Aside0.mk ((by rw [hg]; exact Nat.ne_of_lt (blk_lt (g := gb153) (o := .cells #[.int .u64 a2_0, .int .u64 a2_1] 25 (0, 0)) (by (with_reducible repeat (first | refine blk_drewN ?_ _ | refine blk_drew ?_ | refine blk_alloc ?_ _)); exact BK153.out)) : gb153 ≠ gb181)); have n9_ := Aside0.mk ((by rw [hg]; exact Nat.ne_of_gt (blk_lt (g := gb153) (o := .cells #[.int .u64 a2_0, .int .u64 a2_1] 25 (0, 0)) (by (with_reducible repeat (first | refine blk_drewN ?_ _ | refine blk_drew ?_ | refine blk_alloc ?_ _)); exact BK153.out)) : gb181 ≠ gb153)); clear BK152; clear BK153; clear HB; have BK152 := n0_; have BK153 := n1_; have HB := n2_; have BK181 := n3_; have GW181 := n4_; have GE181 := n5_; have NB152_181 := n6_; have NB181_152 := n7_; have NB153_181 := n8_; have NB181_153 := n9_; clear n0_ n1_ n2_ n3_ n4_ n5_ n6_ n7_ n8_ n9_; clear hb hbox hg; have hnb76 := NB181_152.out; have hnc76 := NB152_181.out; have hnb77 := NB181_153.out; have hnc77 := NB153_181.out; have hcz78_0 : w75.cell? ⟨gb181, 0, none⟩ = some (.int .u64 0) := (blk_cell BK181.out 0).trans rfl; have hcz78_1 : w75.cell? ⟨gb181, 1, none⟩ = some (.int .u64 0) := (blk_cell BK181.out 1).trans rfl; have hcz78_2 : w75.cell? ⟨gb181, 2, none⟩ = some (.int .i64 0) := (blk_cell BK181.out 2).trans rfl; have hcz78_3 : w75.cell? ⟨gb181, 3, none⟩ = some (.int .i64 0) := (blk_cell BK181.out 3).trans rfl; have hfz78_0 := blk_frozen BK181.out 0; have hfz78_1 := blk_frozen BK181.out 1; have hfz78_2 := blk_frozen BK181.out 2; have hfz78_3 := blk_frozen BK181.out 3) | ((with_reducible refine gate_callee (f := 16) rfl ?_); refine gL (some 71) Try.func16 #[.int .i64 a0, .agg #[.int .u64 t177, .int .u64 t178, .int .i64 t179, .int .i64 t180]] ?_; (with_reducible refine (interval_Valid.calls a0 t177 t178 t179 t180 true _ A52.out).mono ?_); rintro e w79 ⟨rfl, hb⟩; refine ⟨_, rfl, ?_⟩; have n0_ := Aside0.mk (blk_below (g := gb152) (o := .cells #[.int .u64 a1_0, .int .u64 a1_1, .int .i64 a1_2, .int .i64 a1_3] 24 (0, 0)) (by (with_reducible repeat (first | refine blk_drewN ?_ _ | refine blk_drew ?_ | refine blk_alloc ?_ _)); refine blk_far ?_ NB152_181.out _; (with_reducible repeat (first | refine blk_drewN ?_ _ | refine blk_drew ?_ | refine blk_alloc ?_ _)); refine blk_far ?_ NB152_181.out _; (with_reducible repeat (first | refine blk_drewN ?_ _ | refine blk_drew ?_ | refine blk_alloc ?_ _)); refine blk_far ?_ NB152_181.out _; (with_reducible repeat (first | refine blk_drewN ?_ _ | refine blk_drew ?_ | refine blk_alloc ?_ _)); refine blk_far ?_ NB152_181.out _; (with_reducible repeat (first | refine blk_drewN ?_ _ | refine blk_drew ?_ | refine blk_alloc ?_ _)); exact BK152.out) hb); have n1_ := Aside0.mk (blk_below (g := gb153) (o := .cells #[.int .u64 a2_0, .int .u64 a2_1] 25 (0, 0)) (by (with_reducible repeat (first | refine blk_drewN ?_ _ | refine blk_drew ?_ | refine blk_alloc ?_ _)); refine blk_far ?_ NB153_181.out _; (with_reducible repeat (first | refine blk_drewN ?_ _ | refine blk_drew ?_ | refine blk_alloc ?_ _)); refine blk_far ?_ NB153_181.out _; (with_reducible repeat (first | refine blk_drewN ?_ _ | refine blk_drew ?_ | refine blk_alloc ?_ _)); refine blk_far ?_ NB153_181.out _; (with_reducible repeat (first | refine blk_drewN ?_ _ | refine blk_drew ?_ | refine blk_alloc ?_ _)); refine blk_far ?_ NB153_181.out _; (with_reducible repeat (first | refine blk_drewN ?_ _ | refine blk_drew ?_ | refine blk_alloc ?_ _)); exact BK153.out) hb); have n2_ := Aside0.mk (blk_below (g := gb181) (o := .cells #[.int .u64 t177, .int .u64 t178, .int .i64 t179, .int .i64 t180] 24 (0, 0)) (by (with_reducible repeat (first | refine blk_drewN ?_ _ | refine blk_drew ?_ | refine blk_alloc ?_ _)); refine blk_put (cs := #[.int .u64 t177, .int .u64 t178, .int .i64 t179, .int .i64 0]) ?_ 3 _ rfl; (with_reducible repeat (first | refine blk_drewN ?_ _ | refine blk_drew ?_ | refine blk_alloc ?_ _)); refine blk_put (cs := #[.int .u64 t177, .int .u64 t178, .int .i64 0, .int .i64 0]) ?_ 2 _ rfl; (with_reducible repeat (first | refine blk_drewN ?_ _ | refine blk_drew ?_ | refine blk_alloc ?_ _)); refine blk_put (cs := #[.int .u64 t177, .int .u64 0, .int .i64 0, .int .i64 0]) ?_ 1 _ rfl; (with_reducible repeat (first | refine blk_drewN ?_ _ | refine blk_drew ?_ | refine blk_alloc ?_ _)); refine blk_put (cs := #[.int .u64 0, .int .u64 0, .int .i64 0, .int .i64 0]) ?_ 0 _ rfl; (with_reducible repeat (first | refine blk_drewN ?_ _ | refine blk_drew ?_ | refine blk_alloc ?_ _)); exact BK181.out) hb); have n3_ := bsB HB.out hb; clear BK152; clear BK153; clear BK181; clear HB; have BK152 := n0_; have BK153 := n1_; have BK181 := n2_; have HB := n3_; clear n0_ n1_ n2_ n3_; (try clear hb); (try clear hb2); (try clear hk); (try clear hi)) | (go_at_call 20; (with_reducible refine (interval_Top.calls a0 t183 t184 t185 t186 _ A54.out).mono ?_); rintro e w80 ⟨rfl, hb⟩; replace BK152 := bkB BK152.out hb; replace BK153 := bkB BK153.out hb; replace BK181 := bkB BK181.out hb; replace HB := bsB HB.out hb; (try clear hb)) | (go_at_call 16; (with_reducible refine (interval_Valid.calls a0 t183 t184 t185 t186 true _ A55.out).mono ?_); rintro e w81 ⟨rfl, hb⟩; replace BK152 := bkB BK152.out hb; replace BK153 := bkB BK153.out hb; replace BK181 := bkB BK181.out hb; replace HB := bsB HB.out hb; (try clear hb)) | (go_at_call 20; (with_reducible refine (interval_Top.calls a0 t183 t184 t185 t186 _ A54.out).mono ?_); rintro e w82 ⟨rfl, hb⟩; replace BK152 := bkB BK152.out hb; replace BK153 := bkB BK153.out hb; replace BK181 := bkB BK181.out hb; replace HB := bsB HB.out hb; (try clear hb)) | (go_at_call 18; (with_reducible refine (interval_Contains.calls a0 t183 t184 t185 t186 (Go.bits .and .u64 a2_0 t175) false _ A57.out).mono ?_); rintro e w83 ⟨rfl, hb⟩; replace BK152 := bkB BK152.out hb; replace BK153 := bkB BK153.out hb; replace BK181 := bkB BK181.out hb; replace HB := bsB HB.out hb; (try clear hb)))
           go_ret
           exact ⟨by first | rfl | (simp [errW_none, errW_some] <;> rfl) | (simp [*, errW_none, errW_some] <;> rfl), bsL HB.out⟩
         ·
          replace c56 := Bool.eq_false_iff.mpr c56
          subst c56
          have H1 : (some false) = some r := by rw [if_neg (show ¬ (false = true) by decide)] at H; exact H
          clear H
          have H := H1
          clear H1
          obtain rfl := Option.some.inj H
          try go_wp2
          have n0_ := Aside0.mk (blk_drew BK152.out)
          have n1_ := Aside0.mk (blk_drew BK153.out)
          have n2_ := Aside0.mk (below_drew1 HB.out)
          clear BK152
          clear BK153
          clear HB
          have BK152 := n0_
          have BK153 := n1_
          have HB := n2_
          clear n0_ n1_ n2_
          refine start_ (n := 12) (S := fun w' => w'.cell? ⟨gb153, 0, none⟩ = some (.int .u64 a2_0) ∧ w'.cell? ⟨gb153, 1, none⟩ = some (.int .u64 a2_1)) (ds := []) (bA 12 0) (by kernel_rfl) rfl rfl ⟨(blk_cell BK153.out 0).trans rfl, (blk_cell BK153.out 1).trans rfl⟩ (fun hHeld => ?_); refine with_tabW jacquardlaw13_IntervalElements.tab7 jacquardlaw13_IntervalElements.bits7 (fun HT_ HW_ => ?_)
          generalize wc.drew = w84 at BK152 BK153 HB hHeld ⊢
          refine pureA HT_ (i := 0) (N := some 56) (bA 12 1) ?_
          refine pureA HT_ (i := 2) (N := some 58) (bA 12 5) ?_
          refine pureA HT_ (i := 5) (N := some 61) (bA 12 37) ?_
          refine pureA HT_ (i := 7) (N := some 63) (bA 12 165) ?_
          refine takeA HT_ HW_ hHeld (i := 1) (N := some 57) (bA 12 167) ?_ (hy := by rintro w' ⟨s0, s1⟩; go_simp; with_reducible rfl)
          refine takeA HT_ HW_ hHeld (i := 6) (N := some 62) (bA 12 231) ?_ (hy := by rintro w' ⟨s0, s1⟩; go_simp; with_reducible rfl)
          refine one_ (i := 3) (N := some 59) (bA 12 239) rfl rfl (one_of HT_.out (by kernel_rfl)) (by decide) (fun K hK => ?_)
          refine gO Try.func24 #[.int .i64 a0] ?_
          with_reducible refine (jacquardref12_Mask.calls kj45 a0 t175 _ A49.out).mono ?_
          rintro e w' ⟨rfl, ⟨nd, rfl⟩⟩
          refine ⟨_, rfl, ?_⟩
          refine hK.out _ _ ⟨(blk_cell BK153.out 0).trans rfl, (blk_cell BK153.out 1).trans rfl⟩ (fun hHeld => ?_)
          clear hK K
          refine norm_ (a' := ?_) ?_ ?_
          rotate_left
          ·
           show Act.put _ (some 59) _ = _
           simp only [Act.put, List.setIfInBounds_toArray, List.set_cons_zero, List.set_cons_succ, i64_w, i32_w]
           rfl
          refine pureA HT_ (i := 4) (N := some 60) (bA 12 255) ?_
          refine one_ (i := 8) (N := some 64) (bA 12 511) rfl rfl (one_of HT_.out (by kernel_rfl)) (by decide) (fun K hK => ?_)
          refine gO Try.func24 #[.int .i64 a0] ?_
          with_reducible refine (jacquardref12_Mask.calls kj45 a0 t176 _ A50.out).mono ?_
          rintro e w' ⟨rfl, ⟨nd, rfl⟩⟩
          refine ⟨_, rfl, ?_⟩
          refine hK.out _ _ ⟨(blk_cell BK153.out 0).trans rfl, (blk_cell BK153.out 1).trans rfl⟩ (fun hHeld => ?_)
          clear hK K
          refine norm_ (a' := ?_) ?_ ?_
          rotate_left
          ·
           show Act.put _ (some 64) _ = _
           simp only [Act.put, List.setIfInBounds_toArray, List.set_cons_zero, List.set_cons_succ, i64_w, i32_w]
           rfl
          refine pureA HT_ (i := 9) (N := some 65) (bA 12 1023) ?_
          refine pureA HT_ (i := 10) (N := some 7) (bA 12 2047) ?_
          refine pureA HT_ (i := 11) (N := some 8) (bA 12 4095) ?_
          refine done_ (done_of HT_.out (by kernel_rfl)) ?_
          try go_wp2_with (first | ((with_reducible refine gate_callee (f := 22) rfl ?_); refine gL (some 68) Try.func22 #[.int .i64 a0, .int .u64 (Go.bits .and .u64 a2_0 t175)] ?_; (with_reducible refine (interval_Of.calls a0 (Go.bits .and .u64 a2_0 t175) t177 t178 t179 t180 _ A51.out).mono ?_); rintro e w85 ⟨rfl, hb⟩; refine ⟨_, rfl, ?_⟩; replace BK152 := bkB BK152.out hb; replace BK153 := bkB BK153.out hb; replace HB := bsB HB.out hb; (try clear hb)) | ((with_reducible refine gate_dst (N := 9) rfl ?_); refine box_event ?hg (N := 9) ?hd (cs := #[.int .u64 0, .int .u64 0, .int .i64 0, .int .i64 0]) (t := 24) ?hr ?_; (case hd => rfl); (case hg => rfl); (case hr => first | (go_simp; done) | (go_simp; rfl)); intro gb181 hg w86 hbox hb; have n0_ := bkB BK152.out hb; have n1_ := bkB BK153.out hb; have n2_ := bsB HB.out hb; have n3_ := Aside0.mk (hbox); have n4_ := Aside0.mk ((by rw [hg]; exact (below_size (by repeat (first | (with_reducible first | exact HB.out | apply below_alloc | apply pw_below_drewN | apply below_drew1 | refine below_set ?_ GE152.out | refine below_set ?_ GE153.out) | exact HB.out))) : w.heap.size ≤ gb181)); have n5_ := Aside0.mk ((by rw [hg]; exact (below_size (by repeat (first | (with_reducible first | exact HB.out | apply below_alloc | apply pw_below_drewN | apply below_drew1 | refine below_set ?_ GE152.out | refine below_set ?_ GE153.out) | exact HB.out))) : w.heap.size ≤ gb181)); have n6_ := Aside0.mk ((by rw [hg]; exact Nat.ne_of_lt (blk_lt (g := gb152) (o := .cells #[.int .u64 a1_0, .int .u64 a1_1, .int .i64 a1_2, .int .i64 a1_3] 24 (0, 0)) (by (with_reducible repeat (first | refine blk_drewN ?_ _ | refine blk_drew ?_ | refine blk_alloc ?_ _)); exact BK152.out)) : gb152 ≠ gb181)); have n7_ := Aside0.mk ((by rw [hg]; exact Nat.ne_of_gt (blk_lt (g := gb152) (o := .cells #[.int .u64 a1_0, .int .u64 a1_1, .int .i64 a1_2, .int .i64 a1_3] 24 (0, 0)) (by (with_reducible repeat (first | refine blk_drewN ?_ _ | refine blk_drew ?_ | refine blk_alloc ?_ _)); exact BK152.out)) : gb181 ≠ gb152)); have n8_ := Aside0.mk ((by rw [hg]; exact Nat.ne_of_lt (blk_lt (g := gb153) (o := .cells #[.int .u64 a2_0, .int .u64 a2_1] 25 (0, 0)) (by (with_reducible repeat (first | refine blk_drewN ?_ _ | refine blk_drew ?_ | refine blk_alloc ?_ _)); exact BK153.out)) : gb153 ≠ gb181)); have n9_ := Aside0.mk ((by rw [hg]; exact Nat.ne_of_gt (blk_lt (g := gb153) (o := .cells #[.int .u64 a2_0, .int .u64 a2_1] 25 (0, 0)) (by (with_reducible repeat (first | refine blk_drewN ?_ _ | refine blk_drew ?_ | refine blk_alloc ?_ _)); exact BK153.out)) : gb181 ≠ gb153)); clear BK152; clear BK153; clear HB; have BK152 := n0_; have BK153 := n1_; have HB := n2_; have BK181 := n3_; have GW181 := n4_; have GE181 := n5_; have NB152_181 := n6_; have NB181_152 := n7_; have NB153_181 := n8_; have NB181_153 := n9_; clear n0_ n1_ n2_ n3_ n4_ n5_ n6_ n7_ n8_ n9_; clear hb hbox hg; have hnb87 := NB181_152.out; have hnc87 := NB152_181.out; have hnb88 := NB181_153.out; have hnc88 := NB153_181.out; have hcz89_0 : w86.cell? ⟨gb181, 0, none⟩ = some (.int .u64 0) := (blk_cell BK181.out 0).trans rfl; have hcz89_1 : w86.cell? ⟨gb181, 1, none⟩ = some (.int .u64 0) := (blk_cell BK181.out 1).trans rfl; have hcz89_2 : w86.cell? ⟨gb181, 2, none⟩ = some (.int .i64 0) := (blk_cell BK181.out 2).trans rfl; have hcz89_3 : w86.cell? ⟨gb181, 3, none⟩ = some (.int .i64 0) := (blk_cell BK181.out 3).trans rfl; have hfz89_0 := blk_frozen BK181.out 0; have hfz89_1 := blk_frozen BK181.out 1; have hfz89_2 := blk_frozen BK181.out 2; have hfz89_3 := blk_frozen BK181.out 3) | ((with_reducible refine gate_callee (f := 16) rfl ?_); refine gL (some 71) Try.func16 #[.int .i64 a0, .agg #[.int .u64 t177, .int .u64 t178, .int .i64 t179, .int .i64 t180]] ?_; (with_reducible refine (interval_Valid.calls a0 t177 t178 t179 t180 true _ A52.out).mono ?_); rintro e w90 ⟨rfl, hb⟩; refine ⟨_, rfl, ?_⟩; have n0_ := Aside0.mk (blk_below (g := gb152) (o := .cells #[.int .u64 a1_0, .int .u64 a1_1, .int .i64 a1_2, .int .i64 a1_3] 24 (0, 0)) (by (with_reducible repeat (first | refine blk_drewN ?_ _ | refine blk_drew ?_ | refine blk_alloc ?_ _)); refine blk_far ?_ NB152_181.out _; (with_reducible repeat (first | refine blk_drewN ?_ _ | refine blk_drew ?_ | refine blk_alloc ?_ _)); refine blk_far ?_ NB152_181.out _; (with_reducible repeat (first | refine blk_drewN ?_ _ | refine blk_drew ?_ | refine blk_alloc ?_ _)); refine blk_far ?_ NB152_181.out _; (with_reducible repeat (first | refine blk_drewN ?_ _ | refine blk_drew ?_ | refine blk_alloc ?_ _)); refine blk_far ?_ NB152_181.out _; (with_reducible repeat (first | refine blk_drewN ?_ _ | refine blk_drew ?_ | refine blk_alloc ?_ _)); exact BK152.out) hb); have n1_ := Aside0.mk (blk_below (g := gb153) (o := .cells #[.int .u64 a2_0, .int .u64 a2_1] 25 (0, 0)) (by (with_reducible repeat (first | refine blk_drewN ?_ _ | refine blk_drew ?_ | refine blk_alloc ?_ _)); refine blk_far ?_ NB153_181.out _; (with_reducible repeat (first | refine blk_drewN ?_ _ | refine blk_drew ?_ | refine blk_alloc ?_ _)); refine blk_far ?_ NB153_181.out _; (with_reducible repeat (first | refine blk_drewN ?_ _ | refine blk_drew ?_ | refine blk_alloc ?_ _)); refine blk_far ?_ NB153_181.out _; (with_reducible repeat (first | refine blk_drewN ?_ _ | refine blk_drew ?_ | refine blk_alloc ?_ _)); refine blk_far ?_ NB153_181.out _; (with_reducible repeat (first | refine blk_drewN ?_ _ | refine blk_drew ?_ | refine blk_alloc ?_ _)); exact BK153.out) hb); have n2_ := Aside0.mk (blk_below (g := gb181) (o := .cells #[.int .u64 t177, .int .u64 t178, .int .i64 t179, .int .i64 t180] 24 (0, 0)) (by (with_reducible repeat (first | refine blk_drewN ?_ _ | refine blk_drew ?_ | refine blk_alloc ?_ _)); refine blk_put (cs := #[.int .u64 t177, .int .u64 t178, .int .i64 t179, .int .i64 0]) ?_ 3 _ rfl; (with_reducible repeat (first | refine blk_drewN ?_ _ | refine blk_drew ?_ | refine blk_alloc ?_ _)); refine blk_put (cs := #[.int .u64 t177, .int .u64 t178, .int .i64 0, .int .i64 0]) ?_ 2 _ rfl; (with_reducible repeat (first | refine blk_drewN ?_ _ | refine blk_drew ?_ | refine blk_alloc ?_ _)); refine blk_put (cs := #[.int .u64 t177, .int .u64 0, .int .i64 0, .int .i64 0]) ?_ 1 _ rfl; (with_reducible repeat (first | refine blk_drewN ?_ _ | refine blk_drew ?_ | refine blk_alloc ?_ _)); refine blk_put (cs := #[.int .u64 0, .int .u64 0, .int .i64 0, .int .i64 0]) ?_ 0 _ rfl; (with_reducible repeat (first | refine blk_drewN ?_ _ | refine blk_drew ?_ | refine blk_alloc ?_ _)); exact BK181.out) hb); have n3_ := bsB HB.out hb; clear BK152; clear BK153; clear BK181; clear HB; have BK152 := n0_; have BK153 := n1_; have BK181 := n2_; have HB := n3_; clear n0_ n1_ n2_ n3_; (try clear hb); (try clear hb2); (try clear hk); (try clear hi)) | (go_at_call 20; (with_reducible refine (interval_Top.calls a0 t183 t184 t185 t186 _ A54.out).mono ?_); rintro e w91 ⟨rfl, hb⟩; replace BK152 := bkB BK152.out hb; replace BK153 := bkB BK153.out hb; replace BK181 := bkB BK181.out hb; replace HB := bsB HB.out hb; (try clear hb)) | (go_at_call 16; (with_reducible refine (interval_Valid.calls a0 t183 t184 t185 t186 false _ A55.out).mono ?_); rintro e w92 ⟨rfl, hb⟩; replace BK152 := bkB BK152.out hb; replace BK153 := bkB BK153.out hb; replace BK181 := bkB BK181.out hb; replace HB := bsB HB.out hb; (try clear hb)))
          go_ret
          exact ⟨by first | rfl | (simp [errW_none, errW_some] <;> rfl) | (simp [*, errW_none, errW_some] <;> rfl), bsL HB.out⟩
        ·
         replace c53 := Bool.eq_false_iff.mpr c53
         subst c53
         have H1 : (some false) = some r := by rw [if_neg (show ¬ (false = true) by decide)] at H; exact H
         clear H
         have H := H1
         clear H1
         obtain rfl := Option.some.inj H
         try go_wp2
         have n0_ := Aside0.mk (blk_drew BK152.out)
         have n1_ := Aside0.mk (blk_drew BK153.out)
         have n2_ := Aside0.mk (below_drew1 HB.out)
         clear BK152
         clear BK153
         clear HB
         have BK152 := n0_
         have BK153 := n1_
         have HB := n2_
         clear n0_ n1_ n2_
         refine start_ (n := 12) (S := fun w' => w'.cell? ⟨gb153, 0, none⟩ = some (.int .u64 a2_0) ∧ w'.cell? ⟨gb153, 1, none⟩ = some (.int .u64 a2_1)) (ds := []) (bA 12 0) (by kernel_rfl) rfl rfl ⟨(blk_cell BK153.out 0).trans rfl, (blk_cell BK153.out 1).trans rfl⟩ (fun hHeld => ?_); refine with_tabW jacquardlaw13_IntervalElements.tab7 jacquardlaw13_IntervalElements.bits7 (fun HT_ HW_ => ?_)
         generalize wc.drew = w93 at BK152 BK153 HB hHeld ⊢
         refine pureA HT_ (i := 0) (N := some 56) (bA 12 1) ?_
         refine pureA HT_ (i := 2) (N := some 58) (bA 12 5) ?_
         refine pureA HT_ (i := 5) (N := some 61) (bA 12 37) ?_
         refine pureA HT_ (i := 7) (N := some 63) (bA 12 165) ?_
         refine takeA HT_ HW_ hHeld (i := 1) (N := some 57) (bA 12 167) ?_ (hy := by rintro w' ⟨s0, s1⟩; go_simp; with_reducible rfl)
         refine takeA HT_ HW_ hHeld (i := 6) (N := some 62) (bA 12 231) ?_ (hy := by rintro w' ⟨s0, s1⟩; go_simp; with_reducible rfl)
         refine one_ (i := 3) (N := some 59) (bA 12 239) rfl rfl (one_of HT_.out (by kernel_rfl)) (by decide) (fun K hK => ?_)
         refine gO Try.func24 #[.int .i64 a0] ?_
         with_reducible refine (jacquardref12_Mask.calls kj45 a0 t175 _ A49.out).mono ?_
         rintro e w' ⟨rfl, ⟨nd, rfl⟩⟩
         refine ⟨_, rfl, ?_⟩
         refine hK.out _ _ ⟨(blk_cell BK153.out 0).trans rfl, (blk_cell BK153.out 1).trans rfl⟩ (fun hHeld => ?_)
         clear hK K
         refine norm_ (a' := ?_) ?_ ?_
         rotate_left
         ·
          show Act.put _ (some 59) _ = _
          simp only [Act.put, List.setIfInBounds_toArray, List.set_cons_zero, List.set_cons_succ, i64_w, i32_w]
          rfl
         refine pureA HT_ (i := 4) (N := some 60) (bA 12 255) ?_
         refine one_ (i := 8) (N := some 64) (bA 12 511) rfl rfl (one_of HT_.out (by kernel_rfl)) (by decide) (fun K hK => ?_)
         refine gO Try.func24 #[.int .i64 a0] ?_
         with_reducible refine (jacquardref12_Mask.calls kj45 a0 t176 _ A50.out).mono ?_
         rintro e w' ⟨rfl, ⟨nd, rfl⟩⟩
         refine ⟨_, rfl, ?_⟩
         refine hK.out _ _ ⟨(blk_cell BK153.out 0).trans rfl, (blk_cell BK153.out 1).trans rfl⟩ (fun hHeld => ?_)
         clear hK K
         refine norm_ (a' := ?_) ?_ ?_
         rotate_left
         ·
          show Act.put _ (some 64) _ = _
          simp only [Act.put, List.setIfInBounds_toArray, List.set_cons_zero, List.set_cons_succ, i64_w, i32_w]
          rfl
         refine pureA HT_ (i := 9) (N := some 65) (bA 12 1023) ?_
         refine pureA HT_ (i := 10) (N := some 7) (bA 12 2047) ?_
         refine pureA HT_ (i := 11) (N := some 8) (bA 12 4095) ?_
         refine done_ (done_of HT_.out (by kernel_rfl)) ?_
         try go_wp2_with (first | ((with_reducible refine gate_callee (f := 22) rfl ?_); refine gL (some 68) Try.func22 #[.int .i64 a0, .int .u64 (Go.bits .and .u64 a2_0 t175)] ?_; (with_reducible refine (interval_Of.calls a0 (Go.bits .and .u64 a2_0 t175) t177 t178 t179 t180 _ A51.out).mono ?_); rintro e w94 ⟨rfl, hb⟩; refine ⟨_, rfl, ?_⟩; replace BK152 := bkB BK152.out hb; replace BK153 := bkB BK153.out hb; replace HB := bsB HB.out hb; (try clear hb)) | ((with_reducible refine gate_dst (N := 9) rfl ?_); refine box_event ?hg (N := 9) ?hd (cs := #[.int .u64 0, .int .u64 0, .int .i64 0, .int .i64 0]) (t := 24) ?hr ?_; (case hd => rfl); (case hg => rfl); (case hr => first | (go_simp; done) | (go_simp; rfl)); intro gb181 hg w95 hbox hb; have n0_ := bkB BK152.out hb; have n1_ := bkB BK153.out hb; have n2_ := bsB HB.out hb; have n3_ := Aside0.mk (hbox); have n4_ := Aside0.mk ((by rw [hg]; exact (below_size (by repeat (first | (with_reducible first | exact HB.out | apply below_alloc | apply pw_below_drewN | apply below_drew1 | refine below_set ?_ GE152.out | refine below_set ?_ GE153.out) | exact HB.out))) : w.heap.size ≤ gb181)); have n5_ := Aside0.mk ((by rw [hg]; exact (below_size (by repeat (first | (with_reducible first | exact HB.out | apply below_alloc | apply pw_below_drewN | apply below_drew1 | refine below_set ?_ GE152.out | refine below_set ?_ GE153.out) | exact HB.out))) : w.heap.size ≤ gb181)); have n6_ := Aside0.mk ((by rw [hg]; exact Nat.ne_of_lt (blk_lt (g := gb152) (o := .cells #[.int .u64 a1_0, .int .u64 a1_1, .int .i64 a1_2, .int .i64 a1_3] 24 (0, 0)) (by (with_reducible repeat (first | refine blk_drewN ?_ _ | refine blk_drew ?_ | refine blk_alloc ?_ _)); exact BK152.out)) : gb152 ≠ gb181)); have n7_ := Aside0.mk ((by rw [hg]; exact Nat.ne_of_gt (blk_lt (g := gb152) (o := .cells #[.int .u64 a1_0, .int .u64 a1_1, .int .i64 a1_2, .int .i64 a1_3] 24 (0, 0)) (by (with_reducible repeat (first | refine blk_drewN ?_ _ | refine blk_drew ?_ | refine blk_alloc ?_ _)); exact BK152.out)) : gb181 ≠ gb152)); have n8_ := Aside0.mk ((by rw [hg]; exact Nat.ne_of_lt (blk_lt (g := gb153) (o := .cells #[.int .u64 a2_0, .int .u64 a2_1] 25 (0, 0)) (by (with_reducible repeat (first | refine blk_drewN ?_ _ | refine blk_drew ?_ | refine blk_alloc ?_ _)); exact BK153.out)) : gb153 ≠ gb181)); have n9_ := Aside0.mk ((by rw [hg]; exact Nat.ne_of_gt (blk_lt (g := gb153) (o := .cells #[.int .u64 a2_0, .int .u64 a2_1] 25 (0, 0)) (by (with_reducible repeat (first | refine blk_drewN ?_ _ | refine blk_drew ?_ | refine blk_alloc ?_ _)); exact BK153.out)) : gb181 ≠ gb153)); clear BK152; clear BK153; clear HB; have BK152 := n0_; have BK153 := n1_; have HB := n2_; have BK181 := n3_; have GW181 := n4_; have GE181 := n5_; have NB152_181 := n6_; have NB181_152 := n7_; have NB153_181 := n8_; have NB181_153 := n9_; clear n0_ n1_ n2_ n3_ n4_ n5_ n6_ n7_ n8_ n9_; clear hb hbox hg; have hnb96 := NB181_152.out; have hnc96 := NB152_181.out; have hnb97 := NB181_153.out; have hnc97 := NB153_181.out; have hcz98_0 : w95.cell? ⟨gb181, 0, none⟩ = some (.int .u64 0) := (blk_cell BK181.out 0).trans rfl; have hcz98_1 : w95.cell? ⟨gb181, 1, none⟩ = some (.int .u64 0) := (blk_cell BK181.out 1).trans rfl; have hcz98_2 : w95.cell? ⟨gb181, 2, none⟩ = some (.int .i64 0) := (blk_cell BK181.out 2).trans rfl; have hcz98_3 : w95.cell? ⟨gb181, 3, none⟩ = some (.int .i64 0) := (blk_cell BK181.out 3).trans rfl; have hfz98_0 := blk_frozen BK181.out 0; have hfz98_1 := blk_frozen BK181.out 1; have hfz98_2 := blk_frozen BK181.out 2; have hfz98_3 := blk_frozen BK181.out 3) | ((with_reducible refine gate_callee (f := 16) rfl ?_); refine gL (some 71) Try.func16 #[.int .i64 a0, .agg #[.int .u64 t177, .int .u64 t178, .int .i64 t179, .int .i64 t180]] ?_; (with_reducible refine (interval_Valid.calls a0 t177 t178 t179 t180 false _ A52.out).mono ?_); rintro e w99 ⟨rfl, hb⟩; refine ⟨_, rfl, ?_⟩; have n0_ := Aside0.mk (blk_below (g := gb152) (o := .cells #[.int .u64 a1_0, .int .u64 a1_1, .int .i64 a1_2, .int .i64 a1_3] 24 (0, 0)) (by (with_reducible repeat (first | refine blk_drewN ?_ _ | refine blk_drew ?_ | refine blk_alloc ?_ _)); refine blk_far ?_ NB152_181.out _; (with_reducible repeat (first | refine blk_drewN ?_ _ | refine blk_drew ?_ | refine blk_alloc ?_ _)); refine blk_far ?_ NB152_181.out _; (with_reducible repeat (first | refine blk_drewN ?_ _ | refine blk_drew ?_ | refine blk_alloc ?_ _)); refine blk_far ?_ NB152_181.out _; (with_reducible repeat (first | refine blk_drewN ?_ _ | refine blk_drew ?_ | refine blk_alloc ?_ _)); refine blk_far ?_ NB152_181.out _; (with_reducible repeat (first | refine blk_drewN ?_ _ | refine blk_drew ?_ | refine blk_alloc ?_ _)); exact BK152.out) hb); have n1_ := Aside0.mk (blk_below (g := gb153) (o := .cells #[.int .u64 a2_0, .int .u64 a2_1] 25 (0, 0)) (by (with_reducible repeat (first | refine blk_drewN ?_ _ | refine blk_drew ?_ | refine blk_alloc ?_ _)); refine blk_far ?_ NB153_181.out _; (with_reducible repeat (first | refine blk_drewN ?_ _ | refine blk_drew ?_ | refine blk_alloc ?_ _)); refine blk_far ?_ NB153_181.out _; (with_reducible repeat (first | refine blk_drewN ?_ _ | refine blk_drew ?_ | refine blk_alloc ?_ _)); refine blk_far ?_ NB153_181.out _; (with_reducible repeat (first | refine blk_drewN ?_ _ | refine blk_drew ?_ | refine blk_alloc ?_ _)); refine blk_far ?_ NB153_181.out _; (with_reducible repeat (first | refine blk_drewN ?_ _ | refine blk_drew ?_ | refine blk_alloc ?_ _)); exact BK153.out) hb); have n2_ := Aside0.mk (blk_below (g := gb181) (o := .cells #[.int .u64 t177, .int .u64 t178, .int .i64 t179, .int .i64 t180] 24 (0, 0)) (by (with_reducible repeat (first | refine blk_drewN ?_ _ | refine blk_drew ?_ | refine blk_alloc ?_ _)); refine blk_put (cs := #[.int .u64 t177, .int .u64 t178, .int .i64 t179, .int .i64 0]) ?_ 3 _ rfl; (with_reducible repeat (first | refine blk_drewN ?_ _ | refine blk_drew ?_ | refine blk_alloc ?_ _)); refine blk_put (cs := #[.int .u64 t177, .int .u64 t178, .int .i64 0, .int .i64 0]) ?_ 2 _ rfl; (with_reducible repeat (first | refine blk_drewN ?_ _ | refine blk_drew ?_ | refine blk_alloc ?_ _)); refine blk_put (cs := #[.int .u64 t177, .int .u64 0, .int .i64 0, .int .i64 0]) ?_ 1 _ rfl; (with_reducible repeat (first | refine blk_drewN ?_ _ | refine blk_drew ?_ | refine blk_alloc ?_ _)); refine blk_put (cs := #[.int .u64 0, .int .u64 0, .int .i64 0, .int .i64 0]) ?_ 0 _ rfl; (with_reducible repeat (first | refine blk_drewN ?_ _ | refine blk_drew ?_ | refine blk_alloc ?_ _)); exact BK181.out) hb); have n3_ := bsB HB.out hb; clear BK152; clear BK153; clear BK181; clear HB; have BK152 := n0_; have BK153 := n1_; have BK181 := n2_; have HB := n3_; clear n0_ n1_ n2_ n3_; (try clear hb); (try clear hb2); (try clear hk); (try clear hi)))
         go_ret
         exact ⟨by first | rfl | (simp [errW_none, errW_some] <;> rfl) | (simp [*, errW_none, errW_some] <;> rfl), bsL HB.out⟩
 ·
  replace c5 := Bool.eq_false_iff.mpr c5
  subst c5
  have H1 : (some false) = some r := by rw [if_neg (show ¬ (false = true) by decide)] at H; exact H
  clear H
  have H := H1
  clear H1
  obtain rfl := Option.some.inj H
  go_enter Try.func3, Try.ntmps3
  go_wp2_with (first | ((with_reducible refine gate_dst (N := 4) rfl ?_); refine box_event ?hg (N := 4) ?hd (cs := #[.int .u64 a1_0, .int .u64 a1_1, .int .i64 a1_2, .int .i64 a1_3]) (t := 24) ?hr ?_; (case hd => rfl); (case hg => rfl); (case hr => first | (go_simp; done) | (go_simp; rfl)); intro gb152 hg w100 hbox hb; have n0_ := bsB HB.out hb; have n1_ := Aside0.mk (hbox); have n2_ := Aside0.mk ((by rw [hg]; exact (below_size (by repeat (first | (with_reducible first | exact HB.out | apply below_alloc | apply pw_below_drewN | apply below_drew1) | exact HB.out))) : w.heap.size ≤ gb152)); have n3_ := Aside0.mk ((by rw [hg]; exact (below_size (by repeat (first | (with_reducible first | exact HB.out | apply below_alloc | apply pw_below_drewN | apply below_drew1) | exact HB.out))) : w.heap.size ≤ gb152)); clear HB; have HB := n0_; have BK152 := n1_; have GW152 := n2_; have GE152 := n3_; clear n0_ n1_ n2_ n3_; clear hb hbox hg) | ((with_reducible refine gate_dst (N := 5) rfl ?_); refine box_event ?hg (N := 5) ?hd (cs := #[.int .u64 a2_0, .int .u64 a2_1]) (t := 25) ?hr ?_; (case hd => rfl); (case hg => rfl); (case hr => first | (go_simp; done) | (go_simp; rfl)); intro gb153 hg w101 hbox hb; have n0_ := bkB BK152.out hb; have n1_ := bsB HB.out hb; have n2_ := Aside0.mk (hbox); have n3_ := Aside0.mk ((by rw [hg]; exact (below_size (by repeat (first | (with_reducible first | exact HB.out | apply below_alloc | apply pw_below_drewN | apply below_drew1 | refine below_set ?_ GE152.out) | exact HB.out))) : w.heap.size ≤ gb153)); have n4_ := Aside0.mk ((by rw [hg]; exact (below_size (by repeat (first | (with_reducible first | exact HB.out | apply below_alloc | apply pw_below_drewN | apply below_drew1 | refine below_set ?_ GE152.out) | exact HB.out))) : w.heap.size ≤ gb153)); have n5_ := Aside0.mk ((by rw [hg]; exact Nat.ne_of_lt (blk_lt (g := gb152) (o := .cells #[.int .u64 a1_0, .int .u64 a1_1, .int .i64 a1_2, .int .i64 a1_3] 24 (0, 0)) (by (with_reducible repeat (first | refine blk_drewN ?_ _ | refine blk_drew ?_ | refine blk_alloc ?_ _)); exact BK152.out)) : gb152 ≠ gb153)); have n6_ := Aside0.mk ((by rw [hg]; exact Nat.ne_of_gt (blk_lt (g := gb152) (o := .cells #[.int .u64 a1_0, .int .u64 a1_1, .int .i64 a1_2, .int .i64 a1_3] 24 (0, 0)) (by (with_reducible repeat (first | refine blk_drewN ?_ _ | refine blk_drew ?_ | refine blk_alloc ?_ _)); exact BK152.out)) : gb153 ≠ gb152)); clear BK152; clear HB; have BK152 := n0_; have HB := n1_; have BK153 := n2_; have GW153 := n3_; have GE153 := n4_; have NB152_153 := n5_; have NB153_152 := n6_; clear n0_ n1_ n2_ n3_ n4_ n5_ n6_; clear hb hbox hg) | ((with_reducible refine gate_callee (f := 15) rfl ?_); refine gL (some 10) Try.func15 #[] ?_; (with_reducible refine (jacquardlaw13_awake.calls  false _ A4.out).mono ?_); rintro e w102 ⟨rfl, hb⟩; refine ⟨_, rfl, ?_⟩; replace BK152 := bkB BK152.out hb; replace BK153 := bkB BK153.out hb; replace HB := bsB HB.out hb; (try clear hb)))
  go_ret
  exact ⟨by first | rfl | (simp [errW_none, errW_some] <;> rfl) | (simp [*, errW_none, errW_some] <;> rfl), bsL HB.out⟩

/-- THE ONE PURE STATEMENT of jacquardlaw13_IntervalElements. -/
def jacquardlaw13_IntervalElements.Pure : Prop := ∀ (a0 : Int) (a1_0 : Int) (a1_1 : Int) (a1_2 : Int) (a1_3 : Int) (a2_0 : Int) (a2_1 : Int), (Lit.int .i64 a0).wf = true → (Lit.int .u64 a1_0).wf = true → (Lit.int .u64 a1_1).wf = true → (Lit.int .i64 a1_2).wf = true → (Lit.int .i64 a1_3).wf = true → (Lit.int .u64 a2_0).wf = true → (Lit.int .u64 a2_1).wf = true → ∃ k, jacquardlaw13_IntervalElements.f k a0 a1_0 a1_1 a1_2 a1_3 a2_0 a2_1 = some true

end Go.Proofs.Ytanmehdcccldfaa.P
