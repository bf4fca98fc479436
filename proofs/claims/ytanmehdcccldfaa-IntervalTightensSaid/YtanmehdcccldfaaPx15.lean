-- made by a program of this work (wip/mkprint.py, wip/mp.sh) out of the translation
import Derived.Test.YtanmehdcccldfaaPx0
import Derived.Test.YtanmehdcccldfaaPx1
import Derived.Test.YtanmehdcccldfaaPx2
import Derived.Test.YtanmehdcccldfaaPx3
import Derived.Test.YtanmehdcccldfaaPx6
import Derived.Test.YtanmehdcccldfaaPx9
import Derived.Test.YtanmehdcccldfaaPx12
import Derived.Test.YtanmehdcccldfaaPx14
namespace Go.Proofs.Ytanmehdcccldfaa.P
open Go.RowKit Go.Proofs.YtanmehdcccldfaaW.PrintWords Go.Proofs.YtanmehdcccldfaaW.PrintLast Go.Proofs.YtanmehdcccldfaaW.PrintMore
attribute [local go_sem] max2_int min2_int max_two min_two max_three min_three max_four min_four   -- for this text's walks alone
set_option linter.unusedVariables false
set_option linter.unusedSimpArgs false

attribute [local go_sem high] eqA24
/-! ### jacquardlaw13_IntervalTightens: function 6 -/
def jacquardlaw13_IntervalTightens.j0 : Nat → Int → Int → Bool → Bool → Int → Int → Int → Int → Int → Int → Int → Int → Option (Bool)
 | 0, _, _, _, _, _, _, _, _, _, _, _, _ => none
 | k + 1, x0, x2, x8, x34, x286000, x286001, x286002, x286003, x293000, x293001, x293002, x293003 => if x34 = true then (some false) else ((interval_Valid.f x0 x286000 x286001 x286002 x286003).bind fun t299 => (if t299 = true then (if x8 = true then ((interval_Tighten.f k x0 x293000 x293001 x293002 x293003).bind fun bt301 => ((interval_Leq.f x293000 x293001 x293002 x293003 x286000 x286001 x286002 x286003).bind fun t307 => (if t307 = true then ((interval_Contains.f x0 x293000 x293001 x293002 x293003 x2).bind fun t308 => ((interval_Contains.f x0 x286000 x286001 x286002 x286003 x2).bind fun t309 => (if (t308 == t309) = true then (if (bt301.1 == x293000 && (bt301.2.1 == x293001 && (bt301.2.2.1 == x293002 && (bt301.2.2.2.1 == x293003)))) = true then (some bt301.2.2.2.2) else (some false)) else (some false)))) else (some false)))) else ((interval_Contains.f x0 x286000 x286001 x286002 x286003 x2).bind fun t300 => (some (!t300)))) else (if x8 = true then (some false) else (some (x293000 == 0 && (x293001 == 0 && (x293002 == 0 && (x293003 == 0))))))))
def jacquardlaw13_IntervalTightens.f (k : Nat) (a0 : Int) (a1_0 : Int) (a1_1 : Int) (a1_2 : Int) (a1_3 : Int) (a2 : Int) : Option (Bool) := (jacquardlaw13_awake.f).bind fun t286 => (if t286 = true then ((interval_Tighten.f k a0 a1_0 a1_1 a1_2 a1_3).bind fun bt287 => ((jacquardref13_Tighten.f k a0 a1_0 a1_1 a1_2 a1_3).bind fun bt293 => (if (!(bt287.1 == bt293.1) || (!(bt287.2.1 == bt293.2.1) || (!(bt287.2.2.1 == bt293.2.2.1) || (!(bt287.2.2.2.1 == bt293.2.2.2.1))))) = true then (jacquardlaw13_IntervalTightens.j0 k a0 a2 bt287.2.2.2.2 true a1_0 a1_1 a1_2 a1_3 bt287.1 bt287.2.1 bt287.2.2.1 bt287.2.2.2.1) else (jacquardlaw13_IntervalTightens.j0 k a0 a2 bt287.2.2.2.2 (bt287.2.2.2.2 != bt293.2.2.2.2) a1_0 a1_1 a1_2 a1_3 bt287.1 bt287.2.1 bt287.2.2.1 bt287.2.2.2.1)))) else (some false))
theorem jacquardlaw13_IntervalTightens.mono_l : ∀ k, (∀ y0 y1 y2 y3 y4 y5 y6 y7 y8 y9 y10 y11, LeO (jacquardlaw13_IntervalTightens.j0 k y0 y1 y2 y3 y4 y5 y6 y7 y8 y9 y10 y11) (jacquardlaw13_IntervalTightens.j0 (k + 1) y0 y1 y2 y3 y4 y5 y6 y7 y8 y9 y10 y11))
 | 0 => fun _ _ _ _ _ _ _ _ _ _ _ _ r h => by simp [jacquardlaw13_IntervalTightens.j0] at h
 | k + 1 => by
  have ih0 := jacquardlaw13_IntervalTightens.mono_l k
  ·
   intro y0 y1 y2 y3 y4 y5 y6 y7 y8 y9 y10 y11
   unfold jacquardlaw13_IntervalTightens.j0
   repeat' first
   | (with_reducible exact ih0 _ _ _ _ _ _ _ _ _ _ _ _)
   | (with_reducible exact interval_Tighten.mono _ _ _ _ _ _)
   | (with_reducible exact jacquardref13_Tighten.mono _ _ _ _ _ _)
   | (with_reducible exact LeO.refl _)
   | (with_reducible exact LeO.none _)
   | (with_reducible refine LeO.ite ?_ ?_)
   | (with_reducible refine LeO.bind ?_ (fun _ => ?_))
   | exact ih0 _ _ _ _ _ _ _ _ _ _ _ _
   | exact interval_Tighten.mono _ _ _ _ _ _
   | exact jacquardref13_Tighten.mono _ _ _ _ _ _
   | exact LeO.none _
   | refine LeO.ite ?_ ?_
   | refine LeO.bind ?_ (fun _ => ?_)
theorem jacquardlaw13_IntervalTightens.mono : ∀ a0 a1 a2 a3 a4 a5 k, LeO (jacquardlaw13_IntervalTightens.f k a0 a1 a2 a3 a4 a5) (jacquardlaw13_IntervalTightens.f (k + 1) a0 a1 a2 a3 a4 a5) := by
 intro a0 a1 a2 a3 a4 a5 k
 have ih0 := jacquardlaw13_IntervalTightens.mono_l k
 unfold jacquardlaw13_IntervalTightens.f
 repeat' first
   | (with_reducible exact ih0 _ _ _ _ _ _ _ _ _ _ _ _)
   | (with_reducible exact interval_Tighten.mono _ _ _ _ _ _)
   | (with_reducible exact jacquardref13_Tighten.mono _ _ _ _ _ _)
   | (with_reducible exact LeO.refl _)
   | (with_reducible exact LeO.none _)
   | (with_reducible refine LeO.ite ?_ ?_)
   | (with_reducible refine LeO.bind ?_ (fun _ => ?_))
   | exact ih0 _ _ _ _ _ _ _ _ _ _ _ _
   | exact interval_Tighten.mono _ _ _ _ _ _
   | exact jacquardref13_Tighten.mono _ _ _ _ _ _
   | exact LeO.none _
   | refine LeO.ite ?_ ?_
   | refine LeO.bind ?_ (fun _ => ?_)
def jacquardlaw13_IntervalTightens.T12 : Bool × List (List Nat × List Nat) := (true, [([], []), ([], []), ([0, 1], [0, 1]), ([2, 2], [2]), ([3], [3]), ([3], [3]), ([3], [3]), ([4, 5, 6, 3, 3], [3, 4, 5, 6]), ([3], [3]), ([3], [3]), ([3], [3]), ([8, 9, 10, 7, 3], [3, 8, 9, 10]), ([7, 11, 3], [3, 7, 11]), ([3, 12], [3, 12]), ([13, 11], [13]), ([14], [14]), ([14], [14]), ([15, 16, 14], [14, 15, 16]), ([14, 17], [14, 17]), ([18, 14], [18]), ([19], [19]), ([19, 20], [19, 20]), ([21, 19, 0, 1, 2, 3, 4, 5, 6, 7, 8, 9, 10, 11, 12, 13, 14, 15, 16, 17, 18, 19, 20, 21], [21])])
def jacquardlaw13_IntervalTightens.B12 : List Nat := [0, 0, 3, 7, 15, 15, 15, 127, 15, 15, 15, 2047, 4095, 8191, 16383, 32767, 32767, 131071, 262143, 524287, 1048575, 2097151, 4194303]
theorem jacquardlaw13_IntervalTightens.tab12 : rtab .any (opsOf Try.f6 12) = jacquardlaw13_IntervalTightens.T12 := by kernel_rfl
theorem jacquardlaw13_IntervalTightens.bits12 : waitsOk jacquardlaw13_IntervalTightens.T12.2 jacquardlaw13_IntervalTightens.B12 = true := by kernel_rfl
set_option maxHeartbeats 8000000 in
set_option maxRecDepth 100000 in
theorem jacquardlaw13_IntervalTightens.calls (k : Nat) (a0 : Int) (a1_0 : Int) (a1_1 : Int) (a1_2 : Int) (a1_3 : Int) (a2 : Int) (r : Bool) (w : World) (h : jacquardlaw13_IntervalTightens.f k a0 a1_0 a1_1 a1_2 a1_3 a2 = some r) :
  Calls Try.prog 6 #[.int .i64 a0, .agg #[.int .u64 a1_0, .int .u64 a1_1, .int .i64 a1_2, .int .i64 a1_3], .int .u64 a2] w fun e w' => e = .returned (.bool r) ∧ Below w.heap.size w w' := by
 have hu24 := Try.underlying24
 have HB := Aside0.mk (Below.refl w.heap.size w)
 have H : ((jacquardlaw13_awake.f).bind fun t286 => (if t286 = true then ((interval_Tighten.f k a0 a1_0 a1_1 a1_2 a1_3).bind fun bt287 => ((jacquardref13_Tighten.f k a0 a1_0 a1_1 a1_2 a1_3).bind fun bt293 => (if (!(bt287.1 == bt293.1) || (!(bt287.2.1 == bt293.2.1) || (!(bt287.2.2.1 == bt293.2.2.1) || (!(bt287.2.2.2.1 == bt293.2.2.2.1))))) = true then (jacquardlaw13_IntervalTightens.j0 k a0 a2 bt287.2.2.2.2 true a1_0 a1_1 a1_2 a1_3 bt287.1 bt287.2.1 bt287.2.2.1 bt287.2.2.2.1) else (jacquardlaw13_IntervalTightens.j0 k a0 a2 bt287.2.2.2.2 (bt287.2.2.2.2 != bt293.2.2.2.2) a1_0 a1_1 a1_2 a1_3 bt287.1 bt287.2.1 bt287.2.2.1 bt287.2.2.2.1)))) else (some false))) = some r := h
 clear h
 replace H := Option.bind_eq_some_iff.mp H
 obtain ⟨t286, A40, H⟩ := H
 replace H : (if t286 = true then ((interval_Tighten.f k a0 a1_0 a1_1 a1_2 a1_3).bind fun bt287 => ((jacquardref13_Tighten.f k a0 a1_0 a1_1 a1_2 a1_3).bind fun bt293 => (if (!(bt287.1 == bt293.1) || (!(bt287.2.1 == bt293.2.1) || (!(bt287.2.2.1 == bt293.2.2.1) || (!(bt287.2.2.2.1 == bt293.2.2.2.1))))) = true then (jacquardlaw13_IntervalTightens.j0 k a0 a2 bt287.2.2.2.2 true a1_0 a1_1 a1_2 a1_3 bt287.1 bt287.2.1 bt287.2.2.1 bt287.2.2.2.1) else (jacquardlaw13_IntervalTightens.j0 k a0 a2 bt287.2.2.2.2 (bt287.2.2.2.2 != bt293.2.2.2.2) a1_0 a1_1 a1_2 a1_3 bt287.1 bt287.2.1 bt287.2.2.1 bt287.2.2.2.1)))) else (some false)) = some r := H
 have A4 := Aside0.mk A40
 clear A40
 by_cases c5 : t286 = true
 ·
  subst c5
  have H1 : ((interval_Tighten.f k a0 a1_0 a1_1 a1_2 a1_3).bind fun bt287 => ((jacquardref13_Tighten.f k a0 a1_0 a1_1 a1_2 a1_3).bind fun bt293 => (if (!(bt287.1 == bt293.1) || (!(bt287.2.1 == bt293.2.1) || (!(bt287.2.2.1 == bt293.2.2.1) || (!(bt287.2.2.2.1 == bt293.2.2.2.1))))) = true then (jacquardlaw13_IntervalTightens.j0 k a0 a2 bt287.2.2.2.2 true a1_0 a1_1 a1_2 a1_3 bt287.1 bt287.2.1 bt287.2.2.1 bt287.2.2.2.1) else (jacquardlaw13_IntervalTightens.j0 k a0 a2 bt287.2.2.2.2 (bt287.2.2.2.2 != bt293.2.2.2.2) a1_0 a1_1 a1_2 a1_3 bt287.1 bt287.2.1 bt287.2.2.1 bt287.2.2.2.1)))) = some r := by rw [if_pos rfl] at H; exact H
  clear H
  have H := H1
  clear H1
  replace H := Option.bind_eq_some_iff.mp H
  obtain ⟨⟨t287, t288, t289, t290, t291⟩, A60, H⟩ := H
  replace H : ((jacquardref13_Tighten.f k a0 a1_0 a1_1 a1_2 a1_3).bind fun bt293 => (if (!(t287 == bt293.1) || (!(t288 == bt293.2.1) || (!(t289 == bt293.2.2.1) || (!(t290 == bt293.2.2.2.1))))) = true then (jacquardlaw13_IntervalTightens.j0 k a0 a2 t291 true a1_0 a1_1 a1_2 a1_3 t287 t288 t289 t290) else (jacquardlaw13_IntervalTightens.j0 k a0 a2 t291 (t291 != bt293.2.2.2.2) a1_0 a1_1 a1_2 a1_3 t287 t288 t289 t290))) = some r := H
  have A6 := Aside0.mk A60
  clear A60
  replace H := Option.bind_eq_some_iff.mp H
  obtain ⟨⟨t293, t294, t295, t296, t297⟩, A70, H⟩ := H
  replace H : (if (!(t287 == t293) || (!(t288 == t294) || (!(t289 == t295) || (!(t290 == t296))))) = true then (jacquardlaw13_IntervalTightens.j0 k a0 a2 t291 true a1_0 a1_1 a1_2 a1_3 t287 t288 t289 t290) else (jacquardlaw13_IntervalTightens.j0 k a0 a2 t291 (t291 != t297) a1_0 a1_1 a1_2 a1_3 t287 t288 t289 t290)) = some r := H
  have A7 := Aside0.mk A70
  clear A70
  have HC8 := Aside0.mk H
  clear H
  go_enter Try.func6, Try.ntmps6
  go_upto_region 5 with (first | ((with_reducible refine gate_dst (N := 4) rfl ?_); refine box_event ?hg (N := 4) ?hd (cs := #[.int .u64 a1_0, .int .u64 a1_1, .int .i64 a1_2, .int .i64 a1_3]) (t := 24) ?hr ?_; (case hd => rfl); (case hg => rfl); (case hr => first | (go_simp; done) | (go_simp; rfl)); intro gb285 hg w9 hbox hb; have n0_ := bsB HB.out hb; have n1_ := Aside0.mk (hbox); have n2_ := Aside0.mk ((by rw [hg]; exact (below_size (by repeat (first | (with_reducible first | exact HB.out | apply below_alloc | apply pw_below_drewN | apply below_drew1) | exact HB.out))) : w.heap.size ≤ gb285)); have n3_ := Aside0.mk ((by rw [hg]; exact (below_size (by repeat (first | (with_reducible first | exact HB.out | apply below_alloc | apply pw_below_drewN | apply below_drew1) | exact HB.out))) : w.heap.size ≤ gb285)); clear HB; have HB := n0_; have BK285 := n1_; have GW285 := n2_; have GE285 := n3_; clear n0_ n1_ n2_ n3_; clear hb hbox hg) | ((with_reducible refine gate_callee (f := 15) rfl ?_); refine gL (some 13) Try.func15 #[] ?_; (with_reducible refine (jacquardlaw13_awake.calls  true _ A4.out).mono ?_); rintro e w10 ⟨rfl, hb⟩; refine ⟨_, rfl, ?_⟩; replace BK285 := bkB BK285.out hb; replace HB := bsB HB.out hb; (try clear hb); have hcz11_0 : w10.cell? ⟨gb285, 0, none⟩ = some (.int .u64 a1_0) := (blk_cell BK285.out 0).trans rfl; have hcz11_1 : w10.cell? ⟨gb285, 1, none⟩ = some (.int .u64 a1_1) := (blk_cell BK285.out 1).trans rfl; have hcz11_2 : w10.cell? ⟨gb285, 2, none⟩ = some (.int .i64 a1_2) := (blk_cell BK285.out 2).trans rfl; have hcz11_3 : w10.cell? ⟨gb285, 3, none⟩ = some (.int .i64 a1_3) := (blk_cell BK285.out 3).trans rfl; have hfz11_0 := blk_frozen BK285.out 0; have hfz11_1 := blk_frozen BK285.out 1; have hfz11_2 := blk_frozen BK285.out 2; have hfz11_3 := blk_frozen BK285.out 3) | ((with_reducible refine gate_callee (f := 40) rfl ?_); refine gL (some 18) Try.func40 #[.int .i64 a0, .agg #[.int .u64 a1_0, .int .u64 a1_1, .int .i64 a1_2, .int .i64 a1_3]] ?_; (with_reducible refine (interval_Tighten.calls k a0 a1_0 a1_1 a1_2 a1_3 t287 t288 t289 t290 t291 _ A6.out).mono ?_); rintro e w12 ⟨rfl, hb⟩; refine ⟨_, rfl, ?_⟩; replace BK285 := bkB BK285.out hb; replace HB := bsB HB.out hb; (try clear hb)) | ((with_reducible refine gate_dst (N := 7) rfl ?_); refine box_event ?hg (N := 7) ?hd (cs := #[.int .u64 0, .int .u64 0, .int .i64 0, .int .i64 0]) (t := 24) ?hr ?_; (case hd => rfl); (case hg => rfl); (case hr => first | (go_simp; done) | (go_simp; rfl)); intro gb292 hg w13 hbox hb; have n0_ := bkB BK285.out hb; have n1_ := bsB HB.out hb; have n2_ := Aside0.mk (hbox); have n3_ := Aside0.mk ((by rw [hg]; exact (below_size (by repeat (first | (with_reducible first | exact HB.out | apply below_alloc | apply pw_below_drewN | apply below_drew1 | refine below_set ?_ GE285.out) | exact HB.out))) : w.heap.size ≤ gb292)); have n4_ := Aside0.mk ((by rw [hg]; exact (below_size (by repeat (first | (with_reducible first | exact HB.out | apply below_alloc | apply pw_below_drewN | apply below_drew1 | refine below_set ?_ GE285.out) | exact HB.out))) : w.heap.size ≤ gb292)); have n5_ := Aside0.mk ((by rw [hg]; exact Nat.ne_of_lt (blk_lt (g := gb285) (o := .cells #[.int .u64 a1_0, .int .u64 a1_1, .int .i64 a1_2, .int .i64 a1_3] 24 (0, 0)) (by (with_reducible repeat (first | refine blk_drewN ?_ _ | refine blk_drew ?_ | refine blk_alloc ?_ _)); exact BK285.out)) : gb285 ≠ gb292)); have n6_ := Aside0.mk ((by rw [hg]; exact Nat.ne_of_gt (blk_lt (g := gb285) (o := .cells #[.int .u64 a1_0, .int .u64 a1_1, .int .i64 a1_2, .int .i64 a1_3] 24 (0, 0)) (by (with_reducible repeat (first | refine blk_drewN ?_ _ | refine blk_drew ?_ | refine blk_alloc ?_ _)); exact BK285.out)) : gb292 ≠ gb285)); clear BK285; clear HB; have BK285 := n0_; have HB := n1_; have BK292 := n2_; have GW292 := n3_; have GE292 := n4_; have NB285_292 := n5_; have NB292_285 := n6_; clear n0_ n1_ n2_ n3_ n4_ n5_ n6_; clear hb hbox hg; have hnb14 := NB292_285.out; have hnc14 := NB285_292.out; have hcz15_0 : w13.cell? ⟨gb292, 0, none⟩ = some (.int .u64 0) := (blk_cell BK292.out 0).trans rfl; have hcz15_1 : w13.cell? ⟨gb292, 1, none⟩ = some (.int .u64 0) := (blk_cell BK292.out 1).trans rfl; have hcz15_2 : w13.cell? ⟨gb292, 2, none⟩ = some (.int .i64 0) := (blk_cell BK292.out 2).trans rfl; have hcz15_3 : w13.cell? ⟨gb292, 3, none⟩ = some (.int .i64 0) := (blk_cell BK292.out 3).trans rfl; have hfz15_0 := blk_frozen BK292.out 0; have hfz15_1 := blk_frozen BK292.out 1; have hfz15_2 := blk_frozen BK292.out 2; have hfz15_3 := blk_frozen BK292.out 3; have hcz16_0 : w13.cell? ⟨gb285, 0, none⟩ = some (.int .u64 a1_0) := (blk_cell BK285.out 0).trans rfl; have hcz16_1 : w13.cell? ⟨gb285, 1, none⟩ = some (.int .u64 a1_1) := (blk_cell BK285.out 1).trans rfl; have hcz16_2 : w13.cell? ⟨gb285, 2, none⟩ = some (.int .i64 a1_2) := (blk_cell BK285.out 2).trans rfl; have hcz16_3 : w13.cell? ⟨gb285, 3, none⟩ = some (.int .i64 a1_3) := (blk_cell BK285.out 3).trans rfl; have hfz16_0 := blk_frozen BK285.out 0; have hfz16_1 := blk_frozen BK285.out 1; have hfz16_2 := blk_frozen BK285.out 2; have hfz16_3 := blk_frozen BK285.out 3) | ((with_reducible refine gate_callee (f := 41) rfl ?_); refine gL (some 24) Try.func41 #[.int .i64 a0, .agg #[.int .u64 a1_0, .int .u64 a1_1, .int .i64 a1_2, .int .i64 a1_3]] ?_; (with_reducible refine (jacquardref13_Tighten.calls k a0 a1_0 a1_1 a1_2 a1_3 t293 t294 t295 t296 t297 _ A7.out).mono ?_); rintro e w17 ⟨rfl, hb⟩; refine ⟨_, rfl, ?_⟩; have n0_ := Aside0.mk (blk_below (g := gb285) (o := .cells #[.int .u64 a1_0, .int .u64 a1_1, .int .i64 a1_2, .int .i64 a1_3] 24 (0, 0)) (by (with_reducible repeat (first | refine blk_drewN ?_ _ | refine blk_drew ?_ | refine blk_alloc ?_ _)); refine blk_far ?_ NB285_292.out _; (with_reducible repeat (first | refine blk_drewN ?_ _ | refine blk_drew ?_ | refine blk_alloc ?_ _)); refine blk_far ?_ NB285_292.out _; (with_reducible repeat (first | refine blk_drewN ?_ _ | refine blk_drew ?_ | refine blk_alloc ?_ _)); refine blk_far ?_ NB285_292.out _; (with_reducible repeat (first | refine blk_drewN ?_ _ | refine blk_drew ?_ | refine blk_alloc ?_ _)); refine blk_far ?_ NB285_292.out _; (with_reducible repeat (first | refine blk_drewN ?_ _ | refine blk_drew ?_ | refine blk_alloc ?_ _)); exact BK285.out) hb); have n1_ := Aside0.mk (blk_below (g := gb292) (o := .cells #[.int .u64 t287, .int .u64 t288, .int .i64 t289, .int .i64 t290] 24 (0, 0)) (by (with_reducible repeat (first | refine blk_drewN ?_ _ | refine blk_drew ?_ | refine blk_alloc ?_ _)); refine blk_put (cs := #[.int .u64 t287, .int .u64 t288, .int .i64 t289, .int .i64 0]) ?_ 3 _ rfl; (with_reducible repeat (first | refine blk_drewN ?_ _ | refine blk_drew ?_ | refine blk_alloc ?_ _)); refine blk_put (cs := #[.int .u64 t287, .int .u64 t288, .int .i64 0, .int .i64 0]) ?_ 2 _ rfl; (with_reducible repeat (first | refine blk_drewN ?_ _ | refine blk_drew ?_ | refine blk_alloc ?_ _)); refine blk_put (cs := #[.int .u64 t287, .int .u64 0, .int .i64 0, .int .i64 0]) ?_ 1 _ rfl; (with_reducible repeat (first | refine blk_drewN ?_ _ | refine blk_drew ?_ | refine blk_alloc ?_ _)); refine blk_put (cs := #[.int .u64 0, .int .u64 0, .int .i64 0, .int .i64 0]) ?_ 0 _ rfl; (with_reducible repeat (first | refine blk_drewN ?_ _ | refine blk_drew ?_ | refine blk_alloc ?_ _)); exact BK292.out) hb); have n2_ := bsB HB.out hb; clear BK285; clear BK292; clear HB; have BK285 := n0_; have BK292 := n1_; have HB := n2_; clear n0_ n1_ n2_; (try clear hb); (try clear hb2); (try clear hk); (try clear hi)) | ((with_reducible refine gate_dst (N := 9) rfl ?_); refine box_event ?hg (N := 9) ?hd (cs := #[.int .u64 0, .int .u64 0, .int .i64 0, .int .i64 0]) (t := 24) ?hr ?_; (case hd => rfl); (case hg => rfl); (case hr => first | (go_simp; done) | (go_simp; rfl)); intro gb298 hg w18 hbox hb; have n0_ := bkB BK285.out hb; have n1_ := bkB BK292.out hb; have n2_ := bsB HB.out hb; have n3_ := Aside0.mk (hbox); have n4_ := Aside0.mk ((by rw [hg]; exact (below_size (by repeat (first | (with_reducible first | exact HB.out | apply below_alloc | apply pw_below_drewN | apply below_drew1 | refine below_set ?_ GE285.out | refine below_set ?_ GE292.out) | exact HB.out))) : w.heap.size ≤ gb298)); have n5_ := Aside0.mk ((by rw [hg]; exact (below_size (by repeat (first | (with_reducible first | exact HB.out | apply below_alloc | apply pw_below_drewN | apply below_drew1 | refine below_set ?_ GE285.out | refine below_set ?_ GE292.out) | exact HB.out))) : w.heap.size ≤ gb298)); have n6_ := Aside0.mk ((by rw [hg]; exact Nat.ne_of_lt (blk_lt (g := gb285) (o := .cells #[.int .u64 a1_0, .int .u64 a1_1, .int .i64 a1_2, .int .i64 a1_3] 24 (0, 0)) (by (with_reducible repeat (first | refine blk_drewN ?_ _ | refine blk_drew ?_ | refine blk_alloc ?_ _)); exact BK285.out)) : gb285 ≠ gb298)); have n7_ := Aside0.mk ((by rw [hg]; exact Nat.ne_of_gt (blk_lt (g := gb285) (o := .cells #[.int .u64 a1_0, .int .u64 a1_1, .int .i64 a1_2, .int .i64 a1_3] 24 (0, 0)) (by (with_reducible repeat (first | refine blk_drewN ?_ _ | refine blk_drew ?_ | refine blk_alloc ?_ _)); exact BK285.out)) : gb298 ≠ gb285)); have n8_ := Aside0.mk ((by rw [hg]; exact Nat.ne_of_lt (blk_lt (g := gb292) (o := .cells #[.int .u64 t287, .int .u64 t288, .int .i64 t289, .int .i64 t290] 24 (0, 0)) (by (with_reducible repeat (first | refine blk_drewN ?_ _ | refine blk_drew ?_ | refine blk_alloc ?_ _)); exact BK292.out)) : gb292 ≠ gb298)); have n9_ := Aside0.mk ((by rw [hg]; exact Nat.ne_of_gt (blk_lt (g := gb292) (o := .cells #[.int .u64 t287, .int .u64 t288, .int .i64 t289, .int .i64 t290] 24 (0, 0)) (by (with_reducible repeat (first | refine blk_drewN ?_ _ | refine blk_drew ?_ | refine blk_alloc ?_ _)); exact BK292.out)) : gb298 ≠ gb292)); clear BK285; clear BK292; clear HB; have BK285 := n0_; have BK292 := n1_; have HB := n2_; have BK298 := n3_; have GW298 := n4_; have GE298 := n5_; have NB285_298 := n6_; have NB298_285 := n7_; have NB292_298 := n8_; have NB298_292 := n9_; clear n0_ n1_ n2_ n3_ n4_ n5_ n6_ n7_ n8_ n9_; clear hb hbox hg; have hnb19 := NB298_285.out; have hnc19 := NB285_298.out; have hnb20 := NB298_292.out; have hnc20 := NB292_298.out; have hcz21_0 : w18.cell? ⟨gb298, 0, none⟩ = some (.int .u64 0) := (blk_cell BK298.out 0).trans rfl; have hcz21_1 : w18.cell? ⟨gb298, 1, none⟩ = some (.int .u64 0) := (blk_cell BK298.out 1).trans rfl; have hcz21_2 : w18.cell? ⟨gb298, 2, none⟩ = some (.int .i64 0) := (blk_cell BK298.out 2).trans rfl; have hcz21_3 : w18.cell? ⟨gb298, 3, none⟩ = some (.int .i64 0) := (blk_cell BK298.out 3).trans rfl; have hfz21_0 := blk_frozen BK298.out 0; have hfz21_1 := blk_frozen BK298.out 1; have hfz21_2 := blk_frozen BK298.out 2; have hfz21_3 := blk_frozen BK298.out 3))
  (try simp only [Act.put, List.setIfInBounds_toArray, List.set_cons_zero, List.set_cons_succ])
  go_cut [34] (fun v34 wc => ∃ (kq : Nat) (x34_7 : Bool), v34 = .bool x34_7 ∧ Aside0 (jacquardlaw13_IntervalTightens.j0 kq a0 a2 t291 x34_7 a1_0 a1_1 a1_2 a1_3 t287 t288 t289 t290 = some r) ∧ Aside0 (kq ≤ k) ∧ Aside0 (wc.heap[gb285]? = some (.cells #[.int .u64 a1_0, .int .u64 a1_1, .int .i64 a1_2, .int .i64 a1_3] 24 (0, 0))) ∧ Aside0 (wc.heap[gb292]? = some (.cells #[.int .u64 t287, .int .u64 t288, .int .i64 t289, .int .i64 t290] 24 (0, 0))) ∧ Aside0 (wc.heap[gb298]? = some (.cells #[.int .u64 t293, .int .u64 t294, .int .i64 t295, .int .i64 t296] 24 (0, 0))) ∧ Aside0 (Below w.heap.size w wc))
  case first =>
   have H := HC8.out
   clear HC8
   by_cases c22 : (!(t287 == t293) || (!(t288 == t294) || (!(t289 == t295) || (!(t290 == t296))))) = true
   ·
    rw [if_pos c22] at H
    have c22b0 : (!(t287 == t293) || (!(t288 == t294) || (!(t289 == t295) || (!(t290 == t296))))) = true := c22
    clear c22
    (first | rw [c22b0] | (simp only [i64_w, i32_w]; rw [c22b0]) | skip)
    have H' := Aside0.mk H
    clear H
    have hnb23 := NB292_285.out
    have hnc23 := NB285_292.out
    have hnb24 := NB292_298.out
    have hnc24 := NB298_292.out
    have hcz25_0 : w18.cell? ⟨gb292, 0, none⟩ = some (.int .u64 t287) := (blk_cell BK292.out 0).trans rfl
    have hcz25_1 : w18.cell? ⟨gb292, 1, none⟩ = some (.int .u64 t288) := (blk_cell BK292.out 1).trans rfl
    have hcz25_2 : w18.cell? ⟨gb292, 2, none⟩ = some (.int .i64 t289) := (blk_cell BK292.out 2).trans rfl
    have hcz25_3 : w18.cell? ⟨gb292, 3, none⟩ = some (.int .i64 t290) := (blk_cell BK292.out 3).trans rfl
    have hfz25_0 := blk_frozen BK292.out 0
    have hfz25_1 := blk_frozen BK292.out 1
    have hfz25_2 := blk_frozen BK292.out 2
    have hfz25_3 := blk_frozen BK292.out 3
    have hnb26 := NB298_285.out
    have hnc26 := NB285_298.out
    have hcz27_0 : w18.cell? ⟨gb298, 0, none⟩ = some (.int .u64 0) := (blk_cell BK298.out 0).trans rfl
    have hcz27_1 : w18.cell? ⟨gb298, 1, none⟩ = some (.int .u64 0) := (blk_cell BK298.out 1).trans rfl
    have hcz27_2 : w18.cell? ⟨gb298, 2, none⟩ = some (.int .i64 0) := (blk_cell BK298.out 2).trans rfl
    have hcz27_3 : w18.cell? ⟨gb298, 3, none⟩ = some (.int .i64 0) := (blk_cell BK298.out 3).trans rfl
    have hfz27_0 := blk_frozen BK298.out 0
    have hfz27_1 := blk_frozen BK298.out 1
    have hfz27_2 := blk_frozen BK298.out 2
    have hfz27_3 := blk_frozen BK298.out 3
    go_wp2
    go_meet
    case rel => exact ⟨_, (true), (by first | rfl | (simp; done) | (simp [*]; done)), H', ⟨by first | omega | exact Nat.le_refl _⟩, ⟨by (with_reducible repeat (first | refine blk_drewN ?_ _ | refine blk_drew ?_ | refine blk_alloc ?_ _)); refine blk_far ?_ NB285_298.out _; (with_reducible repeat (first | refine blk_drewN ?_ _ | refine blk_drew ?_ | refine blk_alloc ?_ _)); refine blk_far ?_ NB285_298.out _; (with_reducible repeat (first | refine blk_drewN ?_ _ | refine blk_drew ?_ | refine blk_alloc ?_ _)); refine blk_far ?_ NB285_298.out _; (with_reducible repeat (first | refine blk_drewN ?_ _ | refine blk_drew ?_ | refine blk_alloc ?_ _)); refine blk_far ?_ NB285_298.out _; (with_reducible repeat (first | refine blk_drewN ?_ _ | refine blk_drew ?_ | refine blk_alloc ?_ _)); exact BK285.out⟩, ⟨by (with_reducible repeat (first | refine blk_drewN ?_ _ | refine blk_drew ?_ | refine blk_alloc ?_ _)); refine blk_far ?_ NB292_298.out _; (with_reducible repeat (first | refine blk_drewN ?_ _ | refine blk_drew ?_ | refine blk_alloc ?_ _)); refine blk_far ?_ NB292_298.out _; (with_reducible repeat (first | refine blk_drewN ?_ _ | refine blk_drew ?_ | refine blk_alloc ?_ _)); refine blk_far ?_ NB292_298.out _; (with_reducible repeat (first | refine blk_drewN ?_ _ | refine blk_drew ?_ | refine blk_alloc ?_ _)); refine blk_far ?_ NB292_298.out _; (with_reducible repeat (first | refine blk_drewN ?_ _ | refine blk_drew ?_ | refine blk_alloc ?_ _)); exact BK292.out⟩, ⟨by (with_reducible repeat (first | refine blk_drewN ?_ _ | refine blk_drew ?_ | refine blk_alloc ?_ _)); refine blk_put (cs := #[.int .u64 t293, .int .u64 t294, .int .i64 t295, .int .i64 0]) ?_ 3 _ rfl; (with_reducible repeat (first | refine blk_drewN ?_ _ | refine blk_drew ?_ | refine blk_alloc ?_ _)); refine blk_put (cs := #[.int .u64 t293, .int .u64 t294, .int .i64 0, .int .i64 0]) ?_ 2 _ rfl; (with_reducible repeat (first | refine blk_drewN ?_ _ | refine blk_drew ?_ | refine blk_alloc ?_ _)); refine blk_put (cs := #[.int .u64 t293, .int .u64 0, .int .i64 0, .int .i64 0]) ?_ 1 _ rfl; (with_reducible repeat (first | refine blk_drewN ?_ _ | refine blk_drew ?_ | refine blk_alloc ?_ _)); refine blk_put (cs := #[.int .u64 0, .int .u64 0, .int .i64 0, .int .i64 0]) ?_ 0 _ rfl; (with_reducible repeat (first | refine blk_drewN ?_ _ | refine blk_drew ?_ | refine blk_alloc ?_ _)); exact BK298.out⟩, ⟨bsL HB.out⟩⟩
   ·
    rw [if_neg c22] at H
    have c22b0 : (!(t287 == t293) || (!(t288 == t294) || (!(t289 == t295) || (!(t290 == t296))))) = false := by simpa using c22
    clear c22
    (first | rw [c22b0] | (simp only [i64_w, i32_w]; rw [c22b0]) | skip)
    have H' := Aside0.mk H
    clear H
    have hnb28 := NB292_285.out
    have hnc28 := NB285_292.out
    have hnb29 := NB292_298.out
    have hnc29 := NB298_292.out
    have hcz30_0 : w18.cell? ⟨gb292, 0, none⟩ = some (.int .u64 t287) := (blk_cell BK292.out 0).trans rfl
    have hcz30_1 : w18.cell? ⟨gb292, 1, none⟩ = some (.int .u64 t288) := (blk_cell BK292.out 1).trans rfl
    have hcz30_2 : w18.cell? ⟨gb292, 2, none⟩ = some (.int .i64 t289) := (blk_cell BK292.out 2).trans rfl
    have hcz30_3 : w18.cell? ⟨gb292, 3, none⟩ = some (.int .i64 t290) := (blk_cell BK292.out 3).trans rfl
    have hfz30_0 := blk_frozen BK292.out 0
    have hfz30_1 := blk_frozen BK292.out 1
    have hfz30_2 := blk_frozen BK292.out 2
    have hfz30_3 := blk_frozen BK292.out 3
    have hnb31 := NB298_285.out
    have hnc31 := NB285_298.out
    have hcz32_0 : w18.cell? ⟨gb298, 0, none⟩ = some (.int .u64 0) := (blk_cell BK298.out 0).trans rfl
    have hcz32_1 : w18.cell? ⟨gb298, 1, none⟩ = some (.int .u64 0) := (blk_cell BK298.out 1).trans rfl
    have hcz32_2 : w18.cell? ⟨gb298, 2, none⟩ = some (.int .i64 0) := (blk_cell BK298.out 2).trans rfl
    have hcz32_3 : w18.cell? ⟨gb298, 3, none⟩ = some (.int .i64 0) := (blk_cell BK298.out 3).trans rfl
    have hfz32_0 := blk_frozen BK298.out 0
    have hfz32_1 := blk_frozen BK298.out 1
    have hfz32_2 := blk_frozen BK298.out 2
    have hfz32_3 := blk_frozen BK298.out 3
    go_wp2
    go_meet
    case rel => exact ⟨_, ((t291 != t297)), (by first | rfl | (simp; done) | (simp [*]; done)), H', ⟨by first | omega | exact Nat.le_refl _⟩, ⟨by (with_reducible repeat (first | refine blk_drewN ?_ _ | refine blk_drew ?_ | refine blk_alloc ?_ _)); refine blk_far ?_ NB285_298.out _; (with_reducible repeat (first | refine blk_drewN ?_ _ | refine blk_drew ?_ | refine blk_alloc ?_ _)); refine blk_far ?_ NB285_298.out _; (with_reducible repeat (first | refine blk_drewN ?_ _ | refine blk_drew ?_ | refine blk_alloc ?_ _)); refine blk_far ?_ NB285_298.out _; (with_reducible repeat (first | refine blk_drewN ?_ _ | refine blk_drew ?_ | refine blk_alloc ?_ _)); refine blk_far ?_ NB285_298.out _; (with_reducible repeat (first | refine blk_drewN ?_ _ | refine blk_drew ?_ | refine blk_alloc ?_ _)); exact BK285.out⟩, ⟨by (with_reducible repeat (first | refine blk_drewN ?_ _ | refine blk_drew ?_ | refine blk_alloc ?_ _)); refine blk_far ?_ NB292_298.out _; (with_reducible repeat (first | refine blk_drewN ?_ _ | refine blk_drew ?_ | refine blk_alloc ?_ _)); refine blk_far ?_ NB292_298.out _; (with_reducible repeat (first | refine blk_drewN ?_ _ | refine blk_drew ?_ | refine blk_alloc ?_ _)); refine blk_far ?_ NB292_298.out _; (with_reducible repeat (first | refine blk_drewN ?_ _ | refine blk_drew ?_ | refine blk_alloc ?_ _)); refine blk_far ?_ NB292_298.out _; (with_reducible repeat (first | refine blk_drewN ?_ _ | refine blk_drew ?_ | refine blk_alloc ?_ _)); exact BK292.out⟩, ⟨by (with_reducible repeat (first | refine blk_drewN ?_ _ | refine blk_drew ?_ | refine blk_alloc ?_ _)); refine blk_put (cs := #[.int .u64 t293, .int .u64 t294, .int .i64 t295, .int .i64 0]) ?_ 3 _ rfl; (with_reducible repeat (first | refine blk_drewN ?_ _ | refine blk_drew ?_ | refine blk_alloc ?_ _)); refine blk_put (cs := #[.int .u64 t293, .int .u64 t294, .int .i64 0, .int .i64 0]) ?_ 2 _ rfl; (with_reducible repeat (first | refine blk_drewN ?_ _ | refine blk_drew ?_ | refine blk_alloc ?_ _)); refine blk_put (cs := #[.int .u64 t293, .int .u64 0, .int .i64 0, .int .i64 0]) ?_ 1 _ rfl; (with_reducible repeat (first | refine blk_drewN ?_ _ | refine blk_drew ?_ | refine blk_alloc ?_ _)); refine blk_put (cs := #[.int .u64 0, .int .u64 0, .int .i64 0, .int .i64 0]) ?_ 0 _ rfl; (with_reducible repeat (first | refine blk_drewN ?_ _ | refine blk_drew ?_ | refine blk_alloc ?_ _)); exact BK298.out⟩, ⟨bsL HB.out⟩⟩
  case rest =>
   clear HC8
   try clear c1
   try clear c2
   try clear p2
   try clear c3
   try clear c4
   try clear c5
   try clear c6
   try clear c14
   try clear c15
   try clear c19
   try clear c20
   try clear c22
   try clear c22b0
   try clear c23
   try clear c24
   try clear c26
   try clear c28
   try clear c29
   try clear c31
   try clear hcz11_0
   try clear hcz11_1
   try clear hcz11_2
   try clear hcz11_3
   try clear hcz15_0
   try clear hcz15_1
   try clear hcz15_2
   try clear hcz15_3
   try clear hcz16_0
   try clear hcz16_1
   try clear hcz16_2
   try clear hcz16_3
   try clear hcz21_0
   try clear hcz21_1
   try clear hcz21_2
   try clear hcz21_3
   try clear hcz25_0
   try clear hcz25_1
   try clear hcz25_2
   try clear hcz25_3
   try clear hcz27_0
   try clear hcz27_1
   try clear hcz27_2
   try clear hcz27_3
   try clear hcz30_0
   try clear hcz30_1
   try clear hcz30_2
   try clear hcz30_3
   try clear hcz32_0
   try clear hcz32_1
   try clear hcz32_2
   try clear hcz32_3
   try clear hfz11_0
   try clear hfz11_1
   try clear hfz11_2
   try clear hfz11_3
   try clear hfz15_0
   try clear hfz15_1
   try clear hfz15_2
   try clear hfz15_3
   try clear hfz16_0
   try clear hfz16_1
   try clear hfz16_2
   try clear hfz16_3
   try clear hfz21_0
   try clear hfz21_1
   try clear hfz21_2
   try clear hfz21_3
   try clear hfz25_0
   try clear hfz25_1
   try clear hfz25_2
   try clear hfz25_3
   try clear hfz27_0
   try clear hfz27_1
   try clear hfz27_2
   try clear hfz27_3
   try clear hfz30_0
   try clear hfz30_1
   try clear hfz30_2
   try clear hfz30_3
   try clear hfz32_0
   try clear hfz32_1
   try clear hfz32_2
   try clear hfz32_3
   obtain ⟨kq, x34_7, rfl, HA, HJ7, BK285, BK292, BK298, HB⟩ := hcut
   cases kq with
   | zero => exact absurd HA.out (by simp [jacquardlaw13_IntervalTightens.j0])
   | succ kj7 =>
    have H := HA.out
    clear HA
    simp only [jacquardlaw13_IntervalTightens.j0] at H
    by_cases c33 : x34_7 = true
    ·
     subst c33
     have H1 : (some false) = some r := by rw [if_pos rfl] at H; exact H
     clear H
     have H := H1
     clear H1
     obtain rfl := Option.some.inj H
     go_wp2
     go_ret
     exact ⟨by first | rfl | (simp [errW_none, errW_some] <;> rfl) | (simp [*, errW_none, errW_some] <;> rfl), bsL HB.out⟩
    ·
     replace c33 := Bool.eq_false_iff.mpr c33
     subst c33
     have H1 : ((interval_Valid.f a0 a1_0 a1_1 a1_2 a1_3).bind fun t299 => (if t299 = true then (if t291 = true then ((interval_Tighten.f kj7 a0 t287 t288 t289 t290).bind fun bt301 => ((interval_Leq.f t287 t288 t289 t290 a1_0 a1_1 a1_2 a1_3).bind fun t307 => (if t307 = true then ((interval_Contains.f a0 t287 t288 t289 t290 a2).bind fun t308 => ((interval_Contains.f a0 a1_0 a1_1 a1_2 a1_3 a2).bind fun t309 => (if (t308 == t309) = true then (if (bt301.1 == t287 && (bt301.2.1 == t288 && (bt301.2.2.1 == t289 && (bt301.2.2.2.1 == t290)))) = true then (some bt301.2.2.2.2) else (some false)) else (some false)))) else (some false)))) else ((interval_Contains.f a0 a1_0 a1_1 a1_2 a1_3 a2).bind fun t300 => (some (!t300)))) else (if t291 = true then (some false) else (some (t287 == 0 && (t288 == 0 && (t289 == 0 && (t290 == 0)))))))) = some r := by rw [if_neg (show ¬ (false = true) by decide)] at H; exact H
     clear H
     have H := H1
     clear H1
     replace H := Option.bind_eq_some_iff.mp H
     obtain ⟨t299, A340, H⟩ := H
     replace H : (if t299 = true then (if t291 = true then ((interval_Tighten.f kj7 a0 t287 t288 t289 t290).bind fun bt301 => ((interval_Leq.f t287 t288 t289 t290 a1_0 a1_1 a1_2 a1_3).bind fun t307 => (if t307 = true then ((interval_Contains.f a0 t287 t288 t289 t290 a2).bind fun t308 => ((interval_Contains.f a0 a1_0 a1_1 a1_2 a1_3 a2).bind fun t309 => (if (t308 == t309) = true then (if (bt301.1 == t287 && (bt301.2.1 == t288 && (bt301.2.2.1 == t289 && (bt301.2.2.2.1 == t290)))) = true then (some bt301.2.2.2.2) else (some false)) else (some false)))) else (some false)))) else ((interval_Contains.f a0 a1_0 a1_1 a1_2 a1_3 a2).bind fun t300 => (some (!t300)))) else (if t291 = true then (some false) else (some (t287 == 0 && (t288 == 0 && (t289 == 0 && (t290 == 0))))))) = some r := H
     have A34 := Aside0.mk A340
     clear A340
     by_cases c35 : t299 = true
     ·
      subst c35
      have H1 : (if t291 = true then ((interval_Tighten.f kj7 a0 t287 t288 t289 t290).bind fun bt301 => ((interval_Leq.f t287 t288 t289 t290 a1_0 a1_1 a1_2 a1_3).bind fun t307 => (if t307 = true then ((interval_Contains.f a0 t287 t288 t289 t290 a2).bind fun t308 => ((interval_Contains.f a0 a1_0 a1_1 a1_2 a1_3 a2).bind fun t309 => (if (t308 == t309) = true then (if (bt301.1 == t287 && (bt301.2.1 == t288 && (bt301.2.2.1 == t289 && (bt301.2.2.2.1 == t290)))) = true then (some bt301.2.2.2.2) else (some false)) else (some false)))) else (some false)))) else ((interval_Contains.f a0 a1_0 a1_1 a1_2 a1_3 a2).bind fun t300 => (some (!t300)))) = some r := by rw [if_pos rfl] at H; exact H
      clear H
      have H := H1
      clear H1
      by_cases c36 : t291 = true
      ·
       subst c36
       have H1 : ((interval_Tighten.f kj7 a0 t287 t288 t289 t290).bind fun bt301 => ((interval_Leq.f t287 t288 t289 t290 a1_0 a1_1 a1_2 a1_3).bind fun t307 => (if t307 = true then ((interval_Contains.f a0 t287 t288 t289 t290 a2).bind fun t308 => ((interval_Contains.f a0 a1_0 a1_1 a1_2 a1_3 a2).bind fun t309 => (if (t308 == t309) = true then (if (bt301.1 == t287 && (bt301.2.1 == t288 && (bt301.2.2.1 == t289 && (bt301.2.2.2.1 == t290)))) = true then (some bt301.2.2.2.2) else (some false)) else (some false)))) else (some false)))) = some r := by rw [if_pos rfl] at H; exact H
       clear H
       have H := H1
       clear H1
       replace H := Option.bind_eq_some_iff.mp H
       obtain ⟨⟨t301, t302, t303, t304, t305⟩, A370, H⟩ := H
       replace H : ((interval_Leq.f t287 t288 t289 t290 a1_0 a1_1 a1_2 a1_3).bind fun t307 => (if t307 = true then ((interval_Contains.f a0 t287 t288 t289 t290 a2).bind fun t308 => ((interval_Contains.f a0 a1_0 a1_1 a1_2 a1_3 a2).bind fun t309 => (if (t308 == t309) = true then (if (t301 == t287 && (t302 == t288 && (t303 == t289 && (t304 == t290)))) = true then (some t305) else (some false)) else (some false)))) else (some false))) = some r := H
       have A37 := Aside0.mk A370
       clear A370
       replace H := Option.bind_eq_some_iff.mp H
       obtain ⟨t307, A380, H⟩ := H
       replace H : (if t307 = true then ((interval_Contains.f a0 t287 t288 t289 t290 a2).bind fun t308 => ((interval_Contains.f a0 a1_0 a1_1 a1_2 a1_3 a2).bind fun t309 => (if (t308 == t309) = true then (if (t301 == t287 && (t302 == t288 && (t303 == t289 && (t304 == t290)))) = true then (some t305) else (some false)) else (some false)))) else (some false)) = some r := H
       have A38 := Aside0.mk A380
       clear A380
       by_cases c39 : t307 = true
       ·
        subst c39
        have H1 : ((interval_Contains.f a0 t287 t288 t289 t290 a2).bind fun t308 => ((interval_Contains.f a0 a1_0 a1_1 a1_2 a1_3 a2).bind fun t309 => (if (t308 == t309) = true then (if (t301 == t287 && (t302 == t288 && (t303 == t289 && (t304 == t290)))) = true then (some t305) else (some false)) else (some false)))) = some r := by rw [if_pos rfl] at H; exact H
        clear H
        have H := H1
        clear H1
        replace H := Option.bind_eq_some_iff.mp H
        obtain ⟨t308, A400, H⟩ := H
        replace H : ((interval_Contains.f a0 a1_0 a1_1 a1_2 a1_3 a2).bind fun t309 => (if (t308 == t309) = true then (if (t301 == t287 && (t302 == t288 && (t303 == t289 && (t304 == t290)))) = true then (some t305) else (some false)) else (some false))) = some r := H
        have A40 := Aside0.mk A400
        clear A400
        replace H := Option.bind_eq_some_iff.mp H
        obtain ⟨t309, A410, H⟩ := H
        replace H : (if (t308 == t309) = true then (if (t301 == t287 && (t302 == t288 && (t303 == t289 && (t304 == t290)))) = true then (some t305) else (some false)) else (some false)) = some r := H
        have A41 := Aside0.mk A410
        clear A410
        by_cases c42 : (t308 == t309) = true
        ·
         rw [if_pos c42] at H
         have c42b0 : (t308 == t309) = true := c42
         (try (have c42b1 : decide (t308 = t309) = true := by simpa using c42))
         (try (have c42b2 : (t308 == t309) = true := by simpa using c42))
         clear c42
         by_cases c43 : (t301 == t287 && (t302 == t288 && (t303 == t289 && (t304 == t290)))) = true
         ·
          rw [if_pos c43] at H
          have c43b0 : (t301 == t287 && (t302 == t288 && (t303 == t289 && (t304 == t290)))) = true := c43
          (try (have c43b1 : decide (t301 = t287 && (t302 == t288 && (t303 == t289 && (t304 == t290)))) = true := by simpa using c43))
          (try (have c43b2 : (t301 == t287 && (t302 == t288 && (t303 == t289 && (t304 == t290)))) = true := by simpa using c43))
          clear c43
          obtain rfl := Option.some.inj H
          have hnb44 := NB285_292.out
          have hnc44 := NB292_285.out
          have hnb45 := NB285_298.out
          have hnc45 := NB298_285.out
          have hcz46_0 : wc.cell? ⟨gb285, 0, none⟩ = some (.int .u64 a1_0) := (blk_cell BK285.out 0).trans rfl
          have hcz46_1 : wc.cell? ⟨gb285, 1, none⟩ = some (.int .u64 a1_1) := (blk_cell BK285.out 1).trans rfl
          have hcz46_2 : wc.cell? ⟨gb285, 2, none⟩ = some (.int .i64 a1_2) := (blk_cell BK285.out 2).trans rfl
          have hcz46_3 : wc.cell? ⟨gb285, 3, none⟩ = some (.int .i64 a1_3) := (blk_cell BK285.out 3).trans rfl
          have hfz46_0 := blk_frozen BK285.out 0
          have hfz46_1 := blk_frozen BK285.out 1
          have hfz46_2 := blk_frozen BK285.out 2
          have hfz46_3 := blk_frozen BK285.out 3
          try go_wp2_with (first | ((with_reducible refine gate_callee (f := 16) rfl ?_); refine gL (some 37) Try.func16 #[.int .i64 a0, .agg #[.int .u64 a1_0, .int .u64 a1_1, .int .i64 a1_2, .int .i64 a1_3]] ?_; (with_reducible refine (interval_Valid.calls a0 a1_0 a1_1 a1_2 a1_3 true _ A34.out).mono ?_); rintro e w47 ⟨rfl, hb⟩; refine ⟨_, rfl, ?_⟩; replace BK285 := bkB BK285.out hb; replace BK292 := bkB BK292.out hb; replace BK298 := bkB BK298.out hb; replace HB := bsB HB.out hb; (try clear hb); have hnb48 := NB292_298.out; have hnc48 := NB298_292.out; have hcz49_0 : w47.cell? ⟨gb292, 0, none⟩ = some (.int .u64 t287) := (blk_cell BK292.out 0).trans rfl; have hcz49_1 : w47.cell? ⟨gb292, 1, none⟩ = some (.int .u64 t288) := (blk_cell BK292.out 1).trans rfl; have hcz49_2 : w47.cell? ⟨gb292, 2, none⟩ = some (.int .i64 t289) := (blk_cell BK292.out 2).trans rfl; have hcz49_3 : w47.cell? ⟨gb292, 3, none⟩ = some (.int .i64 t290) := (blk_cell BK292.out 3).trans rfl; have hfz49_0 := blk_frozen BK292.out 0; have hfz49_1 := blk_frozen BK292.out 1; have hfz49_2 := blk_frozen BK292.out 2; have hfz49_3 := blk_frozen BK292.out 3) | ((with_reducible refine gate_callee (f := 40) rfl ?_); refine gL (some 56) Try.func40 #[.int .i64 a0, .agg #[.int .u64 t287, .int .u64 t288, .int .i64 t289, .int .i64 t290]] ?_; (with_reducible refine (interval_Tighten.calls kj7 a0 t287 t288 t289 t290 t301 t302 t303 t304 t305 _ A37.out).mono ?_); rintro e w50 ⟨rfl, hb⟩; refine ⟨_, rfl, ?_⟩; replace BK285 := bkB BK285.out hb; replace BK292 := bkB BK292.out hb; replace BK298 := bkB BK298.out hb; replace HB := bsB HB.out hb; (try clear hb)) | ((with_reducible refine gate_dst (N := 11) rfl ?_); refine box_event ?hg (N := 11) ?hd (cs := #[.int .u64 0, .int .u64 0, .int .i64 0, .int .i64 0]) (t := 24) ?hr ?_; (case hd => rfl); (case hg => rfl); (case hr => first | (go_simp; done) | (go_simp; rfl)); intro gb306 hg w51 hbox hb; have n0_ := bkB BK285.out hb; have n1_ := bkB BK292.out hb; have n2_ := bkB BK298.out hb; have n3_ := bsB HB.out hb; have n4_ := Aside0.mk (hbox); have n5_ := Aside0.mk ((by rw [hg]; exact (below_size (by repeat (first | (with_reducible first | exact HB.out | apply below_alloc | apply pw_below_drewN | apply below_drew1 | refine below_set ?_ GE285.out | refine below_set ?_ GE292.out | refine below_set ?_ GE298.out) | exact HB.out))) : w.heap.size ≤ gb306)); have n6_ := Aside0.mk ((by rw [hg]; exact (below_size (by repeat (first | (with_reducible first | exact HB.out | apply below_alloc | apply pw_below_drewN | apply below_drew1 | refine below_set ?_ GE285.out | refine below_set ?_ GE292.out | refine below_set ?_ GE298.out) | exact HB.out))) : w.heap.size ≤ gb306)); have n7_ := Aside0.mk ((by rw [hg]; exact Nat.ne_of_lt (blk_lt (g := gb285) (o := .cells #[.int .u64 a1_0, .int .u64 a1_1, .int .i64 a1_2, .int .i64 a1_3] 24 (0, 0)) (by (with_reducible repeat (first | refine blk_drewN ?_ _ | refine blk_drew ?_ | refine blk_alloc ?_ _)); exact BK285.out)) : gb285 ≠ gb306)); have n8_ := Aside0.mk ((by rw [hg]; exact Nat.ne_of_gt (blk_lt (g := gb285) (o := .cells #[.int .u64 a1_0, .int .u64 a1_1, .int .i64 a1_2, .int .i64 a1_3] 24 (0, 0)) (by (with_reducible repeat (first | refine blk_drewN ?_ _ | refine blk_drew ?_ | refine blk_alloc ?_ _)); exact BK285.out)) : gb306 ≠ gb285)); have n9_ := Aside0.mk ((by rw [hg]; exact Nat.ne_of_lt (blk_lt (g := gb292) (o := .cells #[.int .u64 t287, .int .u64 t288, .int .i64 t289, .int .i64 t290] 24 (0, 0)) (by (with_reducible repeat (first | refine blk_drewN ?_ _ | refine blk_drew ?_ | refine blk_alloc ?_ _)); exact BK292.out)) : gb292 ≠ gb306)); have n10_ := Aside0.mk ((by rw [hg]; exact Nat.ne_of_gt (blk_lt (g := gb292) (o := .cells #[.int .u64 t287, .int .u64 t288, .int .i64 t289, .int .i64 t290] 24 (0, 0)) (by (with_reducible repeat (first | refine blk_drewN ?_ _ | refine blk_drew ?_ | refine blk_alloc ?_ _)); exact BK292.out)) : gb306 ≠ gb292)); have n11_ := Aside0.mk ((by rw [hg]; exact Nat.ne_of_lt (blk_lt (g := gb298) (o := .cells #[.int .u64 t293, .int .u64 t294, .int .i64 t295, .int .i64 t296] 24 (0, 0)) (by (with_reducible repeat (first | refine blk_drewN ?_ _ | refine blk_drew ?_ | refine blk_alloc ?_ _)); exact BK298.out)) : gb298 ≠ gb306)); have n12_ := Aside0.mk ((by rw [hg]; exact Nat.ne_of_gt (blk_lt (g := gb298) (o := .cells #[.int .u64 t293, .int .u64 t294, .int .i64 t295, .int .i64 t296] 24 (0, 0)) (by (with_reducible repeat (first | refine blk_drewN ?_ _ | refine blk_drew ?_ | refine blk_alloc ?_ _)); exact BK298.out)) : gb306 ≠ gb298)); clear BK285; clear BK292; clear BK298; clear HB; have BK285 := n0_; have BK292 := n1_; have BK298 := n2_; have HB := n3_; have BK306 := n4_; have GW306 := n5_; have GE306 := n6_; have NB285_306 := n7_; have NB306_285 := n8_; have NB292_306 := n9_; have NB306_292 := n10_; have NB298_306 := n11_; have NB306_298 := n12_; clear n0_ n1_ n2_ n3_ n4_ n5_ n6_ n7_ n8_ n9_ n10_ n11_ n12_; clear hb hbox hg; have hnb52 := NB306_285.out; have hnc52 := NB285_306.out; have hnb53 := NB306_292.out; have hnc53 := NB292_306.out; have hnb54 := NB306_298.out; have hnc54 := NB298_306.out; have hcz55_0 : w51.cell? ⟨gb306, 0, none⟩ = some (.int .u64 0) := (blk_cell BK306.out 0).trans rfl; have hcz55_1 : w51.cell? ⟨gb306, 1, none⟩ = some (.int .u64 0) := (blk_cell BK306.out 1).trans rfl; have hcz55_2 : w51.cell? ⟨gb306, 2, none⟩ = some (.int .i64 0) := (blk_cell BK306.out 2).trans rfl; have hcz55_3 : w51.cell? ⟨gb306, 3, none⟩ = some (.int .i64 0) := (blk_cell BK306.out 3).trans rfl; have hfz55_0 := blk_frozen BK306.out 0; have hfz55_1 := blk_frozen BK306.out 1; have hfz55_2 := blk_frozen BK306.out 2; have hfz55_3 := blk_frozen BK306.out 3))
          have n0_ : Aside0 (((((w51.setCell ⟨gb306, 0, none⟩ (.int .u64 t301)).setCell ⟨gb306, 1, none⟩ (.int .u64 t302)).setCell ⟨gb306, 2, none⟩ (.int .i64 t303)).setCell ⟨gb306, 3, none⟩ (.int .i64 t304)).heap[gb285]? = some (.cells #[.int .u64 a1_0, .int .u64 a1_1, .int .i64 a1_2, .int .i64 a1_3] 24 (0, 0))) := ⟨by (with_reducible repeat (first | refine blk_drewN ?_ _ | refine blk_drew ?_ | refine blk_alloc ?_ _)); refine blk_far ?_ NB285_306.out _; (with_reducible repeat (first | refine blk_drewN ?_ _ | refine blk_drew ?_ | refine blk_alloc ?_ _)); refine blk_far ?_ NB285_306.out _; (with_reducible repeat (first | refine blk_drewN ?_ _ | refine blk_drew ?_ | refine blk_alloc ?_ _)); refine blk_far ?_ NB285_306.out _; (with_reducible repeat (first | refine blk_drewN ?_ _ | refine blk_drew ?_ | refine blk_alloc ?_ _)); refine blk_far ?_ NB285_306.out _; (with_reducible repeat (first | refine blk_drewN ?_ _ | refine blk_drew ?_ | refine blk_alloc ?_ _)); exact BK285.out⟩
          have n1_ : Aside0 (((((w51.setCell ⟨gb306, 0, none⟩ (.int .u64 t301)).setCell ⟨gb306, 1, none⟩ (.int .u64 t302)).setCell ⟨gb306, 2, none⟩ (.int .i64 t303)).setCell ⟨gb306, 3, none⟩ (.int .i64 t304)).heap[gb292]? = some (.cells #[.int .u64 t287, .int .u64 t288, .int .i64 t289, .int .i64 t290] 24 (0, 0))) := ⟨by (with_reducible repeat (first | refine blk_drewN ?_ _ | refine blk_drew ?_ | refine blk_alloc ?_ _)); refine blk_far ?_ NB292_306.out _; (with_reducible repeat (first | refine blk_drewN ?_ _ | refine blk_drew ?_ | refine blk_alloc ?_ _)); refine blk_far ?_ NB292_306.out _; (with_reducible repeat (first | refine blk_drewN ?_ _ | refine blk_drew ?_ | refine blk_alloc ?_ _)); refine blk_far ?_ NB292_306.out _; (with_reducible repeat (first | refine blk_drewN ?_ _ | refine blk_drew ?_ | refine blk_alloc ?_ _)); refine blk_far ?_ NB292_306.out _; (with_reducible repeat (first | refine blk_drewN ?_ _ | refine blk_drew ?_ | refine blk_alloc ?_ _)); exact BK292.out⟩
          have n2_ : Aside0 (((((w51.setCell ⟨gb306, 0, none⟩ (.int .u64 t301)).setCell ⟨gb306, 1, none⟩ (.int .u64 t302)).setCell ⟨gb306, 2, none⟩ (.int .i64 t303)).setCell ⟨gb306, 3, none⟩ (.int .i64 t304)).heap[gb298]? = some (.cells #[.int .u64 t293, .int .u64 t294, .int .i64 t295, .int .i64 t296] 24 (0, 0))) := ⟨by (with_reducible repeat (first | refine blk_drewN ?_ _ | refine blk_drew ?_ | refine blk_alloc ?_ _)); refine blk_far ?_ NB298_306.out _; (with_reducible repeat (first | refine blk_drewN ?_ _ | refine blk_drew ?_ | refine blk_alloc ?_ _)); refine blk_far ?_ NB298_306.out _; (with_reducible repeat (first | refine blk_drewN ?_ _ | refine blk_drew ?_ | refine blk_alloc ?_ _)); refine blk_far ?_ NB298_306.out _; (with_reducible repeat (first | refine blk_drewN ?_ _ | refine blk_drew ?_ | refine blk_alloc ?_ _)); refine blk_far ?_ NB298_306.out _; (with_reducible repeat (first | refine blk_drewN ?_ _ | refine blk_drew ?_ | refine blk_alloc ?_ _)); exact BK298.out⟩
          have n3_ : Aside0 (((((w51.setCell ⟨gb306, 0, none⟩ (.int .u64 t301)).setCell ⟨gb306, 1, none⟩ (.int .u64 t302)).setCell ⟨gb306, 2, none⟩ (.int .i64 t303)).setCell ⟨gb306, 3, none⟩ (.int .i64 t304)).heap[gb306]? = some (.cells #[.int .u64 t301, .int .u64 t302, .int .i64 t303, .int .i64 t304] 24 (0, 0))) := ⟨by (with_reducible repeat (first | refine blk_drewN ?_ _ | refine blk_drew ?_ | refine blk_alloc ?_ _)); refine blk_put (cs := #[.int .u64 t301, .int .u64 t302, .int .i64 t303, .int .i64 0]) ?_ 3 _ rfl; (with_reducible repeat (first | refine blk_drewN ?_ _ | refine blk_drew ?_ | refine blk_alloc ?_ _)); refine blk_put (cs := #[.int .u64 t301, .int .u64 t302, .int .i64 0, .int .i64 0]) ?_ 2 _ rfl; (with_reducible repeat (first | refine blk_drewN ?_ _ | refine blk_drew ?_ | refine blk_alloc ?_ _)); refine blk_put (cs := #[.int .u64 t301, .int .u64 0, .int .i64 0, .int .i64 0]) ?_ 1 _ rfl; (with_reducible repeat (first | refine blk_drewN ?_ _ | refine blk_drew ?_ | refine blk_alloc ?_ _)); refine blk_put (cs := #[.int .u64 0, .int .u64 0, .int .i64 0, .int .i64 0]) ?_ 0 _ rfl; (with_reducible repeat (first | refine blk_drewN ?_ _ | refine blk_drew ?_ | refine blk_alloc ?_ _)); exact BK306.out⟩
          have n4_ : Aside0 (Below w.heap.size w ((((w51.setCell ⟨gb306, 0, none⟩ (.int .u64 t301)).setCell ⟨gb306, 1, none⟩ (.int .u64 t302)).setCell ⟨gb306, 2, none⟩ (.int .i64 t303)).setCell ⟨gb306, 3, none⟩ (.int .i64 t304))) := ⟨bsL HB.out⟩
          (try clear BK285)
          (try clear BK292)
          (try clear BK298)
          (try clear BK306)
          (try clear HB)
          generalize ((((w51.setCell ⟨gb306, 0, none⟩ (.int .u64 t301)).setCell ⟨gb306, 1, none⟩ (.int .u64 t302)).setCell ⟨gb306, 2, none⟩ (.int .i64 t303)).setCell ⟨gb306, 3, none⟩ (.int .i64 t304)) = w56 at n0_ n1_ n2_ n3_ n4_ ⊢
          have BK285 := n0_
          have BK292 := n1_
          have BK298 := n2_
          have BK306 := n3_
          have HB := n4_
          clear n0_ n1_ n2_ n3_ n4_
          have n0_ := Aside0.mk (blk_drew BK285.out)
          have n1_ := Aside0.mk (blk_drew BK292.out)
          have n2_ := Aside0.mk (blk_drew BK298.out)
          have n3_ := Aside0.mk (blk_drew BK306.out)
          have n4_ := Aside0.mk (below_drew1 HB.out)
          clear BK285
          clear BK292
          clear BK298
          clear BK306
          clear HB
          have BK285 := n0_
          have BK292 := n1_
          have BK298 := n2_
          have BK306 := n3_
          have HB := n4_
          clear n0_ n1_ n2_ n3_ n4_
          refine start_ (n := 23) (S := fun w' => w'.cell? ⟨gb292, 0, none⟩ = some (.int .u64 t287) ∧ w'.cell? ⟨gb292, 1, none⟩ = some (.int .u64 t288) ∧ w'.cell? ⟨gb292, 2, none⟩ = some (.int .i64 t289) ∧ w'.cell? ⟨gb292, 3, none⟩ = some (.int .i64 t290) ∧ w'.cell? ⟨gb285, 0, none⟩ = some (.int .u64 a1_0) ∧ w'.cell? ⟨gb285, 1, none⟩ = some (.int .u64 a1_1) ∧ w'.cell? ⟨gb285, 2, none⟩ = some (.int .i64 a1_2) ∧ w'.cell? ⟨gb285, 3, none⟩ = some (.int .i64 a1_3) ∧ w'.cell? ⟨gb306, 0, none⟩ = some (.int .u64 t301) ∧ w'.cell? ⟨gb306, 1, none⟩ = some (.int .u64 t302) ∧ w'.cell? ⟨gb306, 2, none⟩ = some (.int .i64 t303) ∧ w'.cell? ⟨gb306, 3, none⟩ = some (.int .i64 t304)) (ds := []) (bA 23 0) (by kernel_rfl) rfl rfl ⟨(blk_cell BK292.out 0).trans rfl, (blk_cell BK292.out 1).trans rfl, (blk_cell BK292.out 2).trans rfl, (blk_cell BK292.out 3).trans rfl, (blk_cell BK285.out 0).trans rfl, (blk_cell BK285.out 1).trans rfl, (blk_cell BK285.out 2).trans rfl, (blk_cell BK285.out 3).trans rfl, (blk_cell BK306.out 0).trans rfl, (blk_cell BK306.out 1).trans rfl, (blk_cell BK306.out 2).trans rfl, (blk_cell BK306.out 3).trans rfl⟩ (fun hHeld => ?_); refine with_tabW jacquardlaw13_IntervalTightens.tab12 jacquardlaw13_IntervalTightens.bits12 (fun HT_ HW_ => ?_)
          generalize w56.drew = w57 at BK285 BK292 BK298 BK306 HB hHeld ⊢
          refine takeA HT_ HW_ hHeld (i := 0) (N := some 59) (bA 23 1) ?_ (hy := by rintro w' ⟨s0, s1, s2, s3, s4, s5, s6, s7, s8, s9, s10, s11⟩; go_simp; with_reducible rfl)
          refine takeA HT_ HW_ hHeld (i := 1) (N := some 60) (bA 23 3) ?_ (hy := by rintro w' ⟨s0, s1, s2, s3, s4, s5, s6, s7, s8, s9, s10, s11⟩; go_simp; with_reducible rfl)
          refine one_ (i := 2) (N := some 61) (bA 23 7) rfl rfl (one_of HT_.out (by kernel_rfl)) (by decide) (fun K hK => ?_)
          refine gO Try.func28 #[.agg #[.int .u64 t287, .int .u64 t288, .int .i64 t289, .int .i64 t290], .agg #[.int .u64 a1_0, .int .u64 a1_1, .int .i64 a1_2, .int .i64 a1_3]] ?_
          with_reducible refine (interval_Leq.calls t287 t288 t289 t290 a1_0 a1_1 a1_2 a1_3 true _ A38.out).mono ?_
          rintro e w58 ⟨rfl, hb⟩
          refine ⟨_, rfl, ?_⟩
          have n0_ := bkB BK285.out hb
          have n1_ := bkB BK292.out hb
          have n2_ := bkB BK298.out hb
          have n3_ := bkB BK306.out hb
          have n4_ := bsB HB.out hb
          clear BK285
          clear BK292
          clear BK298
          clear BK306
          clear HB
          have BK285 := n0_
          have BK292 := n1_
          have BK298 := n2_
          have BK306 := n3_
          have HB := n4_
          clear n0_ n1_ n2_ n3_ n4_
          (try clear hb)
          (try clear hb2)
          (try clear hk)
          (try clear hi)
          refine hK.out _ _ ⟨(blk_cell BK292.out 0).trans rfl, (blk_cell BK292.out 1).trans rfl, (blk_cell BK292.out 2).trans rfl, (blk_cell BK292.out 3).trans rfl, (blk_cell BK285.out 0).trans rfl, (blk_cell BK285.out 1).trans rfl, (blk_cell BK285.out 2).trans rfl, (blk_cell BK285.out 3).trans rfl, (blk_cell BK306.out 0).trans rfl, (blk_cell BK306.out 1).trans rfl, (blk_cell BK306.out 2).trans rfl, (blk_cell BK306.out 3).trans rfl⟩ (fun hHeld => ?_)
          clear hK K
          refine norm_ (a' := ?_) ?_ ?_
          rotate_left
          ·
           show Act.put _ (some 61) _ = _
           simp only [Act.put, List.setIfInBounds_toArray, List.set_cons_zero, List.set_cons_succ, i64_w, i32_w]
           rfl
          refine pureA HT_ (i := 3) (N := some 62) (bA 23 15) ?_
          refine pureA HT_ (i := 4) (N := some 63) (bA 23 31) ?_
          refine pureA HT_ (i := 6) (N := some 65) (bA 23 95) ?_
          refine pureA HT_ (i := 8) (N := some 67) (bA 23 351) ?_
          refine pureA HT_ (i := 10) (N := some 69) (bA 23 1375) ?_
          refine takeA HT_ HW_ hHeld (i := 5) (N := some 64) (bA 23 1407) ?_ (hy := by rintro w' ⟨s0, s1, s2, s3, s4, s5, s6, s7, s8, s9, s10, s11⟩; go_simp; with_reducible rfl)
          refine takeA HT_ HW_ hHeld (i := 9) (N := some 68) (bA 23 1919) ?_ (hy := by rintro w' ⟨s0, s1, s2, s3, s4, s5, s6, s7, s8, s9, s10, s11⟩; go_simp; with_reducible rfl)
          refine one_ (i := 7) (N := some 66) (bA 23 2047) rfl rfl (one_of HT_.out (by kernel_rfl)) (by decide) (fun K hK => ?_)
          refine gO Try.func18 #[.int .i64 a0, .agg #[.int .u64 t287, .int .u64 t288, .int .i64 t289, .int .i64 t290], .int .u64 a2] ?_
          with_reducible refine (interval_Contains.calls a0 t287 t288 t289 t290 a2 t308 _ A40.out).mono ?_
          rintro e w59 ⟨rfl, hb⟩
          refine ⟨_, rfl, ?_⟩
          have n0_ := bkB BK285.out hb
          have n1_ := bkB BK292.out hb
          have n2_ := bkB BK298.out hb
          have n3_ := bkB BK306.out hb
          have n4_ := bsB HB.out hb
          clear BK285
          clear BK292
          clear BK298
          clear BK306
          clear HB
          have BK285 := n0_
          have BK292 := n1_
          have BK298 := n2_
          have BK306 := n3_
          have HB := n4_
          clear n0_ n1_ n2_ n3_ n4_
          (try clear hb)
          (try clear hb2)
          (try clear hk)
          (try clear hi)
          refine hK.out _ _ ⟨(blk_cell BK292.out 0).trans rfl, (blk_cell BK292.out 1).trans rfl, (blk_cell BK292.out 2).trans rfl, (blk_cell BK292.out 3).trans rfl, (blk_cell BK285.out 0).trans rfl, (blk_cell BK285.out 1).trans rfl, (blk_cell BK285.out 2).trans rfl, (blk_cell BK285.out 3).trans rfl, (blk_cell BK306.out 0).trans rfl, (blk_cell BK306.out 1).trans rfl, (blk_cell BK306.out 2).trans rfl, (blk_cell BK306.out 3).trans rfl⟩ (fun hHeld => ?_)
          clear hK K
          refine norm_ (a' := ?_) ?_ ?_
          rotate_left
          ·
           show Act.put _ (some 66) _ = _
           simp only [Act.put, List.setIfInBounds_toArray, List.set_cons_zero, List.set_cons_succ, i64_w, i32_w]
           rfl
          refine one_ (i := 11) (N := some 70) (bA 23 4095) rfl rfl (one_of HT_.out (by kernel_rfl)) (by decide) (fun K hK => ?_)
          refine gO Try.func18 #[.int .i64 a0, .agg #[.int .u64 a1_0, .int .u64 a1_1, .int .i64 a1_2, .int .i64 a1_3], .int .u64 a2] ?_
          with_reducible refine (interval_Contains.calls a0 a1_0 a1_1 a1_2 a1_3 a2 t309 _ A41.out).mono ?_
          rintro e w60 ⟨rfl, hb⟩
          refine ⟨_, rfl, ?_⟩
          have n0_ := bkB BK285.out hb
          have n1_ := bkB BK292.out hb
          have n2_ := bkB BK298.out hb
          have n3_ := bkB BK306.out hb
          have n4_ := bsB HB.out hb
          clear BK285
          clear BK292
          clear BK298
          clear BK306
          clear HB
          have BK285 := n0_
          have BK292 := n1_
          have BK298 := n2_
          have BK306 := n3_
          have HB := n4_
          clear n0_ n1_ n2_ n3_ n4_
          (try clear hb)
          (try clear hb2)
          (try clear hk)
          (try clear hi)
          refine hK.out _ _ ⟨(blk_cell BK292.out 0).trans rfl, (blk_cell BK292.out 1).trans rfl, (blk_cell BK292.out 2).trans rfl, (blk_cell BK292.out 3).trans rfl, (blk_cell BK285.out 0).trans rfl, (blk_cell BK285.out 1).trans rfl, (blk_cell BK285.out 2).trans rfl, (blk_cell BK285.out 3).trans rfl, (blk_cell BK306.out 0).trans rfl, (blk_cell BK306.out 1).trans rfl, (blk_cell BK306.out 2).trans rfl, (blk_cell BK306.out 3).trans rfl⟩ (fun hHeld => ?_)
          clear hK K
          refine norm_ (a' := ?_) ?_ ?_
          rotate_left
          ·
           show Act.put _ (some 70) _ = _
           simp only [Act.put, List.setIfInBounds_toArray, List.set_cons_zero, List.set_cons_succ, i64_w, i32_w]
           rfl
          refine pureA HT_ (i := 12) (N := some 71) (bA 23 8191) ?_
          refine pureA HT_ (i := 13) (N := some 72) (bA 23 16383) ?_
          refine pureA HT_ (i := 14) (N := some 73) (bA 23 32767) ?_
          refine takeA HT_ HW_ hHeld (i := 15) (N := some 74) (bA 23 65535) ?_ (hy := by rintro w' ⟨s0, s1, s2, s3, s4, s5, s6, s7, s8, s9, s10, s11⟩; go_simp; with_reducible rfl)
          refine takeA HT_ HW_ hHeld (i := 16) (N := some 75) (bA 23 131071) ?_ (hy := by rintro w' ⟨s0, s1, s2, s3, s4, s5, s6, s7, s8, s9, s10, s11⟩; go_simp; with_reducible rfl)
          refine pureA HT_ (i := 17) (N := some 76) (bA 23 262143) ?_
          refine pureA HT_ (i := 18) (N := some 77) (bA 23 524287) ?_
          refine pureA HT_ (i := 19) (N := some 78) (bA 23 1048575) ?_
          refine pureA HT_ (i := 20) (N := some 79) (bA 23 2097151) ?_
          refine pureA HT_ (i := 21) (N := some 80) (bA 23 4194303) ?_
          refine pureA HT_ (i := 22) (N := some 6) (bA 23 8388607) ?_
          refine done_ (done_of HT_.out (by kernel_rfl)) ?_
          try go_wp2
          go_ret
          exact ⟨by first | rfl | (simp [errW_none, errW_some] <;> rfl) | (simp [*, errW_none, errW_some] <;> rfl), bsL HB.out⟩
         ·
          rw [if_neg c43] at H
          have c43b0 : (t301 == t287 && (t302 == t288 && (t303 == t289 && (t304 == t290)))) = false := by simpa using c43
          (try (have c43b1 : decide (t301 = t287 && (t302 == t288 && (t303 == t289 && (t304 == t290)))) = false := by simpa using c43))
          (try (have c43b2 : (t301 == t287 && (t302 == t288 && (t303 == t289 && (t304 == t290)))) = false := by simpa using c43))
          (try (have c43b3 : ¬ (t301 = t287 && (t302 == t288 && (t303 == t289 && (t304 == t290)))) := by simpa using c43))
          clear c43
          obtain rfl := Option.some.inj H
          have hnb61 := NB285_292.out
          have hnc61 := NB292_285.out
          have hnb62 := NB285_298.out
          have hnc62 := NB298_285.out
          have hcz63_0 : wc.cell? ⟨gb285, 0, none⟩ = some (.int .u64 a1_0) := (blk_cell BK285.out 0).trans rfl
          have hcz63_1 : wc.cell? ⟨gb285, 1, none⟩ = some (.int .u64 a1_1) := (blk_cell BK285.out 1).trans rfl
          have hcz63_2 : wc.cell? ⟨gb285, 2, none⟩ = some (.int .i64 a1_2) := (blk_cell BK285.out 2).trans rfl
          have hcz63_3 : wc.cell? ⟨gb285, 3, none⟩ = some (.int .i64 a1_3) := (blk_cell BK285.out 3).trans rfl
          have hfz63_0 := blk_frozen BK285.out 0
          have hfz63_1 := blk_frozen BK285.out 1
          have hfz63_2 := blk_frozen BK285.out 2
          have hfz63_3 := blk_frozen BK285.out 3
          try go_wp2_with (first | ((with_reducible refine gate_callee (f := 16) rfl ?_); refine gL (some 37) Try.func16 #[.int .i64 a0, .agg #[.int .u64 a1_0, .int .u64 a1_1, .int .i64 a1_2, .int .i64 a1_3]] ?_; (with_reducible refine (interval_Valid.calls a0 a1_0 a1_1 a1_2 a1_3 true _ A34.out).mono ?_); rintro e w64 ⟨rfl, hb⟩; refine ⟨_, rfl, ?_⟩; replace BK285 := bkB BK285.out hb; replace BK292 := bkB BK292.out hb; replace BK298 := bkB BK298.out hb; replace HB := bsB HB.out hb; (try clear hb); have hnb65 := NB292_298.out; have hnc65 := NB298_292.out; have hcz66_0 : w64.cell? ⟨gb292, 0, none⟩ = some (.int .u64 t287) := (blk_cell BK292.out 0).trans rfl; have hcz66_1 : w64.cell? ⟨gb292, 1, none⟩ = some (.int .u64 t288) := (blk_cell BK292.out 1).trans rfl; have hcz66_2 : w64.cell? ⟨gb292, 2, none⟩ = some (.int .i64 t289) := (blk_cell BK292.out 2).trans rfl; have hcz66_3 : w64.cell? ⟨gb292, 3, none⟩ = some (.int .i64 t290) := (blk_cell BK292.out 3).trans rfl; have hfz66_0 := blk_frozen BK292.out 0; have hfz66_1 := blk_frozen BK292.out 1; have hfz66_2 := blk_frozen BK292.out 2; have hfz66_3 := blk_frozen BK292.out 3) | ((with_reducible refine gate_callee (f := 40) rfl ?_); refine gL (some 56) Try.func40 #[.int .i64 a0, .agg #[.int .u64 t287, .int .u64 t288, .int .i64 t289, .int .i64 t290]] ?_; (with_reducible refine (interval_Tighten.calls kj7 a0 t287 t288 t289 t290 t301 t302 t303 t304 t305 _ A37.out).mono ?_); rintro e w67 ⟨rfl, hb⟩; refine ⟨_, rfl, ?_⟩; replace BK285 := bkB BK285.out hb; replace BK292 := bkB BK292.out hb; replace BK298 := bkB BK298.out hb; replace HB := bsB HB.out hb; (try clear hb)) | ((with_reducible refine gate_dst (N := 11) rfl ?_); refine box_event ?hg (N := 11) ?hd (cs := #[.int .u64 0, .int .u64 0, .int .i64 0, .int .i64 0]) (t := 24) ?hr ?_; (case hd => rfl); (case hg => rfl); (case hr => first | (go_simp; done) | (go_simp; rfl)); intro gb306 hg w68 hbox hb; have n0_ := bkB BK285.out hb; have n1_ := bkB BK292.out hb; have n2_ := bkB BK298.out hb; have n3_ := bsB HB.out hb; have n4_ := Aside0.mk (hbox); have n5_ := Aside0.mk ((by rw [hg]; exact (below_size (by repeat (first | (with_reducible first | exact HB.out | apply below_alloc | apply pw_below_drewN | apply below_drew1 | refine below_set ?_ GE285.out | refine below_set ?_ GE292.out | refine below_set ?_ GE298.out) | exact HB.out))) : w.heap.size ≤ gb306)); have n6_ := Aside0.mk ((by rw [hg]; exact (below_size (by repeat (first | (with_reducible first | exact HB.out | apply below_alloc | apply pw_below_drewN | apply below_drew1 | refine below_set ?_ GE285.out | refine below_set ?_ GE292.out | refine below_set ?_ GE298.out) | exact HB.out))) : w.heap.size ≤ gb306)); have n7_ := Aside0.mk ((by rw [hg]; exact Nat.ne_of_lt (blk_lt (g := gb285) (o := .cells #[.int .u64 a1_0, .int .u64 a1_1, .int .i64 a1_2, .int .i64 a1_3] 24 (0, 0)) (by (with_reducible repeat (first | refine blk_drewN ?_ _ | refine blk_drew ?_ | refine blk_alloc ?_ _)); exact BK285.out)) : gb285 ≠ gb306)); have n8_ := Aside0.mk ((by rw [hg]; exact Nat.ne_of_gt (blk_lt (g := gb285) (o := .cells #[.int .u64 a1_0, .int .u64 a1_1, .int .i64 a1_2, .int .i64 a1_3] 24 (0, 0)) (by (with_reducible repeat (first | refine blk_drewN ?_ _ | refine blk_drew ?_ | refine blk_alloc ?_ _)); exact BK285.out)) : gb306 ≠ gb285)); have n9_ := Aside0.mk ((by rw [hg]; exact Nat.ne_of_lt (blk_lt (g := gb292) (o := .cells #[.int .u64 t287, .int .u64 t288, .int .i64 t289, .int .i64 t290] 24 (0, 0)) (by (with_reducible repeat (first | refine blk_drewN ?_ _ | refine blk_drew ?_ | refine blk_alloc ?_ _)); exact BK292.out)) : gb292 ≠ gb306)); have n10_ := Aside0.mk ((by rw [hg]; exact Nat.ne_of_gt (blk_lt (g := gb292) (o := .cells #[.int .u64 t287, .int .u64 t288, .int .i64 t289, .int .i64 t290] 24 (0, 0)) (by (with_reducible repeat (first | refine blk_drewN ?_ _ | refine blk_drew ?_ | refine blk_alloc ?_ _)); exact BK292.out)) : gb306 ≠ gb292)); have n11_ := Aside0.mk ((by rw [hg]; exact Nat.ne_of_lt (blk_lt (g := gb298) (o := .cells #[.int .u64 t293, .int .u64 t294, .int .i64 t295, .int .i64 t296] 24 (0, 0)) (by (with_reducible repeat (first | refine blk_drewN ?_ _ | refine blk_drew ?_ | refine blk_alloc ?_ _)); exact BK298.out)) : gb298 ≠ gb306)); have n12_ := Aside0.mk ((by rw [hg]; exact Nat.ne_of_gt (blk_lt (g := gb298) (o := .cells #[.int .u64 t293, .int .u64 t294, .int .i64 t295, .int .i64 t296] 24 (0, 0)) (by (with_reducible repeat (first | refine blk_drewN ?_ _ | refine blk_drew ?_ | refine blk_alloc ?_ _)); exact BK298.out)) : gb306 ≠ gb298)); clear BK285; clear BK292; clear BK298; clear HB; have BK285 := n0_; have BK292 := n1_; have BK298 := n2_; have HB := n3_; have BK306 := n4_; have GW306 := n5_; have GE306 := n6_; have NB285_306 := n7_; have NB306_285 := n8_; have NB292_306 := n9_; have NB306_292 := n10_; have NB298_306 := n11_; have NB306_298 := n12_; clear n0_ n1_ n2_ n3_ n4_ n5_ n6_ n7_ n8_ n9_ n10_ n11_ n12_; clear hb hbox hg; have hnb69 := NB306_285.out; have hnc69 := NB285_306.out; have hnb70 := NB306_292.out; have hnc70 := NB292_306.out; have hnb71 := NB306_298.out; have hnc71 := NB298_306.out; have hcz72_0 : w68.cell? ⟨gb306, 0, none⟩ = some (.int .u64 0) := (blk_cell BK306.out 0).trans rfl; have hcz72_1 : w68.cell? ⟨gb306, 1, none⟩ = some (.int .u64 0) := (blk_cell BK306.out 1).trans rfl; have hcz72_2 : w68.cell? ⟨gb306, 2, none⟩ = some (.int .i64 0) := (blk_cell BK306.out 2).trans rfl; have hcz72_3 : w68.cell? ⟨gb306, 3, none⟩ = some (.int .i64 0) := (blk_cell BK306.out 3).trans rfl; have hfz72_0 := blk_frozen BK306.out 0; have hfz72_1 := blk_frozen BK306.out 1; have hfz72_2 := blk_frozen BK306.out 2; have hfz72_3 := blk_frozen BK306.out 3))
          have n0_ : Aside0 (((((w68.setCell ⟨gb306, 0, none⟩ (.int .u64 t301)).setCell ⟨gb306, 1, none⟩ (.int .u64 t302)).setCell ⟨gb306, 2, none⟩ (.int .i64 t303)).setCell ⟨gb306, 3, none⟩ (.int .i64 t304)).heap[gb285]? = some (.cells #[.int .u64 a1_0, .int .u64 a1_1, .int .i64 a1_2, .int .i64 a1_3] 24 (0, 0))) := ⟨by (with_reducible repeat (first | refine blk_drewN ?_ _ | refine blk_drew ?_ | refine blk_alloc ?_ _)); refine blk_far ?_ NB285_306.out _; (with_reducible repeat (first | refine blk_drewN ?_ _ | refine blk_drew ?_ | refine blk_alloc ?_ _)); refine blk_far ?_ NB285_306.out _; (with_reducible repeat (first | refine blk_drewN ?_ _ | refine blk_drew ?_ | refine blk_alloc ?_ _)); refine blk_far ?_ NB285_306.out _; (with_reducible repeat (first | refine blk_drewN ?_ _ | refine blk_drew ?_ | refine blk_alloc ?_ _)); refine blk_far ?_ NB285_306.out _; (with_reducible repeat (first | refine blk_drewN ?_ _ | refine blk_drew ?_ | refine blk_alloc ?_ _)); exact BK285.out⟩
          have n1_ : Aside0 (((((w68.setCell ⟨gb306, 0, none⟩ (.int .u64 t301)).setCell ⟨gb306, 1, none⟩ (.int .u64 t302)).setCell ⟨gb306, 2, none⟩ (.int .i64 t303)).setCell ⟨gb306, 3, none⟩ (.int .i64 t304)).heap[gb292]? = some (.cells #[.int .u64 t287, .int .u64 t288, .int .i64 t289, .int .i64 t290] 24 (0, 0))) := ⟨by (with_reducible repeat (first | refine blk_drewN ?_ _ | refine blk_drew ?_ | refine blk_alloc ?_ _)); refine blk_far ?_ NB292_306.out _; (with_reducible repeat (first | refine blk_drewN ?_ _ | refine blk_drew ?_ | refine blk_alloc ?_ _)); refine blk_far ?_ NB292_306.out _; (with_reducible repeat (first | refine blk_drewN ?_ _ | refine blk_drew ?_ | refine blk_alloc ?_ _)); refine blk_far ?_ NB292_306.out _; (with_reducible repeat (first | refine blk_drewN ?_ _ | refine blk_drew ?_ | refine blk_alloc ?_ _)); refine blk_far ?_ NB292_306.out _; (with_reducible repeat (first | refine blk_drewN ?_ _ | refine blk_drew ?_ | refine blk_alloc ?_ _)); exact BK292.out⟩
          have n2_ : Aside0 (((((w68.setCell ⟨gb306, 0, none⟩ (.int .u64 t301)).setCell ⟨gb306, 1, none⟩ (.int .u64 t302)).setCell ⟨gb306, 2, none⟩ (.int .i64 t303)).setCell ⟨gb306, 3, none⟩ (.int .i64 t304)).heap[gb298]? = some (.cells #[.int .u64 t293, .int .u64 t294, .int .i64 t295, .int .i64 t296] 24 (0, 0))) := ⟨by (with_reducible repeat (first | refine blk_drewN ?_ _ | refine blk_drew ?_ | refine blk_alloc ?_ _)); refine blk_far ?_ NB298_306.out _; (with_reducible repeat (first | refine blk_drewN ?_ _ | refine blk_drew ?_ | refine blk_alloc ?_ _)); refine blk_far ?_ NB298_306.out _; (with_reducible repeat (first | refine blk_drewN ?_ _ | refine blk_drew ?_ | refine blk_alloc ?_ _)); refine blk_far ?_ NB298_306.out _; (with_reducible repeat (first | refine blk_drewN ?_ _ | refine blk_drew ?_ | refine blk_alloc ?_ _)); refine blk_far ?_ NB298_306.out _; (with_reducible repeat (first | refine blk_drewN ?_ _ | refine blk_drew ?_ | refine blk_alloc ?_ _)); exact BK298.out⟩
          have n3_ : Aside0 (((((w68.setCell ⟨gb306, 0, none⟩ (.int .u64 t301)).setCell ⟨gb306, 1, none⟩ (.int .u64 t302)).setCell ⟨gb306, 2, none⟩ (.int .i64 t303)).setCell ⟨gb306, 3, none⟩ (.int .i64 t304)).heap[gb306]? = some (.cells #[.int .u64 t301, .int .u64 t302, .int .i64 t303, .int .i64 t304] 24 (0, 0))) := ⟨by (with_reducible repeat (first | refine blk_drewN ?_ _ | refine blk_drew ?_ | refine blk_alloc ?_ _)); refine blk_put (cs := #[.int .u64 t301, .int .u64 t302, .int .i64 t303, .int .i64 0]) ?_ 3 _ rfl; (with_reducible repeat (first | refine blk_drewN ?_ _ | refine blk_drew ?_ | refine blk_alloc ?_ _)); refine blk_put (cs := #[.int .u64 t301, .int .u64 t302, .int .i64 0, .int .i64 0]) ?_ 2 _ rfl; (with_reducible repeat (first | refine blk_drewN ?_ _ | refine blk_drew ?_ | refine blk_alloc ?_ _)); refine blk_put (cs := #[.int .u64 t301, .int .u64 0, .int .i64 0, .int .i64 0]) ?_ 1 _ rfl; (with_reducible repeat (first | refine blk_drewN ?_ _ | refine blk_drew ?_ | refine blk_alloc ?_ _)); refine blk_put (cs := #[.int .u64 0, .int .u64 0, .int .i64 0, .int .i64 0]) ?_ 0 _ rfl; (with_reducible repeat (first | refine blk_drewN ?_ _ | refine blk_drew ?_ | refine blk_alloc ?_ _)); exact BK306.out⟩
          have n4_ : Aside0 (Below w.heap.size w ((((w68.setCell ⟨gb306, 0, none⟩ (.int .u64 t301)).setCell ⟨gb306, 1, none⟩ (.int .u64 t302)).setCell ⟨gb306, 2, none⟩ (.int .i64 t303)).setCell ⟨gb306, 3, none⟩ (.int .i64 t304))) := ⟨bsL HB.out⟩
          (try clear BK285)
          (try clear BK292)
          (try clear BK298)
          (try clear BK306)
          (try clear HB)
          generalize ((((w68.setCell ⟨gb306, 0, none⟩ (.int .u64 t301)).setCell ⟨gb306, 1, none⟩ (.int .u64 t302)).setCell ⟨gb306, 2, none⟩ (.int .i64 t303)).setCell ⟨gb306, 3, none⟩ (.int .i64 t304)) = w73 at n0_ n1_ n2_ n3_ n4_ ⊢
          have BK285 := n0_
          have BK292 := n1_
          have BK298 := n2_
          have BK306 := n3_
          have HB := n4_
          clear n0_ n1_ n2_ n3_ n4_
          have n0_ := Aside0.mk (blk_drew BK285.out)
          have n1_ := Aside0.mk (blk_drew BK292.out)
          have n2_ := Aside0.mk (blk_drew BK298.out)
          have n3_ := Aside0.mk (blk_drew BK306.out)
          have n4_ := Aside0.mk (below_drew1 HB.out)
          clear BK285
          clear BK292
          clear BK298
          clear BK306
          clear HB
          have BK285 := n0_
          have BK292 := n1_
          have BK298 := n2_
          have BK306 := n3_
          have HB := n4_
          clear n0_ n1_ n2_ n3_ n4_
          refine start_ (n := 23) (S := fun w' => w'.cell? ⟨gb292, 0, none⟩ = some (.int .u64 t287) ∧ w'.cell? ⟨gb292, 1, none⟩ = some (.int .u64 t288) ∧ w'.cell? ⟨gb292, 2, none⟩ = some (.int .i64 t289) ∧ w'.cell? ⟨gb292, 3, none⟩ = some (.int .i64 t290) ∧ w'.cell? ⟨gb285, 0, none⟩ = some (.int .u64 a1_0) ∧ w'.cell? ⟨gb285, 1, none⟩ = some (.int .u64 a1_1) ∧ w'.cell? ⟨gb285, 2, none⟩ = some (.int .i64 a1_2) ∧ w'.cell? ⟨gb285, 3, none⟩ = some (.int .i64 a1_3) ∧ w'.cell? ⟨gb306, 0, none⟩ = some (.int .u64 t301) ∧ w'.cell? ⟨gb306, 1, none⟩ = some (.int .u64 t302) ∧ w'.cell? ⟨gb306, 2, none⟩ = some (.int .i64 t303) ∧ w'.cell? ⟨gb306, 3, none⟩ = some (.int .i64 t304)) (ds := []) (bA 23 0) (by kernel_rfl) rfl rfl ⟨(blk_cell BK292.out 0).trans rfl, (blk_cell BK292.out 1).trans rfl, (blk_cell BK292.out 2).trans rfl, (blk_cell BK292.out 3).trans rfl, (blk_cell BK285.out 0).trans rfl, (blk_cell BK285.out 1).trans rfl, (blk_cell BK285.out 2).trans rfl, (blk_cell BK285.out 3).trans rfl, (blk_cell BK306.out 0).trans rfl, (blk_cell BK306.out 1).trans rfl, (blk_cell BK306.out 2).trans rfl, (blk_cell BK306.out 3).trans rfl⟩ (fun hHeld => ?_); refine with_tabW jacquardlaw13_IntervalTightens.tab12 jacquardlaw13_IntervalTightens.bits12 (fun HT_ HW_ => ?_)
          generalize w73.drew = w74 at BK285 BK292 BK298 BK306 HB hHeld ⊢
          refine takeA HT_ HW_ hHeld (i := 0) (N := some 59) (bA 23 1) ?_ (hy := by rintro w' ⟨s0, s1, s2, s3, s4, s5, s6, s7, s8, s9, s10, s11⟩; go_simp; with_reducible rfl)
          refine takeA HT_ HW_ hHeld (i := 1) (N := some 60) (bA 23 3) ?_ (hy := by rintro w' ⟨s0, s1, s2, s3, s4, s5, s6, s7, s8, s9, s10, s11⟩; go_simp; with_reducible rfl)
          refine one_ (i := 2) (N := some 61) (bA 23 7) rfl rfl (one_of HT_.out (by kernel_rfl)) (by decide) (fun K hK => ?_)
          refine gO Try.func28 #[.agg #[.int .u64 t287, .int .u64 t288, .int .i64 t289, .int .i64 t290], .agg #[.int .u64 a1_0, .int .u64 a1_1, .int .i64 a1_2, .int .i64 a1_3]] ?_
          with_reducible refine (interval_Leq.calls t287 t288 t289 t290 a1_0 a1_1 a1_2 a1_3 true _ A38.out).mono ?_
          rintro e w75 ⟨rfl, hb⟩
          refine ⟨_, rfl, ?_⟩
          have n0_ := bkB BK285.out hb
          have n1_ := bkB BK292.out hb
          have n2_ := bkB BK298.out hb
          have n3_ := bkB BK306.out hb
          have n4_ := bsB HB.out hb
          clear BK285
          clear BK292
          clear BK298
          clear BK306
          clear HB
          have BK285 := n0_
          have BK292 := n1_
          have BK298 := n2_
          have BK306 := n3_
          have HB := n4_
          clear n0_ n1_ n2_ n3_ n4_
          (try clear hb)
          (try clear hb2)
          (try clear hk)
          (try clear hi)
          refine hK.out _ _ ⟨(blk_cell BK292.out 0).trans rfl, (blk_cell BK292.out 1).trans rfl, (blk_cell BK292.out 2).trans rfl, (blk_cell BK292.out 3).trans rfl, (blk_cell BK285.out 0).trans rfl, (blk_cell BK285.out 1).trans rfl, (blk_cell BK285.out 2).trans rfl, (blk_cell BK285.out 3).trans rfl, (blk_cell BK306.out 0).trans rfl, (blk_cell BK306.out 1).trans rfl, (blk_cell BK306.out 2).trans rfl, (blk_cell BK306.out 3).trans rfl⟩ (fun hHeld => ?_)
          clear hK K
          refine norm_ (a' := ?_) ?_ ?_
          rotate_left
          ·
           show Act.put _ (some 61) _ = _
           simp only [Act.put, List.setIfInBounds_toArray, List.set_cons_zero, List.set_cons_succ, i64_w, i32_w]
           rfl
          refine pureA HT_ (i := 3) (N := some 62) (bA 23 15) ?_
          refine pureA HT_ (i := 4) (N := some 63) (bA 23 31) ?_
          refine pureA HT_ (i := 6) (N := some 65) (bA 23 95) ?_
          refine pureA HT_ (i := 8) (N := some 67) (bA 23 351) ?_
          refine pureA HT_ (i := 10) (N := some 69) (bA 23 1375) ?_
          refine takeA HT_ HW_ hHeld (i := 5) (N := some 64) (bA 23 1407) ?_ (hy := by rintro w' ⟨s0, s1, s2, s3, s4, s5, s6, s7, s8, s9, s10, s11⟩; go_simp; with_reducible rfl)
          refine takeA HT_ HW_ hHeld (i := 9) (N := some 68) (bA 23 1919) ?_ (hy := by rintro w' ⟨s0, s1, s2, s3, s4, s5, s6, s7, s8, s9, s10, s11⟩; go_simp; with_reducible rfl)
          refine one_ (i := 7) (N := some 66) (bA 23 2047) rfl rfl (one_of HT_.out (by kernel_rfl)) (by decide) (fun K hK => ?_)
          refine gO Try.func18 #[.int .i64 a0, .agg #[.int .u64 t287, .int .u64 t288, .int .i64 t289, .int .i64 t290], .int .u64 a2] ?_
          with_reducible refine (interval_Contains.calls a0 t287 t288 t289 t290 a2 t308 _ A40.out).mono ?_
          rintro e w76 ⟨rfl, hb⟩
          refine ⟨_, rfl, ?_⟩
          have n0_ := bkB BK285.out hb
          have n1_ := bkB BK292.out hb
          have n2_ := bkB BK298.out hb
          have n3_ := bkB BK306.out hb
          have n4_ := bsB HB.out hb
          clear BK285
          clear BK292
          clear BK298
          clear BK306
          clear HB
          have BK285 := n0_
          have BK292 := n1_
          have BK298 := n2_
          have BK306 := n3_
          have HB := n4_
          clear n0_ n1_ n2_ n3_ n4_
          (try clear hb)
          (try clear hb2)
          (try clear hk)
          (try clear hi)
          refine hK.out _ _ ⟨(blk_cell BK292.out 0).trans rfl, (blk_cell BK292.out 1).trans rfl, (blk_cell BK292.out 2).trans rfl, (blk_cell BK292.out 3).trans rfl, (blk_cell BK285.out 0).trans rfl, (blk_cell BK285.out 1).trans rfl, (blk_cell BK285.out 2).trans rfl, (blk_cell BK285.out 3).trans rfl, (blk_cell BK306.out 0).trans rfl, (blk_cell BK306.out 1).trans rfl, (blk_cell BK306.out 2).trans rfl, (blk_cell BK306.out 3).trans rfl⟩ (fun hHeld => ?_)
          clear hK K
          refine norm_ (a' := ?_) ?_ ?_
          rotate_left
          ·
           show Act.put _ (some 66) _ = _
           simp only [Act.put, List.setIfInBounds_toArray, List.set_cons_zero, List.set_cons_succ, i64_w, i32_w]
           rfl
          refine one_ (i := 11) (N := some 70) (bA 23 4095) rfl rfl (one_of HT_.out (by kernel_rfl)) (by decide) (fun K hK => ?_)
          refine gO Try.func18 #[.int .i64 a0, .agg #[.int .u64 a1_0, .int .u64 a1_1, .int .i64 a1_2, .int .i64 a1_3], .int .u64 a2] ?_
          with_reducible refine (interval_Contains.calls a0 a1_0 a1_1 a1_2 a1_3 a2 t309 _ A41.out).mono ?_
          rintro e w77 ⟨rfl, hb⟩
          refine ⟨_, rfl, ?_⟩
          have n0_ := bkB BK285.out hb
          have n1_ := bkB BK292.out hb
          have n2_ := bkB BK298.out hb
          have n3_ := bkB BK306.out hb
          have n4_ := bsB HB.out hb
          clear BK285
          clear BK292
          clear BK298
          clear BK306
          clear HB
          have BK285 := n0_
          have BK292 := n1_
          have BK298 := n2_
          have BK306 := n3_
          have HB := n4_
          clear n0_ n1_ n2_ n3_ n4_
          (try clear hb)
          (try clear hb2)
          (try clear hk)
          (try clear hi)
          refine hK.out _ _ ⟨(blk_cell BK292.out 0).trans rfl, (blk_cell BK292.out 1).trans rfl, (blk_cell BK292.out 2).trans rfl, (blk_cell BK292.out 3).trans rfl, (blk_cell BK285.out 0).trans rfl, (blk_cell BK285.out 1).trans rfl, (blk_cell BK285.out 2).trans rfl, (blk_cell BK285.out 3).trans rfl, (blk_cell BK306.out 0).trans rfl, (blk_cell BK306.out 1).trans rfl, (blk_cell BK306.out 2).trans rfl, (blk_cell BK306.out 3).trans rfl⟩ (fun hHeld => ?_)
          clear hK K
          refine norm_ (a' := ?_) ?_ ?_
          rotate_left
          ·
           show Act.put _ (some 70) _ = _
           simp only [Act.put, List.setIfInBounds_toArray, List.set_cons_zero, List.set_cons_succ, i64_w, i32_w]
           rfl
          refine pureA HT_ (i := 12) (N := some 71) (bA 23 8191) ?_
          refine pureA HT_ (i := 13) (N := some 72) (bA 23 16383) ?_
          refine pureA HT_ (i := 14) (N := some 73) (bA 23 32767) ?_
          refine takeA HT_ HW_ hHeld (i := 15) (N := some 74) (bA 23 65535) ?_ (hy := by rintro w' ⟨s0, s1, s2, s3, s4, s5, s6, s7, s8, s9, s10, s11⟩; go_simp; with_reducible rfl)
          refine takeA HT_ HW_ hHeld (i := 16) (N := some 75) (bA 23 131071) ?_ (hy := by rintro w' ⟨s0, s1, s2, s3, s4, s5, s6, s7, s8, s9, s10, s11⟩; go_simp; with_reducible rfl)
          refine pureA HT_ (i := 17) (N := some 76) (bA 23 262143) ?_
          refine pureA HT_ (i := 18) (N := some 77) (bA 23 524287) ?_
          refine pureA HT_ (i := 19) (N := some 78) (bA 23 1048575) ?_
          refine pureU HT_ (i := 20) (N := some 79) (bA 23 2097151) ?_
          refine pureA HT_ (i := 21) (N := some 80) (bA 23 4194303) ?_
          refine pureA HT_ (i := 22) (N := some 6) (bA 23 8388607) ?_
          refine done_ (done_of HT_.out (by kernel_rfl)) ?_
          try go_wp2
          go_ret
          exact ⟨by first | rfl | (simp [errW_none, errW_some] <;> rfl) | (simp [*, errW_none, errW_some] <;> rfl), bsL HB.out⟩
        ·
         rw [if_neg c42] at H
         have c42b0 : (t308 == t309) = false := by simpa using c42
         (try (have c42b1 : decide (t308 = t309) = false := by simpa using c42))
         (try (have c42b2 : (t308 == t309) = false := by simpa using c42))
         (try (have c42b3 : ¬ (t308 = t309) := by simpa using c42))
         clear c42
         obtain rfl := Option.some.inj H
         have hnb78 := NB285_292.out
         have hnc78 := NB292_285.out
         have hnb79 := NB285_298.out
         have hnc79 := NB298_285.out
         have hcz80_0 : wc.cell? ⟨gb285, 0, none⟩ = some (.int .u64 a1_0) := (blk_cell BK285.out 0).trans rfl
         have hcz80_1 : wc.cell? ⟨gb285, 1, none⟩ = some (.int .u64 a1_1) := (blk_cell BK285.out 1).trans rfl
         have hcz80_2 : wc.cell? ⟨gb285, 2, none⟩ = some (.int .i64 a1_2) := (blk_cell BK285.out 2).trans rfl
         have hcz80_3 : wc.cell? ⟨gb285, 3, none⟩ = some (.int .i64 a1_3) := (blk_cell BK285.out 3).trans rfl
         have hfz80_0 := blk_frozen BK285.out 0
         have hfz80_1 := blk_frozen BK285.out 1
         have hfz80_2 := blk_frozen BK285.out 2
         have hfz80_3 := blk_frozen BK285.out 3
         try go_wp2_with (first | ((with_reducible refine gate_callee (f := 16) rfl ?_); refine gL (some 37) Try.func16 #[.int .i64 a0, .agg #[.int .u64 a1_0, .int .u64 a1_1, .int .i64 a1_2, .int .i64 a1_3]] ?_; (with_reducible refine (interval_Valid.calls a0 a1_0 a1_1 a1_2 a1_3 true _ A34.out).mono ?_); rintro e w81 ⟨rfl, hb⟩; refine ⟨_, rfl, ?_⟩; replace BK285 := bkB BK285.out hb; replace BK292 := bkB BK292.out hb; replace BK298 := bkB BK298.out hb; replace HB := bsB HB.out hb; (try clear hb); have hnb82 := NB292_298.out; have hnc82 := NB298_292.out; have hcz83_0 : w81.cell? ⟨gb292, 0, none⟩ = some (.int .u64 t287) := (blk_cell BK292.out 0).trans rfl; have hcz83_1 : w81.cell? ⟨gb292, 1, none⟩ = some (.int .u64 t288) := (blk_cell BK292.out 1).trans rfl; have hcz83_2 : w81.cell? ⟨gb292, 2, none⟩ = some (.int .i64 t289) := (blk_cell BK292.out 2).trans rfl; have hcz83_3 : w81.cell? ⟨gb292, 3, none⟩ = some (.int .i64 t290) := (blk_cell BK292.out 3).trans rfl; have hfz83_0 := blk_frozen BK292.out 0; have hfz83_1 := blk_frozen BK292.out 1; have hfz83_2 := blk_frozen BK292.out 2; have hfz83_3 := blk_frozen BK292.out 3) | ((with_reducible refine gate_callee (f := 40) rfl ?_); refine gL (some 56) Try.func40 #[.int .i64 a0, .agg #[.int .u64 t287, .int .u64 t288, .int .i64 t289, .int .i64 t290]] ?_; (with_reducible refine (interval_Tighten.calls kj7 a0 t287 t288 t289 t290 t301 t302 t303 t304 t305 _ A37.out).mono ?_); rintro e w84 ⟨rfl, hb⟩; refine ⟨_, rfl, ?_⟩; replace BK285 := bkB BK285.out hb; replace BK292 := bkB BK292.out hb; replace BK298 := bkB BK298.out hb; replace HB := bsB HB.out hb; (try clear hb)) | ((with_reducible refine gate_dst (N := 11) rfl ?_); refine box_event ?hg (N := 11) ?hd (cs := #[.int .u64 0, .int .u64 0, .int .i64 0, .int .i64 0]) (t := 24) ?hr ?_; (case hd => rfl); (case hg => rfl); (case hr => first | (go_simp; done) | (go_simp; rfl)); intro gb306 hg w85 hbox hb; have n0_ := bkB BK285.out hb; have n1_ := bkB BK292.out hb; have n2_ := bkB BK298.out hb; have n3_ := bsB HB.out hb; have n4_ := Aside0.mk (hbox); have n5_ := Aside0.mk ((by rw [hg]; exact (below_size (by repeat (first | (with_reducible first | exact HB.out | apply below_alloc | apply pw_below_drewN | apply below_drew1 | refine below_set ?_ GE285.out | refine below_set ?_ GE292.out | refine below_set ?_ GE298.out) | exact HB.out))) : w.heap.size ≤ gb306)); have n6_ := Aside0.mk ((by rw [hg]; exact (below_size (by repeat (first | (with_reducible first | exact HB.out | apply below_alloc | apply pw_below_drewN | apply below_drew1 | refine below_set ?_ GE285.out | refine below_set ?_ GE292.out | refine below_set ?_ GE298.out) | exact HB.out))) : w.heap.size ≤ gb306)); have n7_ := Aside0.mk ((by rw [hg]; exact Nat.ne_of_lt (blk_lt (g := gb285) (o := .cells #[.int .u64 a1_0, .int .u64 a1_1, .int .i64 a1_2, .int .i64 a1_3] 24 (0, 0)) (by (with_reducible repeat (first | refine blk_drewN ?_ _ | refine blk_drew ?_ | refine blk_alloc ?_ _)); exact BK285.out)) : gb285 ≠ gb306)); have n8_ := Aside0.mk ((by rw [hg]; exact Nat.ne_of_gt (blk_lt (g := gb285) (o := .cells #[.int .u64 a1_0, .int .u64 a1_1, .int .i64 a1_2, .int .i64 a1_3] 24 (0, 0)) (by (with_reducible repeat (first | refine blk_drewN ?_ _ | refine blk_drew ?_ | refine blk_alloc ?_ _)); exact BK285.out)) : gb306 ≠ gb285)); have n9_ := Aside0.mk ((by rw [hg]; exact Nat.ne_of_lt (blk_lt (g := gb292) (o := .cells #[.int .u64 t287, .int .u64 t288, .int .i64 t289, .int .i64 t290] 24 (0, 0)) (by (with_reducible repeat (first | refine blk_drewN ?_ _ | refine blk_drew ?_ | refine blk_alloc ?_ _)); exact BK292.out)) : gb292 ≠ gb306)); have n10_ := Aside0.mk ((by rw [hg]; exact Nat.ne_of_gt (blk_lt (g := gb292) (o := .cells #[.int .u64 t287, .int .u64 t288, .int .i64 t289, .int .i64 t290] 24 (0, 0)) (by (with_reducible repeat (first | refine blk_drewN ?_ _ | refine blk_drew ?_ | refine blk_alloc ?_ _)); exact BK292.out)) : gb306 ≠ gb292)); have n11_ := Aside0.mk ((by rw [hg]; exact Nat.ne_of_lt (blk_lt (g := gb298) (o := .cells #[.int .u64 t293, .int .u64 t294, .int .i64 t295, .int .i64 t296] 24 (0, 0)) (by (with_reducible repeat (first | refine blk_drewN ?_ _ | refine blk_drew ?_ | refine blk_alloc ?_ _)); exact BK298.out)) : gb298 ≠ gb306)); have n12_ := Aside0.mk ((by rw [hg]; exact Nat.ne_of_gt (blk_lt (g := gb298) (o := .cells #[.int .u64 t293, .int .u64 t294, .int .i64 t295, .int .i64 t296] 24 (0, 0)) (by (with_reducible repeat (first | refine blk_drewN ?_ _ | refine blk_drew ?_ | refine blk_alloc ?_ _)); exact BK298.out)) : gb306 ≠ gb298)); clear BK285; clear BK292; clear BK298; clear HB; have BK285 := n0_; have BK292 := n1_; have BK298 := n2_; have HB := n3_; have BK306 := n4_; have GW306 := n5_; have GE306 := n6_; have NB285_306 := n7_; have NB306_285 := n8_; have NB292_306 := n9_; have NB306_292 := n10_; have NB298_306 := n11_; have NB306_298 := n12_; clear n0_ n1_ n2_ n3_ n4_ n5_ n6_ n7_ n8_ n9_ n10_ n11_ n12_; clear hb hbox hg; have hnb86 := NB306_285.out; have hnc86 := NB285_306.out; have hnb87 := NB306_292.out; have hnc87 := NB292_306.out; have hnb88 := NB306_298.out; have hnc88 := NB298_306.out; have hcz89_0 : w85.cell? ⟨gb306, 0, none⟩ = some (.int .u64 0) := (blk_cell BK306.out 0).trans rfl; have hcz89_1 : w85.cell? ⟨gb306, 1, none⟩ = some (.int .u64 0) := (blk_cell BK306.out 1).trans rfl; have hcz89_2 : w85.cell? ⟨gb306, 2, none⟩ = some (.int .i64 0) := (blk_cell BK306.out 2).trans rfl; have hcz89_3 : w85.cell? ⟨gb306, 3, none⟩ = some (.int .i64 0) := (blk_cell BK306.out 3).trans rfl; have hfz89_0 := blk_frozen BK306.out 0; have hfz89_1 := blk_frozen BK306.out 1; have hfz89_2 := blk_frozen BK306.out 2; have hfz89_3 := blk_frozen BK306.out 3))
         have n0_ : Aside0 (((((w85.setCell ⟨gb306, 0, none⟩ (.int .u64 t301)).setCell ⟨gb306, 1, none⟩ (.int .u64 t302)).setCell ⟨gb306, 2, none⟩ (.int .i64 t303)).setCell ⟨gb306, 3, none⟩ (.int .i64 t304)).heap[gb285]? = some (.cells #[.int .u64 a1_0, .int .u64 a1_1, .int .i64 a1_2, .int .i64 a1_3] 24 (0, 0))) := ⟨by (with_reducible repeat (first | refine blk_drewN ?_ _ | refine blk_drew ?_ | refine blk_alloc ?_ _)); refine blk_far ?_ NB285_306.out _; (with_reducible repeat (first | refine blk_drewN ?_ _ | refine blk_drew ?_ | refine blk_alloc ?_ _)); refine blk_far ?_ NB285_306.out _; (with_reducible repeat (first | refine blk_drewN ?_ _ | refine blk_drew ?_ | refine blk_alloc ?_ _)); refine blk_far ?_ NB285_306.out _; (with_reducible repeat (first | refine blk_drewN ?_ _ | refine blk_drew ?_ | refine blk_alloc ?_ _)); refine blk_far ?_ NB285_306.out _; (with_reducible repeat (first | refine blk_drewN ?_ _ | refine blk_drew ?_ | refine blk_alloc ?_ _)); exact BK285.out⟩
         have n1_ : Aside0 (((((w85.setCell ⟨gb306, 0, none⟩ (.int .u64 t301)).setCell ⟨gb306, 1, none⟩ (.int .u64 t302)).setCell ⟨gb306, 2, none⟩ (.int .i64 t303)).setCell ⟨gb306, 3, none⟩ (.int .i64 t304)).heap[gb292]? = some (.cells #[.int .u64 t287, .int .u64 t288, .int .i64 t289, .int .i64 t290] 24 (0, 0))) := ⟨by (with_reducible repeat (first | refine blk_drewN ?_ _ | refine blk_drew ?_ | refine blk_alloc ?_ _)); refine blk_far ?_ NB292_306.out _; (with_reducible repeat (first | refine blk_drewN ?_ _ | refine blk_drew ?_ | refine blk_alloc ?_ _)); refine blk_far ?_ NB292_306.out _; (with_reducible repeat (first | refine blk_drewN ?_ _ | refine blk_drew ?_ | refine blk_alloc ?_ _)); refine blk_far ?_ NB292_306.out _; (with_reducible repeat (first | refine blk_drewN ?_ _ | refine blk_drew ?_ | refine blk_alloc ?_ _)); refine blk_far ?_ NB292_306.out _; (with_reducible repeat (first | refine blk_drewN ?_ _ | refine blk_drew ?_ | refine blk_alloc ?_ _)); exact BK292.out⟩
         have n2_ : Aside0 (((((w85.setCell ⟨gb306, 0, none⟩ (.int .u64 t301)).setCell ⟨gb306, 1, none⟩ (.int .u64 t302)).setCell ⟨gb306, 2, none⟩ (.int .i64 t303)).setCell ⟨gb306, 3, none⟩ (.int .i64 t304)).heap[gb298]? = some (.cells #[.int .u64 t293, .int .u64 t294, .int .i64 t295, .int .i64 t296] 24 (0, 0))) := ⟨by (with_reducible repeat (first | refine blk_drewN ?_ _ | refine blk_drew ?_ | refine blk_alloc ?_ _)); refine blk_far ?_ NB298_306.out _; (with_reducible repeat (first | refine blk_drewN ?_ _ | refine blk_drew ?_ | refine blk_alloc ?_ _)); refine blk_far ?_ NB298_306.out _; (with_reducible repeat (first | refine blk_drewN ?_ _ | refine blk_drew ?_ | refine blk_alloc ?_ _)); refine blk_far ?_ NB298_306.out _; (with_reducible repeat (first | refine blk_drewN ?_ _ | refine blk_drew ?_ | refine blk_alloc ?_ _)); refine blk_far ?_ NB298_306.out _; (with_reducible repeat (first | refine blk_drewN ?_ _ | refine blk_drew ?_ | refine blk_alloc ?_ _)); exact BK298.out⟩
         have n3_ : Aside0 (((((w85.setCell ⟨gb306, 0, none⟩ (.int .u64 t301)).setCell ⟨gb306, 1, none⟩ (.int .u64 t302)).setCell ⟨gb306, 2, none⟩ (.int .i64 t303)).setCell ⟨gb306, 3, none⟩ (.int .i64 t304)).heap[gb306]? = some (.cells #[.int .u64 t301, .int .u64 t302, .int .i64 t303, .int .i64 t304] 24 (0, 0))) := ⟨by (with_reducible repeat (first | refine blk_drewN ?_ _ | refine blk_drew ?_ | refine blk_alloc ?_ _)); refine blk_put (cs := #[.int .u64 t301, .int .u64 t302, .int .i64 t303, .int .i64 0]) ?_ 3 _ rfl; (with_reducible repeat (first | refine blk_drewN ?_ _ | refine blk_drew ?_ | refine blk_alloc ?_ _)); refine blk_put (cs := #[.int .u64 t301, .int .u64 t302, .int .i64 0, .int .i64 0]) ?_ 2 _ rfl; (with_reducible repeat (first | refine blk_drewN ?_ _ | refine blk_drew ?_ | refine blk_alloc ?_ _)); refine blk_put (cs := #[.int .u64 t301, .int .u64 0, .int .i64 0, .int .i64 0]) ?_ 1 _ rfl; (with_reducible repeat (first | refine blk_drewN ?_ _ | refine blk_drew ?_ | refine blk_alloc ?_ _)); refine blk_put (cs := #[.int .u64 0, .int .u64 0, .int .i64 0, .int .i64 0]) ?_ 0 _ rfl; (with_reducible repeat (first | refine blk_drewN ?_ _ | refine blk_drew ?_ | refine blk_alloc ?_ _)); exact BK306.out⟩
         have n4_ : Aside0 (Below w.heap.size w ((((w85.setCell ⟨gb306, 0, none⟩ (.int .u64 t301)).setCell ⟨gb306, 1, none⟩ (.int .u64 t302)).setCell ⟨gb306, 2, none⟩ (.int .i64 t303)).setCell ⟨gb306, 3, none⟩ (.int .i64 t304))) := ⟨bsL HB.out⟩
         (try clear BK285)
         (try clear BK292)
         (try clear BK298)
         (try clear BK306)
         (try clear HB)
         generalize ((((w85.setCell ⟨gb306, 0, none⟩ (.int .u64 t301)).setCell ⟨gb306, 1, none⟩ (.int .u64 t302)).setCell ⟨gb306, 2, none⟩ (.int .i64 t303)).setCell ⟨gb306, 3, none⟩ (.int .i64 t304)) = w90 at n0_ n1_ n2_ n3_ n4_ ⊢
         have BK285 := n0_
         have BK292 := n1_
         have BK298 := n2_
         have BK306 := n3_
         have HB := n4_
         clear n0_ n1_ n2_ n3_ n4_
         have n0_ := Aside0.mk (blk_drew BK285.out)
         have n1_ := Aside0.mk (blk_drew BK292.out)
         have n2_ := Aside0.mk (blk_drew BK298.out)
         have n3_ := Aside0.mk (blk_drew BK306.out)
         have n4_ := Aside0.mk (below_drew1 HB.out)
         clear BK285
         clear BK292
         clear BK298
         clear BK306
         clear HB
         have BK285 := n0_
         have BK292 := n1_
         have BK298 := n2_
         have BK306 := n3_
         have HB := n4_
         clear n0_ n1_ n2_ n3_ n4_
         refine start_ (n := 23) (S := fun w' => w'.cell? ⟨gb292, 0, none⟩ = some (.int .u64 t287) ∧ w'.cell? ⟨gb292, 1, none⟩ = some (.int .u64 t288) ∧ w'.cell? ⟨gb292, 2, none⟩ = some (.int .i64 t289) ∧ w'.cell? ⟨gb292, 3, none⟩ = some (.int .i64 t290) ∧ w'.cell? ⟨gb285, 0, none⟩ = some (.int .u64 a1_0) ∧ w'.cell? ⟨gb285, 1, none⟩ = some (.int .u64 a1_1) ∧ w'.cell? ⟨gb285, 2, none⟩ = some (.int .i64 a1_2) ∧ w'.cell? ⟨gb285, 3, none⟩ = some (.int .i64 a1_3)) (ds := []) (bA 23 0) (by kernel_rfl) rfl rfl ⟨(blk_cell BK292.out 0).trans rfl, (blk_cell BK292.out 1).trans rfl, (blk_cell BK292.out 2).trans rfl, (blk_cell BK292.out 3).trans rfl, (blk_cell BK285.out 0).trans rfl, (blk_cell BK285.out 1).trans rfl, (blk_cell BK285.out 2).trans rfl, (blk_cell BK285.out 3).trans rfl⟩ (fun hHeld => ?_); refine with_tabW jacquardlaw13_IntervalTightens.tab12 jacquardlaw13_IntervalTightens.bits12 (fun HT_ HW_ => ?_)
         generalize w90.drew = w91 at BK285 BK292 BK298 BK306 HB hHeld ⊢
         refine takeA HT_ HW_ hHeld (i := 0) (N := some 59) (bA 23 1) ?_ (hy := by rintro w' ⟨s0, s1, s2, s3, s4, s5, s6, s7⟩; go_simp; with_reducible rfl)
         refine takeA HT_ HW_ hHeld (i := 1) (N := some 60) (bA 23 3) ?_ (hy := by rintro w' ⟨s0, s1, s2, s3, s4, s5, s6, s7⟩; go_simp; with_reducible rfl)
         refine one_ (i := 2) (N := some 61) (bA 23 7) rfl rfl (one_of HT_.out (by kernel_rfl)) (by decide) (fun K hK => ?_)
         refine gO Try.func28 #[.agg #[.int .u64 t287, .int .u64 t288, .int .i64 t289, .int .i64 t290], .agg #[.int .u64 a1_0, .int .u64 a1_1, .int .i64 a1_2, .int .i64 a1_3]] ?_
         with_reducible refine (interval_Leq.calls t287 t288 t289 t290 a1_0 a1_1 a1_2 a1_3 true _ A38.out).mono ?_
         rintro e w92 ⟨rfl, hb⟩
         refine ⟨_, rfl, ?_⟩
         have n0_ := bkB BK285.out hb
         have n1_ := bkB BK292.out hb
         have n2_ := bkB BK298.out hb
         have n3_ := bkB BK306.out hb
         have n4_ := bsB HB.out hb
         clear BK285
         clear BK292
         clear BK298
         clear BK306
         clear HB
         have BK285 := n0_
         have BK292 := n1_
         have BK298 := n2_
         have BK306 := n3_
         have HB := n4_
         clear n0_ n1_ n2_ n3_ n4_
         (try clear hb)
         (try clear hb2)
         (try clear hk)
         (try clear hi)
         refine hK.out _ _ ⟨(blk_cell BK292.out 0).trans rfl, (blk_cell BK292.out 1).trans rfl, (blk_cell BK292.out 2).trans rfl, (blk_cell BK292.out 3).trans rfl, (blk_cell BK285.out 0).trans rfl, (blk_cell BK285.out 1).trans rfl, (blk_cell BK285.out 2).trans rfl, (blk_cell BK285.out 3).trans rfl⟩ (fun hHeld => ?_)
         clear hK K
         refine norm_ (a' := ?_) ?_ ?_
         rotate_left
         ·
          show Act.put _ (some 61) _ = _
          simp only [Act.put, List.setIfInBounds_toArray, List.set_cons_zero, List.set_cons_succ, i64_w, i32_w]
          rfl
         refine pureA HT_ (i := 3) (N := some 62) (bA 23 15) ?_
         refine pureA HT_ (i := 4) (N := some 63) (bA 23 31) ?_
         refine pureA HT_ (i := 6) (N := some 65) (bA 23 95) ?_
         refine pureA HT_ (i := 8) (N := some 67) (bA 23 351) ?_
         refine pureA HT_ (i := 10) (N := some 69) (bA 23 1375) ?_
         refine takeA HT_ HW_ hHeld (i := 5) (N := some 64) (bA 23 1407) ?_ (hy := by rintro w' ⟨s0, s1, s2, s3, s4, s5, s6, s7⟩; go_simp; with_reducible rfl)
         refine takeA HT_ HW_ hHeld (i := 9) (N := some 68) (bA 23 1919) ?_ (hy := by rintro w' ⟨s0, s1, s2, s3, s4, s5, s6, s7⟩; go_simp; with_reducible rfl)
         refine one_ (i := 7) (N := some 66) (bA 23 2047) rfl rfl (one_of HT_.out (by kernel_rfl)) (by decide) (fun K hK => ?_)
         refine gO Try.func18 #[.int .i64 a0, .agg #[.int .u64 t287, .int .u64 t288, .int .i64 t289, .int .i64 t290], .int .u64 a2] ?_
         with_reducible refine (interval_Contains.calls a0 t287 t288 t289 t290 a2 t308 _ A40.out).mono ?_
         rintro e w93 ⟨rfl, hb⟩
         refine ⟨_, rfl, ?_⟩
         have n0_ := bkB BK285.out hb
         have n1_ := bkB BK292.out hb
         have n2_ := bkB BK298.out hb
         have n3_ := bkB BK306.out hb
         have n4_ := bsB HB.out hb
         clear BK285
         clear BK292
         clear BK298
         clear BK306
         clear HB
         have BK285 := n0_
         have BK292 := n1_
         have BK298 := n2_
         have BK306 := n3_
         have HB := n4_
         clear n0_ n1_ n2_ n3_ n4_
         (try clear hb)
         (try clear hb2)
         (try clear hk)
         (try clear hi)
         refine hK.out _ _ ⟨(blk_cell BK292.out 0).trans rfl, (blk_cell BK292.out 1).trans rfl, (blk_cell BK292.out 2).trans rfl, (blk_cell BK292.out 3).trans rfl, (blk_cell BK285.out 0).trans rfl, (blk_cell BK285.out 1).trans rfl, (blk_cell BK285.out 2).trans rfl, (blk_cell BK285.out 3).trans rfl⟩ (fun hHeld => ?_)
         clear hK K
         refine norm_ (a' := ?_) ?_ ?_
         rotate_left
         ·
          show Act.put _ (some 66) _ = _
          simp only [Act.put, List.setIfInBounds_toArray, List.set_cons_zero, List.set_cons_succ, i64_w, i32_w]
          rfl
         refine one_ (i := 11) (N := some 70) (bA 23 4095) rfl rfl (one_of HT_.out (by kernel_rfl)) (by decide) (fun K hK => ?_)
         refine gO Try.func18 #[.int .i64 a0, .agg #[.int .u64 a1_0, .int .u64 a1_1, .int .i64 a1_2, .int .i64 a1_3], .int .u64 a2] ?_
         with_reducible refine (interval_Contains.calls a0 a1_0 a1_1 a1_2 a1_3 a2 t309 _ A41.out).mono ?_
         rintro e w94 ⟨rfl, hb⟩
         refine ⟨_, rfl, ?_⟩
         have n0_ := bkB BK285.out hb
         have n1_ := bkB BK292.out hb
         have n2_ := bkB BK298.out hb
         have n3_ := bkB BK306.out hb
         have n4_ := bsB HB.out hb
         clear BK285
         clear BK292
         clear BK298
         clear BK306
         clear HB
         have BK285 := n0_
         have BK292 := n1_
         have BK298 := n2_
         have BK306 := n3_
         have HB := n4_
         clear n0_ n1_ n2_ n3_ n4_
         (try clear hb)
         (try clear hb2)
         (try clear hk)
         (try clear hi)
         refine hK.out _ _ ⟨(blk_cell BK292.out 0).trans rfl, (blk_cell BK292.out 1).trans rfl, (blk_cell BK292.out 2).trans rfl, (blk_cell BK292.out 3).trans rfl, (blk_cell BK285.out 0).trans rfl, (blk_cell BK285.out 1).trans rfl, (blk_cell BK285.out 2).trans rfl, (blk_cell BK285.out 3).trans rfl⟩ (fun hHeld => ?_)
         clear hK K
         refine norm_ (a' := ?_) ?_ ?_
         rotate_left
         ·
          show Act.put _ (some 70) _ = _
          simp only [Act.put, List.setIfInBounds_toArray, List.set_cons_zero, List.set_cons_succ, i64_w, i32_w]
          rfl
         refine pureA HT_ (i := 12) (N := some 71) (bA 23 8191) ?_
         refine pureA HT_ (i := 13) (N := some 72) (bA 23 16383) ?_
         refine pureA HT_ (i := 14) (N := some 73) (bA 23 32767) ?_
         refine pureU HT_ (i := 15) (N := some 74) (bA 23 65535) ?_
         refine pureU HT_ (i := 16) (N := some 75) (bA 23 131071) ?_
         refine pureU HT_ (i := 17) (N := some 76) (bA 23 262143) ?_
         refine pureA HT_ (i := 18) (N := some 77) (bA 23 524287) ?_
         refine pureA HT_ (i := 19) (N := some 78) (bA 23 1048575) ?_
         refine pureU HT_ (i := 20) (N := some 79) (bA 23 2097151) ?_
         refine pureA HT_ (i := 21) (N := some 80) (bA 23 4194303) ?_
         refine pureA HT_ (i := 22) (N := some 6) (bA 23 8388607) ?_
         refine done_ (done_of HT_.out (by kernel_rfl)) ?_
         try go_wp2
         go_ret
         exact ⟨by first | rfl | (simp [errW_none, errW_some] <;> rfl) | (simp [*, errW_none, errW_some] <;> rfl), bsL HB.out⟩
       ·
        replace c39 := Bool.eq_false_iff.mpr c39
        subst c39
        have H1 : (some false) = some r := by rw [if_neg (show ¬ (false = true) by decide)] at H; exact H
        clear H
        have H := H1
        clear H1
        obtain rfl := Option.some.inj H
        have hnb95 := NB285_292.out
        have hnc95 := NB292_285.out
        have hnb96 := NB285_298.out
        have hnc96 := NB298_285.out
        have hcz97_0 : wc.cell? ⟨gb285, 0, none⟩ = some (.int .u64 a1_0) := (blk_cell BK285.out 0).trans rfl
        have hcz97_1 : wc.cell? ⟨gb285, 1, none⟩ = some (.int .u64 a1_1) := (blk_cell BK285.out 1).trans rfl
        have hcz97_2 : wc.cell? ⟨gb285, 2, none⟩ = some (.int .i64 a1_2) := (blk_cell BK285.out 2).trans rfl
        have hcz97_3 : wc.cell? ⟨gb285, 3, none⟩ = some (.int .i64 a1_3) := (blk_cell BK285.out 3).trans rfl
        have hfz97_0 := blk_frozen BK285.out 0
        have hfz97_1 := blk_frozen BK285.out 1
        have hfz97_2 := blk_frozen BK285.out 2
        have hfz97_3 := blk_frozen BK285.out 3
        try go_wp2_with (first | ((with_reducible refine gate_callee (f := 16) rfl ?_); refine gL (some 37) Try.func16 #[.int .i64 a0, .agg #[.int .u64 a1_0, .int .u64 a1_1, .int .i64 a1_2, .int .i64 a1_3]] ?_; (with_reducible refine (interval_Valid.calls a0 a1_0 a1_1 a1_2 a1_3 true _ A34.out).mono ?_); rintro e w98 ⟨rfl, hb⟩; refine ⟨_, rfl, ?_⟩; replace BK285 := bkB BK285.out hb; replace BK292 := bkB BK292.out hb; replace BK298 := bkB BK298.out hb; replace HB := bsB HB.out hb; (try clear hb); have hnb99 := NB292_298.out; have hnc99 := NB298_292.out; have hcz100_0 : w98.cell? ⟨gb292, 0, none⟩ = some (.int .u64 t287) := (blk_cell BK292.out 0).trans rfl; have hcz100_1 : w98.cell? ⟨gb292, 1, none⟩ = some (.int .u64 t288) := (blk_cell BK292.out 1).trans rfl; have hcz100_2 : w98.cell? ⟨gb292, 2, none⟩ = some (.int .i64 t289) := (blk_cell BK292.out 2).trans rfl; have hcz100_3 : w98.cell? ⟨gb292, 3, none⟩ = some (.int .i64 t290) := (blk_cell BK292.out 3).trans rfl; have hfz100_0 := blk_frozen BK292.out 0; have hfz100_1 := blk_frozen BK292.out 1; have hfz100_2 := blk_frozen BK292.out 2; have hfz100_3 := blk_frozen BK292.out 3) | ((with_reducible refine gate_callee (f := 40) rfl ?_); refine gL (some 56) Try.func40 #[.int .i64 a0, .agg #[.int .u64 t287, .int .u64 t288, .int .i64 t289, .int .i64 t290]] ?_; (with_reducible refine (interval_Tighten.calls kj7 a0 t287 t288 t289 t290 t301 t302 t303 t304 t305 _ A37.out).mono ?_); rintro e w101 ⟨rfl, hb⟩; refine ⟨_, rfl, ?_⟩; replace BK285 := bkB BK285.out hb; replace BK292 := bkB BK292.out hb; replace BK298 := bkB BK298.out hb; replace HB := bsB HB.out hb; (try clear hb)) | ((with_reducible refine gate_dst (N := 11) rfl ?_); refine box_event ?hg (N := 11) ?hd (cs := #[.int .u64 0, .int .u64 0, .int .i64 0, .int .i64 0]) (t := 24) ?hr ?_; (case hd => rfl); (case hg => rfl); (case hr => first | (go_simp; done) | (go_simp; rfl)); intro gb306 hg w102 hbox hb; have n0_ := bkB BK285.out hb; have n1_ := bkB BK292.out hb; have n2_ := bkB BK298.out hb; have n3_ := bsB HB.out hb; have n4_ := Aside0.mk (hbox); have n5_ := Aside0.mk ((by rw [hg]; exact (below_size (by repeat (first | (with_reducible first | exact HB.out | apply below_alloc | apply pw_below_drewN | apply below_drew1 | refine below_set ?_ GE285.out | refine below_set ?_ GE292.out | refine below_set ?_ GE298.out) | exact HB.out))) : w.heap.size ≤ gb306)); have n6_ := Aside0.mk ((by rw [hg]; exact (below_size (by repeat (first | (with_reducible first | exact HB.out | apply below_alloc | apply pw_below_drewN | apply below_drew1 | refine below_set ?_ GE285.out | refine below_set ?_ GE292.out | refine below_set ?_ GE298.out) | exact HB.out))) : w.heap.size ≤ gb306)); have n7_ := Aside0.mk ((by rw [hg]; exact Nat.ne_of_lt (blk_lt (g := gb285) (o := .cells #[.int .u64 a1_0, .int .u64 a1_1, .int .i64 a1_2, .int .i64 a1_3] 24 (0, 0)) (by (with_reducible repeat (first | refine blk_drewN ?_ _ | refine blk_drew ?_ | refine blk_alloc ?_ _)); exact BK285.out)) : gb285 ≠ gb306)); have n8_ := Aside0.mk ((by rw [hg]; exact Nat.ne_of_gt (blk_lt (g := gb285) (o := .cells #[.int .u64 a1_0, .int .u64 a1_1, .int .i64 a1_2, .int .i64 a1_3] 24 (0, 0)) (by (with_reducible repeat (first | refine blk_drewN ?_ _ | refine blk_drew ?_ | refine blk_alloc ?_ _)); exact BK285.out)) : gb306 ≠ gb285)); have n9_ := Aside0.mk ((by rw [hg]; exact Nat.ne_of_lt (blk_lt (g := gb292) (o := .cells #[.int .u64 t287, .int .u64 t288, .int .i64 t289, .int .i64 t290] 24 (0, 0)) (by (with_reducible repeat (first | refine blk_drewN ?_ _ | refine blk_drew ?_ | refine blk_alloc ?_ _)); exact BK292.out)) : gb292 ≠ gb306)); have n10_ := Aside0.mk ((by rw [hg]; exact Nat.ne_of_gt (blk_lt (g := gb292) (o := .cells #[.int .u64 t287, .int .u64 t288, .int .i64 t289, .int .i64 t290] 24 (0, 0)) (by (with_reducible repeat (first | refine blk_drewN ?_ _ | refine blk_drew ?_ | refine blk_alloc ?_ _)); exact BK292.out)) : gb306 ≠ gb292)); have n11_ := Aside0.mk ((by rw [hg]; exact Nat.ne_of_lt (blk_lt (g := gb298) (o := .cells #[.int .u64 t293, .int .u64 t294, .int .i64 t295, .int .i64 t296] 24 (0, 0)) (by (with_reducible repeat (first | refine blk_drewN ?_ _ | refine blk_drew ?_ | refine blk_alloc ?_ _)); exact BK298.out)) : gb298 ≠ gb306)); have n12_ := Aside0.mk ((by rw [hg]; exact Nat.ne_of_gt (blk_lt (g := gb298) (o := .cells #[.int .u64 t293, .int .u64 t294, .int .i64 t295, .int .i64 t296] 24 (0, 0)) (by (with_reducible repeat (first | refine blk_drewN ?_ _ | refine blk_drew ?_ | refine blk_alloc ?_ _)); exact BK298.out)) : gb306 ≠ gb298)); clear BK285; clear BK292; clear BK298; clear HB; have BK285 := n0_; have BK292 := n1_; have BK298 := n2_; have HB := n3_; have BK306 := n4_; have GW306 := n5_; have GE306 := n6_; have NB285_306 := n7_; have NB306_285 := n8_; have NB292_306 := n9_; have NB306_292 := n10_; have NB298_306 := n11_; have NB306_298 := n12_; clear n0_ n1_ n2_ n3_ n4_ n5_ n6_ n7_ n8_ n9_ n10_ n11_ n12_; clear hb hbox hg; have hnb103 := NB306_285.out; have hnc103 := NB285_306.out; have hnb104 := NB306_292.out; have hnc104 := NB292_306.out; have hnb105 := NB306_298.out; have hnc105 := NB298_306.out; have hcz106_0 : w102.cell? ⟨gb306, 0, none⟩ = some (.int .u64 0) := (blk_cell BK306.out 0).trans rfl; have hcz106_1 : w102.cell? ⟨gb306, 1, none⟩ = some (.int .u64 0) := (blk_cell BK306.out 1).trans rfl; have hcz106_2 : w102.cell? ⟨gb306, 2, none⟩ = some (.int .i64 0) := (blk_cell BK306.out 2).trans rfl; have hcz106_3 : w102.cell? ⟨gb306, 3, none⟩ = some (.int .i64 0) := (blk_cell BK306.out 3).trans rfl; have hfz106_0 := blk_frozen BK306.out 0; have hfz106_1 := blk_frozen BK306.out 1; have hfz106_2 := blk_frozen BK306.out 2; have hfz106_3 := blk_frozen BK306.out 3))
        have n0_ : Aside0 (((((w102.setCell ⟨gb306, 0, none⟩ (.int .u64 t301)).setCell ⟨gb306, 1, none⟩ (.int .u64 t302)).setCell ⟨gb306, 2, none⟩ (.int .i64 t303)).setCell ⟨gb306, 3, none⟩ (.int .i64 t304)).heap[gb285]? = some (.cells #[.int .u64 a1_0, .int .u64 a1_1, .int .i64 a1_2, .int .i64 a1_3] 24 (0, 0))) := ⟨by (with_reducible repeat (first | refine blk_drewN ?_ _ | refine blk_drew ?_ | refine blk_alloc ?_ _)); refine blk_far ?_ NB285_306.out _; (with_reducible repeat (first | refine blk_drewN ?_ _ | refine blk_drew ?_ | refine blk_alloc ?_ _)); refine blk_far ?_ NB285_306.out _; (with_reducible repeat (first | refine blk_drewN ?_ _ | refine blk_drew ?_ | refine blk_alloc ?_ _)); refine blk_far ?_ NB285_306.out _; (with_reducible repeat (first | refine blk_drewN ?_ _ | refine blk_drew ?_ | refine blk_alloc ?_ _)); refine blk_far ?_ NB285_306.out _; (with_reducible repeat (first | refine blk_drewN ?_ _ | refine blk_drew ?_ | refine blk_alloc ?_ _)); exact BK285.out⟩
        have n1_ : Aside0 (((((w102.setCell ⟨gb306, 0, none⟩ (.int .u64 t301)).setCell ⟨gb306, 1, none⟩ (.int .u64 t302)).setCell ⟨gb306, 2, none⟩ (.int .i64 t303)).setCell ⟨gb306, 3, none⟩ (.int .i64 t304)).heap[gb292]? = some (.cells #[.int .u64 t287, .int .u64 t288, .int .i64 t289, .int .i64 t290] 24 (0, 0))) := ⟨by (with_reducible repeat (first | refine blk_drewN ?_ _ | refine blk_drew ?_ | refine blk_alloc ?_ _)); refine blk_far ?_ NB292_306.out _; (with_reducible repeat (first | refine blk_drewN ?_ _ | refine blk_drew ?_ | refine blk_alloc ?_ _)); refine blk_far ?_ NB292_306.out _; (with_reducible repeat (first | refine blk_drewN ?_ _ | refine blk_drew ?_ | refine blk_alloc ?_ _)); refine blk_far ?_ NB292_306.out _; (with_reducible repeat (first | refine blk_drewN ?_ _ | refine blk_drew ?_ | refine blk_alloc ?_ _)); refine blk_far ?_ NB292_306.out _; (with_reducible repeat (first | refine blk_drewN ?_ _ | refine blk_drew ?_ | refine blk_alloc ?_ _)); exact BK292.out⟩
        have n2_ : Aside0 (((((w102.setCell ⟨gb306, 0, none⟩ (.int .u64 t301)).setCell ⟨gb306, 1, none⟩ (.int .u64 t302)).setCell ⟨gb306, 2, none⟩ (.int .i64 t303)).setCell ⟨gb306, 3, none⟩ (.int .i64 t304)).heap[gb298]? = some (.cells #[.int .u64 t293, .int .u64 t294, .int .i64 t295, .int .i64 t296] 24 (0, 0))) := ⟨by (with_reducible repeat (first | refine blk_drewN ?_ _ | refine blk_drew ?_ | refine blk_alloc ?_ _)); refine blk_far ?_ NB298_306.out _; (with_reducible repeat (first | refine blk_drewN ?_ _ | refine blk_drew ?_ | refine blk_alloc ?_ _)); refine blk_far ?_ NB298_306.out _; (with_reducible repeat (first | refine blk_drewN ?_ _ | refine blk_drew ?_ | refine blk_alloc ?_ _)); refine blk_far ?_ NB298_306.out _; (with_reducible repeat (first | refine blk_drewN ?_ _ | refine blk_drew ?_ | refine blk_alloc ?_ _)); refine blk_far ?_ NB298_306.out _; (with_reducible repeat (first | refine blk_drewN ?_ _ | refine blk_drew ?_ | refine blk_alloc ?_ _)); exact BK298.out⟩
        have n3_ : Aside0 (((((w102.setCell ⟨gb306, 0, none⟩ (.int .u64 t301)).setCell ⟨gb306, 1, none⟩ (.int .u64 t302)).setCell ⟨gb306, 2, none⟩ (.int .i64 t303)).setCell ⟨gb306, 3, none⟩ (.int .i64 t304)).heap[gb306]? = some (.cells #[.int .u64 t301, .int .u64 t302, .int .i64 t303, .int .i64 t304] 24 (0, 0))) := ⟨by (with_reducible repeat (first | refine blk_drewN ?_ _ | refine blk_drew ?_ | refine blk_alloc ?_ _)); refine blk_put (cs := #[.int .u64 t301, .int .u64 t302, .int .i64 t303, .int .i64 0]) ?_ 3 _ rfl; (with_reducible repeat (first | refine blk_drewN ?_ _ | refine blk_drew ?_ | refine blk_alloc ?_ _)); refine blk_put (cs := #[.int .u64 t301, .int .u64 t302, .int .i64 0, .int .i64 0]) ?_ 2 _ rfl; (with_reducible repeat (first | refine blk_drewN ?_ _ | refine blk_drew ?_ | refine blk_alloc ?_ _)); refine blk_put (cs := #[.int .u64 t301, .int .u64 0, .int .i64 0, .int .i64 0]) ?_ 1 _ rfl; (with_reducible repeat (first | refine blk_drewN ?_ _ | refine blk_drew ?_ | refine blk_alloc ?_ _)); refine blk_put (cs := #[.int .u64 0, .int .u64 0, .int .i64 0, .int .i64 0]) ?_ 0 _ rfl; (with_reducible repeat (first | refine blk_drewN ?_ _ | refine blk_drew ?_ | refine blk_alloc ?_ _)); exact BK306.out⟩
        have n4_ : Aside0 (Below w.heap.size w ((((w102.setCell ⟨gb306, 0, none⟩ (.int .u64 t301)).setCell ⟨gb306, 1, none⟩ (.int .u64 t302)).setCell ⟨gb306, 2, none⟩ (.int .i64 t303)).setCell ⟨gb306, 3, none⟩ (.int .i64 t304))) := ⟨bsL HB.out⟩
        (try clear BK285)
        (try clear BK292)
        (try clear BK298)
        (try clear BK306)
        (try clear HB)
        generalize ((((w102.setCell ⟨gb306, 0, none⟩ (.int .u64 t301)).setCell ⟨gb306, 1, none⟩ (.int .u64 t302)).setCell ⟨gb306, 2, none⟩ (.int .i64 t303)).setCell ⟨gb306, 3, none⟩ (.int .i64 t304)) = w107 at n0_ n1_ n2_ n3_ n4_ ⊢
        have BK285 := n0_
        have BK292 := n1_
        have BK298 := n2_
        have BK306 := n3_
        have HB := n4_
        clear n0_ n1_ n2_ n3_ n4_
        have n0_ := Aside0.mk (blk_drew BK285.out)
        have n1_ := Aside0.mk (blk_drew BK292.out)
        have n2_ := Aside0.mk (blk_drew BK298.out)
        have n3_ := Aside0.mk (blk_drew BK306.out)
        have n4_ := Aside0.mk (below_drew1 HB.out)
        clear BK285
        clear BK292
        clear BK298
        clear BK306
        clear HB
        have BK285 := n0_
        have BK292 := n1_
        have BK298 := n2_
        have BK306 := n3_
        have HB := n4_
        clear n0_ n1_ n2_ n3_ n4_
        refine start_ (n := 23) (S := fun w' => w'.cell? ⟨gb292, 0, none⟩ = some (.int .u64 t287) ∧ w'.cell? ⟨gb292, 1, none⟩ = some (.int .u64 t288) ∧ w'.cell? ⟨gb292, 2, none⟩ = some (.int .i64 t289) ∧ w'.cell? ⟨gb292, 3, none⟩ = some (.int .i64 t290) ∧ w'.cell? ⟨gb285, 0, none⟩ = some (.int .u64 a1_0) ∧ w'.cell? ⟨gb285, 1, none⟩ = some (.int .u64 a1_1) ∧ w'.cell? ⟨gb285, 2, none⟩ = some (.int .i64 a1_2) ∧ w'.cell? ⟨gb285, 3, none⟩ = some (.int .i64 a1_3)) (ds := []) (bA 23 0) (by kernel_rfl) rfl rfl ⟨(blk_cell BK292.out 0).trans rfl, (blk_cell BK292.out 1).trans rfl, (blk_cell BK292.out 2).trans rfl, (blk_cell BK292.out 3).trans rfl, (blk_cell BK285.out 0).trans rfl, (blk_cell BK285.out 1).trans rfl, (blk_cell BK285.out 2).trans rfl, (blk_cell BK285.out 3).trans rfl⟩ (fun hHeld => ?_); refine with_tabW jacquardlaw13_IntervalTightens.tab12 jacquardlaw13_IntervalTightens.bits12 (fun HT_ HW_ => ?_)
        generalize w107.drew = w108 at BK285 BK292 BK298 BK306 HB hHeld ⊢
        refine takeA HT_ HW_ hHeld (i := 0) (N := some 59) (bA 23 1) ?_ (hy := by rintro w' ⟨s0, s1, s2, s3, s4, s5, s6, s7⟩; go_simp; with_reducible rfl)
        refine takeA HT_ HW_ hHeld (i := 1) (N := some 60) (bA 23 3) ?_ (hy := by rintro w' ⟨s0, s1, s2, s3, s4, s5, s6, s7⟩; go_simp; with_reducible rfl)
        refine one_ (i := 2) (N := some 61) (bA 23 7) rfl rfl (one_of HT_.out (by kernel_rfl)) (by decide) (fun K hK => ?_)
        refine gO Try.func28 #[.agg #[.int .u64 t287, .int .u64 t288, .int .i64 t289, .int .i64 t290], .agg #[.int .u64 a1_0, .int .u64 a1_1, .int .i64 a1_2, .int .i64 a1_3]] ?_
        with_reducible refine (interval_Leq.calls t287 t288 t289 t290 a1_0 a1_1 a1_2 a1_3 false _ A38.out).mono ?_
        rintro e w109 ⟨rfl, hb⟩
        refine ⟨_, rfl, ?_⟩
        have n0_ := bkB BK285.out hb
        have n1_ := bkB BK292.out hb
        have n2_ := bkB BK298.out hb
        have n3_ := bkB BK306.out hb
        have n4_ := bsB HB.out hb
        clear BK285
        clear BK292
        clear BK298
        clear BK306
        clear HB
        have BK285 := n0_
        have BK292 := n1_
        have BK298 := n2_
        have BK306 := n3_
        have HB := n4_
        clear n0_ n1_ n2_ n3_ n4_
        (try clear hb)
        (try clear hb2)
        (try clear hk)
        (try clear hi)
        refine hK.out _ _ ⟨(blk_cell BK292.out 0).trans rfl, (blk_cell BK292.out 1).trans rfl, (blk_cell BK292.out 2).trans rfl, (blk_cell BK292.out 3).trans rfl, (blk_cell BK285.out 0).trans rfl, (blk_cell BK285.out 1).trans rfl, (blk_cell BK285.out 2).trans rfl, (blk_cell BK285.out 3).trans rfl⟩ (fun hHeld => ?_)
        clear hK K
        refine norm_ (a' := ?_) ?_ ?_
        rotate_left
        ·
         show Act.put _ (some 61) _ = _
         simp only [Act.put, List.setIfInBounds_toArray, List.set_cons_zero, List.set_cons_succ, i64_w, i32_w]
         rfl
        refine pureA HT_ (i := 3) (N := some 62) (bA 23 15) ?_
        refine pureU HT_ (i := 4) (N := some 63) (bA 23 31) ?_
        refine pureU HT_ (i := 5) (N := some 64) (bA 23 63) ?_
        refine pureU HT_ (i := 6) (N := some 65) (bA 23 127) ?_
        refine pureU HT_ (i := 7) (N := some 66) (bA 23 255) ?_
        refine pureU HT_ (i := 8) (N := some 67) (bA 23 511) ?_
        refine pureU HT_ (i := 9) (N := some 68) (bA 23 1023) ?_
        refine pureU HT_ (i := 10) (N := some 69) (bA 23 2047) ?_
        refine pureU HT_ (i := 11) (N := some 70) (bA 23 4095) ?_
        refine pureU HT_ (i := 12) (N := some 71) (bA 23 8191) ?_
        refine pureA HT_ (i := 13) (N := some 72) (bA 23 16383) ?_
        refine pureA HT_ (i := 14) (N := some 73) (bA 23 32767) ?_
        refine pureU HT_ (i := 15) (N := some 74) (bA 23 65535) ?_
        refine pureU HT_ (i := 16) (N := some 75) (bA 23 131071) ?_
        refine pureU HT_ (i := 17) (N := some 76) (bA 23 262143) ?_
        refine pureA HT_ (i := 18) (N := some 77) (bA 23 524287) ?_
        refine pureA HT_ (i := 19) (N := some 78) (bA 23 1048575) ?_
        refine pureU HT_ (i := 20) (N := some 79) (bA 23 2097151) ?_
        refine pureA HT_ (i := 21) (N := some 80) (bA 23 4194303) ?_
        refine pureA HT_ (i := 22) (N := some 6) (bA 23 8388607) ?_
        refine done_ (done_of HT_.out (by kernel_rfl)) ?_
        try go_wp2
        go_ret
        exact ⟨by first | rfl | (simp [errW_none, errW_some] <;> rfl) | (simp [*, errW_none, errW_some] <;> rfl), bsL HB.out⟩
      ·
       replace c36 := Bool.eq_false_iff.mpr c36
       subst c36
       have H1 : ((interval_Contains.f a0 a1_0 a1_1 a1_2 a1_3 a2).bind fun t300 => (some (!t300))) = some r := by rw [if_neg (show ¬ (false = true) by decide)] at H; exact H
       clear H
       have H := H1
       clear H1
       replace H := Option.bind_eq_some_iff.mp H
       obtain ⟨t300, A1100, H⟩ := H
       replace H : (some (!t300)) = some r := H
       have A110 := Aside0.mk A1100
       clear A1100
       obtain rfl := Option.some.inj H
       have hnb111 := NB285_292.out
       have hnc111 := NB292_285.out
       have hnb112 := NB285_298.out
       have hnc112 := NB298_285.out
       have hcz113_0 : wc.cell? ⟨gb285, 0, none⟩ = some (.int .u64 a1_0) := (blk_cell BK285.out 0).trans rfl
       have hcz113_1 : wc.cell? ⟨gb285, 1, none⟩ = some (.int .u64 a1_1) := (blk_cell BK285.out 1).trans rfl
       have hcz113_2 : wc.cell? ⟨gb285, 2, none⟩ = some (.int .i64 a1_2) := (blk_cell BK285.out 2).trans rfl
       have hcz113_3 : wc.cell? ⟨gb285, 3, none⟩ = some (.int .i64 a1_3) := (blk_cell BK285.out 3).trans rfl
       have hfz113_0 := blk_frozen BK285.out 0
       have hfz113_1 := blk_frozen BK285.out 1
       have hfz113_2 := blk_frozen BK285.out 2
       have hfz113_3 := blk_frozen BK285.out 3
       go_wp2_with (first | ((with_reducible refine gate_callee (f := 16) rfl ?_); refine gL (some 37) Try.func16 #[.int .i64 a0, .agg #[.int .u64 a1_0, .int .u64 a1_1, .int .i64 a1_2, .int .i64 a1_3]] ?_; (with_reducible refine (interval_Valid.calls a0 a1_0 a1_1 a1_2 a1_3 true _ A34.out).mono ?_); rintro e w114 ⟨rfl, hb⟩; refine ⟨_, rfl, ?_⟩; replace BK285 := bkB BK285.out hb; replace BK292 := bkB BK292.out hb; replace BK298 := bkB BK298.out hb; replace HB := bsB HB.out hb; (try clear hb); have hcz115_0 : w114.cell? ⟨gb285, 0, none⟩ = some (.int .u64 a1_0) := (blk_cell BK285.out 0).trans rfl; have hcz115_1 : w114.cell? ⟨gb285, 1, none⟩ = some (.int .u64 a1_1) := (blk_cell BK285.out 1).trans rfl; have hcz115_2 : w114.cell? ⟨gb285, 2, none⟩ = some (.int .i64 a1_2) := (blk_cell BK285.out 2).trans rfl; have hcz115_3 : w114.cell? ⟨gb285, 3, none⟩ = some (.int .i64 a1_3) := (blk_cell BK285.out 3).trans rfl; have hfz115_0 := blk_frozen BK285.out 0; have hfz115_1 := blk_frozen BK285.out 1; have hfz115_2 := blk_frozen BK285.out 2; have hfz115_3 := blk_frozen BK285.out 3) | ((with_reducible refine gate_callee (f := 18) rfl ?_); refine gL (some 51) Try.func18 #[.int .i64 a0, .agg #[.int .u64 a1_0, .int .u64 a1_1, .int .i64 a1_2, .int .i64 a1_3], .int .u64 a2] ?_; (with_reducible refine (interval_Contains.calls a0 a1_0 a1_1 a1_2 a1_3 a2 t300 _ A110.out).mono ?_); rintro e w116 ⟨rfl, hb⟩; refine ⟨_, rfl, ?_⟩; replace BK285 := bkB BK285.out hb; replace BK292 := bkB BK292.out hb; replace BK298 := bkB BK298.out hb; replace HB := bsB HB.out hb; (try clear hb)))
       go_ret
       exact ⟨by first | rfl | (simp [errW_none, errW_some] <;> rfl) | (simp [*, errW_none, errW_some] <;> rfl), bsL HB.out⟩
     ·
      replace c35 := Bool.eq_false_iff.mpr c35
      subst c35
      have H1 : (if t291 = true then (some false) else (some (t287 == 0 && (t288 == 0 && (t289 == 0 && (t290 == 0)))))) = some r := by rw [if_neg (show ¬ (false = true) by decide)] at H; exact H
      clear H
      have H := H1
      clear H1
      by_cases c117 : t291 = true
      ·
       subst c117
       have H1 : (some false) = some r := by rw [if_pos rfl] at H; exact H
       clear H
       have H := H1
       clear H1
       obtain rfl := Option.some.inj H
       have hnb118 := NB285_292.out
       have hnc118 := NB292_285.out
       have hnb119 := NB285_298.out
       have hnc119 := NB298_285.out
       have hcz120_0 : wc.cell? ⟨gb285, 0, none⟩ = some (.int .u64 a1_0) := (blk_cell BK285.out 0).trans rfl
       have hcz120_1 : wc.cell? ⟨gb285, 1, none⟩ = some (.int .u64 a1_1) := (blk_cell BK285.out 1).trans rfl
       have hcz120_2 : wc.cell? ⟨gb285, 2, none⟩ = some (.int .i64 a1_2) := (blk_cell BK285.out 2).trans rfl
       have hcz120_3 : wc.cell? ⟨gb285, 3, none⟩ = some (.int .i64 a1_3) := (blk_cell BK285.out 3).trans rfl
       have hfz120_0 := blk_frozen BK285.out 0
       have hfz120_1 := blk_frozen BK285.out 1
       have hfz120_2 := blk_frozen BK285.out 2
       have hfz120_3 := blk_frozen BK285.out 3
       go_wp2_with (first | ((with_reducible refine gate_callee (f := 16) rfl ?_); refine gL (some 37) Try.func16 #[.int .i64 a0, .agg #[.int .u64 a1_0, .int .u64 a1_1, .int .i64 a1_2, .int .i64 a1_3]] ?_; (with_reducible refine (interval_Valid.calls a0 a1_0 a1_1 a1_2 a1_3 false _ A34.out).mono ?_); rintro e w121 ⟨rfl, hb⟩; refine ⟨_, rfl, ?_⟩; replace BK285 := bkB BK285.out hb; replace BK292 := bkB BK292.out hb; replace BK298 := bkB BK298.out hb; replace HB := bsB HB.out hb; (try clear hb)))
       go_ret
       exact ⟨by first | rfl | (simp [errW_none, errW_some] <;> rfl) | (simp [*, errW_none, errW_some] <;> rfl), bsL HB.out⟩
      ·
       replace c117 := Bool.eq_false_iff.mpr c117
       subst c117
       have H1 : (some (t287 == 0 && (t288 == 0 && (t289 == 0 && (t290 == 0))))) = some r := by rw [if_neg (show ¬ (false = true) by decide)] at H; exact H
       clear H
       have H := H1
       clear H1
       obtain rfl := Option.some.inj H
       have hnb122 := NB285_292.out
       have hnc122 := NB292_285.out
       have hnb123 := NB285_298.out
       have hnc123 := NB298_285.out
       have hcz124_0 : wc.cell? ⟨gb285, 0, none⟩ = some (.int .u64 a1_0) := (blk_cell BK285.out 0).trans rfl
       have hcz124_1 : wc.cell? ⟨gb285, 1, none⟩ = some (.int .u64 a1_1) := (blk_cell BK285.out 1).trans rfl
       have hcz124_2 : wc.cell? ⟨gb285, 2, none⟩ = some (.int .i64 a1_2) := (blk_cell BK285.out 2).trans rfl
       have hcz124_3 : wc.cell? ⟨gb285, 3, none⟩ = some (.int .i64 a1_3) := (blk_cell BK285.out 3).trans rfl
       have hfz124_0 := blk_frozen BK285.out 0
       have hfz124_1 := blk_frozen BK285.out 1
       have hfz124_2 := blk_frozen BK285.out 2
       have hfz124_3 := blk_frozen BK285.out 3
       go_wp2_with (first | ((with_reducible refine gate_callee (f := 16) rfl ?_); refine gL (some 37) Try.func16 #[.int .i64 a0, .agg #[.int .u64 a1_0, .int .u64 a1_1, .int .i64 a1_2, .int .i64 a1_3]] ?_; (with_reducible refine (interval_Valid.calls a0 a1_0 a1_1 a1_2 a1_3 false _ A34.out).mono ?_); rintro e w125 ⟨rfl, hb⟩; refine ⟨_, rfl, ?_⟩; replace BK285 := bkB BK285.out hb; replace BK292 := bkB BK292.out hb; replace BK298 := bkB BK298.out hb; replace HB := bsB HB.out hb; (try clear hb); have hnb126 := NB292_298.out; have hnc126 := NB298_292.out; have hcz127_0 : w125.cell? ⟨gb292, 0, none⟩ = some (.int .u64 t287) := (blk_cell BK292.out 0).trans rfl; have hcz127_1 : w125.cell? ⟨gb292, 1, none⟩ = some (.int .u64 t288) := (blk_cell BK292.out 1).trans rfl; have hcz127_2 : w125.cell? ⟨gb292, 2, none⟩ = some (.int .i64 t289) := (blk_cell BK292.out 2).trans rfl; have hcz127_3 : w125.cell? ⟨gb292, 3, none⟩ = some (.int .i64 t290) := (blk_cell BK292.out 3).trans rfl; have hfz127_0 := blk_frozen BK292.out 0; have hfz127_1 := blk_frozen BK292.out 1; have hfz127_2 := blk_frozen BK292.out 2; have hfz127_3 := blk_frozen BK292.out 3))
       go_ret
       exact ⟨by first | rfl | (simp [errW_none, errW_some] <;> rfl) | (simp [*, errW_none, errW_some] <;> rfl), bsL HB.out⟩
 ·
  replace c5 := Bool.eq_false_iff.mpr c5
  subst c5
  have H1 : (some false) = some r := by rw [if_neg (show ¬ (false = true) by decide)] at H; exact H
  clear H
  have H := H1
  clear H1
  obtain rfl := Option.some.inj H
  go_enter Try.func6, Try.ntmps6
  go_wp2_with (first | ((with_reducible refine gate_dst (N := 4) rfl ?_); refine box_event ?hg (N := 4) ?hd (cs := #[.int .u64 a1_0, .int .u64 a1_1, .int .i64 a1_2, .int .i64 a1_3]) (t := 24) ?hr ?_; (case hd => rfl); (case hg => rfl); (case hr => first | (go_simp; done) | (go_simp; rfl)); intro gb285 hg w128 hbox hb; have n0_ := bsB HB.out hb; have n1_ := Aside0.mk (hbox); have n2_ := Aside0.mk ((by rw [hg]; exact (below_size (by repeat (first | (with_reducible first | exact HB.out | apply below_alloc | apply pw_below_drewN | apply below_drew1) | exact HB.out))) : w.heap.size ≤ gb285)); have n3_ := Aside0.mk ((by rw [hg]; exact (below_size (by repeat (first | (with_reducible first | exact HB.out | apply below_alloc | apply pw_below_drewN | apply below_drew1) | exact HB.out))) : w.heap.size ≤ gb285)); clear HB; have HB := n0_; have BK285 := n1_; have GW285 := n2_; have GE285 := n3_; clear n0_ n1_ n2_ n3_; clear hb hbox hg) | ((with_reducible refine gate_callee (f := 15) rfl ?_); refine gL (some 13) Try.func15 #[] ?_; (with_reducible refine (jacquardlaw13_awake.calls  false _ A4.out).mono ?_); rintro e w129 ⟨rfl, hb⟩; refine ⟨_, rfl, ?_⟩; replace BK285 := bkB BK285.out hb; replace HB := bsB HB.out hb; (try clear hb)))
  go_ret
  exact ⟨by first | rfl | (simp [errW_none, errW_some] <;> rfl) | (simp [*, errW_none, errW_some] <;> rfl), bsL HB.out⟩

/-- THE ONE PURE STATEMENT of jacquardlaw13_IntervalTightens. -/
def jacquardlaw13_IntervalTightens.Pure : Prop := ∀ (a0 : Int) (a1_0 : Int) (a1_1 : Int) (a1_2 : Int) (a1_3 : Int) (a2 : Int), (Lit.int .i64 a0).wf = true → (Lit.int .u64 a1_0).wf = true → (Lit.int .u64 a1_1).wf = true → (Lit.int .i64 a1_2).wf = true → (Lit.int .i64 a1_3).wf = true → (Lit.int .u64 a2).wf = true → ∃ k, jacquardlaw13_IntervalTightens.f k a0 a1_0 a1_1 a1_2 a1_3 a2 = some true

end Go.Proofs.Ytanmehdcccldfaa.P
