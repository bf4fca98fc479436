-- made by a program of this work (wip/mkprint.py, wip/mp.sh) out of the translation
import Derived.Test.YtbiohdgeclokmaaPx0
import Derived.Test.YtbiohdgeclokmaaPx9
import Derived.Test.YtbiohdgeclokmaaPx10
import Derived.Test.YtbiohdgeclokmaaPx11
namespace Go.Proofs.Ytbiohdgeclokmaa.P
open Go.RowKit Go.Proofs.YtbiohdgeclokmaaW.PrintWords Go.Proofs.YtbiohdgeclokmaaW.PrintLast Go.Proofs.YtbiohdgeclokmaaW.PrintMore
attribute [local go_sem] max2_int min2_int max_two min_two max_three min_three max_four min_four   -- for this text's walks alone
set_option linter.unusedVariables false
set_option linter.unusedSimpArgs false

/-! ### jacquardref13_Tighten: function 59 -/
mutual
def jacquardref13_Tighten.j0 : Nat → Int → Int → Bool → Int → Int → Int → Int → Option (Int × Int × Int × Int × Bool)
 | 0, _, _, _, _, _, _, _ => none
 | k + 1, x0, x6, x26, x243000, x243001, x243002, x243003 => if x26 = true then (if x243003 < 0 then (some (0, 0, 0, 0, false)) else (if x243002 > 0 then ((jacquardref13_same.f k x0 (mx x243000 (IntKind.u64.wrap (x243002))) (mn x243001 (IntKind.u64.wrap (x243003)))).bind fun bt246 => (some (bt246.1, bt246.2.1, bt246.2.2.1, bt246.2.2.2.1, bt246.2.2.2.2))) else ((jacquardref13_same.f k x0 x243000 (mn x243001 (IntKind.u64.wrap (x243003)))).bind fun bt251 => (some (bt251.1, bt251.2.1, bt251.2.2.1, bt251.2.2.2.1, bt251.2.2.2.2))))) else (if x243000 > x6 then (jacquardref13_Tighten.j1 k x0 x6 true x243000 x243001 x243002 x243003) else (jacquardref13_Tighten.j1 k x0 x6 (decide (x243003 < 0)) x243000 x243001 x243002 x243003))
def jacquardref13_Tighten.j1 : Nat → Int → Int → Bool → Int → Int → Int → Int → Option (Int × Int × Int × Int × Bool)
 | 0, _, _, _, _, _, _, _ => none
 | k + 1, x0, x6, x60, x243000, x243001, x243002, x243003 => if x60 = true then ((jacquardref13_Umax.f k x0).bind fun t256 => (if x243003 < 0 then ((jacquardref13_same.f k x0 (mx (mx x243000 (IntKind.u64.wrap (x6 + 1))) (Go.bits .and .u64 (IntKind.u64.wrap (x243002)) t256)) (mn x243001 (Go.bits .and .u64 (IntKind.u64.wrap (x243003)) t256))).bind fun bt257 => (some (bt257.1, bt257.2.1, bt257.2.2.1, bt257.2.2.2.1, bt257.2.2.2.2))) else ((jacquardref13_same.f k x0 (mx (mx x243000 (IntKind.u64.wrap (x6 + 1))) (Go.bits .and .u64 (IntKind.u64.wrap (x243002)) t256)) x243001).bind fun bt262 => (some (bt262.1, bt262.2.1, bt262.2.2.1, bt262.2.2.2.1, bt262.2.2.2.2))))) else (some (x243000, x243001, x243002, x243003, true))
end
def jacquardref13_Tighten.f (k : Nat) (a0 : Int) (a1_0 : Int) (a1_1 : Int) (a1_2 : Int) (a1_3 : Int) : Option (Int × Int × Int × Int × Bool) := (jacquardref13_Valid.f k a0 a1_0 a1_1 a1_2 a1_3).bind fun t244 => (if t244 = true then ((jacquardref13_Smax.f k a0).bind fun t245 => (if a1_1 ≤ (IntKind.u64.wrap (t245)) then (jacquardref13_Tighten.j0 k a0 (IntKind.u64.wrap (t245)) true a1_0 a1_1 a1_2 a1_3) else (jacquardref13_Tighten.j0 k a0 (IntKind.u64.wrap (t245)) (decide (a1_2 ≥ 0)) a1_0 a1_1 a1_2 a1_3))) else (some (0, 0, 0, 0, false)))
theorem jacquardref13_Tighten.mono_l : ∀ k, (∀ y0 y1 y2 y3 y4 y5 y6, LeO (jacquardref13_Tighten.j0 k y0 y1 y2 y3 y4 y5 y6) (jacquardref13_Tighten.j0 (k + 1) y0 y1 y2 y3 y4 y5 y6)) ∧ (∀ y0 y1 y2 y3 y4 y5 y6, LeO (jacquardref13_Tighten.j1 k y0 y1 y2 y3 y4 y5 y6) (jacquardref13_Tighten.j1 (k + 1) y0 y1 y2 y3 y4 y5 y6))
 | 0 => ⟨fun _ _ _ _ _ _ _ r h => by simp [jacquardref13_Tighten.j0] at h, fun _ _ _ _ _ _ _ r h => by simp [jacquardref13_Tighten.j1] at h⟩
 | k + 1 => by
  obtain ⟨ih0, ih1⟩ := jacquardref13_Tighten.mono_l k
  refine ⟨?_, ?_⟩
  ·
   intro y0 y1 y2 y3 y4 y5 y6
   unfold jacquardref13_Tighten.j0
   repeat' first
   | (with_reducible exact ih0 _ _ _ _ _ _ _)
   | (with_reducible exact ih1 _ _ _ _ _ _ _)
   | (with_reducible exact jacquardref13_Smax.mono _ _)
   | (with_reducible exact jacquardref13_Umax.mono _ _)
   | (with_reducible exact jacquardref13_Valid.mono _ _ _ _ _ _)
   | (with_reducible exact jacquardref13_same.mono _ _ _ _)
   | (with_reducible exact LeO.refl _)
   | (with_reducible exact LeO.none _)
   | (with_reducible refine LeO.ite ?_ ?_)
   | (with_reducible refine LeO.bind ?_ (fun _ => ?_))
   | exact ih0 _ _ _ _ _ _ _
   | exact ih1 _ _ _ _ _ _ _
   | exact jacquardref13_Smax.mono _ _
   | exact jacquardref13_Umax.mono _ _
   | exact jacquardref13_Valid.mono _ _ _ _ _ _
   | exact jacquardref13_same.mono _ _ _ _
   | exact LeO.none _
   | refine LeO.ite ?_ ?_
   | refine LeO.bind ?_ (fun _ => ?_)
  ·
   intro y0 y1 y2 y3 y4 y5 y6
   unfold jacquardref13_Tighten.j1
   repeat' first
   | (with_reducible exact ih0 _ _ _ _ _ _ _)
   | (with_reducible exact ih1 _ _ _ _ _ _ _)
   | (with_reducible exact jacquardref13_Smax.mono _ _)
   | (with_reducible exact jacquardref13_Umax.mono _ _)
   | (with_reducible exact jacquardref13_Valid.mono _ _ _ _ _ _)
   | (with_reducible exact jacquardref13_same.mono _ _ _ _)
   | (with_reducible exact LeO.refl _)
   | (with_reducible exact LeO.none _)
   | (with_reducible refine LeO.ite ?_ ?_)
   | (with_reducible refine LeO.bind ?_ (fun _ => ?_))
   | exact ih0 _ _ _ _ _ _ _
   | exact ih1 _ _ _ _ _ _ _
   | exact jacquardref13_Smax.mono _ _
   | exact jacquardref13_Umax.mono _ _
   | exact jacquardref13_Valid.mono _ _ _ _ _ _
   | exact jacquardref13_same.mono _ _ _ _
   | exact LeO.none _
   | refine LeO.ite ?_ ?_
   | refine LeO.bind ?_ (fun _ => ?_)
theorem jacquardref13_Tighten.mono : ∀ a0 a1 a2 a3 a4 k, LeO (jacquardref13_Tighten.f k a0 a1 a2 a3 a4) (jacquardref13_Tighten.f (k + 1) a0 a1 a2 a3 a4) := by
 intro a0 a1 a2 a3 a4 k
 obtain ⟨ih0, ih1⟩ := jacquardref13_Tighten.mono_l k
 unfold jacquardref13_Tighten.f
 repeat' first
   | (with_reducible exact ih0 _ _ _ _ _ _ _)
   | (with_reducible exact ih1 _ _ _ _ _ _ _)
   | (with_reducible exact jacquardref13_Smax.mono _ _)
   | (with_reducible exact jacquardref13_Umax.mono _ _)
   | (with_reducible exact jacquardref13_Valid.mono _ _ _ _ _ _)
   | (with_reducible exact jacquardref13_same.mono _ _ _ _)
   | (with_reducible exact LeO.refl _)
   | (with_reducible exact LeO.none _)
   | (with_reducible refine LeO.ite ?_ ?_)
   | (with_reducible refine LeO.bind ?_ (fun _ => ?_))
   | exact ih0 _ _ _ _ _ _ _
   | exact ih1 _ _ _ _ _ _ _
   | exact jacquardref13_Smax.mono _ _
   | exact jacquardref13_Umax.mono _ _
   | exact jacquardref13_Valid.mono _ _ _ _ _ _
   | exact jacquardref13_same.mono _ _ _ _
   | exact LeO.none _
   | refine LeO.ite ?_ ?_
   | refine LeO.bind ?_ (fun _ => ?_)
set_option maxHeartbeats 8000000 in
set_option maxRecDepth 100000 in
theorem jacquardref13_Tighten.calls (k : Nat) (a0 : Int) (a1_0 : Int) (a1_1 : Int) (a1_2 : Int) (a1_3 : Int) (r1 : Int) (r2 : Int) (r3 : Int) (r4 : Int) (r5 : Bool) (w : World) (h : jacquardref13_Tighten.f k a0 a1_0 a1_1 a1_2 a1_3 = some (r1, r2, r3, r4, r5)) :
  Calls Try.prog 59 #[.int .i64 a0, .agg #[.int .u64 a1_0, .int .u64 a1_1, .int .i64 a1_2, .int .i64 a1_3]] w fun e w' => e = .returned (.tuple #[.agg #[.int .u64 r1, .int .u64 r2, .int .i64 r3, .int .i64 r4], .bool r5]) ∧ Below w.heap.size w w' := by
 have hu30 := Try.underlying30
 have HB := Aside0.mk (Below.refl w.heap.size w)
 have H : ((jacquardref13_Valid.f k a0 a1_0 a1_1 a1_2 a1_3).bind fun t244 => (if t244 = true then ((jacquardref13_Smax.f k a0).bind fun t245 => (if a1_1 ≤ (IntKind.u64.wrap (t245)) then (jacquardref13_Tighten.j0 k a0 (IntKind.u64.wrap (t245)) true a1_0 a1_1 a1_2 a1_3) else (jacquardref13_Tighten.j0 k a0 (IntKind.u64.wrap (t245)) (decide (a1_2 ≥ 0)) a1_0 a1_1 a1_2 a1_3))) else (some (0, 0, 0, 0, false)))) = some (r1, r2, r3, r4, r5) := h
 clear h
 replace H := Option.bind_eq_some_iff.mp H
 obtain ⟨t244, A30, H⟩ := H
 replace H : (if t244 = true then ((jacquardref13_Smax.f k a0).bind fun t245 => (if a1_1 ≤ (IntKind.u64.wrap (t245)) then (jacquardref13_Tighten.j0 k a0 (IntKind.u64.wrap (t245)) true a1_0 a1_1 a1_2 a1_3) else (jacquardref13_Tighten.j0 k a0 (IntKind.u64.wrap (t245)) (decide (a1_2 ≥ 0)) a1_0 a1_1 a1_2 a1_3))) else (some (0, 0, 0, 0, false))) = some (r1, r2, r3, r4, r5) := H
 have A3 := Aside0.mk A30
 clear A30
 by_cases c4 : t244 = true
 ·
  subst c4
  have H1 : ((jacquardref13_Smax.f k a0).bind fun t245 => (if a1_1 ≤ (IntKind.u64.wrap (t245)) then (jacquardref13_Tighten.j0 k a0 (IntKind.u64.wrap (t245)) true a1_0 a1_1 a1_2 a1_3) else (jacquardref13_Tighten.j0 k a0 (IntKind.u64.wrap (t245)) (decide (a1_2 ≥ 0)) a1_0 a1_1 a1_2 a1_3))) = some (r1, r2, r3, r4, r5) := by rw [if_pos rfl] at H; exact H
  clear H
  have H := H1
  clear H1
  replace H := Option.bind_eq_some_iff.mp H
  obtain ⟨t245, A50, H⟩ := H
  replace H : (if a1_1 ≤ (IntKind.u64.wrap (t245)) then (jacquardref13_Tighten.j0 k a0 (IntKind.u64.wrap (t245)) true a1_0 a1_1 a1_2 a1_3) else (jacquardref13_Tighten.j0 k a0 (IntKind.u64.wrap (t245)) (decide (a1_2 ≥ 0)) a1_0 a1_1 a1_2 a1_3)) = some (r1, r2, r3, r4, r5) := H
  have A5 := Aside0.mk A50
  clear A50
  have HC6 := Aside0.mk H
  clear H
  go_enter Try.func59, Try.ntmps59
  go_upto_region 4 with (first | ((with_reducible refine gate_dst (N := 3) rfl ?_); refine box_event ?hg (N := 3) ?hd (cs := #[.int .u64 a1_0, .int .u64 a1_1, .int .i64 a1_2, .int .i64 a1_3]) (t := 30) ?hr ?_; (case hd => rfl); (case hg => rfl); (case hr => first | (go_simp; done) | (go_simp; rfl)); intro gb242 hg w7 hbox hb; have n0_ := bsB HB.out hb; have n1_ := Aside0.mk (hbox); have n2_ := szB hg HB.out; have n3_ := szB hg HB.out; clear HB; have HB := n0_; have BK242 := n1_; have GW242 := n2_; have GE242 := n3_; clear n0_ n1_ n2_ n3_; clear hb hbox hg) | ((with_reducible refine gate_dst (N := 4) rfl ?_); refine box_event ?hg (N := 4) ?hd (cs := #[.int .u64 0, .int .u64 0, .int .i64 0, .int .i64 0]) (t := 30) ?hr ?_; (case hd => rfl); (case hg => rfl); (case hr => first | (go_simp; done) | (go_simp; rfl)); intro gb243 hg w8 hbox hb; have n0_ := bkB BK242.out hb; have n1_ := bsB HB.out hb; have n2_ := Aside0.mk (hbox); have n3_ := szB hg HB.out; have n4_ := szB hg HB.out; have n5_ := Aside0.mk ((by rw [hg]; exact Nat.ne_of_lt (blk_lt (g := gb242) (o := .cells #[.int .u64 a1_0, .int .u64 a1_1, .int .i64 a1_2, .int .i64 a1_3] 30 (0, 0)) (by exact bfL BK242.out)) : gb242 ≠ gb243)); have n6_ := Aside0.mk ((by rw [hg]; exact Nat.ne_of_gt (blk_lt (g := gb242) (o := .cells #[.int .u64 a1_0, .int .u64 a1_1, .int .i64 a1_2, .int .i64 a1_3] 30 (0, 0)) (by exact bfL BK242.out)) : gb243 ≠ gb242)); clear BK242; clear HB; have BK242 := n0_; have HB := n1_; have BK243 := n2_; have GW243 := n3_; have GE243 := n4_; have NB242_243 := n5_; have NB243_242 := n6_; clear n0_ n1_ n2_ n3_ n4_ n5_ n6_; clear hb hbox hg; have hnb9 := NB242_243.out; have hnc9 := NB243_242.out; have hcz10_0 : w8.cell? ⟨gb242, 0, none⟩ = some (.int .u64 a1_0) := (blk_cell BK242.out 0).trans rfl; have hcz10_1 : w8.cell? ⟨gb242, 1, none⟩ = some (.int .u64 a1_1) := (blk_cell BK242.out 1).trans rfl; have hcz10_2 : w8.cell? ⟨gb242, 2, none⟩ = some (.int .i64 a1_2) := (blk_cell BK242.out 2).trans rfl; have hcz10_3 : w8.cell? ⟨gb242, 3, none⟩ = some (.int .i64 a1_3) := (blk_cell BK242.out 3).trans rfl; have hfz10_0 := blk_frozen BK242.out 0; have hfz10_1 := blk_frozen BK242.out 1; have hfz10_2 := blk_frozen BK242.out 2; have hfz10_3 := blk_frozen BK242.out 3) | (go_at_call 74; (with_reducible refine (jacquardref13_Valid.calls k a0 a1_0 a1_1 a1_2 a1_3 true _ A3.out).mono ?_); rintro e w11 ⟨rfl, hb⟩; have n0_ := bkB BK242.out hb; have n1_ := bkB BK243.out hb; have n2_ := bsB HB.out hb; clear BK242; clear BK243; clear HB; have BK242 := n0_; have BK243 := n1_; have HB := n2_; clear n0_ n1_ n2_; (try clear hb); (try clear hb2); (try clear hk); (try clear hi)) | (go_at_call 134; (with_reducible refine (jacquardref13_Smax.calls k a0 t245 _ A5.out).mono ?_); rintro e w' ⟨rfl, ⟨nd, rfl⟩⟩; (try first | exact ⟨rfl, _, World.drewN_drewN _ _ _⟩ | exact ⟨rfl, _, Eq.trans (World.drewN_drewN _ _ _) (congrArg (World.drewN _) (Nat.add_assoc _ _ _))⟩)))
  repeat (go_quiet (first | ((with_reducible refine gate_dst (N := 3) rfl ?_); refine box_event ?hg (N := 3) ?hd (cs := #[.int .u64 a1_0, .int .u64 a1_1, .int .i64 a1_2, .int .i64 a1_3]) (t := 30) ?hr ?_; (case hd => rfl); (case hg => rfl); (case hr => first | (go_simp; done) | (go_simp; rfl)); intro gb242 hg w7 hbox hb; have n0_ := bsB HB.out hb; have n1_ := Aside0.mk (hbox); have n2_ := szB hg HB.out; have n3_ := szB hg HB.out; clear HB; have HB := n0_; have BK242 := n1_; have GW242 := n2_; have GE242 := n3_; clear n0_ n1_ n2_ n3_; clear hb hbox hg) | ((with_reducible refine gate_dst (N := 4) rfl ?_); refine box_event ?hg (N := 4) ?hd (cs := #[.int .u64 0, .int .u64 0, .int .i64 0, .int .i64 0]) (t := 30) ?hr ?_; (case hd => rfl); (case hg => rfl); (case hr => first | (go_simp; done) | (go_simp; rfl)); intro gb243 hg w8 hbox hb; have n0_ := bkB BK242.out hb; have n1_ := bsB HB.out hb; have n2_ := Aside0.mk (hbox); have n3_ := szB hg HB.out; have n4_ := szB hg HB.out; have n5_ := Aside0.mk ((by rw [hg]; exact Nat.ne_of_lt (blk_lt (g := gb242) (o := .cells #[.int .u64 a1_0, .int .u64 a1_1, .int .i64 a1_2, .int .i64 a1_3] 30 (0, 0)) (by exact bfL BK242.out)) : gb242 ≠ gb243)); have n6_ := Aside0.mk ((by rw [hg]; exact Nat.ne_of_gt (blk_lt (g := gb242) (o := .cells #[.int .u64 a1_0, .int .u64 a1_1, .int .i64 a1_2, .int .i64 a1_3] 30 (0, 0)) (by exact bfL BK242.out)) : gb243 ≠ gb242)); clear BK242; clear HB; have BK242 := n0_; have HB := n1_; have BK243 := n2_; have GW243 := n3_; have GE243 := n4_; have NB242_243 := n5_; have NB243_242 := n6_; clear n0_ n1_ n2_ n3_ n4_ n5_ n6_; clear hb hbox hg; have hnb9 := NB242_243.out; have hnc9 := NB243_242.out; have hcz10_0 : w8.cell? ⟨gb242, 0, none⟩ = some (.int .u64 a1_0) := (blk_cell BK242.out 0).trans rfl; have hcz10_1 : w8.cell? ⟨gb242, 1, none⟩ = some (.int .u64 a1_1) := (blk_cell BK242.out 1).trans rfl; have hcz10_2 : w8.cell? ⟨gb242, 2, none⟩ = some (.int .i64 a1_2) := (blk_cell BK242.out 2).trans rfl; have hcz10_3 : w8.cell? ⟨gb242, 3, none⟩ = some (.int .i64 a1_3) := (blk_cell BK242.out 3).trans rfl; have hfz10_0 := blk_frozen BK242.out 0; have hfz10_1 := blk_frozen BK242.out 1; have hfz10_2 := blk_frozen BK242.out 2; have hfz10_3 := blk_frozen BK242.out 3) | (go_at_call 74; (with_reducible refine (jacquardref13_Valid.calls k a0 a1_0 a1_1 a1_2 a1_3 true _ A3.out).mono ?_); rintro e w11 ⟨rfl, hb⟩; have n0_ := bkB BK242.out hb; have n1_ := bkB BK243.out hb; have n2_ := bsB HB.out hb; clear BK242; clear BK243; clear HB; have BK242 := n0_; have BK243 := n1_; have HB := n2_; clear n0_ n1_ n2_; (try clear hb); (try clear hb2); (try clear hk); (try clear hi)) | (go_at_call 134; (with_reducible refine (jacquardref13_Smax.calls k a0 t245 _ A5.out).mono ?_); rintro e w' ⟨rfl, ⟨nd, rfl⟩⟩; (try first | exact ⟨rfl, _, World.drewN_drewN _ _ _⟩ | exact ⟨rfl, _, Eq.trans (World.drewN_drewN _ _ _) (congrArg (World.drewN _) (Nat.add_assoc _ _ _))⟩))); go_upto_region 4 with (first | ((with_reducible refine gate_dst (N := 3) rfl ?_); refine box_event ?hg (N := 3) ?hd (cs := #[.int .u64 a1_0, .int .u64 a1_1, .int .i64 a1_2, .int .i64 a1_3]) (t := 30) ?hr ?_; (case hd => rfl); (case hg => rfl); (case hr => first | (go_simp; done) | (go_simp; rfl)); intro gb242 hg w7 hbox hb; have n0_ := bsB HB.out hb; have n1_ := Aside0.mk (hbox); have n2_ := szB hg HB.out; have n3_ := szB hg HB.out; clear HB; have HB := n0_; have BK242 := n1_; have GW242 := n2_; have GE242 := n3_; clear n0_ n1_ n2_ n3_; clear hb hbox hg) | ((with_reducible refine gate_dst (N := 4) rfl ?_); refine box_event ?hg (N := 4) ?hd (cs := #[.int .u64 0, .int .u64 0, .int .i64 0, .int .i64 0]) (t := 30) ?hr ?_; (case hd => rfl); (case hg => rfl); (case hr => first | (go_simp; done) | (go_simp; rfl)); intro gb243 hg w8 hbox hb; have n0_ := bkB BK242.out hb; have n1_ := bsB HB.out hb; have n2_ := Aside0.mk (hbox); have n3_ := szB hg HB.out; have n4_ := szB hg HB.out; have n5_ := Aside0.mk ((by rw [hg]; exact Nat.ne_of_lt (blk_lt (g := gb242) (o := .cells #[.int .u64 a1_0, .int .u64 a1_1, .int .i64 a1_2, .int .i64 a1_3] 30 (0, 0)) (by exact bfL BK242.out)) : gb242 ≠ gb243)); have n6_ := Aside0.mk ((by rw [hg]; exact Nat.ne_of_gt (blk_lt (g := gb242) (o := .cells #[.int .u64 a1_0, .int .u64 a1_1, .int .i64 a1_2, .int .i64 a1_3] 30 (0, 0)) (by exact bfL BK242.out)) : gb243 ≠ gb242)); clear BK242; clear HB; have BK242 := n0_; have HB := n1_; have BK243 := n2_; have GW243 := n3_; have GE243 := n4_; have NB242_243 := n5_; have NB243_242 := n6_; clear n0_ n1_ n2_ n3_ n4_ n5_ n6_; clear hb hbox hg; have hnb9 := NB242_243.out; have hnc9 := NB243_242.out; have hcz10_0 : w8.cell? ⟨gb242, 0, none⟩ = some (.int .u64 a1_0) := (blk_cell BK242.out 0).trans rfl; have hcz10_1 : w8.cell? ⟨gb242, 1, none⟩ = some (.int .u64 a1_1) := (blk_cell BK242.out 1).trans rfl; have hcz10_2 : w8.cell? ⟨gb242, 2, none⟩ = some (.int .i64 a1_2) := (blk_cell BK242.out 2).trans rfl; have hcz10_3 : w8.cell? ⟨gb242, 3, none⟩ = some (.int .i64 a1_3) := (blk_cell BK242.out 3).trans rfl; have hfz10_0 := blk_frozen BK242.out 0; have hfz10_1 := blk_frozen BK242.out 1; have hfz10_2 := blk_frozen BK242.out 2; have hfz10_3 := blk_frozen BK242.out 3) | (go_at_call 74; (with_reducible refine (jacquardref13_Valid.calls k a0 a1_0 a1_1 a1_2 a1_3 true _ A3.out).mono ?_); rintro e w11 ⟨rfl, hb⟩; have n0_ := bkB BK242.out hb; have n1_ := bkB BK243.out hb; have n2_ := bsB HB.out hb; clear BK242; clear BK243; clear HB; have BK242 := n0_; have BK243 := n1_; have HB := n2_; clear n0_ n1_ n2_; (try clear hb); (try clear hb2); (try clear hk); (try clear hi)) | (go_at_call 134; (with_reducible refine (jacquardref13_Smax.calls k a0 t245 _ A5.out).mono ?_); rintro e w' ⟨rfl, ⟨nd, rfl⟩⟩; (try first | exact ⟨rfl, _, World.drewN_drewN _ _ _⟩ | exact ⟨rfl, _, Eq.trans (World.drewN_drewN _ _ _) (congrArg (World.drewN _) (Nat.add_assoc _ _ _))⟩))))
  (try simp only [Act.put, List.setIfInBounds_toArray, List.set_cons_zero, List.set_cons_succ])
  go_cut [26] (fun v26 wc => ∃ (kq : Nat) (x26_5 : Bool), v26 = .bool x26_5 ∧ Aside0 (jacquardref13_Tighten.j0 kq a0 (IntKind.u64.wrap (t245)) x26_5 a1_0 a1_1 a1_2 a1_3 = some (r1, r2, r3, r4, r5)) ∧ Aside0 (kq ≤ k) ∧ Aside0 (wc.heap[gb242]? = some (.cells #[.int .u64 a1_0, .int .u64 a1_1, .int .i64 a1_2, .int .i64 a1_3] 30 (0, 0))) ∧ Aside0 (wc.heap[gb243]? = some (.cells #[.int .u64 0, .int .u64 0, .int .i64 0, .int .i64 0] 30 (0, 0))) ∧ Aside0 (Below w.heap.size w wc))
  case first =>
   have H := HC6.out
   clear HC6
   by_cases c12 : a1_1 ≤ (IntKind.u64.wrap (t245))
   ·
    rw [if_pos c12] at H
    have c12b0 : decide (a1_1 ≤ (IntKind.u64.wrap (t245))) = true := decide_eq_true c12
    clear c12
    (first | rw [c12b0] | (simp only [i64_w, i32_w]; rw [c12b0]) | skip)
    have H' := Aside0.mk H
    clear H
    have hnb13 := NB242_243.out
    have hnc13 := NB243_242.out
    have hcz14_0 : w11.cell? ⟨gb242, 0, none⟩ = some (.int .u64 a1_0) := (blk_cell BK242.out 0).trans rfl
    have hcz14_1 : w11.cell? ⟨gb242, 1, none⟩ = some (.int .u64 a1_1) := (blk_cell BK242.out 1).trans rfl
    have hcz14_2 : w11.cell? ⟨gb242, 2, none⟩ = some (.int .i64 a1_2) := (blk_cell BK242.out 2).trans rfl
    have hcz14_3 : w11.cell? ⟨gb242, 3, none⟩ = some (.int .i64 a1_3) := (blk_cell BK242.out 3).trans rfl
    have hfz14_0 := blk_frozen BK242.out 0
    have hfz14_1 := blk_frozen BK242.out 1
    have hfz14_2 := blk_frozen BK242.out 2
    have hfz14_3 := blk_frozen BK242.out 3
    go_wp2
    repeat (go_quiet (fail); try go_wp2)
    go_meet
    case rel => exact ⟨_, (true), (by first | rfl | (simp; done) | (simp [*]; done)), H', ⟨by first | omega | exact Nat.le_refl _⟩, ⟨bkL BK242.out⟩, ⟨bkL BK243.out⟩, ⟨bsL HB.out⟩⟩
   ·
    rw [if_neg c12] at H
    have c12b0 : decide (a1_1 ≤ (IntKind.u64.wrap (t245))) = false := decide_eq_false c12
    clear c12
    (first | rw [c12b0] | (simp only [i64_w, i32_w]; rw [c12b0]) | skip)
    have H' := Aside0.mk H
    clear H
    have hnb15 := NB242_243.out
    have hnc15 := NB243_242.out
    have hcz16_0 : w11.cell? ⟨gb242, 0, none⟩ = some (.int .u64 a1_0) := (blk_cell BK242.out 0).trans rfl
    have hcz16_1 : w11.cell? ⟨gb242, 1, none⟩ = some (.int .u64 a1_1) := (blk_cell BK242.out 1).trans rfl
    have hcz16_2 : w11.cell? ⟨gb242, 2, none⟩ = some (.int .i64 a1_2) := (blk_cell BK242.out 2).trans rfl
    have hcz16_3 : w11.cell? ⟨gb242, 3, none⟩ = some (.int .i64 a1_3) := (blk_cell BK242.out 3).trans rfl
    have hfz16_0 := blk_frozen BK242.out 0
    have hfz16_1 := blk_frozen BK242.out 1
    have hfz16_2 := blk_frozen BK242.out 2
    have hfz16_3 := blk_frozen BK242.out 3
    go_wp2
    repeat (go_quiet (fail); try go_wp2)
    go_meet
    case rel => exact ⟨_, (decide (a1_2 ≥ 0)), (by first | rfl | (simp; done) | (simp [*]; done)), H', ⟨by first | omega | exact Nat.le_refl _⟩, ⟨bkL BK242.out⟩, ⟨bkL BK243.out⟩, ⟨bsL HB.out⟩⟩
  case rest =>
   clear HC6
   try clear c1
   try clear p2
   try clear c4
   try clear c5
   try clear c9
   try clear c12
   try clear c12b0
   try clear c13
   try clear c15
   try clear hcz10_0
   try clear hcz10_1
   try clear hcz10_2
   try clear hcz10_3
   try clear hcz14_0
   try clear hcz14_1
   try clear hcz14_2
   try clear hcz14_3
   try clear hcz16_0
   try clear hcz16_1
   try clear hcz16_2
   try clear hcz16_3
   try clear hfz10_0
   try clear hfz10_1
   try clear hfz10_2
   try clear hfz10_3
   try clear hfz14_0
   try clear hfz14_1
   try clear hfz14_2
   try clear hfz14_3
   try clear hfz16_0
   try clear hfz16_1
   try clear hfz16_2
   try clear hfz16_3
   obtain ⟨kq, x26_5, rfl, HA, HJ5, BK242, BK243, HB⟩ := hcut
   cases kq with
   | zero => exact absurd HA.out (by simp [jacquardref13_Tighten.j0])
   | succ kj5 =>
    have H := HA.out
    clear HA
    simp only [jacquardref13_Tighten.j0] at H
    by_cases c17 : x26_5 = true
    ·
     subst c17
     have H1 : (if a1_3 < 0 then (some (0, 0, 0, 0, false)) else (if a1_2 > 0 then ((jacquardref13_same.f kj5 a0 (mx a1_0 (IntKind.u64.wrap (a1_2))) (mn a1_1 (IntKind.u64.wrap (a1_3)))).bind fun bt246 => (some (bt246.1, bt246.2.1, bt246.2.2.1, bt246.2.2.2.1, bt246.2.2.2.2))) else ((jacquardref13_same.f kj5 a0 a1_0 (mn a1_1 (IntKind.u64.wrap (a1_3)))).bind fun bt251 => (some (bt251.1, bt251.2.1, bt251.2.2.1, bt251.2.2.2.1, bt251.2.2.2.2))))) = some (r1, r2, r3, r4, r5) := by rw [if_pos rfl] at H; exact H
     clear H
     have H := H1
     clear H1
     by_cases c18 : a1_3 < 0
     ·
      rw [if_pos c18] at H
      have c18b0 : decide (a1_3 < 0) = true := decide_eq_true c18
      clear c18
      simp only [Option.some.injEq, Prod.mk.injEq] at H
      obtain ⟨rfl, rfl, rfl, rfl, rfl⟩ := H
      have hnb19 := NB242_243.out
      have hnc19 := NB243_242.out
      have hcz20_0 : wc.cell? ⟨gb242, 0, none⟩ = some (.int .u64 a1_0) := (blk_cell BK242.out 0).trans rfl
      have hcz20_1 : wc.cell? ⟨gb242, 1, none⟩ = some (.int .u64 a1_1) := (blk_cell BK242.out 1).trans rfl
      have hcz20_2 : wc.cell? ⟨gb242, 2, none⟩ = some (.int .i64 a1_2) := (blk_cell BK242.out 2).trans rfl
      have hcz20_3 : wc.cell? ⟨gb242, 3, none⟩ = some (.int .i64 a1_3) := (blk_cell BK242.out 3).trans rfl
      have hfz20_0 := blk_frozen BK242.out 0
      have hfz20_1 := blk_frozen BK242.out 1
      have hfz20_2 := blk_frozen BK242.out 2
      have hfz20_3 := blk_frozen BK242.out 3
      have hcz21_0 : wc.cell? ⟨gb243, 0, none⟩ = some (.int .u64 0) := (blk_cell BK243.out 0).trans rfl
      have hcz21_1 : wc.cell? ⟨gb243, 1, none⟩ = some (.int .u64 0) := (blk_cell BK243.out 1).trans rfl
      have hcz21_2 : wc.cell? ⟨gb243, 2, none⟩ = some (.int .i64 0) := (blk_cell BK243.out 2).trans rfl
      have hcz21_3 : wc.cell? ⟨gb243, 3, none⟩ = some (.int .i64 0) := (blk_cell BK243.out 3).trans rfl
      have hfz21_0 := blk_frozen BK243.out 0
      have hfz21_1 := blk_frozen BK243.out 1
      have hfz21_2 := blk_frozen BK243.out 2
      have hfz21_3 := blk_frozen BK243.out 3
      go_wp2
      repeat (go_quiet (fail); try go_wp2)
      refine bodyPost_ret (results_ct rfl _ _ gb243 30 #[.int .u64 0, .int .u64 0, .int .i64 0, .int .i64 0] (0, 0) _ rfl (by (with_reducible repeat (first | refine blk_drewN ?_ _ | refine blk_drew ?_ | refine blk_alloc ?_ _)); refine blk_put (cs := #[.int .u64 0, .int .u64 0, .int .i64 0, .int .i64 0]) ?_ 3 _ rfl; (with_reducible repeat (first | refine blk_drewN ?_ _ | refine blk_drew ?_ | refine blk_alloc ?_ _)); refine blk_put (cs := #[.int .u64 0, .int .u64 0, .int .i64 0, .int .i64 0]) ?_ 2 _ rfl; (with_reducible repeat (first | refine blk_drewN ?_ _ | refine blk_drew ?_ | refine blk_alloc ?_ _)); refine blk_put (cs := #[.int .u64 0, .int .u64 0, .int .i64 0, .int .i64 0]) ?_ 1 _ rfl; (with_reducible repeat (first | refine blk_drewN ?_ _ | refine blk_drew ?_ | refine blk_alloc ?_ _)); refine blk_put (cs := #[.int .u64 0, .int .u64 0, .int .i64 0, .int .i64 0]) ?_ 0 _ rfl; exact bfL BK243.out) Try.underlying30 rfl (by kernel_rfl)) rfl ?_
      exact ⟨by first | rfl | (simp [errW_none, errW_some] <;> rfl) | (simp [*, errW_none, errW_some] <;> rfl), bsL HB.out⟩
     ·
      rw [if_neg c18] at H
      have c18b0 : decide (a1_3 < 0) = false := decide_eq_false c18
      clear c18
      by_cases c22 : a1_2 > 0
      ·
       rw [if_pos c22] at H
       have c22b0 : decide (0 < a1_2) = true := decide_eq_true c22
       clear c22
       obtain ⟨ji23, hji23⟩ : ∃ j_ : Int, (mx a1_0 (IntKind.u64.wrap (a1_2))) = j_ := ⟨_, rfl⟩
       replace H : ((jacquardref13_same.f kj5 a0 (ji23) (mn a1_1 (IntKind.u64.wrap (a1_3)))).bind fun bt246 => (some (bt246.1, bt246.2.1, bt246.2.2.1, bt246.2.2.2.1, bt246.2.2.2.2))) = some (r1, r2, r3, r4, r5) := by first | (rw [hji23] at H; exact H) | (simp only [hji23] at H ⊢; exact H)
       have hji23_ : (if a1_0 < (IntKind.u64.wrap (a1_2)) then (IntKind.u64.wrap (a1_2)) else a1_0) = ji23 := hji23
       obtain ⟨ji24, hji24⟩ : ∃ j_ : Int, (mn a1_1 (IntKind.u64.wrap (a1_3))) = j_ := ⟨_, rfl⟩
       replace H : ((jacquardref13_same.f kj5 a0 (ji23) (ji24)).bind fun bt246 => (some (bt246.1, bt246.2.1, bt246.2.2.1, bt246.2.2.2.1, bt246.2.2.2.2))) = some (r1, r2, r3, r4, r5) := by first | (rw [hji24] at H; exact H) | (simp only [hji24] at H ⊢; exact H)
       have hji24_ : (if (IntKind.u64.wrap (a1_3)) < a1_1 then (IntKind.u64.wrap (a1_3)) else a1_1) = ji24 := hji24
       replace H := Option.bind_eq_some_iff.mp H
       obtain ⟨⟨t246, t247, t248, t249, t250⟩, A250, H⟩ := H
       replace H : (some (t246, t247, t248, t249, t250)) = some (r1, r2, r3, r4, r5) := H
       have A25 := Aside0.mk A250
       clear A250
       simp only [Option.some.injEq, Prod.mk.injEq] at H
       obtain ⟨rfl, rfl, rfl, rfl, rfl⟩ := H
       have hnb26 := NB242_243.out
       have hnc26 := NB243_242.out
       have hcz27_0 : wc.cell? ⟨gb242, 0, none⟩ = some (.int .u64 a1_0) := (blk_cell BK242.out 0).trans rfl
       have hcz27_1 : wc.cell? ⟨gb242, 1, none⟩ = some (.int .u64 a1_1) := (blk_cell BK242.out 1).trans rfl
       have hcz27_2 : wc.cell? ⟨gb242, 2, none⟩ = some (.int .i64 a1_2) := (blk_cell BK242.out 2).trans rfl
       have hcz27_3 : wc.cell? ⟨gb242, 3, none⟩ = some (.int .i64 a1_3) := (blk_cell BK242.out 3).trans rfl
       have hfz27_0 := blk_frozen BK242.out 0
       have hfz27_1 := blk_frozen BK242.out 1
       have hfz27_2 := blk_frozen BK242.out 2
       have hfz27_3 := blk_frozen BK242.out 3
       go_wp2_with (first | (go_at_call 135; (with_reducible refine (jacquardref13_same.calls kj5 a0 ji23 ji24 t246 t247 t248 t249 t250 _ A25.out).mono ?_); rintro e w28 ⟨rfl, hb⟩; replace BK242 := bkB BK242.out hb; replace BK243 := bkB BK243.out hb; replace HB := bsB HB.out hb; (try clear hb); have hcz29_0 : w28.cell? ⟨gb243, 0, none⟩ = some (.int .u64 0) := (blk_cell BK243.out 0).trans rfl; have hcz29_1 : w28.cell? ⟨gb243, 1, none⟩ = some (.int .u64 0) := (blk_cell BK243.out 1).trans rfl; have hcz29_2 : w28.cell? ⟨gb243, 2, none⟩ = some (.int .i64 0) := (blk_cell BK243.out 2).trans rfl; have hcz29_3 : w28.cell? ⟨gb243, 3, none⟩ = some (.int .i64 0) := (blk_cell BK243.out 3).trans rfl; have hfz29_0 := blk_frozen BK243.out 0; have hfz29_1 := blk_frozen BK243.out 1; have hfz29_2 := blk_frozen BK243.out 2; have hfz29_3 := blk_frozen BK243.out 3))
       repeat (go_quiet (first | (go_at_call 135; (with_reducible refine (jacquardref13_same.calls kj5 a0 ji23 ji24 t246 t247 t248 t249 t250 _ A25.out).mono ?_); rintro e w28 ⟨rfl, hb⟩; replace BK242 := bkB BK242.out hb; replace BK243 := bkB BK243.out hb; replace HB := bsB HB.out hb; (try clear hb); have hcz29_0 : w28.cell? ⟨gb243, 0, none⟩ = some (.int .u64 0) := (blk_cell BK243.out 0).trans rfl; have hcz29_1 : w28.cell? ⟨gb243, 1, none⟩ = some (.int .u64 0) := (blk_cell BK243.out 1).trans rfl; have hcz29_2 : w28.cell? ⟨gb243, 2, none⟩ = some (.int .i64 0) := (blk_cell BK243.out 2).trans rfl; have hcz29_3 : w28.cell? ⟨gb243, 3, none⟩ = some (.int .i64 0) := (blk_cell BK243.out 3).trans rfl; have hfz29_0 := blk_frozen BK243.out 0; have hfz29_1 := blk_frozen BK243.out 1; have hfz29_2 := blk_frozen BK243.out 2; have hfz29_3 := blk_frozen BK243.out 3)); try go_wp2_with (first | (go_at_call 135; (with_reducible refine (jacquardref13_same.calls kj5 a0 ji23 ji24 t246 t247 t248 t249 t250 _ A25.out).mono ?_); rintro e w28 ⟨rfl, hb⟩; have n0_ := bkB BK242.out hb; have n1_ := bkB BK243.out hb; have n2_ := bsB HB.out hb; clear BK242; clear BK243; clear HB; have BK242 := n0_; have BK243 := n1_; have HB := n2_; clear n0_ n1_ n2_; (try clear hb); (try clear hb2); (try clear hk); (try clear hi); have hcz29_0 : w28.cell? ⟨gb243, 0, none⟩ = some (.int .u64 0) := (blk_cell BK243.out 0).trans rfl; have hcz29_1 : w28.cell? ⟨gb243, 1, none⟩ = some (.int .u64 0) := (blk_cell BK243.out 1).trans rfl; have hcz29_2 : w28.cell? ⟨gb243, 2, none⟩ = some (.int .i64 0) := (blk_cell BK243.out 2).trans rfl; have hcz29_3 : w28.cell? ⟨gb243, 3, none⟩ = some (.int .i64 0) := (blk_cell BK243.out 3).trans rfl; have hfz29_0 := blk_frozen BK243.out 0; have hfz29_1 := blk_frozen BK243.out 1; have hfz29_2 := blk_frozen BK243.out 2; have hfz29_3 := blk_frozen BK243.out 3)))
       refine bodyPost_ret (results_ct rfl _ _ gb243 30 #[.int .u64 t246, .int .u64 t247, .int .i64 t248, .int .i64 t249] (0, 0) _ rfl (by (with_reducible repeat (first | refine blk_drewN ?_ _ | refine blk_drew ?_ | refine blk_alloc ?_ _)); refine blk_put (cs := #[.int .u64 t246, .int .u64 t247, .int .i64 t248, .int .i64 0]) ?_ 3 _ rfl; (with_reducible repeat (first | refine blk_drewN ?_ _ | refine blk_drew ?_ | refine blk_alloc ?_ _)); refine blk_put (cs := #[.int .u64 t246, .int .u64 t247, .int .i64 0, .int .i64 0]) ?_ 2 _ rfl; (with_reducible repeat (first | refine blk_drewN ?_ _ | refine blk_drew ?_ | refine blk_alloc ?_ _)); refine blk_put (cs := #[.int .u64 t246, .int .u64 0, .int .i64 0, .int .i64 0]) ?_ 1 _ rfl; (with_reducible repeat (first | refine blk_drewN ?_ _ | refine blk_drew ?_ | refine blk_alloc ?_ _)); refine blk_put (cs := #[.int .u64 0, .int .u64 0, .int .i64 0, .int .i64 0]) ?_ 0 _ rfl; exact bfL BK243.out) Try.underlying30 rfl (by kernel_rfl)) rfl ?_
       exact ⟨by first | rfl | (simp [errW_none, errW_some] <;> rfl) | (simp only [← hji23, ← hji24]; first | rfl | (simp [errW_none, errW_some] <;> rfl)) | (simp [*, errW_none, errW_some] <;> rfl), bsL HB.out⟩
      ·
       rw [if_neg c22] at H
       have c22b0 : decide (0 < a1_2) = false := decide_eq_false c22
       clear c22
       obtain ⟨ji30, hji30⟩ : ∃ j_ : Int, (mn a1_1 (IntKind.u64.wrap (a1_3))) = j_ := ⟨_, rfl⟩
       replace H : ((jacquardref13_same.f kj5 a0 a1_0 (ji30)).bind fun bt251 => (some (bt251.1, bt251.2.1, bt251.2.2.1, bt251.2.2.2.1, bt251.2.2.2.2))) = some (r1, r2, r3, r4, r5) := by first | (rw [hji30] at H; exact H) | (simp only [hji30] at H ⊢; exact H)
       have hji30_ : (if (IntKind.u64.wrap (a1_3)) < a1_1 then (IntKind.u64.wrap (a1_3)) else a1_1) = ji30 := hji30
       replace H := Option.bind_eq_some_iff.mp H
       obtain ⟨⟨t251, t252, t253, t254, t255⟩, A310, H⟩ := H
       replace H : (some (t251, t252, t253, t254, t255)) = some (r1, r2, r3, r4, r5) := H
       have A31 := Aside0.mk A310
       clear A310
       simp only [Option.some.injEq, Prod.mk.injEq] at H
       obtain ⟨rfl, rfl, rfl, rfl, rfl⟩ := H
       have hnb32 := NB242_243.out
       have hnc32 := NB243_242.out
       have hcz33_0 : wc.cell? ⟨gb242, 0, none⟩ = some (.int .u64 a1_0) := (blk_cell BK242.out 0).trans rfl
       have hcz33_1 : wc.cell? ⟨gb242, 1, none⟩ = some (.int .u64 a1_1) := (blk_cell BK242.out 1).trans rfl
       have hcz33_2 : wc.cell? ⟨gb242, 2, none⟩ = some (.int .i64 a1_2) := (blk_cell BK242.out 2).trans rfl
       have hcz33_3 : wc.cell? ⟨gb242, 3, none⟩ = some (.int .i64 a1_3) := (blk_cell BK242.out 3).trans rfl
       have hfz33_0 := blk_frozen BK242.out 0
       have hfz33_1 := blk_frozen BK242.out 1
       have hfz33_2 := blk_frozen BK242.out 2
       have hfz33_3 := blk_frozen BK242.out 3
       go_wp2_with (first | (go_at_call 135; (with_reducible refine (jacquardref13_same.calls kj5 a0 a1_0 ji30 t251 t252 t253 t254 t255 _ A31.out).mono ?_); rintro e w34 ⟨rfl, hb⟩; replace BK242 := bkB BK242.out hb; replace BK243 := bkB BK243.out hb; replace HB := bsB HB.out hb; (try clear hb); have hcz35_0 : w34.cell? ⟨gb243, 0, none⟩ = some (.int .u64 0) := (blk_cell BK243.out 0).trans rfl; have hcz35_1 : w34.cell? ⟨gb243, 1, none⟩ = some (.int .u64 0) := (blk_cell BK243.out 1).trans rfl; have hcz35_2 : w34.cell? ⟨gb243, 2, none⟩ = some (.int .i64 0) := (blk_cell BK243.out 2).trans rfl; have hcz35_3 : w34.cell? ⟨gb243, 3, none⟩ = some (.int .i64 0) := (blk_cell BK243.out 3).trans rfl; have hfz35_0 := blk_frozen BK243.out 0; have hfz35_1 := blk_frozen BK243.out 1; have hfz35_2 := blk_frozen BK243.out 2; have hfz35_3 := blk_frozen BK243.out 3))
       repeat (go_quiet (first | (go_at_call 135; (with_reducible refine (jacquardref13_same.calls kj5 a0 a1_0 ji30 t251 t252 t253 t254 t255 _ A31.out).mono ?_); rintro e w34 ⟨rfl, hb⟩; replace BK242 := bkB BK242.out hb; replace BK243 := bkB BK243.out hb; replace HB := bsB HB.out hb; (try clear hb); have hcz35_0 : w34.cell? ⟨gb243, 0, none⟩ = some (.int .u64 0) := (blk_cell BK243.out 0).trans rfl; have hcz35_1 : w34.cell? ⟨gb243, 1, none⟩ = some (.int .u64 0) := (blk_cell BK243.out 1).trans rfl; have hcz35_2 : w34.cell? ⟨gb243, 2, none⟩ = some (.int .i64 0) := (blk_cell BK243.out 2).trans rfl; have hcz35_3 : w34.cell? ⟨gb243, 3, none⟩ = some (.int .i64 0) := (blk_cell BK243.out 3).trans rfl; have hfz35_0 := blk_frozen BK243.out 0; have hfz35_1 := blk_frozen BK243.out 1; have hfz35_2 := blk_frozen BK243.out 2; have hfz35_3 := blk_frozen BK243.out 3)); try go_wp2_with (first | (go_at_call 135; (with_reducible refine (jacquardref13_same.calls kj5 a0 a1_0 ji30 t251 t252 t253 t254 t255 _ A31.out).mono ?_); rintro e w34 ⟨rfl, hb⟩; have n0_ := bkB BK242.out hb; have n1_ := bkB BK243.out hb; have n2_ := bsB HB.out hb; clear BK242; clear BK243; clear HB; have BK242 := n0_; have BK243 := n1_; have HB := n2_; clear n0_ n1_ n2_; (try clear hb); (try clear hb2); (try clear hk); (try clear hi); have hcz35_0 : w34.cell? ⟨gb243, 0, none⟩ = some (.int .u64 0) := (blk_cell BK243.out 0).trans rfl; have hcz35_1 : w34.cell? ⟨gb243, 1, none⟩ = some (.int .u64 0) := (blk_cell BK243.out 1).trans rfl; have hcz35_2 : w34.cell? ⟨gb243, 2, none⟩ = some (.int .i64 0) := (blk_cell BK243.out 2).trans rfl; have hcz35_3 : w34.cell? ⟨gb243, 3, none⟩ = some (.int .i64 0) := (blk_cell BK243.out 3).trans rfl; have hfz35_0 := blk_frozen BK243.out 0; have hfz35_1 := blk_frozen BK243.out 1; have hfz35_2 := blk_frozen BK243.out 2; have hfz35_3 := blk_frozen BK243.out 3)))
       refine bodyPost_ret (results_ct rfl _ _ gb243 30 #[.int .u64 t251, .int .u64 t252, .int .i64 t253, .int .i64 t254] (0, 0) _ rfl (by (with_reducible repeat (first | refine blk_drewN ?_ _ | refine blk_drew ?_ | refine blk_alloc ?_ _)); refine blk_put (cs := #[.int .u64 t251, .int .u64 t252, .int .i64 t253, .int .i64 0]) ?_ 3 _ rfl; (with_reducible repeat (first | refine blk_drewN ?_ _ | refine blk_drew ?_ | refine blk_alloc ?_ _)); refine blk_put (cs := #[.int .u64 t251, .int .u64 t252, .int .i64 0, .int .i64 0]) ?_ 2 _ rfl; (with_reducible repeat (first | refine blk_drewN ?_ _ | refine blk_drew ?_ | refine blk_alloc ?_ _)); refine blk_put (cs := #[.int .u64 t251, .int .u64 0, .int .i64 0, .int .i64 0]) ?_ 1 _ rfl; (with_reducible repeat (first | refine blk_drewN ?_ _ | refine blk_drew ?_ | refine blk_alloc ?_ _)); refine blk_put (cs := #[.int .u64 0, .int .u64 0, .int .i64 0, .int .i64 0]) ?_ 0 _ rfl; exact bfL BK243.out) Try.underlying30 rfl (by kernel_rfl)) rfl ?_
       exact ⟨by first | rfl | (simp [errW_none, errW_some] <;> rfl) | (simp only [← hji30]; first | rfl | (simp [errW_none, errW_some] <;> rfl)) | (simp [*, errW_none, errW_some] <;> rfl), bsL HB.out⟩
    ·
     replace c17 := Bool.eq_false_iff.mpr c17
     subst c17
     have H1 : (if a1_0 > (IntKind.u64.wrap (t245)) then (jacquardref13_Tighten.j1 kj5 a0 (IntKind.u64.wrap (t245)) true a1_0 a1_1 a1_2 a1_3) else (jacquardref13_Tighten.j1 kj5 a0 (IntKind.u64.wrap (t245)) (decide (a1_3 < 0)) a1_0 a1_1 a1_2 a1_3)) = some (r1, r2, r3, r4, r5) := by rw [if_neg (show ¬ (false = true) by decide)] at H; exact H
     clear H
     have H := H1
     clear H1
     have HC36 := Aside0.mk H
     clear H
     go_upto_region 11 with (fail)
     repeat (go_quiet (fail); go_upto_region 11 with (fail))
     go_cut [60] (fun v60 wc => ∃ (kq : Nat) (x60_35 : Bool), v60 = .bool x60_35 ∧ Aside0 (jacquardref13_Tighten.j1 kq a0 (IntKind.u64.wrap (t245)) x60_35 a1_0 a1_1 a1_2 a1_3 = some (r1, r2, r3, r4, r5)) ∧ Aside0 (kq ≤ kj5) ∧ Aside0 (wc.heap[gb242]? = some (.cells #[.int .u64 a1_0, .int .u64 a1_1, .int .i64 a1_2, .int .i64 a1_3] 30 (0, 0))) ∧ Aside0 (wc.heap[gb243]? = some (.cells #[.int .u64 0, .int .u64 0, .int .i64 0, .int .i64 0] 30 (0, 0))) ∧ Aside0 (Below w.heap.size w wc))
     case first =>
      have H := HC36.out
      clear HC36
      by_cases c37 : a1_0 > (IntKind.u64.wrap (t245))
      ·
       rw [if_pos c37] at H
       have c37b0 : decide ((IntKind.u64.wrap (t245)) < a1_0) = true := decide_eq_true c37
       clear c37
       (first | rw [c37b0] | (simp only [i64_w, i32_w]; rw [c37b0]) | skip)
       have H' := Aside0.mk H
       clear H
       have hnb38 := NB242_243.out
       have hnc38 := NB243_242.out
       have hcz39_0 : wc.cell? ⟨gb242, 0, none⟩ = some (.int .u64 a1_0) := (blk_cell BK242.out 0).trans rfl
       have hcz39_1 : wc.cell? ⟨gb242, 1, none⟩ = some (.int .u64 a1_1) := (blk_cell BK242.out 1).trans rfl
       have hcz39_2 : wc.cell? ⟨gb242, 2, none⟩ = some (.int .i64 a1_2) := (blk_cell BK242.out 2).trans rfl
       have hcz39_3 : wc.cell? ⟨gb242, 3, none⟩ = some (.int .i64 a1_3) := (blk_cell BK242.out 3).trans rfl
       have hfz39_0 := blk_frozen BK242.out 0
       have hfz39_1 := blk_frozen BK242.out 1
       have hfz39_2 := blk_frozen BK242.out 2
       have hfz39_3 := blk_frozen BK242.out 3
       go_wp2
       repeat (go_quiet (fail); try go_wp2)
       go_meet
       case rel => exact ⟨_, (true), (by first | rfl | (simp; done) | (simp [*]; done)), H', ⟨by have := HJ5.out; first | omega | exact Nat.le_refl _⟩, ⟨bkL BK242.out⟩, ⟨bkL BK243.out⟩, ⟨bsL HB.out⟩⟩
      ·
       rw [if_neg c37] at H
       have c37b0 : decide ((IntKind.u64.wrap (t245)) < a1_0) = false := decide_eq_false c37
       clear c37
       (first | rw [c37b0] | (simp only [i64_w, i32_w]; rw [c37b0]) | skip)
       have H' := Aside0.mk H
       clear H
       have hnb40 := NB242_243.out
       have hnc40 := NB243_242.out
       have hcz41_0 : wc.cell? ⟨gb242, 0, none⟩ = some (.int .u64 a1_0) := (blk_cell BK242.out 0).trans rfl
       have hcz41_1 : wc.cell? ⟨gb242, 1, none⟩ = some (.int .u64 a1_1) := (blk_cell BK242.out 1).trans rfl
       have hcz41_2 : wc.cell? ⟨gb242, 2, none⟩ = some (.int .i64 a1_2) := (blk_cell BK242.out 2).trans rfl
       have hcz41_3 : wc.cell? ⟨gb242, 3, none⟩ = some (.int .i64 a1_3) := (blk_cell BK242.out 3).trans rfl
       have hfz41_0 := blk_frozen BK242.out 0
       have hfz41_1 := blk_frozen BK242.out 1
       have hfz41_2 := blk_frozen BK242.out 2
       have hfz41_3 := blk_frozen BK242.out 3
       go_wp2
       repeat (go_quiet (fail); try go_wp2)
       go_meet
       case rel => exact ⟨_, (decide (a1_3 < 0)), (by first | rfl | (simp; done) | (simp [*]; done)), H', ⟨by have := HJ5.out; first | omega | exact Nat.le_refl _⟩, ⟨bkL BK242.out⟩, ⟨bkL BK243.out⟩, ⟨bsL HB.out⟩⟩
     case rest =>
      clear HC36
      try clear c1
      try clear c2
      try clear p2
      try clear c3
      try clear c4
      try clear c5
      try clear c9
      try clear c12
      try clear c12b0
      try clear c13
      try clear c15
      try clear c17
      try clear c18
      try clear c18b0
      try clear c19
      try clear c22
      try clear c22b0
      try clear c26
      try clear c32
      try clear c37
      try clear c37b0
      try clear c38
      try clear c40
      try clear hcz10_0
      try clear hcz10_1
      try clear hcz10_2
      try clear hcz10_3
      try clear hcz14_0
      try clear hcz14_1
      try clear hcz14_2
      try clear hcz14_3
      try clear hcz16_0
      try clear hcz16_1
      try clear hcz16_2
      try clear hcz16_3
      try clear hcz20_0
      try clear hcz20_1
      try clear hcz20_2
      try clear hcz20_3
      try clear hcz21_0
      try clear hcz21_1
      try clear hcz21_2
      try clear hcz21_3
      try clear hcz27_0
      try clear hcz27_1
      try clear hcz27_2
      try clear hcz27_3
      try clear hcz29_0
      try clear hcz29_1
      try clear hcz29_2
      try clear hcz29_3
      try clear hcz33_0
      try clear hcz33_1
      try clear hcz33_2
      try clear hcz33_3
      try clear hcz35_0
      try clear hcz35_1
      try clear hcz35_2
      try clear hcz35_3
      try clear hcz39_0
      try clear hcz39_1
      try clear hcz39_2
      try clear hcz39_3
      try clear hcz41_0
      try clear hcz41_1
      try clear hcz41_2
      try clear hcz41_3
      try clear hfz10_0
      try clear hfz10_1
      try clear hfz10_2
      try clear hfz10_3
      try clear hfz14_0
      try clear hfz14_1
      try clear hfz14_2
      try clear hfz14_3
      try clear hfz16_0
      try clear hfz16_1
      try clear hfz16_2
      try clear hfz16_3
      try clear hfz20_0
      try clear hfz20_1
      try clear hfz20_2
      try clear hfz20_3
      try clear hfz21_0
      try clear hfz21_1
      try clear hfz21_2
      try clear hfz21_3
      try clear hfz27_0
      try clear hfz27_1
      try clear hfz27_2
      try clear hfz27_3
      try clear hfz29_0
      try clear hfz29_1
      try clear hfz29_2
      try clear hfz29_3
      try clear hfz33_0
      try clear hfz33_1
      try clear hfz33_2
      try clear hfz33_3
      try clear hfz35_0
      try clear hfz35_1
      try clear hfz35_2
      try clear hfz35_3
      try clear hfz39_0
      try clear hfz39_1
      try clear hfz39_2
      try clear hfz39_3
      try clear hfz41_0
      try clear hfz41_1
      try clear hfz41_2
      try clear hfz41_3
      try clear p2
      obtain ⟨kq, x60_35, rfl, HA, HJ35, BK242, BK243, HB⟩ := hcut
      cases kq with
      | zero => exact absurd HA.out (by simp [jacquardref13_Tighten.j1])
      | succ kj35 =>
       have H := HA.out
       clear HA
       simp only [jacquardref13_Tighten.j1] at H
       by_cases c42 : x60_35 = true
       ·
        subst c42
        have H1 : ((jacquardref13_Umax.f kj35 a0).bind fun t256 => (if a1_3 < 0 then ((jacquardref13_same.f kj35 a0 (mx (mx a1_0 (IntKind.u64.wrap ((IntKind.u64.wrap (t245)) + 1))) (Go.bits .and .u64 (IntKind.u64.wrap (a1_2)) t256)) (mn a1_1 (Go.bits .and .u64 (IntKind.u64.wrap (a1_3)) t256))).bind fun bt257 => (some (bt257.1, bt257.2.1, bt257.2.2.1, bt257.2.2.2.1, bt257.2.2.2.2))) else ((jacquardref13_same.f kj35 a0 (mx (mx a1_0 (IntKind.u64.wrap ((IntKind.u64.wrap (t245)) + 1))) (Go.bits .and .u64 (IntKind.u64.wrap (a1_2)) t256)) a1_1).bind fun bt262 => (some (bt262.1, bt262.2.1, bt262.2.2.1, bt262.2.2.2.1, bt262.2.2.2.2))))) = some (r1, r2, r3, r4, r5) := by rw [if_pos rfl] at H; exact H
        clear H
        have H := H1
        clear H1
        replace H := Option.bind_eq_some_iff.mp H
        obtain ⟨t256, A430, H⟩ := H
        replace H : (if a1_3 < 0 then ((jacquardref13_same.f kj35 a0 (mx (mx a1_0 (IntKind.u64.wrap ((IntKind.u64.wrap (t245)) + 1))) (Go.bits .and .u64 (IntKind.u64.wrap (a1_2)) t256)) (mn a1_1 (Go.bits .and .u64 (IntKind.u64.wrap (a1_3)) t256))).bind fun bt257 => (some (bt257.1, bt257.2.1, bt257.2.2.1, bt257.2.2.2.1, bt257.2.2.2.2))) else ((jacquardref13_same.f kj35 a0 (mx (mx a1_0 (IntKind.u64.wrap ((IntKind.u64.wrap (t245)) + 1))) (Go.bits .and .u64 (IntKind.u64.wrap (a1_2)) t256)) a1_1).bind fun bt262 => (some (bt262.1, bt262.2.1, bt262.2.2.1, bt262.2.2.2.1, bt262.2.2.2.2)))) = some (r1, r2, r3, r4, r5) := H
        have A43 := Aside0.mk A430
        clear A430
        obtain ⟨ji44, hji44⟩ : ∃ j_ : Int, (mx a1_0 (IntKind.u64.wrap ((IntKind.u64.wrap (t245)) + 1))) = j_ := ⟨_, rfl⟩
        replace H : (if a1_3 < 0 then ((jacquardref13_same.f kj35 a0 (mx (ji44) (Go.bits .and .u64 (IntKind.u64.wrap (a1_2)) t256)) (mn a1_1 (Go.bits .and .u64 (IntKind.u64.wrap (a1_3)) t256))).bind fun bt257 => (some (bt257.1, bt257.2.1, bt257.2.2.1, bt257.2.2.2.1, bt257.2.2.2.2))) else ((jacquardref13_same.f kj35 a0 (mx (ji44) (Go.bits .and .u64 (IntKind.u64.wrap (a1_2)) t256)) a1_1).bind fun bt262 => (some (bt262.1, bt262.2.1, bt262.2.2.1, bt262.2.2.2.1, bt262.2.2.2.2)))) = some (r1, r2, r3, r4, r5) := by first | (rw [hji44] at H; exact H) | (simp only [hji44] at H ⊢; exact H)
        (try rw [hji44] at A43)
        have hji44_ : (if a1_0 < (IntKind.u64.wrap ((IntKind.u64.wrap (t245)) + 1)) then (IntKind.u64.wrap ((IntKind.u64.wrap (t245)) + 1)) else a1_0) = ji44 := hji44
        obtain ⟨ji45, hji45⟩ : ∃ j_ : Int, (mx (ji44) (Go.bits .and .u64 (IntKind.u64.wrap (a1_2)) t256)) = j_ := ⟨_, rfl⟩
        replace H : (if a1_3 < 0 then ((jacquardref13_same.f kj35 a0 (ji45) (mn a1_1 (Go.bits .and .u64 (IntKind.u64.wrap (a1_3)) t256))).bind fun bt257 => (some (bt257.1, bt257.2.1, bt257.2.2.1, bt257.2.2.2.1, bt257.2.2.2.2))) else ((jacquardref13_same.f kj35 a0 (ji45) a1_1).bind fun bt262 => (some (bt262.1, bt262.2.1, bt262.2.2.1, bt262.2.2.2.1, bt262.2.2.2.2)))) = some (r1, r2, r3, r4, r5) := by first | (rw [hji45] at H; exact H) | (simp only [hji45] at H ⊢; exact H)
        (try rw [hji45] at A43)
        have hji45_ : (if (ji44) < (Go.bits .and .u64 (IntKind.u64.wrap (a1_2)) t256) then (Go.bits .and .u64 (IntKind.u64.wrap (a1_2)) t256) else (ji44)) = ji45 := hji45
        by_cases c46 : a1_3 < 0
        ·
         rw [if_pos c46] at H
         have c46b0 : decide (a1_3 < 0) = true := decide_eq_true c46
         clear c46
         obtain ⟨ji47, hji47⟩ : ∃ j_ : Int, (mn a1_1 (Go.bits .and .u64 (IntKind.u64.wrap (a1_3)) t256)) = j_ := ⟨_, rfl⟩
         replace H : ((jacquardref13_same.f kj35 a0 (ji45) (ji47)).bind fun bt257 => (some (bt257.1, bt257.2.1, bt257.2.2.1, bt257.2.2.2.1, bt257.2.2.2.2))) = some (r1, r2, r3, r4, r5) := by first | (rw [hji47] at H; exact H) | (simp only [hji47] at H ⊢; exact H)
         (try rw [hji47] at A43)
         (try rw [hji47] at A43)
         have hji47_ : (if (Go.bits .and .u64 (IntKind.u64.wrap (a1_3)) t256) < a1_1 then (Go.bits .and .u64 (IntKind.u64.wrap (a1_3)) t256) else a1_1) = ji47 := hji47
         replace H := Option.bind_eq_some_iff.mp H
         obtain ⟨⟨t257, t258, t259, t260, t261⟩, A480, H⟩ := H
         replace H : (some (t257, t258, t259, t260, t261)) = some (r1, r2, r3, r4, r5) := H
         have A48 := Aside0.mk A480
         clear A480
         simp only [Option.some.injEq, Prod.mk.injEq] at H
         obtain ⟨rfl, rfl, rfl, rfl, rfl⟩ := H
         have hnb49 := NB242_243.out
         have hnc49 := NB243_242.out
         have hcz50_0 : wc.cell? ⟨gb242, 0, none⟩ = some (.int .u64 a1_0) := (blk_cell BK242.out 0).trans rfl
         have hcz50_1 : wc.cell? ⟨gb242, 1, none⟩ = some (.int .u64 a1_1) := (blk_cell BK242.out 1).trans rfl
         have hcz50_2 : wc.cell? ⟨gb242, 2, none⟩ = some (.int .i64 a1_2) := (blk_cell BK242.out 2).trans rfl
         have hcz50_3 : wc.cell? ⟨gb242, 3, none⟩ = some (.int .i64 a1_3) := (blk_cell BK242.out 3).trans rfl
         have hfz50_0 := blk_frozen BK242.out 0
         have hfz50_1 := blk_frozen BK242.out 1
         have hfz50_2 := blk_frozen BK242.out 2
         have hfz50_3 := blk_frozen BK242.out 3
         go_wp2_with (first | (go_at_call 75; (with_reducible refine (jacquardref13_Umax.calls kj35 a0 t256 _ A43.out).mono ?_); rintro e w' ⟨rfl, ⟨nd, rfl⟩⟩; (try first | exact ⟨rfl, _, World.drewN_drewN _ _ _⟩ | exact ⟨rfl, _, Eq.trans (World.drewN_drewN _ _ _) (congrArg (World.drewN _) (Nat.add_assoc _ _ _))⟩)) | (go_at_call 75; (with_reducible refine (jacquardref13_Umax.calls kj35 a0 t256 _ A43.out).mono ?_); rintro e w' ⟨rfl, ⟨nd, rfl⟩⟩; (try first | exact ⟨rfl, _, World.drewN_drewN _ _ _⟩ | exact ⟨rfl, _, Eq.trans (World.drewN_drewN _ _ _) (congrArg (World.drewN _) (Nat.add_assoc _ _ _))⟩)) | (go_at_call 135; (with_reducible refine (jacquardref13_same.calls kj35 a0 ji45 ji47 t257 t258 t259 t260 t261 _ A48.out).mono ?_); rintro e w51 ⟨rfl, hb⟩; replace BK242 := bkB BK242.out hb; replace BK243 := bkB BK243.out hb; replace HB := bsB HB.out hb; (try clear hb); have hcz52_0 : w51.cell? ⟨gb243, 0, none⟩ = some (.int .u64 0) := (blk_cell BK243.out 0).trans rfl; have hcz52_1 : w51.cell? ⟨gb243, 1, none⟩ = some (.int .u64 0) := (blk_cell BK243.out 1).trans rfl; have hcz52_2 : w51.cell? ⟨gb243, 2, none⟩ = some (.int .i64 0) := (blk_cell BK243.out 2).trans rfl; have hcz52_3 : w51.cell? ⟨gb243, 3, none⟩ = some (.int .i64 0) := (blk_cell BK243.out 3).trans rfl; have hfz52_0 := blk_frozen BK243.out 0; have hfz52_1 := blk_frozen BK243.out 1; have hfz52_2 := blk_frozen BK243.out 2; have hfz52_3 := blk_frozen BK243.out 3))
         repeat (go_quiet (first | (go_at_call 75; (with_reducible refine (jacquardref13_Umax.calls kj35 a0 t256 _ A43.out).mono ?_); rintro e w' ⟨rfl, ⟨nd, rfl⟩⟩; (try first | exact ⟨rfl, _, World.drewN_drewN _ _ _⟩ | exact ⟨rfl, _, Eq.trans (World.drewN_drewN _ _ _) (congrArg (World.drewN _) (Nat.add_assoc _ _ _))⟩)) | (go_at_call 75; (with_reducible refine (jacquardref13_Umax.calls kj35 a0 t256 _ A43.out).mono ?_); rintro e w' ⟨rfl, ⟨nd, rfl⟩⟩; (try first | exact ⟨rfl, _, World.drewN_drewN _ _ _⟩ | exact ⟨rfl, _, Eq.trans (World.drewN_drewN _ _ _) (congrArg (World.drewN _) (Nat.add_assoc _ _ _))⟩)) | (go_at_call 135; (with_reducible refine (jacquardref13_same.calls kj35 a0 ji45 ji47 t257 t258 t259 t260 t261 _ A48.out).mono ?_); rintro e w51 ⟨rfl, hb⟩; replace BK242 := bkB BK242.out hb; replace BK243 := bkB BK243.out hb; replace HB := bsB HB.out hb; (try clear hb); have hcz52_0 : w51.cell? ⟨gb243, 0, none⟩ = some (.int .u64 0) := (blk_cell BK243.out 0).trans rfl; have hcz52_1 : w51.cell? ⟨gb243, 1, none⟩ = some (.int .u64 0) := (blk_cell BK243.out 1).trans rfl; have hcz52_2 : w51.cell? ⟨gb243, 2, none⟩ = some (.int .i64 0) := (blk_cell BK243.out 2).trans rfl; have hcz52_3 : w51.cell? ⟨gb243, 3, none⟩ = some (.int .i64 0) := (blk_cell BK243.out 3).trans rfl; have hfz52_0 := blk_frozen BK243.out 0; have hfz52_1 := blk_frozen BK243.out 1; have hfz52_2 := blk_frozen BK243.out 2; have hfz52_3 := blk_frozen BK243.out 3)); try go_wp2_with (first | (go_at_call 75; (with_reducible refine (jacquardref13_Umax.calls kj35 a0 t256 _ A43.out).mono ?_); rintro e w' ⟨rfl, ⟨nd, rfl⟩⟩; (try first | exact ⟨rfl, _, World.drewN_drewN _ _ _⟩ | exact ⟨rfl, _, Eq.trans (World.drewN_drewN _ _ _) (congrArg (World.drewN _) (Nat.add_assoc _ _ _))⟩)) | (go_at_call 75; (with_reducible refine (jacquardref13_Umax.calls kj35 a0 t256 _ A43.out).mono ?_); rintro e w' ⟨rfl, ⟨nd, rfl⟩⟩; (try first | exact ⟨rfl, _, World.drewN_drewN _ _ _⟩ | exact ⟨rfl, _, Eq.trans (World.drewN_drewN _ _ _) (congrArg (World.drewN _) (Nat.add_assoc _ _ _))⟩)) | (go_at_call 135; (with_reducible refine (jacquardref13_same.calls kj35 a0 ji45 ji47 t257 t258 t259 t260 t261 _ A48.out).mono ?_); rintro e w51 ⟨rfl, hb⟩; have n0_ := bkB BK242.out hb; have n1_ := bkB BK243.out hb; have n2_ := bsB HB.out hb; clear BK242; clear BK243; clear HB; have BK242 := n0_; have BK243 := n1_; have HB := n2_; clear n0_ n1_ n2_; (try clear hb); (try clear hb2); (try clear hk); (try clear hi); have hcz52_0 : w51.cell? ⟨gb243, 0, none⟩ = some (.int .u64 0) := (blk_cell BK243.out 0).trans rfl; have hcz52_1 : w51.cell? ⟨gb243, 1, none⟩ = some (.int .u64 0) := (blk_cell BK243.out 1).trans rfl; have hcz52_2 : w51.cell? ⟨gb243, 2, none⟩ = some (.int .i64 0) := (blk_cell BK243.out 2).trans rfl; have hcz52_3 : w51.cell? ⟨gb243, 3, none⟩ = some (.int .i64 0) := (blk_cell BK243.out 3).trans rfl; have hfz52_0 := blk_frozen BK243.out 0; have hfz52_1 := blk_frozen BK243.out 1; have hfz52_2 := blk_frozen BK243.out 2; have hfz52_3 := blk_frozen BK243.out 3)))
         refine bodyPost_ret (results_ct rfl _ _ gb243 30 #[.int .u64 t257, .int .u64 t258, .int .i64 t259, .int .i64 t260] (0, 0) _ rfl (by (with_reducible repeat (first | refine blk_drewN ?_ _ | refine blk_drew ?_ | refine blk_alloc ?_ _)); refine blk_put (cs := #[.int .u64 t257, .int .u64 t258, .int .i64 t259, .int .i64 0]) ?_ 3 _ rfl; (with_reducible repeat (first | refine blk_drewN ?_ _ | refine blk_drew ?_ | refine blk_alloc ?_ _)); refine blk_put (cs := #[.int .u64 t257, .int .u64 t258, .int .i64 0, .int .i64 0]) ?_ 2 _ rfl; (with_reducible repeat (first | refine blk_drewN ?_ _ | refine blk_drew ?_ | refine blk_alloc ?_ _)); refine blk_put (cs := #[.int .u64 t257, .int .u64 0, .int .i64 0, .int .i64 0]) ?_ 1 _ rfl; (with_reducible repeat (first | refine blk_drewN ?_ _ | refine blk_drew ?_ | refine blk_alloc ?_ _)); refine blk_put (cs := #[.int .u64 0, .int .u64 0, .int .i64 0, .int .i64 0]) ?_ 0 _ rfl; exact bfL BK243.out) Try.underlying30 rfl (by kernel_rfl)) rfl ?_
         exact ⟨by first | rfl | (simp [errW_none, errW_some] <;> rfl) | (simp only [← hji44, ← hji45, ← hji47]; first | rfl | (simp [errW_none, errW_some] <;> rfl)) | (simp [*, errW_none, errW_some] <;> rfl), bsL HB.out⟩
        ·
         rw [if_neg c46] at H
         have c46b0 : decide (a1_3 < 0) = false := decide_eq_false c46
         clear c46
         replace H := Option.bind_eq_some_iff.mp H
         obtain ⟨⟨t262, t263, t264, t265, t266⟩, A530, H⟩ := H
         replace H : (some (t262, t263, t264, t265, t266)) = some (r1, r2, r3, r4, r5) := H
         have A53 := Aside0.mk A530
         clear A530
         simp only [Option.some.injEq, Prod.mk.injEq] at H
         obtain ⟨rfl, rfl, rfl, rfl, rfl⟩ := H
         have hnb54 := NB242_243.out
         have hnc54 := NB243_242.out
         have hcz55_0 : wc.cell? ⟨gb242, 0, none⟩ = some (.int .u64 a1_0) := (blk_cell BK242.out 0).trans rfl
         have hcz55_1 : wc.cell? ⟨gb242, 1, none⟩ = some (.int .u64 a1_1) := (blk_cell BK242.out 1).trans rfl
         have hcz55_2 : wc.cell? ⟨gb242, 2, none⟩ = some (.int .i64 a1_2) := (blk_cell BK242.out 2).trans rfl
         have hcz55_3 : wc.cell? ⟨gb242, 3, none⟩ = some (.int .i64 a1_3) := (blk_cell BK242.out 3).trans rfl
         have hfz55_0 := blk_frozen BK242.out 0
         have hfz55_1 := blk_frozen BK242.out 1
         have hfz55_2 := blk_frozen BK242.out 2
         have hfz55_3 := blk_frozen BK242.out 3
         go_wp2_with (first | (go_at_call 75; (with_reducible refine (jacquardref13_Umax.calls kj35 a0 t256 _ A43.out).mono ?_); rintro e w' ⟨rfl, ⟨nd, rfl⟩⟩; (try first | exact ⟨rfl, _, World.drewN_drewN _ _ _⟩ | exact ⟨rfl, _, Eq.trans (World.drewN_drewN _ _ _) (congrArg (World.drewN _) (Nat.add_assoc _ _ _))⟩)) | (go_at_call 135; (with_reducible refine (jacquardref13_same.calls kj35 a0 ji45 a1_1 t262 t263 t264 t265 t266 _ A53.out).mono ?_); rintro e w56 ⟨rfl, hb⟩; replace BK242 := bkB BK242.out hb; replace BK243 := bkB BK243.out hb; replace HB := bsB HB.out hb; (try clear hb); have hcz57_0 : w56.cell? ⟨gb243, 0, none⟩ = some (.int .u64 0) := (blk_cell BK243.out 0).trans rfl; have hcz57_1 : w56.cell? ⟨gb243, 1, none⟩ = some (.int .u64 0) := (blk_cell BK243.out 1).trans rfl; have hcz57_2 : w56.cell? ⟨gb243, 2, none⟩ = some (.int .i64 0) := (blk_cell BK243.out 2).trans rfl; have hcz57_3 : w56.cell? ⟨gb243, 3, none⟩ = some (.int .i64 0) := (blk_cell BK243.out 3).trans rfl; have hfz57_0 := blk_frozen BK243.out 0; have hfz57_1 := blk_frozen BK243.out 1; have hfz57_2 := blk_frozen BK243.out 2; have hfz57_3 := blk_frozen BK243.out 3))
         repeat (go_quiet (first | (go_at_call 75; (with_reducible refine (jacquardref13_Umax.calls kj35 a0 t256 _ A43.out).mono ?_); rintro e w' ⟨rfl, ⟨nd, rfl⟩⟩; (try first | exact ⟨rfl, _, World.drewN_drewN _ _ _⟩ | exact ⟨rfl, _, Eq.trans (World.drewN_drewN _ _ _) (congrArg (World.drewN _) (Nat.add_assoc _ _ _))⟩)) | (go_at_call 135; (with_reducible refine (jacquardref13_same.calls kj35 a0 ji45 a1_1 t262 t263 t264 t265 t266 _ A53.out).mono ?_); rintro e w56 ⟨rfl, hb⟩; replace BK242 := bkB BK242.out hb; replace BK243 := bkB BK243.out hb; replace HB := bsB HB.out hb; (try clear hb); have hcz57_0 : w56.cell? ⟨gb243, 0, none⟩ = some (.int .u64 0) := (blk_cell BK243.out 0).trans rfl; have hcz57_1 : w56.cell? ⟨gb243, 1, none⟩ = some (.int .u64 0) := (blk_cell BK243.out 1).trans rfl; have hcz57_2 : w56.cell? ⟨gb243, 2, none⟩ = some (.int .i64 0) := (blk_cell BK243.out 2).trans rfl; have hcz57_3 : w56.cell? ⟨gb243, 3, none⟩ = some (.int .i64 0) := (blk_cell BK243.out 3).trans rfl; have hfz57_0 := blk_frozen BK243.out 0; have hfz57_1 := blk_frozen BK243.out 1; have hfz57_2 := blk_frozen BK243.out 2; have hfz57_3 := blk_frozen BK243.out 3)); try go_wp2_with (first | (go_at_call 75; (with_reducible refine (jacquardref13_Umax.calls kj35 a0 t256 _ A43.out).mono ?_); rintro e w' ⟨rfl, ⟨nd, rfl⟩⟩; (try first | exact ⟨rfl, _, World.drewN_drewN _ _ _⟩ | exact ⟨rfl, _, Eq.trans (World.drewN_drewN _ _ _) (congrArg (World.drewN _) (Nat.add_assoc _ _ _))⟩)) | (go_at_call 135; (with_reducible refine (jacquardref13_same.calls kj35 a0 ji45 a1_1 t262 t263 t264 t265 t266 _ A53.out).mono ?_); rintro e w56 ⟨rfl, hb⟩; have n0_ := bkB BK242.out hb; have n1_ := bkB BK243.out hb; have n2_ := bsB HB.out hb; clear BK242; clear BK243; clear HB; have BK242 := n0_; have BK243 := n1_; have HB := n2_; clear n0_ n1_ n2_; (try clear hb); (try clear hb2); (try clear hk); (try clear hi); have hcz57_0 : w56.cell? ⟨gb243, 0, none⟩ = some (.int .u64 0) := (blk_cell BK243.out 0).trans rfl; have hcz57_1 : w56.cell? ⟨gb243, 1, none⟩ = some (.int .u64 0) := (blk_cell BK243.out 1).trans rfl; have hcz57_2 : w56.cell? ⟨gb243, 2, none⟩ = some (.int .i64 0) := (blk_cell BK243.out 2).trans rfl; have hcz57_3 : w56.cell? ⟨gb243, 3, none⟩ = some (.int .i64 0) := (blk_cell BK243.out 3).trans rfl; have hfz57_0 := blk_frozen BK243.out 0; have hfz57_1 := blk_frozen BK243.out 1; have hfz57_2 := blk_frozen BK243.out 2; have hfz57_3 := blk_frozen BK243.out 3)))
         refine bodyPost_ret (results_ct rfl _ _ gb243 30 #[.int .u64 t262, .int .u64 t263, .int .i64 t264, .int .i64 t265] (0, 0) _ rfl (by (with_reducible repeat (first | refine blk_drewN ?_ _ | refine blk_drew ?_ | refine blk_alloc ?_ _)); refine blk_put (cs := #[.int .u64 t262, .int .u64 t263, .int .i64 t264, .int .i64 0]) ?_ 3 _ rfl; (with_reducible repeat (first | refine blk_drewN ?_ _ | refine blk_drew ?_ | refine blk_alloc ?_ _)); refine blk_put (cs := #[.int .u64 t262, .int .u64 t263, .int .i64 0, .int .i64 0]) ?_ 2 _ rfl; (with_reducible repeat (first | refine blk_drewN ?_ _ | refine blk_drew ?_ | refine blk_alloc ?_ _)); refine blk_put (cs := #[.int .u64 t262, .int .u64 0, .int .i64 0, .int .i64 0]) ?_ 1 _ rfl; (with_reducible repeat (first | refine blk_drewN ?_ _ | refine blk_drew ?_ | refine blk_alloc ?_ _)); refine blk_put (cs := #[.int .u64 0, .int .u64 0, .int .i64 0, .int .i64 0]) ?_ 0 _ rfl; exact bfL BK243.out) Try.underlying30 rfl (by kernel_rfl)) rfl ?_
         exact ⟨by first | rfl | (simp [errW_none, errW_some] <;> rfl) | (simp only [← hji44, ← hji45]; first | rfl | (simp [errW_none, errW_some] <;> rfl)) | (simp [*, errW_none, errW_some] <;> rfl), bsL HB.out⟩
       ·
        replace c42 := Bool.eq_false_iff.mpr c42
        subst c42
        have H1 : (some (a1_0, a1_1, a1_2, a1_3, true)) = some (r1, r2, r3, r4, r5) := by rw [if_neg (show ¬ (false = true) by decide)] at H; exact H
        clear H
        have H := H1
        clear H1
        simp only [Option.some.injEq, Prod.mk.injEq] at H
        obtain ⟨rfl, rfl, rfl, rfl, rfl⟩ := H
        have hnb58 := NB242_243.out
        have hnc58 := NB243_242.out
        have hcz59_0 : wc.cell? ⟨gb242, 0, none⟩ = some (.int .u64 a1_0) := (blk_cell BK242.out 0).trans rfl
        have hcz59_1 : wc.cell? ⟨gb242, 1, none⟩ = some (.int .u64 a1_1) := (blk_cell BK242.out 1).trans rfl
        have hcz59_2 : wc.cell? ⟨gb242, 2, none⟩ = some (.int .i64 a1_2) := (blk_cell BK242.out 2).trans rfl
        have hcz59_3 : wc.cell? ⟨gb242, 3, none⟩ = some (.int .i64 a1_3) := (blk_cell BK242.out 3).trans rfl
        have hfz59_0 := blk_frozen BK242.out 0
        have hfz59_1 := blk_frozen BK242.out 1
        have hfz59_2 := blk_frozen BK242.out 2
        have hfz59_3 := blk_frozen BK242.out 3
        have hcz60_0 : wc.cell? ⟨gb243, 0, none⟩ = some (.int .u64 0) := (blk_cell BK243.out 0).trans rfl
        have hcz60_1 : wc.cell? ⟨gb243, 1, none⟩ = some (.int .u64 0) := (blk_cell BK243.out 1).trans rfl
        have hcz60_2 : wc.cell? ⟨gb243, 2, none⟩ = some (.int .i64 0) := (blk_cell BK243.out 2).trans rfl
        have hcz60_3 : wc.cell? ⟨gb243, 3, none⟩ = some (.int .i64 0) := (blk_cell BK243.out 3).trans rfl
        have hfz60_0 := blk_frozen BK243.out 0
        have hfz60_1 := blk_frozen BK243.out 1
        have hfz60_2 := blk_frozen BK243.out 2
        have hfz60_3 := blk_frozen BK243.out 3
        go_wp2
        repeat (go_quiet (fail); try go_wp2)
        refine bodyPost_ret (results_ct rfl _ _ gb243 30 #[.int .u64 a1_0, .int .u64 a1_1, .int .i64 a1_2, .int .i64 a1_3] (0, 0) _ rfl (by (with_reducible repeat (first | refine blk_drewN ?_ _ | refine blk_drew ?_ | refine blk_alloc ?_ _)); refine blk_put (cs := #[.int .u64 a1_0, .int .u64 a1_1, .int .i64 a1_2, .int .i64 0]) ?_ 3 _ rfl; (with_reducible repeat (first | refine blk_drewN ?_ _ | refine blk_drew ?_ | refine blk_alloc ?_ _)); refine blk_put (cs := #[.int .u64 a1_0, .int .u64 a1_1, .int .i64 0, .int .i64 0]) ?_ 2 _ rfl; (with_reducible repeat (first | refine blk_drewN ?_ _ | refine blk_drew ?_ | refine blk_alloc ?_ _)); refine blk_put (cs := #[.int .u64 a1_0, .int .u64 0, .int .i64 0, .int .i64 0]) ?_ 1 _ rfl; (with_reducible repeat (first | refine blk_drewN ?_ _ | refine blk_drew ?_ | refine blk_alloc ?_ _)); refine blk_put (cs := #[.int .u64 0, .int .u64 0, .int .i64 0, .int .i64 0]) ?_ 0 _ rfl; exact bfL BK243.out) Try.underlying30 rfl (by kernel_rfl)) rfl ?_
        exact ⟨by first | rfl | (simp [errW_none, errW_some] <;> rfl) | (simp [*, errW_none, errW_some] <;> rfl), bsL HB.out⟩
 ·
  replace c4 := Bool.eq_false_iff.mpr c4
  subst c4
  have H1 : (some (0, 0, 0, 0, false)) = some (r1, r2, r3, r4, r5) := by rw [if_neg (show ¬ (false = true) by decide)] at H; exact H
  clear H
  have H := H1
  clear H1
  simp only [Option.some.injEq, Prod.mk.injEq] at H
  obtain ⟨rfl, rfl, rfl, rfl, rfl⟩ := H
  go_enter Try.func59, Try.ntmps59
  go_wp2_with (first | ((with_reducible refine gate_dst (N := 3) rfl ?_); refine box_event ?hg (N := 3) ?hd (cs := #[.int .u64 a1_0, .int .u64 a1_1, .int .i64 a1_2, .int .i64 a1_3]) (t := 30) ?hr ?_; (case hd => rfl); (case hg => rfl); (case hr => first | (go_simp; done) | (go_simp; rfl)); intro gb242 hg w61 hbox hb; have n0_ := bsB HB.out hb; have n1_ := Aside0.mk (hbox); have n2_ := szB hg HB.out; have n3_ := szB hg HB.out; clear HB; have HB := n0_; have BK242 := n1_; have GW242 := n2_; have GE242 := n3_; clear n0_ n1_ n2_ n3_; clear hb hbox hg) | ((with_reducible refine gate_dst (N := 4) rfl ?_); refine box_event ?hg (N := 4) ?hd (cs := #[.int .u64 0, .int .u64 0, .int .i64 0, .int .i64 0]) (t := 30) ?hr ?_; (case hd => rfl); (case hg => rfl); (case hr => first | (go_simp; done) | (go_simp; rfl)); intro gb243 hg w62 hbox hb; have n0_ := bkB BK242.out hb; have n1_ := bsB HB.out hb; have n2_ := Aside0.mk (hbox); have n3_ := szB hg HB.out; have n4_ := szB hg HB.out; have n5_ := Aside0.mk ((by rw [hg]; exact Nat.ne_of_lt (blk_lt (g := gb242) (o := .cells #[.int .u64 a1_0, .int .u64 a1_1, .int .i64 a1_2, .int .i64 a1_3] 30 (0, 0)) (by exact bfL BK242.out)) : gb242 ≠ gb243)); have n6_ := Aside0.mk ((by rw [hg]; exact Nat.ne_of_gt (blk_lt (g := gb242) (o := .cells #[.int .u64 a1_0, .int .u64 a1_1, .int .i64 a1_2, .int .i64 a1_3] 30 (0, 0)) (by exact bfL BK242.out)) : gb243 ≠ gb242)); clear BK242; clear HB; have BK242 := n0_; have HB := n1_; have BK243 := n2_; have GW243 := n3_; have GE243 := n4_; have NB242_243 := n5_; have NB243_242 := n6_; clear n0_ n1_ n2_ n3_ n4_ n5_ n6_; clear hb hbox hg; have hnb63 := NB242_243.out; have hnc63 := NB243_242.out; have hcz64_0 : w62.cell? ⟨gb242, 0, none⟩ = some (.int .u64 a1_0) := (blk_cell BK242.out 0).trans rfl; have hcz64_1 : w62.cell? ⟨gb242, 1, none⟩ = some (.int .u64 a1_1) := (blk_cell BK242.out 1).trans rfl; have hcz64_2 : w62.cell? ⟨gb242, 2, none⟩ = some (.int .i64 a1_2) := (blk_cell BK242.out 2).trans rfl; have hcz64_3 : w62.cell? ⟨gb242, 3, none⟩ = some (.int .i64 a1_3) := (blk_cell BK242.out 3).trans rfl; have hfz64_0 := blk_frozen BK242.out 0; have hfz64_1 := blk_frozen BK242.out 1; have hfz64_2 := blk_frozen BK242.out 2; have hfz64_3 := blk_frozen BK242.out 3) | (go_at_call 74; (with_reducible refine (jacquardref13_Valid.calls k a0 a1_0 a1_1 a1_2 a1_3 false _ A3.out).mono ?_); rintro e w65 ⟨rfl, hb⟩; have n0_ := bkB BK242.out hb; have n1_ := bkB BK243.out hb; have n2_ := bsB HB.out hb; clear BK242; clear BK243; clear HB; have BK242 := n0_; have BK243 := n1_; have HB := n2_; clear n0_ n1_ n2_; (try clear hb); (try clear hb2); (try clear hk); (try clear hi); have hcz66_0 : w65.cell? ⟨gb243, 0, none⟩ = some (.int .u64 0) := (blk_cell BK243.out 0).trans rfl; have hcz66_1 : w65.cell? ⟨gb243, 1, none⟩ = some (.int .u64 0) := (blk_cell BK243.out 1).trans rfl; have hcz66_2 : w65.cell? ⟨gb243, 2, none⟩ = some (.int .i64 0) := (blk_cell BK243.out 2).trans rfl; have hcz66_3 : w65.cell? ⟨gb243, 3, none⟩ = some (.int .i64 0) := (blk_cell BK243.out 3).trans rfl; have hfz66_0 := blk_frozen BK243.out 0; have hfz66_1 := blk_frozen BK243.out 1; have hfz66_2 := blk_frozen BK243.out 2; have hfz66_3 := blk_frozen BK243.out 3))
  repeat (go_quiet (first | ((with_reducible refine gate_dst (N := 3) rfl ?_); refine box_event ?hg (N := 3) ?hd (cs := #[.int .u64 a1_0, .int .u64 a1_1, .int .i64 a1_2, .int .i64 a1_3]) (t := 30) ?hr ?_; (case hd => rfl); (case hg => rfl); (case hr => first | (go_simp; done) | (go_simp; rfl)); intro gb242 hg w61 hbox hb; have n0_ := bsB HB.out hb; have n1_ := Aside0.mk (hbox); have n2_ := szB hg HB.out; have n3_ := szB hg HB.out; clear HB; have HB := n0_; have BK242 := n1_; have GW242 := n2_; have GE242 := n3_; clear n0_ n1_ n2_ n3_; clear hb hbox hg) | ((with_reducible refine gate_dst (N := 4) rfl ?_); refine box_event ?hg (N := 4) ?hd (cs := #[.int .u64 0, .int .u64 0, .int .i64 0, .int .i64 0]) (t := 30) ?hr ?_; (case hd => rfl); (case hg => rfl); (case hr => first | (go_simp; done) | (go_simp; rfl)); intro gb243 hg w62 hbox hb; have n0_ := bkB BK242.out hb; have n1_ := bsB HB.out hb; have n2_ := Aside0.mk (hbox); have n3_ := szB hg HB.out; have n4_ := szB hg HB.out; have n5_ := Aside0.mk ((by rw [hg]; exact Nat.ne_of_lt (blk_lt (g := gb242) (o := .cells #[.int .u64 a1_0, .int .u64 a1_1, .int .i64 a1_2, .int .i64 a1_3] 30 (0, 0)) (by exact bfL BK242.out)) : gb242 ≠ gb243)); have n6_ := Aside0.mk ((by rw [hg]; exact Nat.ne_of_gt (blk_lt (g := gb242) (o := .cells #[.int .u64 a1_0, .int .u64 a1_1, .int .i64 a1_2, .int .i64 a1_3] 30 (0, 0)) (by exact bfL BK242.out)) : gb243 ≠ gb242)); clear BK242; clear HB; have BK242 := n0_; have HB := n1_; have BK243 := n2_; have GW243 := n3_; have GE243 := n4_; have NB242_243 := n5_; have NB243_242 := n6_; clear n0_ n1_ n2_ n3_ n4_ n5_ n6_; clear hb hbox hg; have hnb63 := NB242_243.out; have hnc63 := NB243_242.out; have hcz64_0 : w62.cell? ⟨gb242, 0, none⟩ = some (.int .u64 a1_0) := (blk_cell BK242.out 0).trans rfl; have hcz64_1 : w62.cell? ⟨gb242, 1, none⟩ = some (.int .u64 a1_1) := (blk_cell BK242.out 1).trans rfl; have hcz64_2 : w62.cell? ⟨gb242, 2, none⟩ = some (.int .i64 a1_2) := (blk_cell BK242.out 2).trans rfl; have hcz64_3 : w62.cell? ⟨gb242, 3, none⟩ = some (.int .i64 a1_3) := (blk_cell BK242.out 3).trans rfl; have hfz64_0 := blk_frozen BK242.out 0; have hfz64_1 := blk_frozen BK242.out 1; have hfz64_2 := blk_frozen BK242.out 2; have hfz64_3 := blk_frozen BK242.out 3) | (go_at_call 74; (with_reducible refine (jacquardref13_Valid.calls k a0 a1_0 a1_1 a1_2 a1_3 false _ A3.out).mono ?_); rintro e w65 ⟨rfl, hb⟩; have n0_ := bkB BK242.out hb; have n1_ := bkB BK243.out hb; have n2_ := bsB HB.out hb; clear BK242; clear BK243; clear HB; have BK242 := n0_; have BK243 := n1_; have HB := n2_; clear n0_ n1_ n2_; (try clear hb); (try clear hb2); (try clear hk); (try clear hi); have hcz66_0 : w65.cell? ⟨gb243, 0, none⟩ = some (.int .u64 0) := (blk_cell BK243.out 0).trans rfl; have hcz66_1 : w65.cell? ⟨gb243, 1, none⟩ = some (.int .u64 0) := (blk_cell BK243.out 1).trans rfl; have hcz66_2 : w65.cell? ⟨gb243, 2, none⟩ = some (.int .i64 0) := (blk_cell BK243.out 2).trans rfl; have hcz66_3 : w65.cell? ⟨gb243, 3, none⟩ = some (.int .i64 0) := (blk_cell BK243.out 3).trans rfl; have hfz66_0 := blk_frozen BK243.out 0; have hfz66_1 := blk_frozen BK243.out 1; have hfz66_2 := blk_frozen BK243.out 2; have hfz66_3 := blk_frozen BK243.out 3)); try go_wp2_with (first | ((with_reducible refine gate_dst (N := 3) rfl ?_); refine box_event ?hg (N := 3) ?hd (cs := #[.int .u64 a1_0, .int .u64 a1_1, .int .i64 a1_2, .int .i64 a1_3]) (t := 30) ?hr ?_; (case hd => rfl); (case hg => rfl); (case hr => first | (go_simp; done) | (go_simp; rfl)); intro gb242 hg w61 hbox hb; have n0_ := bsB HB.out hb; have n1_ := Aside0.mk (hbox); have n2_ := szB hg HB.out; have n3_ := szB hg HB.out; clear HB; have HB := n0_; have BK242 := n1_; have GW242 := n2_; have GE242 := n3_; clear n0_ n1_ n2_ n3_; clear hb hbox hg) | ((with_reducible refine gate_dst (N := 4) rfl ?_); refine box_event ?hg (N := 4) ?hd (cs := #[.int .u64 0, .int .u64 0, .int .i64 0, .int .i64 0]) (t := 30) ?hr ?_; (case hd => rfl); (case hg => rfl); (case hr => first | (go_simp; done) | (go_simp; rfl)); intro gb243 hg w62 hbox hb; have n0_ := bkB BK242.out hb; have n1_ := bsB HB.out hb; have n2_ := Aside0.mk (hbox); have n3_ := szB hg HB.out; have n4_ := szB hg HB.out; have n5_ := Aside0.mk ((by rw [hg]; exact Nat.ne_of_lt (blk_lt (g := gb242) (o := .cells #[.int .u64 a1_0, .int .u64 a1_1, .int .i64 a1_2, .int .i64 a1_3] 30 (0, 0)) (by exact bfL BK242.out)) : gb242 ≠ gb243)); have n6_ := Aside0.mk ((by rw [hg]; exact Nat.ne_of_gt (blk_lt (g := gb242) (o := .cells #[.int .u64 a1_0, .int .u64 a1_1, .int .i64 a1_2, .int .i64 a1_3] 30 (0, 0)) (by exact bfL BK242.out)) : gb243 ≠ gb242)); clear BK242; clear HB; have BK242 := n0_; have HB := n1_; have BK243 := n2_; have GW243 := n3_; have GE243 := n4_; have NB242_243 := n5_; have NB243_242 := n6_; clear n0_ n1_ n2_ n3_ n4_ n5_ n6_; clear hb hbox hg; have hnb63 := NB242_243.out; have hnc63 := NB243_242.out; have hcz64_0 : w62.cell? ⟨gb242, 0, none⟩ = some (.int .u64 a1_0) := (blk_cell BK242.out 0).trans rfl; have hcz64_1 : w62.cell? ⟨gb242, 1, none⟩ = some (.int .u64 a1_1) := (blk_cell BK242.out 1).trans rfl; have hcz64_2 : w62.cell? ⟨gb242, 2, none⟩ = some (.int .i64 a1_2) := (blk_cell BK242.out 2).trans rfl; have hcz64_3 : w62.cell? ⟨gb242, 3, none⟩ = some (.int .i64 a1_3) := (blk_cell BK242.out 3).trans rfl; have hfz64_0 := blk_frozen BK242.out 0; have hfz64_1 := blk_frozen BK242.out 1; have hfz64_2 := blk_frozen BK242.out 2; have hfz64_3 := blk_frozen BK242.out 3) | (go_at_call 74; (with_reducible refine (jacquardref13_Valid.calls k a0 a1_0 a1_1 a1_2 a1_3 false _ A3.out).mono ?_); rintro e w65 ⟨rfl, hb⟩; have n0_ := bkB BK242.out hb; have n1_ := bkB BK243.out hb; have n2_ := bsB HB.out hb; clear BK242; clear BK243; clear HB; have BK242 := n0_; have BK243 := n1_; have HB := n2_; clear n0_ n1_ n2_; (try clear hb); (try clear hb2); (try clear hk); (try clear hi); have hcz66_0 : w65.cell? ⟨gb243, 0, none⟩ = some (.int .u64 0) := (blk_cell BK243.out 0).trans rfl; have hcz66_1 : w65.cell? ⟨gb243, 1, none⟩ = some (.int .u64 0) := (blk_cell BK243.out 1).trans rfl; have hcz66_2 : w65.cell? ⟨gb243, 2, none⟩ = some (.int .i64 0) := (blk_cell BK243.out 2).trans rfl; have hcz66_3 : w65.cell? ⟨gb243, 3, none⟩ = some (.int .i64 0) := (blk_cell BK243.out 3).trans rfl; have hfz66_0 := blk_frozen BK243.out 0; have hfz66_1 := blk_frozen BK243.out 1; have hfz66_2 := blk_frozen BK243.out 2; have hfz66_3 := blk_frozen BK243.out 3)))
  refine bodyPost_ret (results_ct rfl _ _ gb243 30 #[.int .u64 0, .int .u64 0, .int .i64 0, .int .i64 0] (0, 0) _ rfl (by (with_reducible repeat (first | refine blk_drewN ?_ _ | refine blk_drew ?_ | refine blk_alloc ?_ _)); refine blk_put (cs := #[.int .u64 0, .int .u64 0, .int .i64 0, .int .i64 0]) ?_ 3 _ rfl; (with_reducible repeat (first | refine blk_drewN ?_ _ | refine blk_drew ?_ | refine blk_alloc ?_ _)); refine blk_put (cs := #[.int .u64 0, .int .u64 0, .int .i64 0, .int .i64 0]) ?_ 2 _ rfl; (with_reducible repeat (first | refine blk_drewN ?_ _ | refine blk_drew ?_ | refine blk_alloc ?_ _)); refine blk_put (cs := #[.int .u64 0, .int .u64 0, .int .i64 0, .int .i64 0]) ?_ 1 _ rfl; (with_reducible repeat (first | refine blk_drewN ?_ _ | refine blk_drew ?_ | refine blk_alloc ?_ _)); refine blk_put (cs := #[.int .u64 0, .int .u64 0, .int .i64 0, .int .i64 0]) ?_ 0 _ rfl; exact bfL BK243.out) Try.underlying30 rfl (by kernel_rfl)) rfl ?_
  exact ⟨by first | rfl | (simp [errW_none, errW_some] <;> rfl) | (simp [*, errW_none, errW_some] <;> rfl), bsL HB.out⟩

end Go.Proofs.Ytbiohdgeclokmaa.P
