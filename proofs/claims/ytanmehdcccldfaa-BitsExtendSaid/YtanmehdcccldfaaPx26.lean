-- made by a program of this work (wip/mkprint.py, wip/mp.sh) out of the translation
import Derived.Test.YtanmehdcccldfaaPx0
import Derived.Test.YtanmehdcccldfaaPx2
import Derived.Test.YtanmehdcccldfaaPx17
import Derived.Test.YtanmehdcccldfaaPx24
import Derived.Test.YtanmehdcccldfaaPx25
namespace Go.Proofs.Ytanmehdcccldfaa.P
open Go.RowKit Go.Proofs.YtanmehdcccldfaaW.PrintWords Go.Proofs.YtanmehdcccldfaaW.PrintLast Go.Proofs.YtanmehdcccldfaaW.PrintMore
attribute [local go_sem] max2_int min2_int max_two min_two max_three min_three max_four min_four   -- for this text's walks alone
set_option linter.unusedVariables false
set_option linter.unusedSimpArgs false

/-! ### jacquardlaw01_BitsExtend: function 10 -/
mutual
def jacquardlaw01_BitsExtend.j0 : Nat → Int → Bool → Int → Int → Int → Bool → Option (Bool)
  | 0, _, _, _, _, _, _ => none
  | k + 1, x1, x2, x7, x8, x9, x38 => if x38 = true then (some true) else (if x2 = true then ((bits_Signed.f x8 x9).bind fun t556 => ((bits_Signed.f x7 x1).bind fun t557 => (if t556 = t557 then (jacquardlaw01_BitsExtend.j1 k x1 x2 x7 x8 x9 false) else (jacquardlaw01_BitsExtend.j1 k x1 x2 x7 x8 x9 true)))) else ((bits_Fit.f x7 x1).bind fun t558 => (jacquardlaw01_BitsExtend.j1 k x1 x2 x7 x8 x9 (x9 != t558))))
def jacquardlaw01_BitsExtend.j1 : Nat → Int → Bool → Int → Int → Int → Bool → Option (Bool)
  | 0, _, _, _, _, _, _ => none
  | k + 1, x1, x2, x7, x8, x9, x59 => if x59 = true then (some false) else ((bits_Extend.f x8 x7 x9 x2).bind fun t559 => ((bits_Fit.f x7 x1).bind fun t560 => (some (t559 == t560))))
end
def jacquardlaw01_BitsExtend.f (k : Nat) (a0_0 : Int) (a0_1 : Int) (a1 : Int) (a2 : Bool) : Option (Bool) := (jacquardlaw01_awake.f k).bind fun t553 => (if t553 = true then ((bits_Extend.f a0_0 a0_1 a1 a2).bind fun t554 => ((jacquardref01_Extend.f k a0_0 a0_1 a1 a2).bind fun t555 => (if t554 = t555 then (if a0_1 < a0_0 then (jacquardlaw01_BitsExtend.j0 k a1 a2 a0_0 a0_1 t554 true) else (if a0_0 < 1 then (jacquardlaw01_BitsExtend.j0 k a1 a2 a0_0 a0_1 t554 true) else (jacquardlaw01_BitsExtend.j0 k a1 a2 a0_0 a0_1 t554 (decide (a0_1 > 64))))) else (some false)))) else (some false))
theorem jacquardlaw01_BitsExtend.mono_l : ∀ k, (∀ y0 y1 y2 y3 y4 y5, LeO (jacquardlaw01_BitsExtend.j0 k y0 y1 y2 y3 y4 y5) (jacquardlaw01_BitsExtend.j0 (k + 1) y0 y1 y2 y3 y4 y5)) ∧ (∀ y0 y1 y2 y3 y4 y5, LeO (jacquardlaw01_BitsExtend.j1 k y0 y1 y2 y3 y4 y5) (jacquardlaw01_BitsExtend.j1 (k + 1) y0 y1 y2 y3 y4 y5))
  | 0 => ⟨fun _ _ _ _ _ _ r h => by simp [jacquardlaw01_BitsExtend.j0] at h, fun _ _ _ _ _ _ r h => by simp [jacquardlaw01_BitsExtend.j1] at h⟩
  | k + 1 => by
    obtain ⟨ih0, ih1⟩ := jacquardlaw01_BitsExtend.mono_l k
    refine ⟨?_, ?_⟩
    · intro y0 y1 y2 y3 y4 y5
      unfold jacquardlaw01_BitsExtend.j0
      repeat' first
      | (with_reducible exact ih0 _ _ _ _ _ _)
      | (with_reducible exact ih1 _ _ _ _ _ _)
      | (with_reducible exact jacquardlaw01_awake.mono _)
      | (with_reducible exact jacquardref01_Extend.mono _ _ _ _ _)
      | (with_reducible exact LeO.refl _)
      | (with_reducible exact LeO.none _)
      | (with_reducible refine LeO.ite ?_ ?_)
      | (with_reducible refine LeO.bind ?_ (fun _ => ?_))
      | exact ih0 _ _ _ _ _ _
      | exact ih1 _ _ _ _ _ _
      | exact jacquardlaw01_awake.mono _
      | exact jacquardref01_Extend.mono _ _ _ _ _
      | exact LeO.none _
      | refine LeO.ite ?_ ?_
      | refine LeO.bind ?_ (fun _ => ?_)
    · intro y0 y1 y2 y3 y4 y5
      unfold jacquardlaw01_BitsExtend.j1
      repeat' first
      | (with_reducible exact ih0 _ _ _ _ _ _)
      | (with_reducible exact ih1 _ _ _ _ _ _)
      | (with_reducible exact jacquardlaw01_awake.mono _)
      | (with_reducible exact jacquardref01_Extend.mono _ _ _ _ _)
      | (with_reducible exact LeO.refl _)
      | (with_reducible exact LeO.none _)
      | (with_reducible refine LeO.ite ?_ ?_)
      | (with_reducible refine LeO.bind ?_ (fun _ => ?_))
      | exact ih0 _ _ _ _ _ _
      | exact ih1 _ _ _ _ _ _
      | exact jacquardlaw01_awake.mono _
      | exact jacquardref01_Extend.mono _ _ _ _ _
      | exact LeO.none _
      | refine LeO.ite ?_ ?_
      | refine LeO.bind ?_ (fun _ => ?_)
theorem jacquardlaw01_BitsExtend.mono : ∀ a0 a1 a2 a3 k, LeO (jacquardlaw01_BitsExtend.f k a0 a1 a2 a3) (jacquardlaw01_BitsExtend.f (k + 1) a0 a1 a2 a3) := by
  intro a0 a1 a2 a3 k
  obtain ⟨ih0, ih1⟩ := jacquardlaw01_BitsExtend.mono_l k
  unfold jacquardlaw01_BitsExtend.f
  repeat' first
      | (with_reducible exact ih0 _ _ _ _ _ _)
      | (with_reducible exact ih1 _ _ _ _ _ _)
      | (with_reducible exact jacquardlaw01_awake.mono _)
      | (with_reducible exact jacquardref01_Extend.mono _ _ _ _ _)
      | (with_reducible exact LeO.refl _)
      | (with_reducible exact LeO.none _)
      | (with_reducible refine LeO.ite ?_ ?_)
      | (with_reducible refine LeO.bind ?_ (fun _ => ?_))
      | exact ih0 _ _ _ _ _ _
      | exact ih1 _ _ _ _ _ _
      | exact jacquardlaw01_awake.mono _
      | exact jacquardref01_Extend.mono _ _ _ _ _
      | exact LeO.none _
      | refine LeO.ite ?_ ?_
      | refine LeO.bind ?_ (fun _ => ?_)
set_option maxHeartbeats 8000000 in
set_option maxRecDepth 100000 in
theorem jacquardlaw01_BitsExtend.calls (k : Nat) (a0_0 : Int) (a0_1 : Int) (a1 : Int) (a2 : Bool) (r : Bool) (w : World) (h : jacquardlaw01_BitsExtend.f k a0_0 a0_1 a1 a2 = some r) :
    Calls Try.prog 10 #[.agg #[.int .i64 a0_0, .int .i64 a0_1], .int .u64 a1, .bool a2] w fun e w' => e = .returned (.bool r) ∧ Below w.heap.size w w' := by
  have hu60 := Try.underlying60
  have HB := Aside0.mk (Below.refl w.heap.size w)
  have H : ((jacquardlaw01_awake.f k).bind fun t553 => (if t553 = true then ((bits_Extend.f a0_0 a0_1 a1 a2).bind fun t554 => ((jacquardref01_Extend.f k a0_0 a0_1 a1 a2).bind fun t555 => (if t554 = t555 then (if a0_1 < a0_0 then (jacquardlaw01_BitsExtend.j0 k a1 a2 a0_0 a0_1 t554 true) else (if a0_0 < 1 then (jacquardlaw01_BitsExtend.j0 k a1 a2 a0_0 a0_1 t554 true) else (jacquardlaw01_BitsExtend.j0 k a1 a2 a0_0 a0_1 t554 (decide (a0_1 > 64))))) else (some false)))) else (some false))) = some r := h
  clear h
  replace H := Option.bind_eq_some_iff.mp H
  obtain ⟨t553, A40, H⟩ := H
  replace H : (if t553 = true then ((bits_Extend.f a0_0 a0_1 a1 a2).bind fun t554 => ((jacquardref01_Extend.f k a0_0 a0_1 a1 a2).bind fun t555 => (if t554 = t555 then (if a0_1 < a0_0 then (jacquardlaw01_BitsExtend.j0 k a1 a2 a0_0 a0_1 t554 true) else (if a0_0 < 1 then (jacquardlaw01_BitsExtend.j0 k a1 a2 a0_0 a0_1 t554 true) else (jacquardlaw01_BitsExtend.j0 k a1 a2 a0_0 a0_1 t554 (decide (a0_1 > 64))))) else (some false)))) else (some false)) = some r := H
  have A4 := Aside0.mk A40
  clear A40
  by_cases c5 : t553 = true
  · subst c5
    have H1 : ((bits_Extend.f a0_0 a0_1 a1 a2).bind fun t554 => ((jacquardref01_Extend.f k a0_0 a0_1 a1 a2).bind fun t555 => (if t554 = t555 then (if a0_1 < a0_0 then (jacquardlaw01_BitsExtend.j0 k a1 a2 a0_0 a0_1 t554 true) else (if a0_0 < 1 then (jacquardlaw01_BitsExtend.j0 k a1 a2 a0_0 a0_1 t554 true) else (jacquardlaw01_BitsExtend.j0 k a1 a2 a0_0 a0_1 t554 (decide (a0_1 > 64))))) else (some false)))) = some r := by rw [if_pos rfl] at H; exact H
    clear H
    have H := H1
    clear H1
    replace H := Option.bind_eq_some_iff.mp H
    obtain ⟨t554, A60, H⟩ := H
    replace H : ((jacquardref01_Extend.f k a0_0 a0_1 a1 a2).bind fun t555 => (if t554 = t555 then (if a0_1 < a0_0 then (jacquardlaw01_BitsExtend.j0 k a1 a2 a0_0 a0_1 t554 true) else (if a0_0 < 1 then (jacquardlaw01_BitsExtend.j0 k a1 a2 a0_0 a0_1 t554 true) else (jacquardlaw01_BitsExtend.j0 k a1 a2 a0_0 a0_1 t554 (decide (a0_1 > 64))))) else (some false))) = some r := H
    have A6 := Aside0.mk A60
    clear A60
    replace H := Option.bind_eq_some_iff.mp H
    obtain ⟨t555, A70, H⟩ := H
    replace H : (if t554 = t555 then (if a0_1 < a0_0 then (jacquardlaw01_BitsExtend.j0 k a1 a2 a0_0 a0_1 t554 true) else (if a0_0 < 1 then (jacquardlaw01_BitsExtend.j0 k a1 a2 a0_0 a0_1 t554 true) else (jacquardlaw01_BitsExtend.j0 k a1 a2 a0_0 a0_1 t554 (decide (a0_1 > 64))))) else (some false)) = some r := H
    have A7 := Aside0.mk A70
    clear A70
    by_cases c8 : t554 = t555
    · rw [if_pos c8] at H
      have c8b0 : (t554 == t555) = true := beq_iff_eq.mpr c8
      have c8b1 : (t554 != t555) = false := bne_eq_false_iff_eq.mpr c8
      clear c8
      have HC9 := Aside0.mk H
      clear H
      go_enter Try.func10, Try.ntmps10
      go_upto_region 7 with (first | ((with_reducible refine gate_dst (N := 3) rfl ?_); refine box_event ?hg (N := 3) ?hd (cs := #[.int .i64 a0_0, .int .i64 a0_1]) (t := 60) ?hr ?_; (case hd => rfl); (case hg => rfl); (case hr => first | (go_simp; done) | (go_simp; rfl)); intro gb552 hg w10 hbox hb; have n0_ := Aside0.mk (below_step (by repeat (first | (with_reducible first | exact HB.out | apply below_alloc | apply pw_below_drewN | apply below_drew1) | exact HB.out)) hb); have n1_ := Aside0.mk (hbox); have n2_ := Aside0.mk ((by rw [hg]; exact (below_size (by repeat (first | (with_reducible first | exact HB.out | apply below_alloc | apply pw_below_drewN | apply below_drew1) | exact HB.out))) : w.heap.size ≤ gb552)); have n3_ := Aside0.mk ((by rw [hg]; exact (below_size (by repeat (first | (with_reducible first | exact HB.out | apply below_alloc | apply pw_below_drewN | apply below_drew1) | exact HB.out))) : w.heap.size ≤ gb552)); clear HB; have HB := n0_; have BK552 := n1_; have GW552 := n2_; have GE552 := n3_; clear n0_ n1_ n2_ n3_; clear hb hbox hg) | (go_at_call 42; (with_reducible refine (jacquardlaw01_awake.calls k  true _ A4.out).mono ?_); rintro e w11 ⟨rfl, hb⟩; have n0_ := Aside0.mk (blk_below (g := gb552) (o := .cells #[.int .i64 a0_0, .int .i64 a0_1] 60 (0, 0)) (by (with_reducible repeat (first | refine blk_drewN ?_ _ | refine blk_drew ?_ | refine blk_alloc ?_ _)); exact BK552.out) hb); have n1_ := Aside0.mk (below_step (by repeat (first | (with_reducible first | exact HB.out | apply below_alloc | apply pw_below_drewN | apply below_drew1 | refine below_set ?_ GE552.out) | exact HB.out)) hb); clear BK552; clear HB; have BK552 := n0_; have HB := n1_; clear n0_ n1_; (try clear hb); (try clear hb2); (try clear hk); (try clear hi); have hcz12_0 : w11.cell? ⟨gb552, 0, none⟩ = some (.int .i64 a0_0) := (blk_cell BK552.out 0).trans rfl; have hcz12_1 : w11.cell? ⟨gb552, 1, none⟩ = some (.int .i64 a0_1) := (blk_cell BK552.out 1).trans rfl; have hfz12_0 := blk_frozen BK552.out 0; have hfz12_1 := blk_frozen BK552.out 1) | (go_at_call 50; (with_reducible refine (bits_Extend.calls a0_0 a0_1 a1 a2 t554 _ A6.out).mono ?_); rintro e w13 ⟨rfl, hb⟩; have n0_ := Aside0.mk (blk_below (g := gb552) (o := .cells #[.int .i64 a0_0, .int .i64 a0_1] 60 (0, 0)) (by (with_reducible repeat (first | refine blk_drewN ?_ _ | refine blk_drew ?_ | refine blk_alloc ?_ _)); exact BK552.out) hb); have n1_ := Aside0.mk (below_step (by repeat (first | (with_reducible first | exact HB.out | apply below_alloc | apply pw_below_drewN | apply below_drew1 | refine below_set ?_ GE552.out) | exact HB.out)) hb); clear BK552; clear HB; have BK552 := n0_; have HB := n1_; clear n0_ n1_; (try clear hb); (try clear hb2); (try clear hk); (try clear hi)) | (go_at_call 51; (with_reducible refine (jacquardref01_Extend.calls k a0_0 a0_1 a1 a2 t555 _ A7.out).mono ?_); rintro e w14 ⟨rfl, hb⟩; have n0_ := Aside0.mk (blk_below (g := gb552) (o := .cells #[.int .i64 a0_0, .int .i64 a0_1] 60 (0, 0)) (by (with_reducible repeat (first | refine blk_drewN ?_ _ | refine blk_drew ?_ | refine blk_alloc ?_ _)); exact BK552.out) hb); have n1_ := Aside0.mk (below_step (by repeat (first | (with_reducible first | exact HB.out | apply below_alloc | apply pw_below_drewN | apply below_drew1 | refine below_set ?_ GE552.out) | exact HB.out)) hb); clear BK552; clear HB; have BK552 := n0_; have HB := n1_; clear n0_ n1_; (try clear hb); (try clear hb2); (try clear hk); (try clear hi)))
      repeat (go_quiet (first | ((with_reducible refine gate_dst (N := 3) rfl ?_); refine box_event ?hg (N := 3) ?hd (cs := #[.int .i64 a0_0, .int .i64 a0_1]) (t := 60) ?hr ?_; (case hd => rfl); (case hg => rfl); (case hr => first | (go_simp; done) | (go_simp; rfl)); intro gb552 hg w10 hbox hb; have n0_ := Aside0.mk (below_step (by repeat (first | (with_reducible first | exact HB.out | apply below_alloc | apply pw_below_drewN | apply below_drew1) | exact HB.out)) hb); have n1_ := Aside0.mk (hbox); have n2_ := Aside0.mk ((by rw [hg]; exact (below_size (by repeat (first | (with_reducible first | exact HB.out | apply below_alloc | apply pw_below_drewN | apply below_drew1) | exact HB.out))) : w.heap.size ≤ gb552)); have n3_ := Aside0.mk ((by rw [hg]; exact (below_size (by repeat (first | (with_reducible first | exact HB.out | apply below_alloc | apply pw_below_drewN | apply below_drew1) | exact HB.out))) : w.heap.size ≤ gb552)); clear HB; have HB := n0_; have BK552 := n1_; have GW552 := n2_; have GE552 := n3_; clear n0_ n1_ n2_ n3_; clear hb hbox hg) | (go_at_call 42; (with_reducible refine (jacquardlaw01_awake.calls k  true _ A4.out).mono ?_); rintro e w11 ⟨rfl, hb⟩; have n0_ := Aside0.mk (blk_below (g := gb552) (o := .cells #[.int .i64 a0_0, .int .i64 a0_1] 60 (0, 0)) (by (with_reducible repeat (first | refine blk_drewN ?_ _ | refine blk_drew ?_ | refine blk_alloc ?_ _)); exact BK552.out) hb); have n1_ := Aside0.mk (below_step (by repeat (first | (with_reducible first | exact HB.out | apply below_alloc | apply pw_below_drewN | apply below_drew1 | refine below_set ?_ GE552.out) | exact HB.out)) hb); clear BK552; clear HB; have BK552 := n0_; have HB := n1_; clear n0_ n1_; (try clear hb); (try clear hb2); (try clear hk); (try clear hi); have hcz12_0 : w11.cell? ⟨gb552, 0, none⟩ = some (.int .i64 a0_0) := (blk_cell BK552.out 0).trans rfl; have hcz12_1 : w11.cell? ⟨gb552, 1, none⟩ = some (.int .i64 a0_1) := (blk_cell BK552.out 1).trans rfl; have hfz12_0 := blk_frozen BK552.out 0; have hfz12_1 := blk_frozen BK552.out 1) | (go_at_call 50; (with_reducible refine (bits_Extend.calls a0_0 a0_1 a1 a2 t554 _ A6.out).mono ?_); rintro e w13 ⟨rfl, hb⟩; have n0_ := Aside0.mk (blk_below (g := gb552) (o := .cells #[.int .i64 a0_0, .int .i64 a0_1] 60 (0, 0)) (by (with_reducible repeat (first | refine blk_drewN ?_ _ | refine blk_drew ?_ | refine blk_alloc ?_ _)); exact BK552.out) hb); have n1_ := Aside0.mk (below_step (by repeat (first | (with_reducible first | exact HB.out | apply below_alloc | apply pw_below_drewN | apply below_drew1 | refine below_set ?_ GE552.out) | exact HB.out)) hb); clear BK552; clear HB; have BK552 := n0_; have HB := n1_; clear n0_ n1_; (try clear hb); (try clear hb2); (try clear hk); (try clear hi)) | (go_at_call 51; (with_reducible refine (jacquardref01_Extend.calls k a0_0 a0_1 a1 a2 t555 _ A7.out).mono ?_); rintro e w14 ⟨rfl, hb⟩; have n0_ := Aside0.mk (blk_below (g := gb552) (o := .cells #[.int .i64 a0_0, .int .i64 a0_1] 60 (0, 0)) (by (with_reducible repeat (first | refine blk_drewN ?_ _ | refine blk_drew ?_ | refine blk_alloc ?_ _)); exact BK552.out) hb); have n1_ := Aside0.mk (below_step (by repeat (first | (with_reducible first | exact HB.out | apply below_alloc | apply pw_below_drewN | apply below_drew1 | refine below_set ?_ GE552.out) | exact HB.out)) hb); clear BK552; clear HB; have BK552 := n0_; have HB := n1_; clear n0_ n1_; (try clear hb); (try clear hb2); (try clear hk); (try clear hi))); go_upto_region 7 with (first | ((with_reducible refine gate_dst (N := 3) rfl ?_); refine box_event ?hg (N := 3) ?hd (cs := #[.int .i64 a0_0, .int .i64 a0_1]) (t := 60) ?hr ?_; (case hd => rfl); (case hg => rfl); (case hr => first | (go_simp; done) | (go_simp; rfl)); intro gb552 hg w10 hbox hb; have n0_ := Aside0.mk (below_step (by repeat (first | (with_reducible first | exact HB.out | apply below_alloc | apply pw_below_drewN | apply below_drew1) | exact HB.out)) hb); have n1_ := Aside0.mk (hbox); have n2_ := Aside0.mk ((by rw [hg]; exact (below_size (by repeat (first | (with_reducible first | exact HB.out | apply below_alloc | apply pw_below_drewN | apply below_drew1) | exact HB.out))) : w.heap.size ≤ gb552)); have n3_ := Aside0.mk ((by rw [hg]; exact (below_size (by repeat (first | (with_reducible first | exact HB.out | apply below_alloc | apply pw_below_drewN | apply below_drew1) | exact HB.out))) : w.heap.size ≤ gb552)); clear HB; have HB := n0_; have BK552 := n1_; have GW552 := n2_; have GE552 := n3_; clear n0_ n1_ n2_ n3_; clear hb hbox hg) | (go_at_call 42; (with_reducible refine (jacquardlaw01_awake.calls k  true _ A4.out).mono ?_); rintro e w11 ⟨rfl, hb⟩; have n0_ := Aside0.mk (blk_below (g := gb552) (o := .cells #[.int .i64 a0_0, .int .i64 a0_1] 60 (0, 0)) (by (with_reducible repeat (first | refine blk_drewN ?_ _ | refine blk_drew ?_ | refine blk_alloc ?_ _)); exact BK552.out) hb); have n1_ := Aside0.mk (below_step (by repeat (first | (with_reducible first | exact HB.out | apply below_alloc | apply pw_below_drewN | apply below_drew1 | refine below_set ?_ GE552.out) | exact HB.out)) hb); clear BK552; clear HB; have BK552 := n0_; have HB := n1_; clear n0_ n1_; (try clear hb); (try clear hb2); (try clear hk); (try clear hi); have hcz12_0 : w11.cell? ⟨gb552, 0, none⟩ = some (.int .i64 a0_0) := (blk_cell BK552.out 0).trans rfl; have hcz12_1 : w11.cell? ⟨gb552, 1, none⟩ = some (.int .i64 a0_1) := (blk_cell BK552.out 1).trans rfl; have hfz12_0 := blk_frozen BK552.out 0; have hfz12_1 := blk_frozen BK552.out 1) | (go_at_call 50; (with_reducible refine (bits_Extend.calls a0_0 a0_1 a1 a2 t554 _ A6.out).mono ?_); rintro e w13 ⟨rfl, hb⟩; have n0_ := Aside0.mk (blk_below (g := gb552) (o := .cells #[.int .i64 a0_0, .int .i64 a0_1] 60 (0, 0)) (by (with_reducible repeat (first | refine blk_drewN ?_ _ | refine blk_drew ?_ | refine blk_alloc ?_ _)); exact BK552.out) hb); have n1_ := Aside0.mk (below_step (by repeat (first | (with_reducible first | exact HB.out | apply below_alloc | apply pw_below_drewN | apply below_drew1 | refine below_set ?_ GE552.out) | exact HB.out)) hb); clear BK552; clear HB; have BK552 := n0_; have HB := n1_; clear n0_ n1_; (try clear hb); (try clear hb2); (try clear hk); (try clear hi)) | (go_at_call 51; (with_reducible refine (jacquardref01_Extend.calls k a0_0 a0_1 a1 a2 t555 _ A7.out).mono ?_); rintro e w14 ⟨rfl, hb⟩; have n0_ := Aside0.mk (blk_below (g := gb552) (o := .cells #[.int .i64 a0_0, .int .i64 a0_1] 60 (0, 0)) (by (with_reducible repeat (first | refine blk_drewN ?_ _ | refine blk_drew ?_ | refine blk_alloc ?_ _)); exact BK552.out) hb); have n1_ := Aside0.mk (below_step (by repeat (first | (with_reducible first | exact HB.out | apply below_alloc | apply pw_below_drewN | apply below_drew1 | refine below_set ?_ GE552.out) | exact HB.out)) hb); clear BK552; clear HB; have BK552 := n0_; have HB := n1_; clear n0_ n1_; (try clear hb); (try clear hb2); (try clear hk); (try clear hi))))
      (try simp only [Act.put, List.setIfInBounds_toArray, List.set_cons_zero, List.set_cons_succ])
      go_cut [38] (fun v38 wc => ∃ (kq : Nat) (x38_8 : Bool), v38 = .bool x38_8 ∧ Aside0 (jacquardlaw01_BitsExtend.j0 kq a1 a2 a0_0 a0_1 t554 x38_8 = some r) ∧ Aside0 (kq ≤ k) ∧ Aside0 (wc.heap[gb552]? = some (.cells #[.int .i64 a0_0, .int .i64 a0_1] 60 (0, 0))) ∧ Aside0 (Below w.heap.size w wc))
      case first =>
        have H := HC9.out
        clear HC9
        by_cases c15 : a0_1 < a0_0
        · rw [if_pos c15] at H
          have c15b0 : decide (a0_1 < a0_0) = true := decide_eq_true c15
          clear c15
          (first | rw [c15b0] | (simp only [i64_w, i32_w]; rw [c15b0]) | skip)
          have H' := Aside0.mk H
          clear H
          go_wp2
          repeat (go_quiet (fail); try go_wp2)
          go_meet
          case rel => exact ⟨_, (true), (by first | rfl | (simp; done) | (simp [*]; done)), H', ⟨by first | omega | exact Nat.le_refl _⟩, ⟨by (with_reducible repeat (first | refine blk_drewN ?_ _ | refine blk_drew ?_ | refine blk_alloc ?_ _)); exact BK552.out⟩, ⟨by repeat (first | (with_reducible first | exact HB.out | apply below_alloc | apply pw_below_drewN | apply below_drew1 | refine below_set ?_ GE552.out) | exact HB.out)⟩⟩
        · rw [if_neg c15] at H
          have c15b0 : decide (a0_1 < a0_0) = false := decide_eq_false c15
          clear c15
          (first | rw [c15b0] | (simp only [i64_w, i32_w]; rw [c15b0]) | skip)
          by_cases c16 : a0_0 < 1
          · rw [if_pos c16] at H
            have c16b0 : decide (a0_0 < 1) = true := decide_eq_true c16
            clear c16
            have H' := Aside0.mk H
            clear H
            go_wp2
            repeat (go_quiet (fail); try go_wp2)
            go_meet
            case rel => exact ⟨_, (true), (by first | rfl | (simp; done) | (simp [*]; done)), H', ⟨by first | omega | exact Nat.le_refl _⟩, ⟨by (with_reducible repeat (first | refine blk_drewN ?_ _ | refine blk_drew ?_ | refine blk_alloc ?_ _)); exact BK552.out⟩, ⟨by repeat (first | (with_reducible first | exact HB.out | apply below_alloc | apply pw_below_drewN | apply below_drew1 | refine below_set ?_ GE552.out) | exact HB.out)⟩⟩
          · rw [if_neg c16] at H
            have c16b0 : decide (a0_0 < 1) = false := decide_eq_false c16
            clear c16
            have H' := Aside0.mk H
            clear H
            go_wp2
            repeat (go_quiet (fail); try go_wp2)
            go_meet
            case rel => exact ⟨_, (decide (a0_1 > 64)), (by first | rfl | (simp; done) | (simp [*]; done)), H', ⟨by first | omega | exact Nat.le_refl _⟩, ⟨by (with_reducible repeat (first | refine blk_drewN ?_ _ | refine blk_drew ?_ | refine blk_alloc ?_ _)); exact BK552.out⟩, ⟨by repeat (first | (with_reducible first | exact HB.out | apply below_alloc | apply pw_below_drewN | apply below_drew1 | refine below_set ?_ GE552.out) | exact HB.out)⟩⟩
      case rest =>
        clear HC9
        try clear c1
        try clear p2
        try clear c5
        try clear c8
        try clear c8b0
        try clear c8b1
        try clear c10
        try clear c15
        try clear c15b0
        try clear c16
        try clear c16b0
        try clear hcz12_0
        try clear hcz12_1
        try clear hfz12_0
        try clear hfz12_1
        obtain ⟨kq, x38_8, rfl, HA, HJ8, BK552, HB⟩ := hcut
        cases kq with
        | zero => exact absurd HA.out (by simp [jacquardlaw01_BitsExtend.j0])
        | succ kj8 =>
          have H := HA.out
          clear HA
          simp only [jacquardlaw01_BitsExtend.j0] at H
          by_cases c17 : x38_8 = true
          · subst c17
            have H1 : (some true) = some r := by rw [if_pos rfl] at H; exact H
            clear H
            have H := H1
            clear H1
            obtain rfl := Option.some.inj H
            go_wp2
            repeat (go_quiet (fail); try go_wp2)
            go_ret
            exact ⟨by first | rfl | (simp [errW_none, errW_some] <;> rfl) | (simp [*, errW_none, errW_some] <;> rfl), by repeat (first | (with_reducible first | exact HB.out | apply below_alloc | apply pw_below_drewN | apply below_drew1 | refine below_set ?_ GE552.out) | exact HB.out)⟩
          · replace c17 := Bool.eq_false_iff.mpr c17
            subst c17
            have H1 : (if a2 = true then ((bits_Signed.f a0_1 t554).bind fun t556 => ((bits_Signed.f a0_0 a1).bind fun t557 => (if t556 = t557 then (jacquardlaw01_BitsExtend.j1 kj8 a1 a2 a0_0 a0_1 t554 false) else (jacquardlaw01_BitsExtend.j1 kj8 a1 a2 a0_0 a0_1 t554 true)))) else ((bits_Fit.f a0_0 a1).bind fun t558 => (jacquardlaw01_BitsExtend.j1 kj8 a1 a2 a0_0 a0_1 t554 (t554 != t558)))) = some r := by rw [if_neg (show ¬ (false = true) by decide)] at H; exact H
            clear H
            have H := H1
            clear H1
            have HC18 := Aside0.mk H
            clear H
            go_upto_region 9 with (fail)
            repeat (go_quiet (fail); go_upto_region 9 with (fail))
            go_cut [59] (fun v59 wc => ∃ (kq : Nat) (x59_17 : Bool), v59 = .bool x59_17 ∧ Aside0 (jacquardlaw01_BitsExtend.j1 kq a1 a2 a0_0 a0_1 t554 x59_17 = some r) ∧ Aside0 (kq ≤ kj8) ∧ Aside0 (wc.heap[gb552]? = some (.cells #[.int .i64 a0_0, .int .i64 a0_1] 60 (0, 0))) ∧ Aside0 (Below w.heap.size w wc))
            case first =>
              have H := HC18.out
              clear HC18
              by_cases c19 : a2 = true
              · subst c19
                have H1 : ((bits_Signed.f a0_1 t554).bind fun t556 => ((bits_Signed.f a0_0 a1).bind fun t557 => (if t556 = t557 then (jacquardlaw01_BitsExtend.j1 kj8 a1 true a0_0 a0_1 t554 false) else (jacquardlaw01_BitsExtend.j1 kj8 a1 true a0_0 a0_1 t554 true)))) = some r := by rw [if_pos rfl] at H; exact H
                clear H
                have H := H1
                clear H1
                replace H := Option.bind_eq_some_iff.mp H
                obtain ⟨t556, A200, H⟩ := H
                replace H : ((bits_Signed.f a0_0 a1).bind fun t557 => (if t556 = t557 then (jacquardlaw01_BitsExtend.j1 kj8 a1 true a0_0 a0_1 t554 false) else (jacquardlaw01_BitsExtend.j1 kj8 a1 true a0_0 a0_1 t554 true))) = some r := H
                have A20 := Aside0.mk A200
                clear A200
                replace H := Option.bind_eq_some_iff.mp H
                obtain ⟨t557, A210, H⟩ := H
                replace H : (if t556 = t557 then (jacquardlaw01_BitsExtend.j1 kj8 a1 true a0_0 a0_1 t554 false) else (jacquardlaw01_BitsExtend.j1 kj8 a1 true a0_0 a0_1 t554 true)) = some r := H
                have A21 := Aside0.mk A210
                clear A210
                by_cases c22 : t556 = t557
                · rw [if_pos c22] at H
                  have c22b0 : (t556 == t557) = true := beq_iff_eq.mpr c22
                  have c22b1 : (t556 != t557) = false := bne_eq_false_iff_eq.mpr c22
                  clear c22
                  (first | rw [c22b0] | (simp only [i64_w, i32_w]; rw [c22b0]) | skip)
                  have H' := Aside0.mk H
                  clear H
                  go_wp2_with (first | (go_at_call 49; (with_reducible refine (bits_Signed.calls a0_1 t554 t556 _ A20.out).mono ?_); rintro e w23 ⟨rfl, hb⟩; have n0_ := Aside0.mk (blk_below (g := gb552) (o := .cells #[.int .i64 a0_0, .int .i64 a0_1] 60 (0, 0)) (by (with_reducible repeat (first | refine blk_drewN ?_ _ | refine blk_drew ?_ | refine blk_alloc ?_ _)); exact BK552.out) hb); have n1_ := Aside0.mk (below_step (by repeat (first | (with_reducible first | exact HB.out | apply below_alloc | apply pw_below_drewN | apply below_drew1 | refine below_set ?_ GE552.out) | exact HB.out)) hb); clear BK552; clear HB; have BK552 := n0_; have HB := n1_; clear n0_ n1_; (try clear hb); (try clear hb2); (try clear hk); (try clear hi)) | (go_at_call 49; (with_reducible refine (bits_Signed.calls a0_0 a1 t557 _ A21.out).mono ?_); rintro e w24 ⟨rfl, hb⟩; have n0_ := Aside0.mk (blk_below (g := gb552) (o := .cells #[.int .i64 a0_0, .int .i64 a0_1] 60 (0, 0)) (by (with_reducible repeat (first | refine blk_drewN ?_ _ | refine blk_drew ?_ | refine blk_alloc ?_ _)); exact BK552.out) hb); have n1_ := Aside0.mk (below_step (by repeat (first | (with_reducible first | exact HB.out | apply below_alloc | apply pw_below_drewN | apply below_drew1 | refine below_set ?_ GE552.out) | exact HB.out)) hb); clear BK552; clear HB; have BK552 := n0_; have HB := n1_; clear n0_ n1_; (try clear hb); (try clear hb2); (try clear hk); (try clear hi)))
                  repeat (go_quiet (first | (go_at_call 49; (with_reducible refine (bits_Signed.calls a0_1 t554 t556 _ A20.out).mono ?_); rintro e w23 ⟨rfl, hb⟩; have n0_ := Aside0.mk (blk_below (g := gb552) (o := .cells #[.int .i64 a0_0, .int .i64 a0_1] 60 (0, 0)) (by (with_reducible repeat (first | refine blk_drewN ?_ _ | refine blk_drew ?_ | refine blk_alloc ?_ _)); exact BK552.out) hb); have n1_ := Aside0.mk (below_step (by repeat (first | (with_reducible first | exact HB.out | apply below_alloc | apply pw_below_drewN | apply below_drew1 | refine below_set ?_ GE552.out) | exact HB.out)) hb); clear BK552; clear HB; have BK552 := n0_; have HB := n1_; clear n0_ n1_; (try clear hb); (try clear hb2); (try clear hk); (try clear hi)) | (go_at_call 49; (with_reducible refine (bits_Signed.calls a0_0 a1 t557 _ A21.out).mono ?_); rintro e w24 ⟨rfl, hb⟩; have n0_ := Aside0.mk (blk_below (g := gb552) (o := .cells #[.int .i64 a0_0, .int .i64 a0_1] 60 (0, 0)) (by (with_reducible repeat (first | refine blk_drewN ?_ _ | refine blk_drew ?_ | refine blk_alloc ?_ _)); exact BK552.out) hb); have n1_ := Aside0.mk (below_step (by repeat (first | (with_reducible first | exact HB.out | apply below_alloc | apply pw_below_drewN | apply below_drew1 | refine below_set ?_ GE552.out) | exact HB.out)) hb); clear BK552; clear HB; have BK552 := n0_; have HB := n1_; clear n0_ n1_; (try clear hb); (try clear hb2); (try clear hk); (try clear hi))); try go_wp2_with (first | (go_at_call 49; (with_reducible refine (bits_Signed.calls a0_1 t554 t556 _ A20.out).mono ?_); rintro e w23 ⟨rfl, hb⟩; have n0_ := Aside0.mk (blk_below (g := gb552) (o := .cells #[.int .i64 a0_0, .int .i64 a0_1] 60 (0, 0)) (by (with_reducible repeat (first | refine blk_drewN ?_ _ | refine blk_drew ?_ | refine blk_alloc ?_ _)); exact BK552.out) hb); have n1_ := Aside0.mk (below_step (by repeat (first | (with_reducible first | exact HB.out | apply below_alloc | apply pw_below_drewN | apply below_drew1 | refine below_set ?_ GE552.out) | exact HB.out)) hb); clear BK552; clear HB; have BK552 := n0_; have HB := n1_; clear n0_ n1_; (try clear hb); (try clear hb2); (try clear hk); (try clear hi)) | (go_at_call 49; (with_reducible refine (bits_Signed.calls a0_0 a1 t557 _ A21.out).mono ?_); rintro e w24 ⟨rfl, hb⟩; have n0_ := Aside0.mk (blk_below (g := gb552) (o := .cells #[.int .i64 a0_0, .int .i64 a0_1] 60 (0, 0)) (by (with_reducible repeat (first | refine blk_drewN ?_ _ | refine blk_drew ?_ | refine blk_alloc ?_ _)); exact BK552.out) hb); have n1_ := Aside0.mk (below_step (by repeat (first | (with_reducible first | exact HB.out | apply below_alloc | apply pw_below_drewN | apply below_drew1 | refine below_set ?_ GE552.out) | exact HB.out)) hb); clear BK552; clear HB; have BK552 := n0_; have HB := n1_; clear n0_ n1_; (try clear hb); (try clear hb2); (try clear hk); (try clear hi))))
                  go_meet
                  case rel => exact ⟨_, (false), (by first | rfl | (simp; done) | (simp [*]; done)), H', ⟨by have := HJ8.out; first | omega | exact Nat.le_refl _⟩, ⟨by (with_reducible repeat (first | refine blk_drewN ?_ _ | refine blk_drew ?_ | refine blk_alloc ?_ _)); exact BK552.out⟩, ⟨by repeat (first | (with_reducible first | exact HB.out | apply below_alloc | apply pw_below_drewN | apply below_drew1 | refine below_set ?_ GE552.out) | exact HB.out)⟩⟩
                · rw [if_neg c22] at H
                  have c22b0 : (t556 == t557) = false := beq_eq_false_iff_ne.mpr c22
                  have c22b1 : (t556 != t557) = true := bne_iff_ne.mpr c22
                  (first | rw [c22b0] | (simp only [i64_w, i32_w]; rw [c22b0]) | skip)
                  have H' := Aside0.mk H
                  clear H
                  go_wp2_with (first | (go_at_call 49; (with_reducible refine (bits_Signed.calls a0_1 t554 t556 _ A20.out).mono ?_); rintro e w25 ⟨rfl, hb⟩; have n0_ := Aside0.mk (blk_below (g := gb552) (o := .cells #[.int .i64 a0_0, .int .i64 a0_1] 60 (0, 0)) (by (with_reducible repeat (first | refine blk_drewN ?_ _ | refine blk_drew ?_ | refine blk_alloc ?_ _)); exact BK552.out) hb); have n1_ := Aside0.mk (below_step (by repeat (first | (with_reducible first | exact HB.out | apply below_alloc | apply pw_below_drewN | apply below_drew1 | refine below_set ?_ GE552.out) | exact HB.out)) hb); clear BK552; clear HB; have BK552 := n0_; have HB := n1_; clear n0_ n1_; (try clear hb); (try clear hb2); (try clear hk); (try clear hi)) | (go_at_call 49; (with_reducible refine (bits_Signed.calls a0_0 a1 t557 _ A21.out).mono ?_); rintro e w26 ⟨rfl, hb⟩; have n0_ := Aside0.mk (blk_below (g := gb552) (o := .cells #[.int .i64 a0_0, .int .i64 a0_1] 60 (0, 0)) (by (with_reducible repeat (first | refine blk_drewN ?_ _ | refine blk_drew ?_ | refine blk_alloc ?_ _)); exact BK552.out) hb); have n1_ := Aside0.mk (below_step (by repeat (first | (with_reducible first | exact HB.out | apply below_alloc | apply pw_below_drewN | apply below_drew1 | refine below_set ?_ GE552.out) | exact HB.out)) hb); clear BK552; clear HB; have BK552 := n0_; have HB := n1_; clear n0_ n1_; (try clear hb); (try clear hb2); (try clear hk); (try clear hi)))
                  repeat (go_quiet (first | (go_at_call 49; (with_reducible refine (bits_Signed.calls a0_1 t554 t556 _ A20.out).mono ?_); rintro e w25 ⟨rfl, hb⟩; have n0_ := Aside0.mk (blk_below (g := gb552) (o := .cells #[.int .i64 a0_0, .int .i64 a0_1] 60 (0, 0)) (by (with_reducible repeat (first | refine blk_drewN ?_ _ | refine blk_drew ?_ | refine blk_alloc ?_ _)); exact BK552.out) hb); have n1_ := Aside0.mk (below_step (by repeat (first | (with_reducible first | exact HB.out | apply below_alloc | apply pw_below_drewN | apply below_drew1 | refine below_set ?_ GE552.out) | exact HB.out)) hb); clear BK552; clear HB; have BK552 := n0_; have HB := n1_; clear n0_ n1_; (try clear hb); (try clear hb2); (try clear hk); (try clear hi)) | (go_at_call 49; (with_reducible refine (bits_Signed.calls a0_0 a1 t557 _ A21.out).mono ?_); rintro e w26 ⟨rfl, hb⟩; have n0_ := Aside0.mk (blk_below (g := gb552) (o := .cells #[.int .i64 a0_0, .int .i64 a0_1] 60 (0, 0)) (by (with_reducible repeat (first | refine blk_drewN ?_ _ | refine blk_drew ?_ | refine blk_alloc ?_ _)); exact BK552.out) hb); have n1_ := Aside0.mk (below_step (by repeat (first | (with_reducible first | exact HB.out | apply below_alloc | apply pw_below_drewN | apply below_drew1 | refine below_set ?_ GE552.out) | exact HB.out)) hb); clear BK552; clear HB; have BK552 := n0_; have HB := n1_; clear n0_ n1_; (try clear hb); (try clear hb2); (try clear hk); (try clear hi))); try go_wp2_with (first | (go_at_call 49; (with_reducible refine (bits_Signed.calls a0_1 t554 t556 _ A20.out).mono ?_); rintro e w25 ⟨rfl, hb⟩; have n0_ := Aside0.mk (blk_below (g := gb552) (o := .cells #[.int .i64 a0_0, .int .i64 a0_1] 60 (0, 0)) (by (with_reducible repeat (first | refine blk_drewN ?_ _ | refine blk_drew ?_ | refine blk_alloc ?_ _)); exact BK552.out) hb); have n1_ := Aside0.mk (below_step (by repeat (first | (with_reducible first | exact HB.out | apply below_alloc | apply pw_below_drewN | apply below_drew1 | refine below_set ?_ GE552.out) | exact HB.out)) hb); clear BK552; clear HB; have BK552 := n0_; have HB := n1_; clear n0_ n1_; (try clear hb); (try clear hb2); (try clear hk); (try clear hi)) | (go_at_call 49; (with_reducible refine (bits_Signed.calls a0_0 a1 t557 _ A21.out).mono ?_); rintro e w26 ⟨rfl, hb⟩; have n0_ := Aside0.mk (blk_below (g := gb552) (o := .cells #[.int .i64 a0_0, .int .i64 a0_1] 60 (0, 0)) (by (with_reducible repeat (first | refine blk_drewN ?_ _ | refine blk_drew ?_ | refine blk_alloc ?_ _)); exact BK552.out) hb); have n1_ := Aside0.mk (below_step (by repeat (first | (with_reducible first | exact HB.out | apply below_alloc | apply pw_below_drewN | apply below_drew1 | refine below_set ?_ GE552.out) | exact HB.out)) hb); clear BK552; clear HB; have BK552 := n0_; have HB := n1_; clear n0_ n1_; (try clear hb); (try clear hb2); (try clear hk); (try clear hi))))
                  go_meet
                  case rel => exact ⟨_, (true), (by first | rfl | (simp; done) | (simp [*]; done)), H', ⟨by have := HJ8.out; first | omega | exact Nat.le_refl _⟩, ⟨by (with_reducible repeat (first | refine blk_drewN ?_ _ | refine blk_drew ?_ | refine blk_alloc ?_ _)); exact BK552.out⟩, ⟨by repeat (first | (with_reducible first | exact HB.out | apply below_alloc | apply pw_below_drewN | apply below_drew1 | refine below_set ?_ GE552.out) | exact HB.out)⟩⟩
              · replace c19 := Bool.eq_false_iff.mpr c19
                subst c19
                have H1 : ((bits_Fit.f a0_0 a1).bind fun t558 => (jacquardlaw01_BitsExtend.j1 kj8 a1 false a0_0 a0_1 t554 (t554 != t558))) = some r := by rw [if_neg (show ¬ (false = true) by decide)] at H; exact H
                clear H
                have H := H1
                clear H1
                replace H := Option.bind_eq_some_iff.mp H
                obtain ⟨t558, A270, H⟩ := H
                replace H : (jacquardlaw01_BitsExtend.j1 kj8 a1 false a0_0 a0_1 t554 (t554 != t558)) = some r := H
                have A27 := Aside0.mk A270
                clear A270
                have H' := Aside0.mk H
                clear H
                go_wp2_with (first | (go_at_call 47; (with_reducible refine (bits_Fit.calls a0_0 a1 t558 _ A27.out).mono ?_); rintro e w28 ⟨rfl, hb⟩; have n0_ := Aside0.mk (blk_below (g := gb552) (o := .cells #[.int .i64 a0_0, .int .i64 a0_1] 60 (0, 0)) (by (with_reducible repeat (first | refine blk_drewN ?_ _ | refine blk_drew ?_ | refine blk_alloc ?_ _)); exact BK552.out) hb); have n1_ := Aside0.mk (below_step (by repeat (first | (with_reducible first | exact HB.out | apply below_alloc | apply pw_below_drewN | apply below_drew1 | refine below_set ?_ GE552.out) | exact HB.out)) hb); clear BK552; clear HB; have BK552 := n0_; have HB := n1_; clear n0_ n1_; (try clear hb); (try clear hb2); (try clear hk); (try clear hi)))
                repeat (go_quiet (first | (go_at_call 47; (with_reducible refine (bits_Fit.calls a0_0 a1 t558 _ A27.out).mono ?_); rintro e w28 ⟨rfl, hb⟩; have n0_ := Aside0.mk (blk_below (g := gb552) (o := .cells #[.int .i64 a0_0, .int .i64 a0_1] 60 (0, 0)) (by (with_reducible repeat (first | refine blk_drewN ?_ _ | refine blk_drew ?_ | refine blk_alloc ?_ _)); exact BK552.out) hb); have n1_ := Aside0.mk (below_step (by repeat (first | (with_reducible first | exact HB.out | apply below_alloc | apply pw_below_drewN | apply below_drew1 | refine below_set ?_ GE552.out) | exact HB.out)) hb); clear BK552; clear HB; have BK552 := n0_; have HB := n1_; clear n0_ n1_; (try clear hb); (try clear hb2); (try clear hk); (try clear hi))); try go_wp2_with (first | (go_at_call 47; (with_reducible refine (bits_Fit.calls a0_0 a1 t558 _ A27.out).mono ?_); rintro e w28 ⟨rfl, hb⟩; have n0_ := Aside0.mk (blk_below (g := gb552) (o := .cells #[.int .i64 a0_0, .int .i64 a0_1] 60 (0, 0)) (by (with_reducible repeat (first | refine blk_drewN ?_ _ | refine blk_drew ?_ | refine blk_alloc ?_ _)); exact BK552.out) hb); have n1_ := Aside0.mk (below_step (by repeat (first | (with_reducible first | exact HB.out | apply below_alloc | apply pw_below_drewN | apply below_drew1 | refine below_set ?_ GE552.out) | exact HB.out)) hb); clear BK552; clear HB; have BK552 := n0_; have HB := n1_; clear n0_ n1_; (try clear hb); (try clear hb2); (try clear hk); (try clear hi))))
                go_meet
                case rel => exact ⟨_, ((t554 != t558)), (by first | rfl | (simp; done) | (simp [*]; done)), H', ⟨by have := HJ8.out; first | omega | exact Nat.le_refl _⟩, ⟨by (with_reducible repeat (first | refine blk_drewN ?_ _ | refine blk_drew ?_ | refine blk_alloc ?_ _)); exact BK552.out⟩, ⟨by repeat (first | (with_reducible first | exact HB.out | apply below_alloc | apply pw_below_drewN | apply below_drew1 | refine below_set ?_ GE552.out) | exact HB.out)⟩⟩
            case rest =>
              clear HC18
              try clear c1
              try clear c2
              try clear p2
              try clear c5
              try clear c8
              try clear c8b0
              try clear c8b1
              try clear c10
              try clear c15
              try clear c15b0
              try clear c16
              try clear c16b0
              try clear c17
              try clear c19
              try clear c22
              try clear c22b0
              try clear c22b1
              try clear hcz12_0
              try clear hcz12_1
              try clear hfz12_0
              try clear hfz12_1
              try clear p2
              obtain ⟨kq, x59_17, rfl, HA, HJ17, BK552, HB⟩ := hcut
              cases kq with
              | zero => exact absurd HA.out (by simp [jacquardlaw01_BitsExtend.j1])
              | succ kj17 =>
                have H := HA.out
                clear HA
                simp only [jacquardlaw01_BitsExtend.j1] at H
                by_cases c29 : x59_17 = true
                · subst c29
                  have H1 : (some false) = some r := by rw [if_pos rfl] at H; exact H
                  clear H
                  have H := H1
                  clear H1
                  obtain rfl := Option.some.inj H
                  go_wp2
                  repeat (go_quiet (fail); try go_wp2)
                  go_ret
                  exact ⟨by first | rfl | (simp [errW_none, errW_some] <;> rfl) | (simp [*, errW_none, errW_some] <;> rfl), by repeat (first | (with_reducible first | exact HB.out | apply below_alloc | apply pw_below_drewN | apply below_drew1 | refine below_set ?_ GE552.out) | exact HB.out)⟩
                · replace c29 := Bool.eq_false_iff.mpr c29
                  subst c29
                  have H1 : ((bits_Extend.f a0_1 a0_0 t554 a2).bind fun t559 => ((bits_Fit.f a0_0 a1).bind fun t560 => (some (t559 == t560)))) = some r := by rw [if_neg (show ¬ (false = true) by decide)] at H; exact H
                  clear H
                  have H := H1
                  clear H1
                  replace H := Option.bind_eq_some_iff.mp H
                  obtain ⟨t559, A300, H⟩ := H
                  replace H : ((bits_Fit.f a0_0 a1).bind fun t560 => (some (t559 == t560))) = some r := H
                  have A30 := Aside0.mk A300
                  clear A300
                  replace H := Option.bind_eq_some_iff.mp H
                  obtain ⟨t560, A310, H⟩ := H
                  replace H : (some (t559 == t560)) = some r := H
                  have A31 := Aside0.mk A310
                  clear A310
                  obtain rfl := Option.some.inj H
                  go_wp2_with (first | (go_at_call 50; (with_reducible refine (bits_Extend.calls a0_1 a0_0 t554 a2 t559 _ A30.out).mono ?_); rintro e w32 ⟨rfl, hb⟩; have n0_ := Aside0.mk (blk_below (g := gb552) (o := .cells #[.int .i64 a0_0, .int .i64 a0_1] 60 (0, 0)) (by (with_reducible repeat (first | refine blk_drewN ?_ _ | refine blk_drew ?_ | refine blk_alloc ?_ _)); exact BK552.out) hb); have n1_ := Aside0.mk (below_step (by repeat (first | (with_reducible first | exact HB.out | apply below_alloc | apply pw_below_drewN | apply below_drew1 | refine below_set ?_ GE552.out) | exact HB.out)) hb); clear BK552; clear HB; have BK552 := n0_; have HB := n1_; clear n0_ n1_; (try clear hb); (try clear hb2); (try clear hk); (try clear hi)) | (go_at_call 47; (with_reducible refine (bits_Fit.calls a0_0 a1 t560 _ A31.out).mono ?_); rintro e w33 ⟨rfl, hb⟩; have n0_ := Aside0.mk (blk_below (g := gb552) (o := .cells #[.int .i64 a0_0, .int .i64 a0_1] 60 (0, 0)) (by (with_reducible repeat (first | refine blk_drewN ?_ _ | refine blk_drew ?_ | refine blk_alloc ?_ _)); exact BK552.out) hb); have n1_ := Aside0.mk (below_step (by repeat (first | (with_reducible first | exact HB.out | apply below_alloc | apply pw_below_drewN | apply below_drew1 | refine below_set ?_ GE552.out) | exact HB.out)) hb); clear BK552; clear HB; have BK552 := n0_; have HB := n1_; clear n0_ n1_; (try clear hb); (try clear hb2); (try clear hk); (try clear hi)))
                  repeat (go_quiet (first | (go_at_call 50; (with_reducible refine (bits_Extend.calls a0_1 a0_0 t554 a2 t559 _ A30.out).mono ?_); rintro e w32 ⟨rfl, hb⟩; have n0_ := Aside0.mk (blk_below (g := gb552) (o := .cells #[.int .i64 a0_0, .int .i64 a0_1] 60 (0, 0)) (by (with_reducible repeat (first | refine blk_drewN ?_ _ | refine blk_drew ?_ | refine blk_alloc ?_ _)); exact BK552.out) hb); have n1_ := Aside0.mk (below_step (by repeat (first | (with_reducible first | exact HB.out | apply below_alloc | apply pw_below_drewN | apply below_drew1 | refine below_set ?_ GE552.out) | exact HB.out)) hb); clear BK552; clear HB; have BK552 := n0_; have HB := n1_; clear n0_ n1_; (try clear hb); (try clear hb2); (try clear hk); (try clear hi)) | (go_at_call 47; (with_reducible refine (bits_Fit.calls a0_0 a1 t560 _ A31.out).mono ?_); rintro e w33 ⟨rfl, hb⟩; have n0_ := Aside0.mk (blk_below (g := gb552) (o := .cells #[.int .i64 a0_0, .int .i64 a0_1] 60 (0, 0)) (by (with_reducible repeat (first | refine blk_drewN ?_ _ | refine blk_drew ?_ | refine blk_alloc ?_ _)); exact BK552.out) hb); have n1_ := Aside0.mk (below_step (by repeat (first | (with_reducible first | exact HB.out | apply below_alloc | apply pw_below_drewN | apply below_drew1 | refine below_set ?_ GE552.out) | exact HB.out)) hb); clear BK552; clear HB; have BK552 := n0_; have HB := n1_; clear n0_ n1_; (try clear hb); (try clear hb2); (try clear hk); (try clear hi))); try go_wp2_with (first | (go_at_call 50; (with_reducible refine (bits_Extend.calls a0_1 a0_0 t554 a2 t559 _ A30.out).mono ?_); rintro e w32 ⟨rfl, hb⟩; have n0_ := Aside0.mk (blk_below (g := gb552) (o := .cells #[.int .i64 a0_0, .int .i64 a0_1] 60 (0, 0)) (by (with_reducible repeat (first | refine blk_drewN ?_ _ | refine blk_drew ?_ | refine blk_alloc ?_ _)); exact BK552.out) hb); have n1_ := Aside0.mk (below_step (by repeat (first | (with_reducible first | exact HB.out | apply below_alloc | apply pw_below_drewN | apply below_drew1 | refine below_set ?_ GE552.out) | exact HB.out)) hb); clear BK552; clear HB; have BK552 := n0_; have HB := n1_; clear n0_ n1_; (try clear hb); (try clear hb2); (try clear hk); (try clear hi)) | (go_at_call 47; (with_reducible refine (bits_Fit.calls a0_0 a1 t560 _ A31.out).mono ?_); rintro e w33 ⟨rfl, hb⟩; have n0_ := Aside0.mk (blk_below (g := gb552) (o := .cells #[.int .i64 a0_0, .int .i64 a0_1] 60 (0, 0)) (by (with_reducible repeat (first | refine blk_drewN ?_ _ | refine blk_drew ?_ | refine blk_alloc ?_ _)); exact BK552.out) hb); have n1_ := Aside0.mk (below_step (by repeat (first | (with_reducible first | exact HB.out | apply below_alloc | apply pw_below_drewN | apply below_drew1 | refine below_set ?_ GE552.out) | exact HB.out)) hb); clear BK552; clear HB; have BK552 := n0_; have HB := n1_; clear n0_ n1_; (try clear hb); (try clear hb2); (try clear hk); (try clear hi))))
                  go_ret
                  exact ⟨by first | rfl | (simp [errW_none, errW_some] <;> rfl) | (simp [*, errW_none, errW_some] <;> rfl), by repeat (first | (with_reducible first | exact HB.out | apply below_alloc | apply pw_below_drewN | apply below_drew1 | refine below_set ?_ GE552.out) | exact HB.out)⟩
    · rw [if_neg c8] at H
      have c8b0 : (t554 == t555) = false := beq_eq_false_iff_ne.mpr c8
      have c8b1 : (t554 != t555) = true := bne_iff_ne.mpr c8
      obtain rfl := Option.some.inj H
      go_enter Try.func10, Try.ntmps10
      go_wp2_with (first | ((with_reducible refine gate_dst (N := 3) rfl ?_); refine box_event ?hg (N := 3) ?hd (cs := #[.int .i64 a0_0, .int .i64 a0_1]) (t := 60) ?hr ?_; (case hd => rfl); (case hg => rfl); (case hr => first | (go_simp; done) | (go_simp; rfl)); intro gb552 hg w34 hbox hb; have n0_ := Aside0.mk (below_step (by repeat (first | (with_reducible first | exact HB.out | apply below_alloc | apply pw_below_drewN | apply below_drew1) | exact HB.out)) hb); have n1_ := Aside0.mk (hbox); have n2_ := Aside0.mk ((by rw [hg]; exact (below_size (by repeat (first | (with_reducible first | exact HB.out | apply below_alloc | apply pw_below_drewN | apply below_drew1) | exact HB.out))) : w.heap.size ≤ gb552)); have n3_ := Aside0.mk ((by rw [hg]; exact (below_size (by repeat (first | (with_reducible first | exact HB.out | apply below_alloc | apply pw_below_drewN | apply below_drew1) | exact HB.out))) : w.heap.size ≤ gb552)); clear HB; have HB := n0_; have BK552 := n1_; have GW552 := n2_; have GE552 := n3_; clear n0_ n1_ n2_ n3_; clear hb hbox hg) | (go_at_call 42; (with_reducible refine (jacquardlaw01_awake.calls k  true _ A4.out).mono ?_); rintro e w35 ⟨rfl, hb⟩; have n0_ := Aside0.mk (blk_below (g := gb552) (o := .cells #[.int .i64 a0_0, .int .i64 a0_1] 60 (0, 0)) (by (with_reducible repeat (first | refine blk_drewN ?_ _ | refine blk_drew ?_ | refine blk_alloc ?_ _)); exact BK552.out) hb); have n1_ := Aside0.mk (below_step (by repeat (first | (with_reducible first | exact HB.out | apply below_alloc | apply pw_below_drewN | apply below_drew1 | refine below_set ?_ GE552.out) | exact HB.out)) hb); clear BK552; clear HB; have BK552 := n0_; have HB := n1_; clear n0_ n1_; (try clear hb); (try clear hb2); (try clear hk); (try clear hi); have hcz36_0 : w35.cell? ⟨gb552, 0, none⟩ = some (.int .i64 a0_0) := (blk_cell BK552.out 0).trans rfl; have hcz36_1 : w35.cell? ⟨gb552, 1, none⟩ = some (.int .i64 a0_1) := (blk_cell BK552.out 1).trans rfl; have hfz36_0 := blk_frozen BK552.out 0; have hfz36_1 := blk_frozen BK552.out 1) | (go_at_call 50; (with_reducible refine (bits_Extend.calls a0_0 a0_1 a1 a2 t554 _ A6.out).mono ?_); rintro e w37 ⟨rfl, hb⟩; have n0_ := Aside0.mk (blk_below (g := gb552) (o := .cells #[.int .i64 a0_0, .int .i64 a0_1] 60 (0, 0)) (by (with_reducible repeat (first | refine blk_drewN ?_ _ | refine blk_drew ?_ | refine blk_alloc ?_ _)); exact BK552.out) hb); have n1_ := Aside0.mk (below_step (by repeat (first | (with_reducible first | exact HB.out | apply below_alloc | apply pw_below_drewN | apply below_drew1 | refine below_set ?_ GE552.out) | exact HB.out)) hb); clear BK552; clear HB; have BK552 := n0_; have HB := n1_; clear n0_ n1_; (try clear hb); (try clear hb2); (try clear hk); (try clear hi)) | (go_at_call 51; (with_reducible refine (jacquardref01_Extend.calls k a0_0 a0_1 a1 a2 t555 _ A7.out).mono ?_); rintro e w38 ⟨rfl, hb⟩; have n0_ := Aside0.mk (blk_below (g := gb552) (o := .cells #[.int .i64 a0_0, .int .i64 a0_1] 60 (0, 0)) (by (with_reducible repeat (first | refine blk_drewN ?_ _ | refine blk_drew ?_ | refine blk_alloc ?_ _)); exact BK552.out) hb); have n1_ := Aside0.mk (below_step (by repeat (first | (with_reducible first | exact HB.out | apply below_alloc | apply pw_below_drewN | apply below_drew1 | refine below_set ?_ GE552.out) | exact HB.out)) hb); clear BK552; clear HB; have BK552 := n0_; have HB := n1_; clear n0_ n1_; (try clear hb); (try clear hb2); (try clear hk); (try clear hi)))
      repeat (go_quiet (first | ((with_reducible refine gate_dst (N := 3) rfl ?_); refine box_event ?hg (N := 3) ?hd (cs := #[.int .i64 a0_0, .int .i64 a0_1]) (t := 60) ?hr ?_; (case hd => rfl); (case hg => rfl); (case hr => first | (go_simp; done) | (go_simp; rfl)); intro gb552 hg w34 hbox hb; have n0_ := Aside0.mk (below_step (by repeat (first | (with_reducible first | exact HB.out | apply below_alloc | apply pw_below_drewN | apply below_drew1) | exact HB.out)) hb); have n1_ := Aside0.mk (hbox); have n2_ := Aside0.mk ((by rw [hg]; exact (below_size (by repeat (first | (with_reducible first | exact HB.out | apply below_alloc | apply pw_below_drewN | apply below_drew1) | exact HB.out))) : w.heap.size ≤ gb552)); have n3_ := Aside0.mk ((by rw [hg]; exact (below_size (by repeat (first | (with_reducible first | exact HB.out | apply below_alloc | apply pw_below_drewN | apply below_drew1) | exact HB.out))) : w.heap.size ≤ gb552)); clear HB; have HB := n0_; have BK552 := n1_; have GW552 := n2_; have GE552 := n3_; clear n0_ n1_ n2_ n3_; clear hb hbox hg) | (go_at_call 42; (with_reducible refine (jacquardlaw01_awake.calls k  true _ A4.out).mono ?_); rintro e w35 ⟨rfl, hb⟩; have n0_ := Aside0.mk (blk_below (g := gb552) (o := .cells #[.int .i64 a0_0, .int .i64 a0_1] 60 (0, 0)) (by (with_reducible repeat (first | refine blk_drewN ?_ _ | refine blk_drew ?_ | refine blk_alloc ?_ _)); exact BK552.out) hb); have n1_ := Aside0.mk (below_step (by repeat (first | (with_reducible first | exact HB.out | apply below_alloc | apply pw_below_drewN | apply below_drew1 | refine below_set ?_ GE552.out) | exact HB.out)) hb); clear BK552; clear HB; have BK552 := n0_; have HB := n1_; clear n0_ n1_; (try clear hb); (try clear hb2); (try clear hk); (try clear hi); have hcz36_0 : w35.cell? ⟨gb552, 0, none⟩ = some (.int .i64 a0_0) := (blk_cell BK552.out 0).trans rfl; have hcz36_1 : w35.cell? ⟨gb552, 1, none⟩ = some (.int .i64 a0_1) := (blk_cell BK552.out 1).trans rfl; have hfz36_0 := blk_frozen BK552.out 0; have hfz36_1 := blk_frozen BK552.out 1) | (go_at_call 50; (with_reducible refine (bits_Extend.calls a0_0 a0_1 a1 a2 t554 _ A6.out).mono ?_); rintro e w37 ⟨rfl, hb⟩; have n0_ := Aside0.mk (blk_below (g := gb552) (o := .cells #[.int .i64 a0_0, .int .i64 a0_1] 60 (0, 0)) (by (with_reducible repeat (first | refine blk_drewN ?_ _ | refine blk_drew ?_ | refine blk_alloc ?_ _)); exact BK552.out) hb); have n1_ := Aside0.mk (below_step (by repeat (first | (with_reducible first | exact HB.out | apply below_alloc | apply pw_below_drewN | apply below_drew1 | refine below_set ?_ GE552.out) | exact HB.out)) hb); clear BK552; clear HB; have BK552 := n0_; have HB := n1_; clear n0_ n1_; (try clear hb); (try clear hb2); (try clear hk); (try clear hi)) | (go_at_call 51; (with_reducible refine (jacquardref01_Extend.calls k a0_0 a0_1 a1 a2 t555 _ A7.out).mono ?_); rintro e w38 ⟨rfl, hb⟩; have n0_ := Aside0.mk (blk_below (g := gb552) (o := .cells #[.int .i64 a0_0, .int .i64 a0_1] 60 (0, 0)) (by (with_reducible repeat (first | refine blk_drewN ?_ _ | refine blk_drew ?_ | refine blk_alloc ?_ _)); exact BK552.out) hb); have n1_ := Aside0.mk (below_step (by repeat (first | (with_reducible first | exact HB.out | apply below_alloc | apply pw_below_drewN | apply below_drew1 | refine below_set ?_ GE552.out) | exact HB.out)) hb); clear BK552; clear HB; have BK552 := n0_; have HB := n1_; clear n0_ n1_; (try clear hb); (try clear hb2); (try clear hk); (try clear hi))); try go_wp2_with (first | ((with_reducible refine gate_dst (N := 3) rfl ?_); refine box_event ?hg (N := 3) ?hd (cs := #[.int .i64 a0_0, .int .i64 a0_1]) (t := 60) ?hr ?_; (case hd => rfl); (case hg => rfl); (case hr => first | (go_simp; done) | (go_simp; rfl)); intro gb552 hg w34 hbox hb; have n0_ := Aside0.mk (below_step (by repeat (first | (with_reducible first | exact HB.out | apply below_alloc | apply pw_below_drewN | apply below_drew1) | exact HB.out)) hb); have n1_ := Aside0.mk (hbox); have n2_ := Aside0.mk ((by rw [hg]; exact (below_size (by repeat (first | (with_reducible first | exact HB.out | apply below_alloc | apply pw_below_drewN | apply below_drew1) | exact HB.out))) : w.heap.size ≤ gb552)); have n3_ := Aside0.mk ((by rw [hg]; exact (below_size (by repeat (first | (with_reducible first | exact HB.out | apply below_alloc | apply pw_below_drewN | apply below_drew1) | exact HB.out))) : w.heap.size ≤ gb552)); clear HB; have HB := n0_; have BK552 := n1_; have GW552 := n2_; have GE552 := n3_; clear n0_ n1_ n2_ n3_; clear hb hbox hg) | (go_at_call 42; (with_reducible refine (jacquardlaw01_awake.calls k  true _ A4.out).mono ?_); rintro e w35 ⟨rfl, hb⟩; have n0_ := Aside0.mk (blk_below (g := gb552) (o := .cells #[.int .i64 a0_0, .int .i64 a0_1] 60 (0, 0)) (by (with_reducible repeat (first | refine blk_drewN ?_ _ | refine blk_drew ?_ | refine blk_alloc ?_ _)); exact BK552.out) hb); have n1_ := Aside0.mk (below_step (by repeat (first | (with_reducible first | exact HB.out | apply below_alloc | apply pw_below_drewN | apply below_drew1 | refine below_set ?_ GE552.out) | exact HB.out)) hb); clear BK552; clear HB; have BK552 := n0_; have HB := n1_; clear n0_ n1_; (try clear hb); (try clear hb2); (try clear hk); (try clear hi); have hcz36_0 : w35.cell? ⟨gb552, 0, none⟩ = some (.int .i64 a0_0) := (blk_cell BK552.out 0).trans rfl; have hcz36_1 : w35.cell? ⟨gb552, 1, none⟩ = some (.int .i64 a0_1) := (blk_cell BK552.out 1).trans rfl; have hfz36_0 := blk_frozen BK552.out 0; have hfz36_1 := blk_frozen BK552.out 1) | (go_at_call 50; (with_reducible refine (bits_Extend.calls a0_0 a0_1 a1 a2 t554 _ A6.out).mono ?_); rintro e w37 ⟨rfl, hb⟩; have n0_ := Aside0.mk (blk_below (g := gb552) (o := .cells #[.int .i64 a0_0, .int .i64 a0_1] 60 (0, 0)) (by (with_reducible repeat (first | refine blk_drewN ?_ _ | refine blk_drew ?_ | refine blk_alloc ?_ _)); exact BK552.out) hb); have n1_ := Aside0.mk (below_step (by repeat (first | (with_reducible first | exact HB.out | apply below_alloc | apply pw_below_drewN | apply below_drew1 | refine below_set ?_ GE552.out) | exact HB.out)) hb); clear BK552; clear HB; have BK552 := n0_; have HB := n1_; clear n0_ n1_; (try clear hb); (try clear hb2); (try clear hk); (try clear hi)) | (go_at_call 51; (with_reducible refine (jacquardref01_Extend.calls k a0_0 a0_1 a1 a2 t555 _ A7.out).mono ?_); rintro e w38 ⟨rfl, hb⟩; have n0_ := Aside0.mk (blk_below (g := gb552) (o := .cells #[.int .i64 a0_0, .int .i64 a0_1] 60 (0, 0)) (by (with_reducible repeat (first | refine blk_drewN ?_ _ | refine blk_drew ?_ | refine blk_alloc ?_ _)); exact BK552.out) hb); have n1_ := Aside0.mk (below_step (by repeat (first | (with_reducible first | exact HB.out | apply below_alloc | apply pw_below_drewN | apply below_drew1 | refine below_set ?_ GE552.out) | exact HB.out)) hb); clear BK552; clear HB; have BK552 := n0_; have HB := n1_; clear n0_ n1_; (try clear hb); (try clear hb2); (try clear hk); (try clear hi))))
      go_ret
      exact ⟨by first | rfl | (simp [errW_none, errW_some] <;> rfl) | (simp [*, errW_none, errW_some] <;> rfl), by repeat (first | (with_reducible first | exact HB.out | apply below_alloc | apply pw_below_drewN | apply below_drew1 | refine below_set ?_ GE552.out) | exact HB.out)⟩
  · replace c5 := Bool.eq_false_iff.mpr c5
    subst c5
    have H1 : (some false) = some r := by rw [if_neg (show ¬ (false = true) by decide)] at H; exact H
    clear H
    have H := H1
    clear H1
    obtain rfl := Option.some.inj H
    go_enter Try.func10, Try.ntmps10
    go_wp2_with (first | ((with_reducible refine gate_dst (N := 3) rfl ?_); refine box_event ?hg (N := 3) ?hd (cs := #[.int .i64 a0_0, .int .i64 a0_1]) (t := 60) ?hr ?_; (case hd => rfl); (case hg => rfl); (case hr => first | (go_simp; done) | (go_simp; rfl)); intro gb552 hg w39 hbox hb; have n0_ := Aside0.mk (below_step (by repeat (first | (with_reducible first | exact HB.out | apply below_alloc | apply pw_below_drewN | apply below_drew1) | exact HB.out)) hb); have n1_ := Aside0.mk (hbox); have n2_ := Aside0.mk ((by rw [hg]; exact (below_size (by repeat (first | (with_reducible first | exact HB.out | apply below_alloc | apply pw_below_drewN | apply below_drew1) | exact HB.out))) : w.heap.size ≤ gb552)); have n3_ := Aside0.mk ((by rw [hg]; exact (below_size (by repeat (first | (with_reducible first | exact HB.out | apply below_alloc | apply pw_below_drewN | apply below_drew1) | exact HB.out))) : w.heap.size ≤ gb552)); clear HB; have HB := n0_; have BK552 := n1_; have GW552 := n2_; have GE552 := n3_; clear n0_ n1_ n2_ n3_; clear hb hbox hg) | (go_at_call 42; (with_reducible refine (jacquardlaw01_awake.calls k  false _ A4.out).mono ?_); rintro e w40 ⟨rfl, hb⟩; have n0_ := Aside0.mk (blk_below (g := gb552) (o := .cells #[.int .i64 a0_0, .int .i64 a0_1] 60 (0, 0)) (by (with_reducible repeat (first | refine blk_drewN ?_ _ | refine blk_drew ?_ | refine blk_alloc ?_ _)); exact BK552.out) hb); have n1_ := Aside0.mk (below_step (by repeat (first | (with_reducible first | exact HB.out | apply below_alloc | apply pw_below_drewN | apply below_drew1 | refine below_set ?_ GE552.out) | exact HB.out)) hb); clear BK552; clear HB; have BK552 := n0_; have HB := n1_; clear n0_ n1_; (try clear hb); (try clear hb2); (try clear hk); (try clear hi)))
    repeat (go_quiet (first | ((with_reducible refine gate_dst (N := 3) rfl ?_); refine box_event ?hg (N := 3) ?hd (cs := #[.int .i64 a0_0, .int .i64 a0_1]) (t := 60) ?hr ?_; (case hd => rfl); (case hg => rfl); (case hr => first | (go_simp; done) | (go_simp; rfl)); intro gb552 hg w39 hbox hb; have n0_ := Aside0.mk (below_step (by repeat (first | (with_reducible first | exact HB.out | apply below_alloc | apply pw_below_drewN | apply below_drew1) | exact HB.out)) hb); have n1_ := Aside0.mk (hbox); have n2_ := Aside0.mk ((by rw [hg]; exact (below_size (by repeat (first | (with_reducible first | exact HB.out | apply below_alloc | apply pw_below_drewN | apply below_drew1) | exact HB.out))) : w.heap.size ≤ gb552)); have n3_ := Aside0.mk ((by rw [hg]; exact (below_size (by repeat (first | (with_reducible first | exact HB.out | apply below_alloc | apply pw_below_drewN | apply below_drew1) | exact HB.out))) : w.heap.size ≤ gb552)); clear HB; have HB := n0_; have BK552 := n1_; have GW552 := n2_; have GE552 := n3_; clear n0_ n1_ n2_ n3_; clear hb hbox hg) | (go_at_call 42; (with_reducible refine (jacquardlaw01_awake.calls k  false _ A4.out).mono ?_); rintro e w40 ⟨rfl, hb⟩; have n0_ := Aside0.mk (blk_below (g := gb552) (o := .cells #[.int .i64 a0_0, .int .i64 a0_1] 60 (0, 0)) (by (with_reducible repeat (first | refine blk_drewN ?_ _ | refine blk_drew ?_ | refine blk_alloc ?_ _)); exact BK552.out) hb); have n1_ := Aside0.mk (below_step (by repeat (first | (with_reducible first | exact HB.out | apply below_alloc | apply pw_below_drewN | apply below_drew1 | refine below_set ?_ GE552.out) | exact HB.out)) hb); clear BK552; clear HB; have BK552 := n0_; have HB := n1_; clear n0_ n1_; (try clear hb); (try clear hb2); (try clear hk); (try clear hi))); try go_wp2_with (first | ((with_reducible refine gate_dst (N := 3) rfl ?_); refine box_event ?hg (N := 3) ?hd (cs := #[.int .i64 a0_0, .int .i64 a0_1]) (t := 60) ?hr ?_; (case hd => rfl); (case hg => rfl); (case hr => first | (go_simp; done) | (go_simp; rfl)); intro gb552 hg w39 hbox hb; have n0_ := Aside0.mk (below_step (by repeat (first | (with_reducible first | exact HB.out | apply below_alloc | apply pw_below_drewN | apply below_drew1) | exact HB.out)) hb); have n1_ := Aside0.mk (hbox); have n2_ := Aside0.mk ((by rw [hg]; exact (below_size (by repeat (first | (with_reducible first | exact HB.out | apply below_alloc | apply pw_below_drewN | apply below_drew1) | exact HB.out))) : w.heap.size ≤ gb552)); have n3_ := Aside0.mk ((by rw [hg]; exact (below_size (by repeat (first | (with_reducible first | exact HB.out | apply below_alloc | apply pw_below_drewN | apply below_drew1) | exact HB.out))) : w.heap.size ≤ gb552)); clear HB; have HB := n0_; have BK552 := n1_; have GW552 := n2_; have GE552 := n3_; clear n0_ n1_ n2_ n3_; clear hb hbox hg) | (go_at_call 42; (with_reducible refine (jacquardlaw01_awake.calls k  false _ A4.out).mono ?_); rintro e w40 ⟨rfl, hb⟩; have n0_ := Aside0.mk (blk_below (g := gb552) (o := .cells #[.int .i64 a0_0, .int .i64 a0_1] 60 (0, 0)) (by (with_reducible repeat (first | refine blk_drewN ?_ _ | refine blk_drew ?_ | refine blk_alloc ?_ _)); exact BK552.out) hb); have n1_ := Aside0.mk (below_step (by repeat (first | (with_reducible first | exact HB.out | apply below_alloc | apply pw_below_drewN | apply below_drew1 | refine below_set ?_ GE552.out) | exact HB.out)) hb); clear BK552; clear HB; have BK552 := n0_; have HB := n1_; clear n0_ n1_; (try clear hb); (try clear hb2); (try clear hk); (try clear hi))))
    go_ret
    exact ⟨by first | rfl | (simp [errW_none, errW_some] <;> rfl) | (simp [*, errW_none, errW_some] <;> rfl), by repeat (first | (with_reducible first | exact HB.out | apply below_alloc | apply pw_below_drewN | apply below_drew1 | refine below_set ?_ GE552.out) | exact HB.out)⟩

/-- THE ONE PURE STATEMENT of jacquardlaw01_BitsExtend. -/
def jacquardlaw01_BitsExtend.Pure : Prop := ∀ (a0_0 : Int) (a0_1 : Int) (a1 : Int) (a2 : Bool), (Lit.int .i64 a0_0).wf = true → (Lit.int .i64 a0_1).wf = true → (Lit.int .u64 a1).wf = true → ∃ k, jacquardlaw01_BitsExtend.f k a0_0 a0_1 a1 a2 = some true

/-! ### bits_Associates: function 53 -/
def bits_Associates.f (a0 : Int) : Option (Bool) := if a0 = 2 then (some true) else (if a0 = 4 then (some true) else (if a0 = 9 then (some true) else (if a0 = 10 then (some true) else (if a0 = 11 then (some true) else (some false)))))
set_option maxHeartbeats 8000000 in
set_option maxRecDepth 100000 in
theorem bits_Associates.calls (a0 : Int) (r : Bool) (w : World) (h : bits_Associates.f a0 = some r) :
    Calls Try.prog 53 #[.int .i64 a0] w fun e w' => e = .returned (.bool r) ∧ Drawn0 w w' := by
  have H : (if a0 = 2 then (some true) else (if a0 = 4 then (some true) else (if a0 = 9 then (some true) else (if a0 = 10 then (some true) else (if a0 = 11 then (some true) else (some false)))))) = some r := h
  clear h
  by_cases c2 : a0 = 2
  · rw [if_pos c2] at H
    have c2b0 : (a0 == 2) = true := beq_iff_eq.mpr c2
    have c2b1 : (a0 != 2) = false := bne_eq_false_iff_eq.mpr c2
    clear c2
    obtain rfl := Option.some.inj H
    go_enter Try.func53, Try.ntmps53
    go_wp2
    go_ret
    exact ⟨by first | rfl | (simp; done) | (simp [*]; done), by repeat (first | exact Drawn0.refl _ | apply Drawn0.step)⟩
  · rw [if_neg c2] at H
    have c2b0 : (a0 == 2) = false := beq_eq_false_iff_ne.mpr c2
    have c2b1 : (a0 != 2) = true := bne_iff_ne.mpr c2
    by_cases c3 : a0 = 4
    · rw [if_pos c3] at H
      have c3b0 : (a0 == 4) = true := beq_iff_eq.mpr c3
      have c3b1 : (a0 != 4) = false := bne_eq_false_iff_eq.mpr c3
      clear c3
      obtain rfl := Option.some.inj H
      go_enter Try.func53, Try.ntmps53
      go_wp2
      go_ret
      exact ⟨by first | rfl | (simp; done) | (simp [*]; done), by repeat (first | exact Drawn0.refl _ | apply Drawn0.step)⟩
    · rw [if_neg c3] at H
      have c3b0 : (a0 == 4) = false := beq_eq_false_iff_ne.mpr c3
      have c3b1 : (a0 != 4) = true := bne_iff_ne.mpr c3
      by_cases c4 : a0 = 9
      · rw [if_pos c4] at H
        have c4b0 : (a0 == 9) = true := beq_iff_eq.mpr c4
        have c4b1 : (a0 != 9) = false := bne_eq_false_iff_eq.mpr c4
        clear c4
        obtain rfl := Option.some.inj H
        go_enter Try.func53, Try.ntmps53
        go_wp2
        go_ret
        exact ⟨by first | rfl | (simp; done) | (simp [*]; done), by repeat (first | exact Drawn0.refl _ | apply Drawn0.step)⟩
      · rw [if_neg c4] at H
        have c4b0 : (a0 == 9) = false := beq_eq_false_iff_ne.mpr c4
        have c4b1 : (a0 != 9) = true := bne_iff_ne.mpr c4
        by_cases c5 : a0 = 10
        · rw [if_pos c5] at H
          have c5b0 : (a0 == 10) = true := beq_iff_eq.mpr c5
          have c5b1 : (a0 != 10) = false := bne_eq_false_iff_eq.mpr c5
          clear c5
          obtain rfl := Option.some.inj H
          go_enter Try.func53, Try.ntmps53
          go_wp2
          go_ret
          exact ⟨by first | rfl | (simp; done) | (simp [*]; done), by repeat (first | exact Drawn0.refl _ | apply Drawn0.step)⟩
        · rw [if_neg c5] at H
          have c5b0 : (a0 == 10) = false := beq_eq_false_iff_ne.mpr c5
          have c5b1 : (a0 != 10) = true := bne_iff_ne.mpr c5
          by_cases c6 : a0 = 11
          · rw [if_pos c6] at H
            have c6b0 : (a0 == 11) = true := beq_iff_eq.mpr c6
            have c6b1 : (a0 != 11) = false := bne_eq_false_iff_eq.mpr c6
            clear c6
            obtain rfl := Option.some.inj H
            go_enter Try.func53, Try.ntmps53
            go_wp2
            go_ret
            exact ⟨by first | rfl | (simp; done) | (simp [*]; done), by repeat (first | exact Drawn0.refl _ | apply Drawn0.step)⟩
          · rw [if_neg c6] at H
            have c6b0 : (a0 == 11) = false := beq_eq_false_iff_ne.mpr c6
            have c6b1 : (a0 != 11) = true := bne_iff_ne.mpr c6
            obtain rfl := Option.some.inj H
            go_enter Try.func53, Try.ntmps53
            go_wp2
            go_ret
            exact ⟨by first | rfl | (simp; done) | (simp [*]; done), by repeat (first | exact Drawn0.refl _ | apply Drawn0.step)⟩

end Go.Proofs.Ytanmehdcccldfaa.P
