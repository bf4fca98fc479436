-- made by a program of this work (wip/mkprint.py, wip/mp.sh) out of the translation
import Derived.Test.YtbiohdgeclokmaaPx0
import Derived.Test.YtbiohdgeclokmaaPx5
import Derived.Test.YtbiohdgeclokmaaPx6
import Derived.Test.YtbiohdgeclokmaaPx8
namespace Go.Proofs.Ytbiohdgeclokmaa.P
open Go.RowKit Go.Proofs.YtbiohdgeclokmaaW.PrintWords Go.Proofs.YtbiohdgeclokmaaW.PrintLast Go.Proofs.YtbiohdgeclokmaaW.PrintMore
attribute [local go_sem] max2_int min2_int max_two min_two max_three min_three max_four min_four   -- for this text's walks alone
set_option linter.unusedVariables false
set_option linter.unusedSimpArgs false

/-! ### jacquardref14_Meet: function 40 -/
def jacquardref14_Meet.j0 : Nat → Int → Bool → Int → Int → Int → Int → Int → Int → Option (Int × Int × Int × Int × Int × Int × Bool)
 | 0, _, _, _, _, _, _, _, _ => none
 | k + 1, x0, x39, x552000, x552001, x566000, x566001, x566002, x566003 => if x39 = true then (some (0, 0, 0, 0, 0, 0, false)) else ((jacquardref14_fact.f x552000 x552001 x566000 x566001 x566002 x566003).bind fun bt566 => ((jacquardref14_Tighten.f k x0 bt566.1 bt566.2.1 bt566.2.2.1 bt566.2.2.2.1 bt566.2.2.2.2.1 bt566.2.2.2.2.2).bind fun bt572 => (some (bt572.1, bt572.2.1, bt572.2.2.1, bt572.2.2.2.1, bt572.2.2.2.2.1, bt572.2.2.2.2.2.1, bt572.2.2.2.2.2.2))))
def jacquardref14_Meet.f (k : Nat) (a0 : Int) (a1_0 : Int) (a1_1 : Int) (a1_2 : Int) (a1_3 : Int) (a1_4 : Int) (a1_5 : Int) (a2_0 : Int) (a2_1 : Int) (a2_2 : Int) (a2_3 : Int) (a2_4 : Int) (a2_5 : Int) : Option (Int × Int × Int × Int × Int × Int × Bool) := (jacquardref14_span.f a1_0 a1_1 a1_2 a1_3 a1_4 a1_5).bind fun bt552 => ((jacquardref14_span.f a2_0 a2_1 a2_2 a2_3 a2_4 a2_5).bind fun bt556 => ((jacquardref13_Meet.f bt552.1 bt552.2.1 bt552.2.2.1 bt552.2.2.2 bt556.1 bt556.2.1 bt556.2.2.1 bt556.2.2.2).bind fun bt560 => (if bt560.2.2.2.2 = true then (jacquardref14_Meet.j0 k a0 ((Go.bits .and .u64 (Go.bits .or .u64 a1_0 a2_0) (Go.bits .or .u64 a1_1 a2_1)) != 0) (Go.bits .or .u64 a1_0 a2_0) (Go.bits .or .u64 a1_1 a2_1) bt560.1 bt560.2.1 bt560.2.2.1 bt560.2.2.2.1) else (jacquardref14_Meet.j0 k a0 true (Go.bits .or .u64 a1_0 a2_0) (Go.bits .or .u64 a1_1 a2_1) bt560.1 bt560.2.1 bt560.2.2.1 bt560.2.2.2.1))))
theorem jacquardref14_Meet.mono_l : ∀ k, (∀ y0 y1 y2 y3 y4 y5 y6 y7, LeO (jacquardref14_Meet.j0 k y0 y1 y2 y3 y4 y5 y6 y7) (jacquardref14_Meet.j0 (k + 1) y0 y1 y2 y3 y4 y5 y6 y7))
 | 0 => fun _ _ _ _ _ _ _ _ r h => by simp [jacquardref14_Meet.j0] at h
 | k + 1 => by
  have ih0 := jacquardref14_Meet.mono_l k
  ·
   intro y0 y1 y2 y3 y4 y5 y6 y7
   unfold jacquardref14_Meet.j0
   repeat' first
   | (with_reducible exact ih0 _ _ _ _ _ _ _ _)
   | (with_reducible exact jacquardref14_Tighten.mono _ _ _ _ _ _ _ _)
   | (with_reducible exact LeO.refl _)
   | (with_reducible exact LeO.none _)
   | (with_reducible refine LeO.ite ?_ ?_)
   | (with_reducible refine LeO.bind ?_ (fun _ => ?_))
   | exact ih0 _ _ _ _ _ _ _ _
   | exact jacquardref14_Tighten.mono _ _ _ _ _ _ _ _
   | exact LeO.none _
   | refine LeO.ite ?_ ?_
   | refine LeO.bind ?_ (fun _ => ?_)
theorem jacquardref14_Meet.mono : ∀ a0 a1 a2 a3 a4 a5 a6 a7 a8 a9 a10 a11 a12 k, LeO (jacquardref14_Meet.f k a0 a1 a2 a3 a4 a5 a6 a7 a8 a9 a10 a11 a12) (jacquardref14_Meet.f (k + 1) a0 a1 a2 a3 a4 a5 a6 a7 a8 a9 a10 a11 a12) := by
 intro a0 a1 a2 a3 a4 a5 a6 a7 a8 a9 a10 a11 a12 k
 have ih0 := jacquardref14_Meet.mono_l k
 unfold jacquardref14_Meet.f
 repeat' first
   | (with_reducible exact ih0 _ _ _ _ _ _ _ _)
   | (with_reducible exact jacquardref14_Tighten.mono _ _ _ _ _ _ _ _)
   | (with_reducible exact LeO.refl _)
   | (with_reducible exact LeO.none _)
   | (with_reducible refine LeO.ite ?_ ?_)
   | (with_reducible refine LeO.bind ?_ (fun _ => ?_))
   | exact ih0 _ _ _ _ _ _ _ _
   | exact jacquardref14_Tighten.mono _ _ _ _ _ _ _ _
   | exact LeO.none _
   | refine LeO.ite ?_ ?_
   | refine LeO.bind ?_ (fun _ => ?_)
def jacquardref14_Meet.T2 : Bool × List (List Nat × List Nat) := (true, [([], []), ([0], [0]), ([], []), ([2, 1], [2]), ([1, 3, 3], [1, 3]), ([4], [4]), ([5], [5]), ([5], [5]), ([], []), ([8, 6, 4, 0, 1, 2, 3, 4, 5, 6, 8], [6, 8]), ([7, 9, 0, 1, 2, 3, 4, 5, 6, 7, 8, 9], [7])])
def jacquardref14_Meet.B2 : List Nat := [0, 1, 0, 7, 15, 31, 63, 63, 0, 383, 1023]
theorem jacquardref14_Meet.tab2 : rtab .any (opsOf Try.f40 2) = jacquardref14_Meet.T2 := by kernel_rfl
theorem jacquardref14_Meet.bits2 : waitsOk jacquardref14_Meet.T2.2 jacquardref14_Meet.B2 = true := by kernel_rfl
set_option maxHeartbeats 8000000 in
set_option maxRecDepth 100000 in
theorem jacquardref14_Meet.calls (k : Nat) (a0 : Int) (a1_0 : Int) (a1_1 : Int) (a1_2 : Int) (a1_3 : Int) (a1_4 : Int) (a1_5 : Int) (a2_0 : Int) (a2_1 : Int) (a2_2 : Int) (a2_3 : Int) (a2_4 : Int) (a2_5 : Int) (r1 : Int) (r2 : Int) (r3 : Int) (r4 : Int) (r5 : Int) (r6 : Int) (r7 : Bool) (w : World) (h : jacquardref14_Meet.f k a0 a1_0 a1_1 a1_2 a1_3 a1_4 a1_5 a2_0 a2_1 a2_2 a2_3 a2_4 a2_5 = some (r1, r2, r3, r4, r5, r6, r7)) :
  Calls Try.prog 40 #[.int .i64 a0, .agg #[.int .u64 a1_0, .int .u64 a1_1, .int .u64 a1_2, .int .u64 a1_3, .int .i64 a1_4, .int .i64 a1_5], .agg #[.int .u64 a2_0, .int .u64 a2_1, .int .u64 a2_2, .int .u64 a2_3, .int .i64 a2_4, .int .i64 a2_5]] w fun e w' => e = .returned (.tuple #[.agg #[.int .u64 r1, .int .u64 r2, .int .u64 r3, .int .u64 r4, .int .i64 r5, .int .i64 r6], .bool r7]) ∧ Below w.heap.size w w' := by
 have hu50 := Try.underlying50
 have hu110 := Try.underlying110
 have hu30 := Try.underlying30
 have HB := Aside0.mk (Below.refl w.heap.size w)
 have H : ((jacquardref14_span.f a1_0 a1_1 a1_2 a1_3 a1_4 a1_5).bind fun bt552 => ((jacquardref14_span.f a2_0 a2_1 a2_2 a2_3 a2_4 a2_5).bind fun bt556 => ((jacquardref13_Meet.f bt552.1 bt552.2.1 bt552.2.2.1 bt552.2.2.2 bt556.1 bt556.2.1 bt556.2.2.1 bt556.2.2.2).bind fun bt560 => (if bt560.2.2.2.2 = true then (jacquardref14_Meet.j0 k a0 ((Go.bits .and .u64 (Go.bits .or .u64 a1_0 a2_0) (Go.bits .or .u64 a1_1 a2_1)) != 0) (Go.bits .or .u64 a1_0 a2_0) (Go.bits .or .u64 a1_1 a2_1) bt560.1 bt560.2.1 bt560.2.2.1 bt560.2.2.2.1) else (jacquardref14_Meet.j0 k a0 true (Go.bits .or .u64 a1_0 a2_0) (Go.bits .or .u64 a1_1 a2_1) bt560.1 bt560.2.1 bt560.2.2.1 bt560.2.2.2.1))))) = some (r1, r2, r3, r4, r5, r6, r7) := h
 clear h
 replace H := Option.bind_eq_some_iff.mp H
 obtain ⟨⟨t552, t553, t554, t555⟩, A40, H⟩ := H
 replace H : ((jacquardref14_span.f a2_0 a2_1 a2_2 a2_3 a2_4 a2_5).bind fun bt556 => ((jacquardref13_Meet.f t552 t553 t554 t555 bt556.1 bt556.2.1 bt556.2.2.1 bt556.2.2.2).bind fun bt560 => (if bt560.2.2.2.2 = true then (jacquardref14_Meet.j0 k a0 ((Go.bits .and .u64 (Go.bits .or .u64 a1_0 a2_0) (Go.bits .or .u64 a1_1 a2_1)) != 0) (Go.bits .or .u64 a1_0 a2_0) (Go.bits .or .u64 a1_1 a2_1) bt560.1 bt560.2.1 bt560.2.2.1 bt560.2.2.2.1) else (jacquardref14_Meet.j0 k a0 true (Go.bits .or .u64 a1_0 a2_0) (Go.bits .or .u64 a1_1 a2_1) bt560.1 bt560.2.1 bt560.2.2.1 bt560.2.2.2.1)))) = some (r1, r2, r3, r4, r5, r6, r7) := H
 have A4 := Aside0.mk A40
 clear A40
 replace H := Option.bind_eq_some_iff.mp H
 obtain ⟨⟨t556, t557, t558, t559⟩, A50, H⟩ := H
 replace H : ((jacquardref13_Meet.f t552 t553 t554 t555 t556 t557 t558 t559).bind fun bt560 => (if bt560.2.2.2.2 = true then (jacquardref14_Meet.j0 k a0 ((Go.bits .and .u64 (Go.bits .or .u64 a1_0 a2_0) (Go.bits .or .u64 a1_1 a2_1)) != 0) (Go.bits .or .u64 a1_0 a2_0) (Go.bits .or .u64 a1_1 a2_1) bt560.1 bt560.2.1 bt560.2.2.1 bt560.2.2.2.1) else (jacquardref14_Meet.j0 k a0 true (Go.bits .or .u64 a1_0 a2_0) (Go.bits .or .u64 a1_1 a2_1) bt560.1 bt560.2.1 bt560.2.2.1 bt560.2.2.2.1))) = some (r1, r2, r3, r4, r5, r6, r7) := H
 have A5 := Aside0.mk A50
 clear A50
 replace H := Option.bind_eq_some_iff.mp H
 obtain ⟨⟨t560, t561, t562, t563, t564⟩, A60, H⟩ := H
 replace H : (if t564 = true then (jacquardref14_Meet.j0 k a0 ((Go.bits .and .u64 (Go.bits .or .u64 a1_0 a2_0) (Go.bits .or .u64 a1_1 a2_1)) != 0) (Go.bits .or .u64 a1_0 a2_0) (Go.bits .or .u64 a1_1 a2_1) t560 t561 t562 t563) else (jacquardref14_Meet.j0 k a0 true (Go.bits .or .u64 a1_0 a2_0) (Go.bits .or .u64 a1_1 a2_1) t560 t561 t562 t563)) = some (r1, r2, r3, r4, r5, r6, r7) := H
 have A6 := Aside0.mk A60
 clear A60
 have HC7 := Aside0.mk H
 clear H
 go_enter Try.func40, Try.ntmps40
 try go_wp2_with (first | ((with_reducible refine gate_dst (N := 4) rfl ?_); refine boxE (N := 4) (cs := #[.int .u64 a1_0, .int .u64 a1_1, .int .u64 a1_2, .int .u64 a1_3, .int .i64 a1_4, .int .i64 a1_5]) (t := 50) ?_; intro gb548 hg w8 hbox hb; have BK548 := Aside0.mk (hbox); have GW548 := szB hg HB.out; have GE548 := szB hg HB.out; replace HB := bsB HB.out hb; clear hb hbox hg) | ((with_reducible refine gate_dst (N := 5) rfl ?_); refine boxE (N := 5) (cs := #[.int .u64 a2_0, .int .u64 a2_1, .int .u64 a2_2, .int .u64 a2_3, .int .i64 a2_4, .int .i64 a2_5]) (t := 50) ?_; intro gb549 hg w9 hbox hb; have BK549 := Aside0.mk (hbox); have GW549 := szB hg HB.out; have GE549 := szB hg HB.out; have NB548_549 := neL hg BK548.out; have NB549_548 := neG hg BK548.out; replace BK548 := bkB BK548.out hb; replace HB := bsB HB.out hb; clear hb hbox hg) | ((with_reducible refine gate_dst (N := 6) rfl ?_); refine boxE (N := 6) (cs := #[.int .u64 0, .int .u64 0, .int .u64 0, .int .u64 0, .int .i64 0, .int .i64 0]) (t := 50) ?_; intro gb550 hg w10 hbox hb; have BK550 := Aside0.mk (hbox); have GW550 := szB hg HB.out; have GE550 := szB hg HB.out; have NB548_550 := neL hg BK548.out; have NB550_548 := neG hg BK548.out; have NB549_550 := neL hg BK549.out; have NB550_549 := neG hg BK549.out; replace BK548 := bkB BK548.out hb; replace BK549 := bkB BK549.out hb; replace HB := bsB HB.out hb; clear hb hbox hg; have hnb11 := NB548_549.out; have hnc11 := NB549_548.out; have hnb12 := NB548_550.out; have hnc12 := NB550_548.out; obtain ⟨hcz13_0, hcz13_1, hcz13_2, hcz13_3, hcz13_4, hcz13_5, hfz13_0, hfz13_1, hfz13_2, hfz13_3, hfz13_4, hfz13_5⟩ := own6 BK548.out; have hnb14 := NB549_550.out; have hnc14 := NB550_549.out; obtain ⟨hcz15_0, hcz15_1, hcz15_2, hcz15_3, hcz15_4, hcz15_5, hfz15_0, hfz15_1, hfz15_2, hfz15_3, hfz15_4, hfz15_5⟩ := own6 BK549.out) | ((with_reducible refine gate_dst (N := 8) rfl ?_); refine boxE (N := 8) (cs := #[.int .u64 0, .int .u64 0]) (t := 110) ?_; intro gb551 hg w16 hbox hb; have BK551 := Aside0.mk (hbox); have GW551 := szB hg HB.out; have GE551 := szB hg HB.out; have NB548_551 := neL hg BK548.out; have NB551_548 := neG hg BK548.out; have NB549_551 := neL hg BK549.out; have NB551_549 := neG hg BK549.out; have NB550_551 := neL hg BK550.out; have NB551_550 := neG hg BK550.out; replace BK548 := bkB BK548.out hb; replace BK549 := bkB BK549.out hb; replace BK550 := bkB BK550.out hb; replace HB := bsB HB.out hb; clear hb hbox hg; have hnb17 := NB551_548.out; have hnc17 := NB548_551.out; have hnb18 := NB551_549.out; have hnc18 := NB549_551.out; have hnb19 := NB551_550.out; have hnc19 := NB550_551.out; obtain ⟨hcz20_0, hcz20_1, hfz20_0, hfz20_1⟩ := own2 BK551.out))
 have n0_ : Aside0 (((w16.setCell ⟨gb551, 0, none⟩ (.int .u64 (Go.bits .or .u64 a1_0 a2_0))).setCell ⟨gb551, 1, none⟩ (.int .u64 (Go.bits .or .u64 a1_1 a2_1))).heap[gb548]? = some (.cells #[.int .u64 a1_0, .int .u64 a1_1, .int .u64 a1_2, .int .u64 a1_3, .int .i64 a1_4, .int .i64 a1_5] 50 (0, 0))) := ⟨by exact bfL BK548.out⟩
 have n1_ : Aside0 (((w16.setCell ⟨gb551, 0, none⟩ (.int .u64 (Go.bits .or .u64 a1_0 a2_0))).setCell ⟨gb551, 1, none⟩ (.int .u64 (Go.bits .or .u64 a1_1 a2_1))).heap[gb549]? = some (.cells #[.int .u64 a2_0, .int .u64 a2_1, .int .u64 a2_2, .int .u64 a2_3, .int .i64 a2_4, .int .i64 a2_5] 50 (0, 0))) := ⟨by exact bfL BK549.out⟩
 have n2_ : Aside0 (((w16.setCell ⟨gb551, 0, none⟩ (.int .u64 (Go.bits .or .u64 a1_0 a2_0))).setCell ⟨gb551, 1, none⟩ (.int .u64 (Go.bits .or .u64 a1_1 a2_1))).heap[gb550]? = some (.cells #[.int .u64 0, .int .u64 0, .int .u64 0, .int .u64 0, .int .i64 0, .int .i64 0] 50 (0, 0))) := ⟨by exact bfL BK550.out⟩
 have n3_ : Aside0 (((w16.setCell ⟨gb551, 0, none⟩ (.int .u64 (Go.bits .or .u64 a1_0 a2_0))).setCell ⟨gb551, 1, none⟩ (.int .u64 (Go.bits .or .u64 a1_1 a2_1))).heap[gb551]? = some (.cells #[.int .u64 (Go.bits .or .u64 a1_0 a2_0), .int .u64 (Go.bits .or .u64 a1_1 a2_1)] 110 (0, 0))) := ⟨by (with_reducible repeat (first | refine blk_drewN ?_ _ | refine blk_drew ?_ | refine blk_alloc ?_ _)); refine blk_put (cs := #[.int .u64 (Go.bits .or .u64 a1_0 a2_0), .int .u64 0]) ?_ 1 _ rfl; (with_reducible repeat (first | refine blk_drewN ?_ _ | refine blk_drew ?_ | refine blk_alloc ?_ _)); refine blk_put (cs := #[.int .u64 0, .int .u64 0]) ?_ 0 _ rfl; exact bfL BK551.out⟩
 have n4_ : Aside0 (Below w.heap.size w ((w16.setCell ⟨gb551, 0, none⟩ (.int .u64 (Go.bits .or .u64 a1_0 a2_0))).setCell ⟨gb551, 1, none⟩ (.int .u64 (Go.bits .or .u64 a1_1 a2_1)))) := ⟨bsL HB.out⟩
 (try clear BK548)
 (try clear BK549)
 (try clear BK550)
 (try clear BK551)
 (try clear HB)
 generalize ((w16.setCell ⟨gb551, 0, none⟩ (.int .u64 (Go.bits .or .u64 a1_0 a2_0))).setCell ⟨gb551, 1, none⟩ (.int .u64 (Go.bits .or .u64 a1_1 a2_1))) = w21 at n0_ n1_ n2_ n3_ n4_ ⊢
 have BK548 := n0_
 have BK549 := n1_
 have BK550 := n2_
 have BK551 := n3_
 have HB := n4_
 clear n0_ n1_ n2_ n3_ n4_
 replace BK548 := Aside0.mk (blk_drew BK548.out)
 replace BK549 := Aside0.mk (blk_drew BK549.out)
 replace BK550 := Aside0.mk (blk_drew BK550.out)
 replace BK551 := Aside0.mk (blk_drew BK551.out)
 replace HB := Aside0.mk (below_drew1 HB.out)
 refine start_ (n := 11) (S := fun w' => w'.cell? ⟨gb548, 0, none⟩ = some (.int .u64 a1_0) ∧ w'.cell? ⟨gb548, 1, none⟩ = some (.int .u64 a1_1) ∧ w'.cell? ⟨gb548, 2, none⟩ = some (.int .u64 a1_2) ∧ w'.cell? ⟨gb548, 3, none⟩ = some (.int .u64 a1_3) ∧ w'.cell? ⟨gb548, 4, none⟩ = some (.int .i64 a1_4) ∧ w'.cell? ⟨gb548, 5, none⟩ = some (.int .i64 a1_5) ∧ w'.cell? ⟨gb549, 0, none⟩ = some (.int .u64 a2_0) ∧ w'.cell? ⟨gb549, 1, none⟩ = some (.int .u64 a2_1) ∧ w'.cell? ⟨gb549, 2, none⟩ = some (.int .u64 a2_2) ∧ w'.cell? ⟨gb549, 3, none⟩ = some (.int .u64 a2_3) ∧ w'.cell? ⟨gb549, 4, none⟩ = some (.int .i64 a2_4) ∧ w'.cell? ⟨gb549, 5, none⟩ = some (.int .i64 a2_5)) (ds := []) (bA 11 0) (by kernel_rfl) rfl rfl (by repeat' (first | apply And.intro | exact (blk_cell BK548.out _).trans rfl | exact (blk_cell BK549.out _).trans rfl)) (fun hHeld => ?_); refine with_tabW jacquardref14_Meet.tab2 jacquardref14_Meet.bits2 (fun HT_ HW_ => ?_)
 generalize w21.drew = w22 at BK548 BK549 BK550 BK551 HB hHeld ⊢
 refine takeA HT_ HW_ hHeld (i := 0) (N := some 23) (bA 11 1) ?_ (hy := by rintro w' ⟨s0, s1, s2, s3, s4, s5, s6, s7, s8, s9, s10, s11⟩; go_simp; with_reducible rfl)
 refine takeA HT_ HW_ hHeld (i := 2) (N := some 25) (bA 11 5) ?_ (hy := by rintro w' ⟨s0, s1, s2, s3, s4, s5, s6, s7, s8, s9, s10, s11⟩; go_simp; with_reducible rfl)
 refine join_ (σ := Nat) 2 (bA 11 511) (fun s_ => [(24, .agg #[.int .u64 t552, .int .u64 t553, .int .i64 t554, .int .i64 t555]), (26, .agg #[.int .u64 t556, .int .u64 t557, .int .i64 t558, .int .i64 t559]), (27, .tuple #[.agg #[.int .u64 t560, .int .u64 t561, .int .i64 t562, .int .i64 t563], .bool t564]), (9, .pointer (some ⟨s_, 0, none⟩)), (22, .tuple #[.agg #[.int .u64 t560, .int .u64 t561, .int .i64 t562, .int .i64 t563], .bool t564]), (28, .agg #[.int .u64 t560, .int .u64 t561, .int .i64 t562, .int .i64 t563]), (29, .bool t564)]) (fun s_ w' => (w'.cell? ⟨gb548, 0, none⟩ = some (.int .u64 a1_0) ∧ w'.cell? ⟨gb548, 1, none⟩ = some (.int .u64 a1_1) ∧ w'.cell? ⟨gb548, 2, none⟩ = some (.int .u64 a1_2) ∧ w'.cell? ⟨gb548, 3, none⟩ = some (.int .u64 a1_3) ∧ w'.cell? ⟨gb548, 4, none⟩ = some (.int .i64 a1_4) ∧ w'.cell? ⟨gb548, 5, none⟩ = some (.int .i64 a1_5) ∧ w'.cell? ⟨gb549, 0, none⟩ = some (.int .u64 a2_0) ∧ w'.cell? ⟨gb549, 1, none⟩ = some (.int .u64 a2_1) ∧ w'.cell? ⟨gb549, 2, none⟩ = some (.int .u64 a2_2) ∧ w'.cell? ⟨gb549, 3, none⟩ = some (.int .u64 a2_3) ∧ w'.cell? ⟨gb549, 4, none⟩ = some (.int .i64 a2_4) ∧ w'.cell? ⟨gb549, 5, none⟩ = some (.int .i64 a2_5)) ∧ (w'.heap[gb548]? = some (.cells #[.int .u64 a1_0, .int .u64 a1_1, .int .u64 a1_2, .int .u64 a1_3, .int .i64 a1_4, .int .i64 a1_5] 50 (0, 0))) ∧ (w'.heap[gb549]? = some (.cells #[.int .u64 a2_0, .int .u64 a2_1, .int .u64 a2_2, .int .u64 a2_3, .int .i64 a2_4, .int .i64 a2_5] 50 (0, 0))) ∧ (w'.heap[gb550]? = some (.cells #[.int .u64 0, .int .u64 0, .int .u64 0, .int .u64 0, .int .i64 0, .int .i64 0] 50 (0, 0))) ∧ (w'.heap[gb551]? = some (.cells #[.int .u64 (Go.bits .or .u64 a1_0 a2_0), .int .u64 (Go.bits .or .u64 a1_1 a2_1)] 110 (0, 0))) ∧ (w'.heap[s_]? = some (.cells #[.int .u64 0, .int .u64 0, .int .i64 0, .int .i64 0] 30 (0, 0))) ∧ (w.heap.size ≤ s_) ∧ (w.heap.size ≤ s_) ∧ (gb548 ≠ s_) ∧ (s_ ≠ gb548) ∧ (gb549 ≠ s_) ∧ (s_ ≠ gb549) ∧ (gb550 ≠ s_) ∧ (s_ ≠ gb550) ∧ (gb551 ≠ s_) ∧ (s_ ≠ gb551) ∧ (Below w.heap.size w w')) ?_ ?_
 rotate_left
 ·
  intro hCont
  refine two_ (i := 1) (j := 8) (Ni := some 24) (Nj := some 9) (bA 11 7) (bA 11 261) rfl rfl rfl rfl (two_of HT_.out (by kernel_rfl)) (by decide) (by decide) (fun K hK => ?_) (fun K hK => ?_)
  ·
   skip
   refine gO Try.func84 #[.agg #[.int .u64 a1_0, .int .u64 a1_1, .int .u64 a1_2, .int .u64 a1_3, .int .i64 a1_4, .int .i64 a1_5]] ?_
   with_reducible refine (jacquardref14_span.calls a1_0 a1_1 a1_2 a1_3 a1_4 a1_5 t552 t553 t554 t555 _ A4.out).mono ?_
   rintro e w23 ⟨rfl, hb⟩
   refine ⟨_, rfl, ?_⟩
   replace BK548 := bkB BK548.out hb
   replace BK549 := bkB BK549.out hb
   replace BK550 := bkB BK550.out hb
   replace BK551 := bkB BK551.out hb
   replace HB := bsB HB.out hb
   (try clear hb)
   refine hK.out _ _ (by repeat' (first | apply And.intro | exact (blk_cell BK548.out _).trans rfl | exact (blk_cell BK549.out _).trans rfl)) (fun hHeld => ?_)
   clear hK K
   refine normA (some 24) ?_
   refine two_ (i := 3) (j := 8) (Ni := some 26) (Nj := some 9) (bA 11 15) (bA 11 263) rfl rfl rfl rfl (two_of HT_.out (by kernel_rfl)) (by decide) (by decide) (fun K hK => ?_) (fun K hK => ?_)
   ·
    skip
    refine gO Try.func84 #[.agg #[.int .u64 a2_0, .int .u64 a2_1, .int .u64 a2_2, .int .u64 a2_3, .int .i64 a2_4, .int .i64 a2_5]] ?_
    with_reducible refine (jacquardref14_span.calls a2_0 a2_1 a2_2 a2_3 a2_4 a2_5 t556 t557 t558 t559 _ A5.out).mono ?_
    rintro e w24 ⟨rfl, hb⟩
    refine ⟨_, rfl, ?_⟩
    replace BK548 := bkB BK548.out hb
    replace BK549 := bkB BK549.out hb
    replace BK550 := bkB BK550.out hb
    replace BK551 := bkB BK551.out hb
    replace HB := bsB HB.out hb
    (try clear hb)
    refine hK.out _ _ (by repeat' (first | apply And.intro | exact (blk_cell BK548.out _).trans rfl | exact (blk_cell BK549.out _).trans rfl)) (fun hHeld => ?_)
    clear hK K
    refine normA (some 26) ?_
    refine two_ (i := 4) (j := 8) (Ni := some 27) (Nj := some 9) (bA 11 31) (bA 11 271) rfl rfl rfl rfl (two_of HT_.out (by kernel_rfl)) (by decide) (by decide) (fun K hK => ?_) (fun K hK => ?_)
    ·
     skip
     refine gO Try.func100 #[.agg #[.int .u64 t552, .int .u64 t553, .int .i64 t554, .int .i64 t555], .agg #[.int .u64 t556, .int .u64 t557, .int .i64 t558, .int .i64 t559]] ?_
     with_reducible refine (jacquardref13_Meet.calls t552 t553 t554 t555 t556 t557 t558 t559 t560 t561 t562 t563 t564 _ A6.out).mono ?_
     rintro e w25 ⟨rfl, hb⟩
     refine ⟨_, rfl, ?_⟩
     replace BK548 := bkB BK548.out hb
     replace BK549 := bkB BK549.out hb
     replace BK550 := bkB BK550.out hb
     replace BK551 := bkB BK551.out hb
     replace HB := bsB HB.out hb
     (try clear hb)
     refine hK.out _ _ (by repeat' (first | apply And.intro | exact (blk_cell BK548.out _).trans rfl | exact (blk_cell BK549.out _).trans rfl)) (fun hHeld => ?_)
     clear hK K
     refine normA (some 27) ?_
     refine pureA HT_ (i := 5) (N := some 22) (bA 11 63) ?_
     refine pureA HT_ (i := 6) (N := some 28) (bA 11 127) ?_
     refine pureA HT_ (i := 7) (N := some 29) (bA 11 255) ?_
     refine one_ (i := 8) (N := some 9) (bA 11 511) rfl rfl (one_of HT_.out (by kernel_rfl)) (by decide) (fun K hK => ?_)
     refine boxS (N := 9) (cs := #[.int .u64 0, .int .u64 0, .int .i64 0, .int .i64 0]) (t := 30) ?_
     intro gb565 hg w26 hbox hb
     have BK565 := Aside0.mk (hbox)
     have GW565 := szB hg HB.out
     have GE565 := szB hg HB.out
     have NB548_565 := neL hg BK548.out
     have NB565_548 := neG hg BK548.out
     have NB549_565 := neL hg BK549.out
     have NB565_549 := neG hg BK549.out
     have NB550_565 := neL hg BK550.out
     have NB565_550 := neG hg BK550.out
     have NB551_565 := neL hg BK551.out
     have NB565_551 := neG hg BK551.out
     replace BK548 := bkB BK548.out hb
     replace BK549 := bkB BK549.out hb
     replace BK550 := bkB BK550.out hb
     replace BK551 := bkB BK551.out hb
     replace HB := bsB HB.out hb
     clear hb hbox hg
     refine hK.out _ _ (by repeat' (first | apply And.intro | exact (blk_cell BK548.out _).trans rfl | exact (blk_cell BK549.out _).trans rfl)) (fun hHeld => ?_)
     clear hK K
     refine normA (some 9) ?_
     exact norm_ (by simp only [putAll, Act.put, List.setIfInBounds_toArray, List.set_cons_zero, List.set_cons_succ]) (hCont (gb565) _ ⟨hHeld, (by exact bfL BK548.out), (by exact bfL BK549.out), (by exact bfL BK550.out), (by exact bfL BK551.out), (by exact bfL BK565.out), GW565.out, GE565.out, NB548_565.out, NB565_548.out, NB549_565.out, NB565_549.out, NB550_565.out, NB565_550.out, NB551_565.out, NB565_551.out, (by repeat (first | (with_reducible first | exact HB.out | apply below_alloc | apply pw_below_drewN | apply below_drew1 | refine below_set ?_ GE548.out | refine below_set ?_ GE549.out | refine below_set ?_ GE550.out | refine below_set ?_ GE551.out | refine below_set ?_ GE565.out) | exact HB.out))⟩)
    ·
     skip
     refine boxS (N := 9) (cs := #[.int .u64 0, .int .u64 0, .int .i64 0, .int .i64 0]) (t := 30) ?_
     intro gb565 hg w25 hbox hb
     have BK565 := Aside0.mk (hbox)
     have GW565 := szB hg HB.out
     have GE565 := szB hg HB.out
     have NB548_565 := neL hg BK548.out
     have NB565_548 := neG hg BK548.out
     have NB549_565 := neL hg BK549.out
     have NB565_549 := neG hg BK549.out
     have NB550_565 := neL hg BK550.out
     have NB565_550 := neG hg BK550.out
     have NB551_565 := neL hg BK551.out
     have NB565_551 := neG hg BK551.out
     replace BK548 := bkB BK548.out hb
     replace BK549 := bkB BK549.out hb
     replace BK550 := bkB BK550.out hb
     replace BK551 := bkB BK551.out hb
     replace HB := bsB HB.out hb
     clear hb hbox hg
     refine hK.out _ _ (by repeat' (first | apply And.intro | exact (blk_cell BK548.out _).trans rfl | exact (blk_cell BK549.out _).trans rfl)) (fun hHeld => ?_)
     clear hK K
     refine normA (some 9) ?_
     refine one_ (i := 4) (N := some 27) (bA 11 287) rfl rfl (one_of HT_.out (by kernel_rfl)) (by decide) (fun K hK => ?_)
     refine gO Try.func100 #[.agg #[.int .u64 t552, .int .u64 t553, .int .i64 t554, .int .i64 t555], .agg #[.int .u64 t556, .int .u64 t557, .int .i64 t558, .int .i64 t559]] ?_
     with_reducible refine (jacquardref13_Meet.calls t552 t553 t554 t555 t556 t557 t558 t559 t560 t561 t562 t563 t564 _ A6.out).mono ?_
     rintro e w26 ⟨rfl, hb⟩
     refine ⟨_, rfl, ?_⟩
     replace BK548 := bkB BK548.out hb
     replace BK549 := bkB BK549.out hb
     replace BK550 := bkB BK550.out hb
     replace BK551 := bkB BK551.out hb
     replace BK565 := bkB BK565.out hb
     replace HB := bsB HB.out hb
     (try clear hb)
     refine hK.out _ _ (by repeat' (first | apply And.intro | exact (blk_cell BK548.out _).trans rfl | exact (blk_cell BK549.out _).trans rfl)) (fun hHeld => ?_)
     clear hK K
     refine normA (some 27) ?_
     refine pureA HT_ (i := 5) (N := some 22) (bA 11 319) ?_
     refine pureA HT_ (i := 6) (N := some 28) (bA 11 383) ?_
     refine pureA HT_ (i := 7) (N := some 29) (bA 11 511) ?_
     exact norm_ (by simp only [putAll, Act.put, List.setIfInBounds_toArray, List.set_cons_zero, List.set_cons_succ]) (hCont (gb565) _ ⟨hHeld, (by exact bfL BK548.out), (by exact bfL BK549.out), (by exact bfL BK550.out), (by exact bfL BK551.out), (by exact bfL BK565.out), GW565.out, GE565.out, NB548_565.out, NB565_548.out, NB549_565.out, NB565_549.out, NB550_565.out, NB565_550.out, NB551_565.out, NB565_551.out, (by repeat (first | (with_reducible first | exact HB.out | apply below_alloc | apply pw_below_drewN | apply below_drew1 | refine below_set ?_ GE548.out | refine below_set ?_ GE549.out | refine below_set ?_ GE550.out | refine below_set ?_ GE551.out | refine below_set ?_ GE565.out) | exact HB.out))⟩)
   ·
    skip
    refine boxS (N := 9) (cs := #[.int .u64 0, .int .u64 0, .int .i64 0, .int .i64 0]) (t := 30) ?_
    intro gb565 hg w24 hbox hb
    have BK565 := Aside0.mk (hbox)
    have GW565 := szB hg HB.out
    have GE565 := szB hg HB.out
    have NB548_565 := neL hg BK548.out
    have NB565_548 := neG hg BK548.out
    have NB549_565 := neL hg BK549.out
    have NB565_549 := neG hg BK549.out
    have NB550_565 := neL hg BK550.out
    have NB565_550 := neG hg BK550.out
    have NB551_565 := neL hg BK551.out
    have NB565_551 := neG hg BK551.out
    replace BK548 := bkB BK548.out hb
    replace BK549 := bkB BK549.out hb
    replace BK550 := bkB BK550.out hb
    replace BK551 := bkB BK551.out hb
    replace HB := bsB HB.out hb
    clear hb hbox hg
    refine hK.out _ _ (by repeat' (first | apply And.intro | exact (blk_cell BK548.out _).trans rfl | exact (blk_cell BK549.out _).trans rfl)) (fun hHeld => ?_)
    clear hK K
    refine normA (some 9) ?_
    refine one_ (i := 3) (N := some 26) (bA 11 271) rfl rfl (one_of HT_.out (by kernel_rfl)) (by decide) (fun K hK => ?_)
    refine gO Try.func84 #[.agg #[.int .u64 a2_0, .int .u64 a2_1, .int .u64 a2_2, .int .u64 a2_3, .int .i64 a2_4, .int .i64 a2_5]] ?_
    with_reducible refine (jacquardref14_span.calls a2_0 a2_1 a2_2 a2_3 a2_4 a2_5 t556 t557 t558 t559 _ A5.out).mono ?_
    rintro e w25 ⟨rfl, hb⟩
    refine ⟨_, rfl, ?_⟩
    replace BK548 := bkB BK548.out hb
    replace BK549 := bkB BK549.out hb
    replace BK550 := bkB BK550.out hb
    replace BK551 := bkB BK551.out hb
    replace BK565 := bkB BK565.out hb
    replace HB := bsB HB.out hb
    (try clear hb)
    refine hK.out _ _ (by repeat' (first | apply And.intro | exact (blk_cell BK548.out _).trans rfl | exact (blk_cell BK549.out _).trans rfl)) (fun hHeld => ?_)
    clear hK K
    refine normA (some 26) ?_
    refine one_ (i := 4) (N := some 27) (bA 11 287) rfl rfl (one_of HT_.out (by kernel_rfl)) (by decide) (fun K hK => ?_)
    refine gO Try.func100 #[.agg #[.int .u64 t552, .int .u64 t553, .int .i64 t554, .int .i64 t555], .agg #[.int .u64 t556, .int .u64 t557, .int .i64 t558, .int .i64 t559]] ?_
    with_reducible refine (jacquardref13_Meet.calls t552 t553 t554 t555 t556 t557 t558 t559 t560 t561 t562 t563 t564 _ A6.out).mono ?_
    rintro e w26 ⟨rfl, hb⟩
    refine ⟨_, rfl, ?_⟩
    replace BK548 := bkB BK548.out hb
    replace BK549 := bkB BK549.out hb
    replace BK550 := bkB BK550.out hb
    replace BK551 := bkB BK551.out hb
    replace BK565 := bkB BK565.out hb
    replace HB := bsB HB.out hb
    (try clear hb)
    refine hK.out _ _ (by repeat' (first | apply And.intro | exact (blk_cell BK548.out _).trans rfl | exact (blk_cell BK549.out _).trans rfl)) (fun hHeld => ?_)
    clear hK K
    refine normA (some 27) ?_
    refine pureA HT_ (i := 5) (N := some 22) (bA 11 319) ?_
    refine pureA HT_ (i := 6) (N := some 28) (bA 11 383) ?_
    refine pureA HT_ (i := 7) (N := some 29) (bA 11 511) ?_
    exact norm_ (by simp only [putAll, Act.put, List.setIfInBounds_toArray, List.set_cons_zero, List.set_cons_succ]) (hCont (gb565) _ ⟨hHeld, (by exact bfL BK548.out), (by exact bfL BK549.out), (by exact bfL BK550.out), (by exact bfL BK551.out), (by exact bfL BK565.out), GW565.out, GE565.out, NB548_565.out, NB565_548.out, NB549_565.out, NB565_549.out, NB550_565.out, NB565_550.out, NB551_565.out, NB565_551.out, (by repeat (first | (with_reducible first | exact HB.out | apply below_alloc | apply pw_below_drewN | apply below_drew1 | refine below_set ?_ GE548.out | refine below_set ?_ GE549.out | refine below_set ?_ GE550.out | refine below_set ?_ GE551.out | refine below_set ?_ GE565.out) | exact HB.out))⟩)
  ·
   skip
   refine boxS (N := 9) (cs := #[.int .u64 0, .int .u64 0, .int .i64 0, .int .i64 0]) (t := 30) ?_
   intro gb565 hg w23 hbox hb
   have BK565 := Aside0.mk (hbox)
   have GW565 := szB hg HB.out
   have GE565 := szB hg HB.out
   have NB548_565 := neL hg BK548.out
   have NB565_548 := neG hg BK548.out
   have NB549_565 := neL hg BK549.out
   have NB565_549 := neG hg BK549.out
   have NB550_565 := neL hg BK550.out
   have NB565_550 := neG hg BK550.out
   have NB551_565 := neL hg BK551.out
   have NB565_551 := neG hg BK551.out
   replace BK548 := bkB BK548.out hb
   replace BK549 := bkB BK549.out hb
   replace BK550 := bkB BK550.out hb
   replace BK551 := bkB BK551.out hb
   replace HB := bsB HB.out hb
   clear hb hbox hg
   refine hK.out _ _ (by repeat' (first | apply And.intro | exact (blk_cell BK548.out _).trans rfl | exact (blk_cell BK549.out _).trans rfl)) (fun hHeld => ?_)
   clear hK K
   refine normA (some 9) ?_
   refine one_ (i := 1) (N := some 24) (bA 11 263) rfl rfl (one_of HT_.out (by kernel_rfl)) (by decide) (fun K hK => ?_)
   refine gO Try.func84 #[.agg #[.int .u64 a1_0, .int .u64 a1_1, .int .u64 a1_2, .int .u64 a1_3, .int .i64 a1_4, .int .i64 a1_5]] ?_
   with_reducible refine (jacquardref14_span.calls a1_0 a1_1 a1_2 a1_3 a1_4 a1_5 t552 t553 t554 t555 _ A4.out).mono ?_
   rintro e w24 ⟨rfl, hb⟩
   refine ⟨_, rfl, ?_⟩
   replace BK548 := bkB BK548.out hb
   replace BK549 := bkB BK549.out hb
   replace BK550 := bkB BK550.out hb
   replace BK551 := bkB BK551.out hb
   replace BK565 := bkB BK565.out hb
   replace HB := bsB HB.out hb
   (try clear hb)
   refine hK.out _ _ (by repeat' (first | apply And.intro | exact (blk_cell BK548.out _).trans rfl | exact (blk_cell BK549.out _).trans rfl)) (fun hHeld => ?_)
   clear hK K
   refine normA (some 24) ?_
   refine one_ (i := 3) (N := some 26) (bA 11 271) rfl rfl (one_of HT_.out (by kernel_rfl)) (by decide) (fun K hK => ?_)
   refine gO Try.func84 #[.agg #[.int .u64 a2_0, .int .u64 a2_1, .int .u64 a2_2, .int .u64 a2_3, .int .i64 a2_4, .int .i64 a2_5]] ?_
   with_reducible refine (jacquardref14_span.calls a2_0 a2_1 a2_2 a2_3 a2_4 a2_5 t556 t557 t558 t559 _ A5.out).mono ?_
   rintro e w25 ⟨rfl, hb⟩
   refine ⟨_, rfl, ?_⟩
   replace BK548 := bkB BK548.out hb
   replace BK549 := bkB BK549.out hb
   replace BK550 := bkB BK550.out hb
   replace BK551 := bkB BK551.out hb
   replace BK565 := bkB BK565.out hb
   replace HB := bsB HB.out hb
   (try clear hb)
   refine hK.out _ _ (by repeat' (first | apply And.intro | exact (blk_cell BK548.out _).trans rfl | exact (blk_cell BK549.out _).trans rfl)) (fun hHeld => ?_)
   clear hK K
   refine normA (some 26) ?_
   refine one_ (i := 4) (N := some 27) (bA 11 287) rfl rfl (one_of HT_.out (by kernel_rfl)) (by decide) (fun K hK => ?_)
   refine gO Try.func100 #[.agg #[.int .u64 t552, .int .u64 t553, .int .i64 t554, .int .i64 t555], .agg #[.int .u64 t556, .int .u64 t557, .int .i64 t558, .int .i64 t559]] ?_
   with_reducible refine (jacquardref13_Meet.calls t552 t553 t554 t555 t556 t557 t558 t559 t560 t561 t562 t563 t564 _ A6.out).mono ?_
   rintro e w26 ⟨rfl, hb⟩
   refine ⟨_, rfl, ?_⟩
   replace BK548 := bkB BK548.out hb
   replace BK549 := bkB BK549.out hb
   replace BK550 := bkB BK550.out hb
   replace BK551 := bkB BK551.out hb
   replace BK565 := bkB BK565.out hb
   replace HB := bsB HB.out hb
   (try clear hb)
   refine hK.out _ _ (by repeat' (first | apply And.intro | exact (blk_cell BK548.out _).trans rfl | exact (blk_cell BK549.out _).trans rfl)) (fun hHeld => ?_)
   clear hK K
   refine normA (some 27) ?_
   refine pureA HT_ (i := 5) (N := some 22) (bA 11 319) ?_
   refine pureA HT_ (i := 6) (N := some 28) (bA 11 383) ?_
   refine pureA HT_ (i := 7) (N := some 29) (bA 11 511) ?_
   exact norm_ (by simp only [putAll, Act.put, List.setIfInBounds_toArray, List.set_cons_zero, List.set_cons_succ]) (hCont (gb565) _ ⟨hHeld, (by exact bfL BK548.out), (by exact bfL BK549.out), (by exact bfL BK550.out), (by exact bfL BK551.out), (by exact bfL BK565.out), GW565.out, GE565.out, NB548_565.out, NB565_548.out, NB549_565.out, NB565_549.out, NB550_565.out, NB565_550.out, NB551_565.out, NB565_551.out, (by repeat (first | (with_reducible first | exact HB.out | apply below_alloc | apply pw_below_drewN | apply below_drew1 | refine below_set ?_ GE548.out | refine below_set ?_ GE549.out | refine below_set ?_ GE550.out | refine below_set ?_ GE551.out | refine below_set ?_ GE565.out) | exact HB.out))⟩)
 rintro gb565 w27 ⟨hS_, h0_, h1_, h2_, h3_, h4_, h5_, h6_, h7_, h8_, h9_, h10_, h11_, h12_, h13_, h14_, h15_⟩
 have n0_ : Aside0 (w27.heap[gb548]? = some (.cells #[.int .u64 a1_0, .int .u64 a1_1, .int .u64 a1_2, .int .u64 a1_3, .int .i64 a1_4, .int .i64 a1_5] 50 (0, 0))) := ⟨h0_⟩
 have n1_ : Aside0 (w27.heap[gb549]? = some (.cells #[.int .u64 a2_0, .int .u64 a2_1, .int .u64 a2_2, .int .u64 a2_3, .int .i64 a2_4, .int .i64 a2_5] 50 (0, 0))) := ⟨h1_⟩
 have n2_ : Aside0 (w27.heap[gb550]? = some (.cells #[.int .u64 0, .int .u64 0, .int .u64 0, .int .u64 0, .int .i64 0, .int .i64 0] 50 (0, 0))) := ⟨h2_⟩
 have n3_ : Aside0 (w27.heap[gb551]? = some (.cells #[.int .u64 (Go.bits .or .u64 a1_0 a2_0), .int .u64 (Go.bits .or .u64 a1_1 a2_1)] 110 (0, 0))) := ⟨h3_⟩
 have n4_ : Aside0 (w27.heap[gb565]? = some (.cells #[.int .u64 0, .int .u64 0, .int .i64 0, .int .i64 0] 30 (0, 0))) := ⟨h4_⟩
 have n5_ : Aside0 (w.heap.size ≤ gb565) := ⟨h5_⟩
 have n6_ : Aside0 (w.heap.size ≤ gb565) := ⟨h6_⟩
 have n7_ : Aside0 (gb548 ≠ gb565) := ⟨h7_⟩
 have n8_ : Aside0 (gb565 ≠ gb548) := ⟨h8_⟩
 have n9_ : Aside0 (gb549 ≠ gb565) := ⟨h9_⟩
 have n10_ : Aside0 (gb565 ≠ gb549) := ⟨h10_⟩
 have n11_ : Aside0 (gb550 ≠ gb565) := ⟨h11_⟩
 have n12_ : Aside0 (gb565 ≠ gb550) := ⟨h12_⟩
 have n13_ : Aside0 (gb551 ≠ gb565) := ⟨h13_⟩
 have n14_ : Aside0 (gb565 ≠ gb551) := ⟨h14_⟩
 have n15_ : Aside0 (Below w.heap.size w w27) := ⟨h15_⟩
 clear BK548
 clear BK549
 clear BK550
 clear BK551
 clear HB
 clear h0_ h1_ h2_ h3_ h4_ h5_ h6_ h7_ h8_ h9_ h10_ h11_ h12_ h13_ h14_ h15_
 have BK548 := n0_
 have BK549 := n1_
 have BK550 := n2_
 have BK551 := n3_
 have BK565 := n4_
 have GW565 := n5_
 have GE565 := n6_
 have NB548_565 := n7_
 have NB565_548 := n8_
 have NB549_565 := n9_
 have NB565_549 := n10_
 have NB550_565 := n11_
 have NB565_550 := n12_
 have NB551_565 := n13_
 have NB565_551 := n14_
 have HB := n15_
 clear n0_ n1_ n2_ n3_ n4_ n5_ n6_ n7_ n8_ n9_ n10_ n11_ n12_ n13_ n14_ n15_
 have hHeld : w27.cell? ⟨gb548, 0, none⟩ = some (.int .u64 a1_0) ∧ w27.cell? ⟨gb548, 1, none⟩ = some (.int .u64 a1_1) ∧ w27.cell? ⟨gb548, 2, none⟩ = some (.int .u64 a1_2) ∧ w27.cell? ⟨gb548, 3, none⟩ = some (.int .u64 a1_3) ∧ w27.cell? ⟨gb548, 4, none⟩ = some (.int .i64 a1_4) ∧ w27.cell? ⟨gb548, 5, none⟩ = some (.int .i64 a1_5) ∧ w27.cell? ⟨gb549, 0, none⟩ = some (.int .u64 a2_0) ∧ w27.cell? ⟨gb549, 1, none⟩ = some (.int .u64 a2_1) ∧ w27.cell? ⟨gb549, 2, none⟩ = some (.int .u64 a2_2) ∧ w27.cell? ⟨gb549, 3, none⟩ = some (.int .u64 a2_3) ∧ w27.cell? ⟨gb549, 4, none⟩ = some (.int .i64 a2_4) ∧ w27.cell? ⟨gb549, 5, none⟩ = some (.int .i64 a2_5) := hS_
 refine norm_ (a' := ?_) ?_ ?_
 rotate_left
 ·
  simp only [putAll, Act.put, List.setIfInBounds_toArray, List.set_cons_zero, List.set_cons_succ]
  rfl
 refine one_ (i := 9) (N := none) (bA 11 1023) rfl rfl (one_of HT_.out (by kernel_rfl)) (by decide) (fun K hK => ?_)
 have hs28 : w27.cell? ⟨gb565, 0, none⟩ = some (.int .u64 0) := (blk_cell BK565.out 0).trans rfl
 have hfs28 := blk_frozen BK565.out 0
 have hns28_0 := NB548_565.out
 have hns28_1 := NB549_565.out
 have hns28_2 := NB550_565.out
 have hns28_3 := NB551_565.out
 have hms28_0 := NB565_548.out
 have hms28_1 := NB565_549.out
 have hms28_2 := NB565_550.out
 have hms28_3 := NB565_551.out
 have hs29 : w27.cell? ⟨gb565, 1, none⟩ = some (.int .u64 0) := (blk_cell BK565.out 1).trans rfl
 have hfs29 := blk_frozen BK565.out 1
 have hns29_0 := NB548_565.out
 have hns29_1 := NB549_565.out
 have hns29_2 := NB550_565.out
 have hns29_3 := NB551_565.out
 have hms29_0 := NB565_548.out
 have hms29_1 := NB565_549.out
 have hms29_2 := NB565_550.out
 have hms29_3 := NB565_551.out
 have hs30 : w27.cell? ⟨gb565, 2, none⟩ = some (.int .i64 0) := (blk_cell BK565.out 2).trans rfl
 have hfs30 := blk_frozen BK565.out 2
 have hns30_0 := NB548_565.out
 have hns30_1 := NB549_565.out
 have hns30_2 := NB550_565.out
 have hns30_3 := NB551_565.out
 have hms30_0 := NB565_548.out
 have hms30_1 := NB565_549.out
 have hms30_2 := NB565_550.out
 have hms30_3 := NB565_551.out
 have hs31 : w27.cell? ⟨gb565, 3, none⟩ = some (.int .i64 0) := (blk_cell BK565.out 3).trans rfl
 have hfs31 := blk_frozen BK565.out 3
 have hns31_0 := NB548_565.out
 have hns31_1 := NB549_565.out
 have hns31_2 := NB550_565.out
 have hns31_3 := NB551_565.out
 have hms31_0 := NB565_548.out
 have hms31_1 := NB565_549.out
 have hms31_2 := NB565_550.out
 have hms31_3 := NB565_551.out
 refine skip_ (w1 := ?_) (by rfl) rfl ?_ ?_
 rotate_left
 ·
  go_simp
  rfl
 refine hK.out _ _ ⟨((cell_far (p := ⟨gb565, _, none⟩) NB548_565.out _).trans (((cell_far (p := ⟨gb565, _, none⟩) NB548_565.out _).trans (((cell_far (p := ⟨gb565, _, none⟩) NB548_565.out _).trans (((cell_far (p := ⟨gb565, _, none⟩) NB548_565.out _).trans (hHeld.1)))))))), ((cell_far (p := ⟨gb565, _, none⟩) NB548_565.out _).trans (((cell_far (p := ⟨gb565, _, none⟩) NB548_565.out _).trans (((cell_far (p := ⟨gb565, _, none⟩) NB548_565.out _).trans (((cell_far (p := ⟨gb565, _, none⟩) NB548_565.out _).trans (hHeld.2.1)))))))), ((cell_far (p := ⟨gb565, _, none⟩) NB548_565.out _).trans (((cell_far (p := ⟨gb565, _, none⟩) NB548_565.out _).trans (((cell_far (p := ⟨gb565, _, none⟩) NB548_565.out _).trans (((cell_far (p := ⟨gb565, _, none⟩) NB548_565.out _).trans (hHeld.2.2.1)))))))), ((cell_far (p := ⟨gb565, _, none⟩) NB548_565.out _).trans (((cell_far (p := ⟨gb565, _, none⟩) NB548_565.out _).trans (((cell_far (p := ⟨gb565, _, none⟩) NB548_565.out _).trans (((cell_far (p := ⟨gb565, _, none⟩) NB548_565.out _).trans (hHeld.2.2.2.1)))))))), ((cell_far (p := ⟨gb565, _, none⟩) NB548_565.out _).trans (((cell_far (p := ⟨gb565, _, none⟩) NB548_565.out _).trans (((cell_far (p := ⟨gb565, _, none⟩) NB548_565.out _).trans (((cell_far (p := ⟨gb565, _, none⟩) NB548_565.out _).trans (hHeld.2.2.2.2.1)))))))), ((cell_far (p := ⟨gb565, _, none⟩) NB548_565.out _).trans (((cell_far (p := ⟨gb565, _, none⟩) NB548_565.out _).trans (((cell_far (p := ⟨gb565, _, none⟩) NB548_565.out _).trans (((cell_far (p := ⟨gb565, _, none⟩) NB548_565.out _).trans (hHeld.2.2.2.2.2.1)))))))), ((cell_far (p := ⟨gb565, _, none⟩) NB549_565.out _).trans (((cell_far (p := ⟨gb565, _, none⟩) NB549_565.out _).trans (((cell_far (p := ⟨gb565, _, none⟩) NB549_565.out _).trans (((cell_far (p := ⟨gb565, _, none⟩) NB549_565.out _).trans (hHeld.2.2.2.2.2.2.1)))))))), ((cell_far (p := ⟨gb565, _, none⟩) NB549_565.out _).trans (((cell_far (p := ⟨gb565, _, none⟩) NB549_565.out _).trans (((cell_far (p := ⟨gb565, _, none⟩) NB549_565.out _).trans (((cell_far (p := ⟨gb565, _, none⟩) NB549_565.out _).trans (hHeld.2.2.2.2.2.2.2.1)))))))), ((cell_far (p := ⟨gb565, _, none⟩) NB549_565.out _).trans (((cell_far (p := ⟨gb565, _, none⟩) NB549_565.out _).trans (((cell_far (p := ⟨gb565, _, none⟩) NB549_565.out _).trans (((cell_far (p := ⟨gb565, _, none⟩) NB549_565.out _).trans (hHeld.2.2.2.2.2.2.2.2.1)))))))), ((cell_far (p := ⟨gb565, _, none⟩) NB549_565.out _).trans (((cell_far (p := ⟨gb565, _, none⟩) NB549_565.out _).trans (((cell_far (p := ⟨gb565, _, none⟩) NB549_565.out _).trans (((cell_far (p := ⟨gb565, _, none⟩) NB549_565.out _).trans (hHeld.2.2.2.2.2.2.2.2.2.1)))))))), ((cell_far (p := ⟨gb565, _, none⟩) NB549_565.out _).trans (((cell_far (p := ⟨gb565, _, none⟩) NB549_565.out _).trans (((cell_far (p := ⟨gb565, _, none⟩) NB549_565.out _).trans (((cell_far (p := ⟨gb565, _, none⟩) NB549_565.out _).trans (hHeld.2.2.2.2.2.2.2.2.2.2.1)))))))), ((cell_far (p := ⟨gb565, _, none⟩) NB549_565.out _).trans (((cell_far (p := ⟨gb565, _, none⟩) NB549_565.out _).trans (((cell_far (p := ⟨gb565, _, none⟩) NB549_565.out _).trans (((cell_far (p := ⟨gb565, _, none⟩) NB549_565.out _).trans (hHeld.2.2.2.2.2.2.2.2.2.2.2))))))))⟩ (fun hHeld => ?_)
 clear hK K
 refine pureA HT_ (i := 10) (N := some 10) (bA 11 2047) ?_
 refine done_ (done_of HT_.out (by kernel_rfl)) ?_
 go_upto_region 3 with (fail)
 go_cut [39] (fun v39 wc => ∃ (kq : Nat) (x39_6 : Bool), v39 = .bool x39_6 ∧ Aside0 (jacquardref14_Meet.j0 kq a0 x39_6 (Go.bits .or .u64 a1_0 a2_0) (Go.bits .or .u64 a1_1 a2_1) t560 t561 t562 t563 = some (r1, r2, r3, r4, r5, r6, r7)) ∧ Aside0 (kq ≤ k) ∧ Aside0 (wc.heap[gb548]? = some (.cells #[.int .u64 a1_0, .int .u64 a1_1, .int .u64 a1_2, .int .u64 a1_3, .int .i64 a1_4, .int .i64 a1_5] 50 (0, 0))) ∧ Aside0 (wc.heap[gb549]? = some (.cells #[.int .u64 a2_0, .int .u64 a2_1, .int .u64 a2_2, .int .u64 a2_3, .int .i64 a2_4, .int .i64 a2_5] 50 (0, 0))) ∧ Aside0 (wc.heap[gb550]? = some (.cells #[.int .u64 0, .int .u64 0, .int .u64 0, .int .u64 0, .int .i64 0, .int .i64 0] 50 (0, 0))) ∧ Aside0 (wc.heap[gb551]? = some (.cells #[.int .u64 (Go.bits .or .u64 a1_0 a2_0), .int .u64 (Go.bits .or .u64 a1_1 a2_1)] 110 (0, 0))) ∧ Aside0 (wc.heap[gb565]? = some (.cells #[.int .u64 t560, .int .u64 t561, .int .i64 t562, .int .i64 t563] 30 (0, 0))) ∧ Aside0 (Below w.heap.size w wc))
 case first =>
  have H := HC7.out
  clear HC7
  by_cases c32 : t564 = true
  ·
   subst c32
   have H1 : (jacquardref14_Meet.j0 k a0 ((Go.bits .and .u64 (Go.bits .or .u64 a1_0 a2_0) (Go.bits .or .u64 a1_1 a2_1)) != 0) (Go.bits .or .u64 a1_0 a2_0) (Go.bits .or .u64 a1_1 a2_1) t560 t561 t562 t563) = some (r1, r2, r3, r4, r5, r6, r7) := by rw [if_pos rfl] at H; exact H
   clear H
   have H := H1
   clear H1
   have H' := Aside0.mk H
   clear H
   have hnb33 := NB551_548.out
   have hnc33 := NB548_551.out
   have hnb34 := NB551_549.out
   have hnc34 := NB549_551.out
   have hnb35 := NB551_550.out
   have hnc35 := NB550_551.out
   have hnb36 := NB551_565.out
   have hnc36 := NB565_551.out
   obtain ⟨hcz37_0, hcz37_1, hfz37_0, hfz37_1⟩ := own2 BK551.out
   go_wp2
   go_meet
   case rel => exact ⟨_, (((Go.bits .and .u64 (Go.bits .or .u64 a1_0 a2_0) (Go.bits .or .u64 a1_1 a2_1)) != 0)), (by first | rfl | (simp; done) | (simp [*]; done)), H', ⟨by first | omega | exact Nat.le_refl _⟩, ⟨by exact bfL BK548.out⟩, ⟨by exact bfL BK549.out⟩, ⟨by exact bfL BK550.out⟩, ⟨by exact bfL BK551.out⟩, ⟨by (with_reducible repeat (first | refine blk_drewN ?_ _ | refine blk_drew ?_ | refine blk_alloc ?_ _)); refine blk_put (cs := #[.int .u64 t560, .int .u64 t561, .int .i64 t562, .int .i64 0]) ?_ 3 _ rfl; (with_reducible repeat (first | refine blk_drewN ?_ _ | refine blk_drew ?_ | refine blk_alloc ?_ _)); refine blk_put (cs := #[.int .u64 t560, .int .u64 t561, .int .i64 0, .int .i64 0]) ?_ 2 _ rfl; (with_reducible repeat (first | refine blk_drewN ?_ _ | refine blk_drew ?_ | refine blk_alloc ?_ _)); refine blk_put (cs := #[.int .u64 t560, .int .u64 0, .int .i64 0, .int .i64 0]) ?_ 1 _ rfl; (with_reducible repeat (first | refine blk_drewN ?_ _ | refine blk_drew ?_ | refine blk_alloc ?_ _)); refine blk_put (cs := #[.int .u64 0, .int .u64 0, .int .i64 0, .int .i64 0]) ?_ 0 _ rfl; exact bfL BK565.out⟩, ⟨bsL HB.out⟩⟩
  ·
   replace c32 := Bool.eq_false_iff.mpr c32
   subst c32
   have H1 : (jacquardref14_Meet.j0 k a0 true (Go.bits .or .u64 a1_0 a2_0) (Go.bits .or .u64 a1_1 a2_1) t560 t561 t562 t563) = some (r1, r2, r3, r4, r5, r6, r7) := by rw [if_neg (show ¬ (false = true) by decide)] at H; exact H
   clear H
   have H := H1
   clear H1
   have H' := Aside0.mk H
   clear H
   go_wp2
   go_meet
   case rel => exact ⟨_, (true), (by first | rfl | (simp; done) | (simp [*]; done)), H', ⟨by first | omega | exact Nat.le_refl _⟩, ⟨by exact bfL BK548.out⟩, ⟨by exact bfL BK549.out⟩, ⟨by exact bfL BK550.out⟩, ⟨by exact bfL BK551.out⟩, ⟨by (with_reducible repeat (first | refine blk_drewN ?_ _ | refine blk_drew ?_ | refine blk_alloc ?_ _)); refine blk_put (cs := #[.int .u64 t560, .int .u64 t561, .int .i64 t562, .int .i64 0]) ?_ 3 _ rfl; (with_reducible repeat (first | refine blk_drewN ?_ _ | refine blk_drew ?_ | refine blk_alloc ?_ _)); refine blk_put (cs := #[.int .u64 t560, .int .u64 t561, .int .i64 0, .int .i64 0]) ?_ 2 _ rfl; (with_reducible repeat (first | refine blk_drewN ?_ _ | refine blk_drew ?_ | refine blk_alloc ?_ _)); refine blk_put (cs := #[.int .u64 t560, .int .u64 0, .int .i64 0, .int .i64 0]) ?_ 1 _ rfl; (with_reducible repeat (first | refine blk_drewN ?_ _ | refine blk_drew ?_ | refine blk_alloc ?_ _)); refine blk_put (cs := #[.int .u64 0, .int .u64 0, .int .i64 0, .int .i64 0]) ?_ 0 _ rfl; exact bfL BK565.out⟩, ⟨bsL HB.out⟩⟩
 case rest =>
  clear HC7
  try clear c1
  try clear p2
  try clear c3
  try clear c8
  try clear c10
  try clear c32
  try clear c33
  try clear c34
  try clear c35
  try clear c36
  try clear hcz37_0
  try clear hcz37_1
  try clear hfz37_0
  try clear hfz37_1
  obtain ⟨kq, x39_6, rfl, HA, HJ6, BK548, BK549, BK550, BK551, BK565, HB⟩ := hcut
  cases kq with
  | zero => exact absurd HA.out (by simp [jacquardref14_Meet.j0])
  | succ kj6 =>
   have H := HA.out
   clear HA
   simp only [jacquardref14_Meet.j0] at H
   by_cases c38 : x39_6 = true
   ·
    subst c38
    have H1 : (some (0, 0, 0, 0, 0, 0, false)) = some (r1, r2, r3, r4, r5, r6, r7) := by rw [if_pos rfl] at H; exact H
    clear H
    have H := H1
    clear H1
    simp only [Option.some.injEq, Prod.mk.injEq] at H
    obtain ⟨rfl, rfl, rfl, rfl, rfl, rfl, rfl⟩ := H
    have hnb39 := NB550_548.out
    have hnc39 := NB548_550.out
    have hnb40 := NB550_549.out
    have hnc40 := NB549_550.out
    have hnb41 := NB550_551.out
    have hnc41 := NB551_550.out
    have hnb42 := NB550_565.out
    have hnc42 := NB565_550.out
    obtain ⟨hcz43_0, hcz43_1, hcz43_2, hcz43_3, hcz43_4, hcz43_5, hfz43_0, hfz43_1, hfz43_2, hfz43_3, hfz43_4, hfz43_5⟩ := own6 BK550.out
    go_wp2
    refine bodyPost_ret (results_ct rfl _ _ gb550 50 #[.int .u64 0, .int .u64 0, .int .u64 0, .int .u64 0, .int .i64 0, .int .i64 0] (0, 0) _ rfl (by (with_reducible repeat (first | refine blk_drewN ?_ _ | refine blk_drew ?_ | refine blk_alloc ?_ _)); refine blk_put (cs := #[.int .u64 0, .int .u64 0, .int .u64 0, .int .u64 0, .int .i64 0, .int .i64 0]) ?_ 5 _ rfl; (with_reducible repeat (first | refine blk_drewN ?_ _ | refine blk_drew ?_ | refine blk_alloc ?_ _)); refine blk_put (cs := #[.int .u64 0, .int .u64 0, .int .u64 0, .int .u64 0, .int .i64 0, .int .i64 0]) ?_ 4 _ rfl; (with_reducible repeat (first | refine blk_drewN ?_ _ | refine blk_drew ?_ | refine blk_alloc ?_ _)); refine blk_put (cs := #[.int .u64 0, .int .u64 0, .int .u64 0, .int .u64 0, .int .i64 0, .int .i64 0]) ?_ 3 _ rfl; (with_reducible repeat (first | refine blk_drewN ?_ _ | refine blk_drew ?_ | refine blk_alloc ?_ _)); refine blk_put (cs := #[.int .u64 0, .int .u64 0, .int .u64 0, .int .u64 0, .int .i64 0, .int .i64 0]) ?_ 2 _ rfl; (with_reducible repeat (first | refine blk_drewN ?_ _ | refine blk_drew ?_ | refine blk_alloc ?_ _)); refine blk_put (cs := #[.int .u64 0, .int .u64 0, .int .u64 0, .int .u64 0, .int .i64 0, .int .i64 0]) ?_ 1 _ rfl; (with_reducible repeat (first | refine blk_drewN ?_ _ | refine blk_drew ?_ | refine blk_alloc ?_ _)); refine blk_put (cs := #[.int .u64 0, .int .u64 0, .int .u64 0, .int .u64 0, .int .i64 0, .int .i64 0]) ?_ 0 _ rfl; exact bfL BK550.out) Try.underlying50 rfl (by kernel_rfl)) rfl ?_
    exact ⟨by first | rfl | (simp [errW_none, errW_some] <;> rfl) | (simp [*, errW_none, errW_some] <;> rfl), bsL HB.out⟩
   ·
    replace c38 := Bool.eq_false_iff.mpr c38
    subst c38
    have H1 : ((jacquardref14_fact.f (Go.bits .or .u64 a1_0 a2_0) (Go.bits .or .u64 a1_1 a2_1) t560 t561 t562 t563).bind fun bt566 => ((jacquardref14_Tighten.f kj6 a0 bt566.1 bt566.2.1 bt566.2.2.1 bt566.2.2.2.1 bt566.2.2.2.2.1 bt566.2.2.2.2.2).bind fun bt572 => (some (bt572.1, bt572.2.1, bt572.2.2.1, bt572.2.2.2.1, bt572.2.2.2.2.1, bt572.2.2.2.2.2.1, bt572.2.2.2.2.2.2)))) = some (r1, r2, r3, r4, r5, r6, r7) := by rw [if_neg (show ¬ (false = true) by decide)] at H; exact H
    clear H
    have H := H1
    clear H1
    replace H := Option.bind_eq_some_iff.mp H
    obtain ⟨⟨t566, t567, t568, t569, t570, t571⟩, A440, H⟩ := H
    replace H : ((jacquardref14_Tighten.f kj6 a0 t566 t567 t568 t569 t570 t571).bind fun bt572 => (some (bt572.1, bt572.2.1, bt572.2.2.1, bt572.2.2.2.1, bt572.2.2.2.2.1, bt572.2.2.2.2.2.1, bt572.2.2.2.2.2.2))) = some (r1, r2, r3, r4, r5, r6, r7) := H
    have A44 := Aside0.mk A440
    clear A440
    replace H := Option.bind_eq_some_iff.mp H
    obtain ⟨⟨t572, t573, t574, t575, t576, t577, t578⟩, A450, H⟩ := H
    replace H : (some (t572, t573, t574, t575, t576, t577, t578)) = some (r1, r2, r3, r4, r5, r6, r7) := H
    have A45 := Aside0.mk A450
    clear A450
    simp only [Option.some.injEq, Prod.mk.injEq] at H
    obtain ⟨rfl, rfl, rfl, rfl, rfl, rfl, rfl⟩ := H
    have hnb46 := NB551_548.out
    have hnc46 := NB548_551.out
    have hnb47 := NB551_549.out
    have hnc47 := NB549_551.out
    have hnb48 := NB551_550.out
    have hnc48 := NB550_551.out
    have hnb49 := NB551_565.out
    have hnc49 := NB565_551.out
    obtain ⟨hcz50_0, hcz50_1, hfz50_0, hfz50_1⟩ := own2 BK551.out
    have hnb51 := NB565_548.out
    have hnc51 := NB548_565.out
    have hnb52 := NB565_549.out
    have hnc52 := NB549_565.out
    have hnb53 := NB565_550.out
    have hnc53 := NB550_565.out
    obtain ⟨hcz54_0, hcz54_1, hcz54_2, hcz54_3, hfz54_0, hfz54_1, hfz54_2, hfz54_3⟩ := own4 BK565.out
    go_wp2_with (first | ((with_reducible refine gate_callee (f := 82) rfl ?_); refine gL (some 44) Try.func82 #[.agg #[.int .u64 (Go.bits .or .u64 a1_0 a2_0), .int .u64 (Go.bits .or .u64 a1_1 a2_1)], .agg #[.int .u64 t560, .int .u64 t561, .int .i64 t562, .int .i64 t563]] ?_; (with_reducible refine (jacquardref14_fact.calls (Go.bits .or .u64 a1_0 a2_0) (Go.bits .or .u64 a1_1 a2_1) t560 t561 t562 t563 t566 t567 t568 t569 t570 t571 _ A44.out).mono ?_); rintro e w55 ⟨rfl, hb⟩; refine ⟨_, rfl, ?_⟩; replace BK548 := bkB BK548.out hb; replace BK549 := bkB BK549.out hb; replace BK550 := bkB BK550.out hb; replace BK551 := bkB BK551.out hb; replace BK565 := bkB BK565.out hb; replace HB := bsB HB.out hb; (try clear hb)) | ((with_reducible refine gate_callee (f := 26) rfl ?_); refine gL (some 45) Try.func26 #[.int .i64 a0, .agg #[.int .u64 t566, .int .u64 t567, .int .u64 t568, .int .u64 t569, .int .i64 t570, .int .i64 t571]] ?_; (with_reducible refine (jacquardref14_Tighten.calls kj6 a0 t566 t567 t568 t569 t570 t571 t572 t573 t574 t575 t576 t577 t578 _ A45.out).mono ?_); rintro e w56 ⟨rfl, hb⟩; refine ⟨_, rfl, ?_⟩; replace BK548 := bkB BK548.out hb; replace BK549 := bkB BK549.out hb; replace BK550 := bkB BK550.out hb; replace BK551 := bkB BK551.out hb; replace BK565 := bkB BK565.out hb; replace HB := bsB HB.out hb; (try clear hb); (try clear hb2); (try clear hk); (try clear hi); have hnb57 := NB550_548.out; have hnc57 := NB548_550.out; have hnb58 := NB550_549.out; have hnc58 := NB549_550.out; obtain ⟨hcz59_0, hcz59_1, hcz59_2, hcz59_3, hcz59_4, hcz59_5, hfz59_0, hfz59_1, hfz59_2, hfz59_3, hfz59_4, hfz59_5⟩ := own6 BK550.out))
    refine bodyPost_ret (results_ct rfl _ _ gb550 50 #[.int .u64 t572, .int .u64 t573, .int .u64 t574, .int .u64 t575, .int .i64 t576, .int .i64 t577] (0, 0) _ rfl (by (with_reducible repeat (first | refine blk_drewN ?_ _ | refine blk_drew ?_ | refine blk_alloc ?_ _)); refine blk_put (cs := #[.int .u64 t572, .int .u64 t573, .int .u64 t574, .int .u64 t575, .int .i64 t576, .int .i64 0]) ?_ 5 _ rfl; (with_reducible repeat (first | refine blk_drewN ?_ _ | refine blk_drew ?_ | refine blk_alloc ?_ _)); refine blk_put (cs := #[.int .u64 t572, .int .u64 t573, .int .u64 t574, .int .u64 t575, .int .i64 0, .int .i64 0]) ?_ 4 _ rfl; (with_reducible repeat (first | refine blk_drewN ?_ _ | refine blk_drew ?_ | refine blk_alloc ?_ _)); refine blk_put (cs := #[.int .u64 t572, .int .u64 t573, .int .u64 t574, .int .u64 0, .int .i64 0, .int .i64 0]) ?_ 3 _ rfl; (with_reducible repeat (first | refine blk_drewN ?_ _ | refine blk_drew ?_ | refine blk_alloc ?_ _)); refine blk_put (cs := #[.int .u64 t572, .int .u64 t573, .int .u64 0, .int .u64 0, .int .i64 0, .int .i64 0]) ?_ 2 _ rfl; (with_reducible repeat (first | refine blk_drewN ?_ _ | refine blk_drew ?_ | refine blk_alloc ?_ _)); refine blk_put (cs := #[.int .u64 t572, .int .u64 0, .int .u64 0, .int .u64 0, .int .i64 0, .int .i64 0]) ?_ 1 _ rfl; (with_reducible repeat (first | refine blk_drewN ?_ _ | refine blk_drew ?_ | refine blk_alloc ?_ _)); refine blk_put (cs := #[.int .u64 0, .int .u64 0, .int .u64 0, .int .u64 0, .int .i64 0, .int .i64 0]) ?_ 0 _ rfl; exact bfL BK550.out) Try.underlying50 rfl (by kernel_rfl)) rfl ?_
    exact ⟨by first | rfl | (simp [errW_none, errW_some] <;> rfl) | (simp [*, errW_none, errW_some] <;> rfl), bsL HB.out⟩

end Go.Proofs.Ytbiohdgeclokmaa.P
