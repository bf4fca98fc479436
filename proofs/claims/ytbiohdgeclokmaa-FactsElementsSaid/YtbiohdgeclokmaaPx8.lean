-- made by a program of this work (wip/mkprint.py, wip/mp.sh) out of the translation
import Derived.Test.YtbiohdgeclokmaaPx0
import Derived.Test.YtbiohdgeclokmaaPx2
import Derived.Test.YtbiohdgeclokmaaPx4
import Derived.Test.YtbiohdgeclokmaaPx5
import Derived.Test.YtbiohdgeclokmaaPx7
namespace Go.Proofs.Ytbiohdgeclokmaa.P
open Go.RowKit Go.Proofs.YtbiohdgeclokmaaW.PrintWords Go.Proofs.YtbiohdgeclokmaaW.PrintLast Go.Proofs.YtbiohdgeclokmaaW.PrintMore
attribute [local go_sem] max2_int min2_int max_two min_two max_three min_three max_four min_four   -- for this text's walks alone
set_option linter.unusedVariables false
set_option linter.unusedSimpArgs false

/-! ### interval_Join: function 96 -/
def interval_Join.f (a0_0 : Int) (a0_1 : Int) (a0_2 : Int) (a0_3 : Int) (a1_0 : Int) (a1_1 : Int) (a1_2 : Int) (a1_3 : Int) : Option (Int × Int × Int × Int) := some (mn a0_0 a1_0, mx a0_1 a1_1, mn a0_2 a1_2, mx a0_3 a1_3)
set_option maxHeartbeats 8000000 in
set_option maxRecDepth 100000 in
theorem interval_Join.calls (a0_0 : Int) (a0_1 : Int) (a0_2 : Int) (a0_3 : Int) (a1_0 : Int) (a1_1 : Int) (a1_2 : Int) (a1_3 : Int) (r1 : Int) (r2 : Int) (r3 : Int) (r4 : Int) (w : World) (h : interval_Join.f a0_0 a0_1 a0_2 a0_3 a1_0 a1_1 a1_2 a1_3 = some (r1, r2, r3, r4)) :
  Calls Try.prog 96 #[.agg #[.int .u64 a0_0, .int .u64 a0_1, .int .i64 a0_2, .int .i64 a0_3], .agg #[.int .u64 a1_0, .int .u64 a1_1, .int .i64 a1_2, .int .i64 a1_3]] w fun e w' => e = .returned (.agg #[.int .u64 r1, .int .u64 r2, .int .i64 r3, .int .i64 r4]) ∧ Below w.heap.size w w' := by
 have hu30 := Try.underlying30
 have HB := Aside0.mk (Below.refl w.heap.size w)
 have H : (some (mn a0_0 a1_0, mx a0_1 a1_1, mn a0_2 a1_2, mx a0_3 a1_3)) = some (r1, r2, r3, r4) := h
 clear h
 obtain ⟨ji3, hji3⟩ : ∃ j_ : Int, (mn a0_0 a1_0) = j_ := ⟨_, rfl⟩
 replace H : (some (ji3, mx a0_1 a1_1, mn a0_2 a1_2, mx a0_3 a1_3)) = some (r1, r2, r3, r4) := by first | (rw [hji3] at H; exact H) | (simp only [hji3] at H ⊢; exact H)
 have hji3_ : (if a1_0 < a0_0 then a1_0 else a0_0) = ji3 := hji3
 obtain ⟨ji4, hji4⟩ : ∃ j_ : Int, (mx a0_1 a1_1) = j_ := ⟨_, rfl⟩
 replace H : (some (ji3, ji4, mn a0_2 a1_2, mx a0_3 a1_3)) = some (r1, r2, r3, r4) := by first | (rw [hji4] at H; exact H) | (simp only [hji4] at H ⊢; exact H)
 have hji4_ : (if a0_1 < a1_1 then a1_1 else a0_1) = ji4 := hji4
 obtain ⟨ji5, hji5⟩ : ∃ j_ : Int, (mn a0_2 a1_2) = j_ := ⟨_, rfl⟩
 replace H : (some (ji3, ji4, ji5, mx a0_3 a1_3)) = some (r1, r2, r3, r4) := by first | (rw [hji5] at H; exact H) | (simp only [hji5] at H ⊢; exact H)
 have hji5_ : (if a1_2 < a0_2 then a1_2 else a0_2) = ji5 := hji5
 obtain ⟨ji6, hji6⟩ : ∃ j_ : Int, (mx a0_3 a1_3) = j_ := ⟨_, rfl⟩
 replace H : (some (ji3, ji4, ji5, ji6)) = some (r1, r2, r3, r4) := by first | (rw [hji6] at H; exact H) | (simp only [hji6] at H ⊢; exact H)
 have hji6_ : (if a0_3 < a1_3 then a1_3 else a0_3) = ji6 := hji6
 simp only [Option.some.injEq, Prod.mk.injEq] at H
 obtain ⟨rfl, rfl, rfl, rfl⟩ := H
 go_enter Try.func96, Try.ntmps96
 go_wp2_with (first | ((with_reducible refine gate_dst (N := 2) rfl ?_); refine boxE (N := 2) (cs := #[.int .u64 a0_0, .int .u64 a0_1, .int .i64 a0_2, .int .i64 a0_3]) (t := 30) ?_; intro gb435 hg w7 hbox hb; have BK435 := Aside0.mk (hbox); have GW435 := szB hg HB.out; have GE435 := szB hg HB.out; replace HB := bsB HB.out hb; clear hb hbox hg) | ((with_reducible refine gate_dst (N := 3) rfl ?_); refine boxE (N := 3) (cs := #[.int .u64 a1_0, .int .u64 a1_1, .int .i64 a1_2, .int .i64 a1_3]) (t := 30) ?_; intro gb436 hg w8 hbox hb; have BK436 := Aside0.mk (hbox); have GW436 := szB hg HB.out; have GE436 := szB hg HB.out; have NB435_436 := neL hg BK435.out; have NB436_435 := neG hg BK435.out; replace BK435 := bkB BK435.out hb; replace HB := bsB HB.out hb; clear hb hbox hg) | ((with_reducible refine gate_dst (N := 4) rfl ?_); refine boxE (N := 4) (cs := #[.int .u64 0, .int .u64 0, .int .i64 0, .int .i64 0]) (t := 30) ?_; intro gb437 hg w9 hbox hb; have BK437 := Aside0.mk (hbox); have GW437 := szB hg HB.out; have GE437 := szB hg HB.out; have NB435_437 := neL hg BK435.out; have NB437_435 := neG hg BK435.out; have NB436_437 := neL hg BK436.out; have NB437_436 := neG hg BK436.out; replace BK435 := bkB BK435.out hb; replace BK436 := bkB BK436.out hb; replace HB := bsB HB.out hb; clear hb hbox hg; have hnb10 := NB435_436.out; have hnc10 := NB436_435.out; have hnb11 := NB435_437.out; have hnc11 := NB437_435.out; obtain ⟨hcz12_0, hcz12_1, hcz12_2, hcz12_3, hfz12_0, hfz12_1, hfz12_2, hfz12_3⟩ := own4 BK435.out; have hnb13 := NB436_437.out; have hnc13 := NB437_436.out; obtain ⟨hcz14_0, hcz14_1, hcz14_2, hcz14_3, hfz14_0, hfz14_1, hfz14_2, hfz14_3⟩ := own4 BK436.out; obtain ⟨hcz15_0, hcz15_1, hcz15_2, hcz15_3, hfz15_0, hfz15_1, hfz15_2, hfz15_3⟩ := own4 BK437.out))
 refine bodyPost_ret (results_cell_row rfl _ _ gb437 30 #[.int .u64 ji3, .int .u64 ji4, .int .i64 ji5, .int .i64 ji6] (0, 0) _ rfl (by (with_reducible repeat (first | refine blk_drewN ?_ _ | refine blk_drew ?_ | refine blk_alloc ?_ _)); refine blk_put (cs := #[.int .u64 ji3, .int .u64 ji4, .int .i64 ji5, .int .i64 0]) ?_ 3 _ rfl; (with_reducible repeat (first | refine blk_drewN ?_ _ | refine blk_drew ?_ | refine blk_alloc ?_ _)); refine blk_put (cs := #[.int .u64 ji3, .int .u64 ji4, .int .i64 0, .int .i64 0]) ?_ 2 _ rfl; (with_reducible repeat (first | refine blk_drewN ?_ _ | refine blk_drew ?_ | refine blk_alloc ?_ _)); refine blk_put (cs := #[.int .u64 ji3, .int .u64 0, .int .i64 0, .int .i64 0]) ?_ 1 _ rfl; (with_reducible repeat (first | refine blk_drewN ?_ _ | refine blk_drew ?_ | refine blk_alloc ?_ _)); refine blk_put (cs := #[.int .u64 0, .int .u64 0, .int .i64 0, .int .i64 0]) ?_ 0 _ rfl; exact bfL BK437.out) Try.underlying30 rfl (by kernel_rfl)) rfl ?_
 exact ⟨by first | rfl | (simp [errW_none, errW_some] <;> rfl) | (simp only [← hji3, ← hji4, ← hji5, ← hji6]; first | rfl | (simp [errW_none, errW_some] <;> rfl)) | (simp [*, errW_none, errW_some] <;> rfl), bsL HB.out⟩

/-! ### facts_Join: function 37 -/
def facts_Join.f (a0_0 : Int) (a0_1 : Int) (a0_2 : Int) (a0_3 : Int) (a0_4 : Int) (a0_5 : Int) (a1_0 : Int) (a1_1 : Int) (a1_2 : Int) (a1_3 : Int) (a1_4 : Int) (a1_5 : Int) : Option (Int × Int × Int × Int × Int × Int) := (facts_known.f a0_0 a0_1 a0_2 a0_3 a0_4 a0_5).bind fun bt441 => ((facts_known.f a1_0 a1_1 a1_2 a1_3 a1_4 a1_5).bind fun bt443 => ((knownbits_Join.f bt441.1 bt441.2 bt443.1 bt443.2).bind fun bt445 => ((facts_span.f a0_0 a0_1 a0_2 a0_3 a0_4 a0_5).bind fun bt447 => ((facts_span.f a1_0 a1_1 a1_2 a1_3 a1_4 a1_5).bind fun bt451 => ((interval_Join.f bt447.1 bt447.2.1 bt447.2.2.1 bt447.2.2.2 bt451.1 bt451.2.1 bt451.2.2.1 bt451.2.2.2).bind fun bt455 => ((facts_fact.f bt445.1 bt445.2 bt455.1 bt455.2.1 bt455.2.2.1 bt455.2.2.2).bind fun bt459 => (some (bt459.1, bt459.2.1, bt459.2.2.1, bt459.2.2.2.1, bt459.2.2.2.2.1, bt459.2.2.2.2.2))))))))
def facts_Join.T1 : Bool × List (List Nat × List Nat) := (true, [([], []), ([0], [0]), ([], []), ([2, 1], [2]), ([1, 3, 3], [1, 3]), ([], []), ([5, 4], [5]), ([], []), ([7, 6], [7]), ([6, 8, 8], [6, 8]), ([4, 9, 9], [4, 9]), ([10, 10, 0, 1, 2, 3, 4, 5, 6, 7, 8, 9, 10], [10])])
def facts_Join.B1 : List Nat := [0, 1, 0, 7, 15, 0, 63, 0, 255, 511, 1023, 2047]
theorem facts_Join.tab1 : rtab .any (opsOf Try.f37 1) = facts_Join.T1 := by kernel_rfl
theorem facts_Join.bits1 : waitsOk facts_Join.T1.2 facts_Join.B1 = true := by kernel_rfl
set_option maxHeartbeats 8000000 in
set_option maxRecDepth 100000 in
theorem facts_Join.calls (a0_0 : Int) (a0_1 : Int) (a0_2 : Int) (a0_3 : Int) (a0_4 : Int) (a0_5 : Int) (a1_0 : Int) (a1_1 : Int) (a1_2 : Int) (a1_3 : Int) (a1_4 : Int) (a1_5 : Int) (r1 : Int) (r2 : Int) (r3 : Int) (r4 : Int) (r5 : Int) (r6 : Int) (w : World) (h : facts_Join.f a0_0 a0_1 a0_2 a0_3 a0_4 a0_5 a1_0 a1_1 a1_2 a1_3 a1_4 a1_5 = some (r1, r2, r3, r4, r5, r6)) :
  Calls Try.prog 37 #[.agg #[.int .u64 a0_0, .int .u64 a0_1, .int .u64 a0_2, .int .u64 a0_3, .int .i64 a0_4, .int .i64 a0_5], .agg #[.int .u64 a1_0, .int .u64 a1_1, .int .u64 a1_2, .int .u64 a1_3, .int .i64 a1_4, .int .i64 a1_5]] w fun e w' => e = .returned (.agg #[.int .u64 r1, .int .u64 r2, .int .u64 r3, .int .u64 r4, .int .i64 r5, .int .i64 r6]) ∧ Below w.heap.size w w' := by
 have hu50 := Try.underlying50
 have HB := Aside0.mk (Below.refl w.heap.size w)
 have H : ((facts_known.f a0_0 a0_1 a0_2 a0_3 a0_4 a0_5).bind fun bt441 => ((facts_known.f a1_0 a1_1 a1_2 a1_3 a1_4 a1_5).bind fun bt443 => ((knownbits_Join.f bt441.1 bt441.2 bt443.1 bt443.2).bind fun bt445 => ((facts_span.f a0_0 a0_1 a0_2 a0_3 a0_4 a0_5).bind fun bt447 => ((facts_span.f a1_0 a1_1 a1_2 a1_3 a1_4 a1_5).bind fun bt451 => ((interval_Join.f bt447.1 bt447.2.1 bt447.2.2.1 bt447.2.2.2 bt451.1 bt451.2.1 bt451.2.2.1 bt451.2.2.2).bind fun bt455 => ((facts_fact.f bt445.1 bt445.2 bt455.1 bt455.2.1 bt455.2.2.1 bt455.2.2.2).bind fun bt459 => (some (bt459.1, bt459.2.1, bt459.2.2.1, bt459.2.2.2.1, bt459.2.2.2.2.1, bt459.2.2.2.2.2))))))))) = some (r1, r2, r3, r4, r5, r6) := h
 clear h
 replace H := Option.bind_eq_some_iff.mp H
 obtain ⟨⟨t441, t442⟩, A30, H⟩ := H
 replace H : ((facts_known.f a1_0 a1_1 a1_2 a1_3 a1_4 a1_5).bind fun bt443 => ((knownbits_Join.f t441 t442 bt443.1 bt443.2).bind fun bt445 => ((facts_span.f a0_0 a0_1 a0_2 a0_3 a0_4 a0_5).bind fun bt447 => ((facts_span.f a1_0 a1_1 a1_2 a1_3 a1_4 a1_5).bind fun bt451 => ((interval_Join.f bt447.1 bt447.2.1 bt447.2.2.1 bt447.2.2.2 bt451.1 bt451.2.1 bt451.2.2.1 bt451.2.2.2).bind fun bt455 => ((facts_fact.f bt445.1 bt445.2 bt455.1 bt455.2.1 bt455.2.2.1 bt455.2.2.2).bind fun bt459 => (some (bt459.1, bt459.2.1, bt459.2.2.1, bt459.2.2.2.1, bt459.2.2.2.2.1, bt459.2.2.2.2.2)))))))) = some (r1, r2, r3, r4, r5, r6) := H
 have A3 := Aside0.mk A30
 clear A30
 replace H := Option.bind_eq_some_iff.mp H
 obtain ⟨⟨t443, t444⟩, A40, H⟩ := H
 replace H : ((knownbits_Join.f t441 t442 t443 t444).bind fun bt445 => ((facts_span.f a0_0 a0_1 a0_2 a0_3 a0_4 a0_5).bind fun bt447 => ((facts_span.f a1_0 a1_1 a1_2 a1_3 a1_4 a1_5).bind fun bt451 => ((interval_Join.f bt447.1 bt447.2.1 bt447.2.2.1 bt447.2.2.2 bt451.1 bt451.2.1 bt451.2.2.1 bt451.2.2.2).bind fun bt455 => ((facts_fact.f bt445.1 bt445.2 bt455.1 bt455.2.1 bt455.2.2.1 bt455.2.2.2).bind fun bt459 => (some (bt459.1, bt459.2.1, bt459.2.2.1, bt459.2.2.2.1, bt459.2.2.2.2.1, bt459.2.2.2.2.2))))))) = some (r1, r2, r3, r4, r5, r6) := H
 have A4 := Aside0.mk A40
 clear A40
 replace H := Option.bind_eq_some_iff.mp H
 obtain ⟨⟨t445, t446⟩, A50, H⟩ := H
 replace H : ((facts_span.f a0_0 a0_1 a0_2 a0_3 a0_4 a0_5).bind fun bt447 => ((facts_span.f a1_0 a1_1 a1_2 a1_3 a1_4 a1_5).bind fun bt451 => ((interval_Join.f bt447.1 bt447.2.1 bt447.2.2.1 bt447.2.2.2 bt451.1 bt451.2.1 bt451.2.2.1 bt451.2.2.2).bind fun bt455 => ((facts_fact.f t445 t446 bt455.1 bt455.2.1 bt455.2.2.1 bt455.2.2.2).bind fun bt459 => (some (bt459.1, bt459.2.1, bt459.2.2.1, bt459.2.2.2.1, bt459.2.2.2.2.1, bt459.2.2.2.2.2)))))) = some (r1, r2, r3, r4, r5, r6) := H
 have A5 := Aside0.mk A50
 clear A50
 replace H := Option.bind_eq_some_iff.mp H
 obtain ⟨⟨t447, t448, t449, t450⟩, A60, H⟩ := H
 replace H : ((facts_span.f a1_0 a1_1 a1_2 a1_3 a1_4 a1_5).bind fun bt451 => ((interval_Join.f t447 t448 t449 t450 bt451.1 bt451.2.1 bt451.2.2.1 bt451.2.2.2).bind fun bt455 => ((facts_fact.f t445 t446 bt455.1 bt455.2.1 bt455.2.2.1 bt455.2.2.2).bind fun bt459 => (some (bt459.1, bt459.2.1, bt459.2.2.1, bt459.2.2.2.1, bt459.2.2.2.2.1, bt459.2.2.2.2.2))))) = some (r1, r2, r3, r4, r5, r6) := H
 have A6 := Aside0.mk A60
 clear A60
 replace H := Option.bind_eq_some_iff.mp H
 obtain ⟨⟨t451, t452, t453, t454⟩, A70, H⟩ := H
 replace H : ((interval_Join.f t447 t448 t449 t450 t451 t452 t453 t454).bind fun bt455 => ((facts_fact.f t445 t446 bt455.1 bt455.2.1 bt455.2.2.1 bt455.2.2.2).bind fun bt459 => (some (bt459.1, bt459.2.1, bt459.2.2.1, bt459.2.2.2.1, bt459.2.2.2.2.1, bt459.2.2.2.2.2)))) = some (r1, r2, r3, r4, r5, r6) := H
 have A7 := Aside0.mk A70
 clear A70
 replace H := Option.bind_eq_some_iff.mp H
 obtain ⟨⟨t455, t456, t457, t458⟩, A80, H⟩ := H
 replace H : ((facts_fact.f t445 t446 t455 t456 t457 t458).bind fun bt459 => (some (bt459.1, bt459.2.1, bt459.2.2.1, bt459.2.2.2.1, bt459.2.2.2.2.1, bt459.2.2.2.2.2))) = some (r1, r2, r3, r4, r5, r6) := H
 have A8 := Aside0.mk A80
 clear A80
 replace H := Option.bind_eq_some_iff.mp H
 obtain ⟨⟨t459, t460, t461, t462, t463, t464⟩, A90, H⟩ := H
 replace H : (some (t459, t460, t461, t462, t463, t464)) = some (r1, r2, r3, r4, r5, r6) := H
 have A9 := Aside0.mk A90
 clear A90
 simp only [Option.some.injEq, Prod.mk.injEq] at H
 obtain ⟨rfl, rfl, rfl, rfl, rfl, rfl⟩ := H
 go_enter Try.func37, Try.ntmps37
 try go_wp2_with (first | ((with_reducible refine gate_dst (N := 2) rfl ?_); refine boxE (N := 2) (cs := #[.int .u64 a0_0, .int .u64 a0_1, .int .u64 a0_2, .int .u64 a0_3, .int .i64 a0_4, .int .i64 a0_5]) (t := 50) ?_; intro gb438 hg w10 hbox hb; have BK438 := Aside0.mk (hbox); have GW438 := szB hg HB.out; have GE438 := szB hg HB.out; replace HB := bsB HB.out hb; clear hb hbox hg) | ((with_reducible refine gate_dst (N := 3) rfl ?_); refine boxE (N := 3) (cs := #[.int .u64 a1_0, .int .u64 a1_1, .int .u64 a1_2, .int .u64 a1_3, .int .i64 a1_4, .int .i64 a1_5]) (t := 50) ?_; intro gb439 hg w11 hbox hb; have BK439 := Aside0.mk (hbox); have GW439 := szB hg HB.out; have GE439 := szB hg HB.out; have NB438_439 := neL hg BK438.out; have NB439_438 := neG hg BK438.out; replace BK438 := bkB BK438.out hb; replace HB := bsB HB.out hb; clear hb hbox hg) | ((with_reducible refine gate_dst (N := 4) rfl ?_); refine boxE (N := 4) (cs := #[.int .u64 0, .int .u64 0, .int .u64 0, .int .u64 0, .int .i64 0, .int .i64 0]) (t := 50) ?_; intro gb440 hg w12 hbox hb; have BK440 := Aside0.mk (hbox); have GW440 := szB hg HB.out; have GE440 := szB hg HB.out; have NB438_440 := neL hg BK438.out; have NB440_438 := neG hg BK438.out; have NB439_440 := neL hg BK439.out; have NB440_439 := neG hg BK439.out; replace BK438 := bkB BK438.out hb; replace BK439 := bkB BK439.out hb; replace HB := bsB HB.out hb; clear hb hbox hg))
 replace BK438 := Aside0.mk (blk_drew BK438.out)
 replace BK439 := Aside0.mk (blk_drew BK439.out)
 replace BK440 := Aside0.mk (blk_drew BK440.out)
 replace HB := Aside0.mk (below_drew1 HB.out)
 refine start_ (n := 12) (S := fun w' => w'.cell? ⟨gb438, 0, none⟩ = some (.int .u64 a0_0) ∧ w'.cell? ⟨gb438, 1, none⟩ = some (.int .u64 a0_1) ∧ w'.cell? ⟨gb438, 2, none⟩ = some (.int .u64 a0_2) ∧ w'.cell? ⟨gb438, 3, none⟩ = some (.int .u64 a0_3) ∧ w'.cell? ⟨gb438, 4, none⟩ = some (.int .i64 a0_4) ∧ w'.cell? ⟨gb438, 5, none⟩ = some (.int .i64 a0_5) ∧ w'.cell? ⟨gb439, 0, none⟩ = some (.int .u64 a1_0) ∧ w'.cell? ⟨gb439, 1, none⟩ = some (.int .u64 a1_1) ∧ w'.cell? ⟨gb439, 2, none⟩ = some (.int .u64 a1_2) ∧ w'.cell? ⟨gb439, 3, none⟩ = some (.int .u64 a1_3) ∧ w'.cell? ⟨gb439, 4, none⟩ = some (.int .i64 a1_4) ∧ w'.cell? ⟨gb439, 5, none⟩ = some (.int .i64 a1_5)) (ds := []) (bA 12 0) (by kernel_rfl) rfl rfl (by repeat' (first | apply And.intro | exact (blk_cell BK438.out _).trans rfl | exact (blk_cell BK439.out _).trans rfl)) (fun hHeld => ?_); refine with_tabW facts_Join.tab1 facts_Join.bits1 (fun HT_ HW_ => ?_)
 generalize w12.drew = w13 at BK438 BK439 BK440 HB hHeld ⊢
 refine takeA HT_ HW_ hHeld (i := 0) (N := some 5) (bA 12 1) ?_ (hy := by rintro w' ⟨s0, s1, s2, s3, s4, s5, s6, s7, s8, s9, s10, s11⟩; go_simp; with_reducible rfl)
 refine takeA HT_ HW_ hHeld (i := 2) (N := some 7) (bA 12 5) ?_ (hy := by rintro w' ⟨s0, s1, s2, s3, s4, s5, s6, s7, s8, s9, s10, s11⟩; go_simp; with_reducible rfl)
 refine takeA HT_ HW_ hHeld (i := 5) (N := some 10) (bA 12 37) ?_ (hy := by rintro w' ⟨s0, s1, s2, s3, s4, s5, s6, s7, s8, s9, s10, s11⟩; go_simp; with_reducible rfl)
 refine takeA HT_ HW_ hHeld (i := 7) (N := some 12) (bA 12 165) ?_ (hy := by rintro w' ⟨s0, s1, s2, s3, s4, s5, s6, s7, s8, s9, s10, s11⟩; go_simp; with_reducible rfl)
 refine one_ (i := 1) (N := some 6) (bA 12 167) rfl rfl (one_of HT_.out (by kernel_rfl)) (by decide) (fun K hK => ?_)
 refine gO Try.func86 #[.agg #[.int .u64 a0_0, .int .u64 a0_1, .int .u64 a0_2, .int .u64 a0_3, .int .i64 a0_4, .int .i64 a0_5]] ?_
 with_reducible refine (facts_known.calls a0_0 a0_1 a0_2 a0_3 a0_4 a0_5 t441 t442 _ A3.out).mono ?_
 rintro e w14 ⟨rfl, hb⟩
 refine ⟨_, rfl, ?_⟩
 replace BK438 := bkB BK438.out hb
 replace BK439 := bkB BK439.out hb
 replace BK440 := bkB BK440.out hb
 replace HB := bsB HB.out hb
 (try clear hb)
 refine hK.out _ _ (by repeat' (first | apply And.intro | exact (blk_cell BK438.out _).trans rfl | exact (blk_cell BK439.out _).trans rfl)) (fun hHeld => ?_)
 clear hK K
 refine normA (some 6) ?_
 refine one_ (i := 3) (N := some 8) (bA 12 175) rfl rfl (one_of HT_.out (by kernel_rfl)) (by decide) (fun K hK => ?_)
 refine gO Try.func86 #[.agg #[.int .u64 a1_0, .int .u64 a1_1, .int .u64 a1_2, .int .u64 a1_3, .int .i64 a1_4, .int .i64 a1_5]] ?_
 with_reducible refine (facts_known.calls a1_0 a1_1 a1_2 a1_3 a1_4 a1_5 t443 t444 _ A4.out).mono ?_
 rintro e w15 ⟨rfl, hb⟩
 refine ⟨_, rfl, ?_⟩
 replace BK438 := bkB BK438.out hb
 replace BK439 := bkB BK439.out hb
 replace BK440 := bkB BK440.out hb
 replace HB := bsB HB.out hb
 (try clear hb)
 refine hK.out _ _ (by repeat' (first | apply And.intro | exact (blk_cell BK438.out _).trans rfl | exact (blk_cell BK439.out _).trans rfl)) (fun hHeld => ?_)
 clear hK K
 refine normA (some 8) ?_
 refine one_ (i := 4) (N := some 9) (bA 12 191) rfl rfl (one_of HT_.out (by kernel_rfl)) (by decide) (fun K hK => ?_)
 refine gO Try.func95 #[.agg #[.int .u64 t441, .int .u64 t442], .agg #[.int .u64 t443, .int .u64 t444]] ?_
 with_reducible refine (knownbits_Join.calls t441 t442 t443 t444 t445 t446 _ A5.out).mono ?_
 rintro e w16 ⟨rfl, hb⟩
 refine ⟨_, rfl, ?_⟩
 replace BK438 := bkB BK438.out hb
 replace BK439 := bkB BK439.out hb
 replace BK440 := bkB BK440.out hb
 replace HB := bsB HB.out hb
 (try clear hb)
 refine hK.out _ _ (by repeat' (first | apply And.intro | exact (blk_cell BK438.out _).trans rfl | exact (blk_cell BK439.out _).trans rfl)) (fun hHeld => ?_)
 clear hK K
 refine normA (some 9) ?_
 refine one_ (i := 6) (N := some 11) (bA 12 255) rfl rfl (one_of HT_.out (by kernel_rfl)) (by decide) (fun K hK => ?_)
 refine gO Try.func76 #[.agg #[.int .u64 a0_0, .int .u64 a0_1, .int .u64 a0_2, .int .u64 a0_3, .int .i64 a0_4, .int .i64 a0_5]] ?_
 with_reducible refine (facts_span.calls a0_0 a0_1 a0_2 a0_3 a0_4 a0_5 t447 t448 t449 t450 _ A6.out).mono ?_
 rintro e w17 ⟨rfl, hb⟩
 refine ⟨_, rfl, ?_⟩
 replace BK438 := bkB BK438.out hb
 replace BK439 := bkB BK439.out hb
 replace BK440 := bkB BK440.out hb
 replace HB := bsB HB.out hb
 (try clear hb)
 refine hK.out _ _ (by repeat' (first | apply And.intro | exact (blk_cell BK438.out _).trans rfl | exact (blk_cell BK439.out _).trans rfl)) (fun hHeld => ?_)
 clear hK K
 refine normA (some 11) ?_
 refine one_ (i := 8) (N := some 13) (bA 12 511) rfl rfl (one_of HT_.out (by kernel_rfl)) (by decide) (fun K hK => ?_)
 refine gO Try.func76 #[.agg #[.int .u64 a1_0, .int .u64 a1_1, .int .u64 a1_2, .int .u64 a1_3, .int .i64 a1_4, .int .i64 a1_5]] ?_
 with_reducible refine (facts_span.calls a1_0 a1_1 a1_2 a1_3 a1_4 a1_5 t451 t452 t453 t454 _ A7.out).mono ?_
 rintro e w18 ⟨rfl, hb⟩
 refine ⟨_, rfl, ?_⟩
 replace BK438 := bkB BK438.out hb
 replace BK439 := bkB BK439.out hb
 replace BK440 := bkB BK440.out hb
 replace HB := bsB HB.out hb
 (try clear hb)
 refine hK.out _ _ (by repeat' (first | apply And.intro | exact (blk_cell BK438.out _).trans rfl | exact (blk_cell BK439.out _).trans rfl)) (fun hHeld => ?_)
 clear hK K
 refine normA (some 13) ?_
 refine one_ (i := 9) (N := some 14) (bA 12 1023) rfl rfl (one_of HT_.out (by kernel_rfl)) (by decide) (fun K hK => ?_)
 refine gO Try.func96 #[.agg #[.int .u64 t447, .int .u64 t448, .int .i64 t449, .int .i64 t450], .agg #[.int .u64 t451, .int .u64 t452, .int .i64 t453, .int .i64 t454]] ?_
 with_reducible refine (interval_Join.calls t447 t448 t449 t450 t451 t452 t453 t454 t455 t456 t457 t458 _ A8.out).mono ?_
 rintro e w19 ⟨rfl, hb⟩
 refine ⟨_, rfl, ?_⟩
 replace BK438 := bkB BK438.out hb
 replace BK439 := bkB BK439.out hb
 replace BK440 := bkB BK440.out hb
 replace HB := bsB HB.out hb
 (try clear hb)
 refine hK.out _ _ (by repeat' (first | apply And.intro | exact (blk_cell BK438.out _).trans rfl | exact (blk_cell BK439.out _).trans rfl)) (fun hHeld => ?_)
 clear hK K
 refine normA (some 14) ?_
 refine one_ (i := 10) (N := some 15) (bA 12 2047) rfl rfl (one_of HT_.out (by kernel_rfl)) (by decide) (fun K hK => ?_)
 refine gO Try.func78 #[.agg #[.int .u64 t445, .int .u64 t446], .agg #[.int .u64 t455, .int .u64 t456, .int .i64 t457, .int .i64 t458]] ?_
 with_reducible refine (facts_fact.calls t445 t446 t455 t456 t457 t458 t459 t460 t461 t462 t463 t464 _ A9.out).mono ?_
 rintro e w20 ⟨rfl, hb⟩
 refine ⟨_, rfl, ?_⟩
 replace BK438 := bkB BK438.out hb
 replace BK439 := bkB BK439.out hb
 replace BK440 := bkB BK440.out hb
 replace HB := bsB HB.out hb
 (try clear hb)
 refine hK.out _ _ (by repeat' (first | apply And.intro | exact (blk_cell BK438.out _).trans rfl | exact (blk_cell BK439.out _).trans rfl)) (fun hHeld => ?_)
 clear hK K
 refine normA (some 15) ?_
 refine one_ (i := 11) (N := none) (bA 12 4095) rfl rfl (one_of HT_.out (by kernel_rfl)) (by decide) (fun K hK => ?_)
 have hs21 : w20.cell? ⟨gb440, 0, none⟩ = some (.int .u64 0) := (blk_cell BK440.out 0).trans rfl
 have hfs21 := blk_frozen BK440.out 0
 have hns21_0 := NB438_440.out
 have hns21_1 := NB439_440.out
 have hms21_0 := NB440_438.out
 have hms21_1 := NB440_439.out
 have hs22 : w20.cell? ⟨gb440, 1, none⟩ = some (.int .u64 0) := (blk_cell BK440.out 1).trans rfl
 have hfs22 := blk_frozen BK440.out 1
 have hns22_0 := NB438_440.out
 have hns22_1 := NB439_440.out
 have hms22_0 := NB440_438.out
 have hms22_1 := NB440_439.out
 have hs23 : w20.cell? ⟨gb440, 2, none⟩ = some (.int .u64 0) := (blk_cell BK440.out 2).trans rfl
 have hfs23 := blk_frozen BK440.out 2
 have hns23_0 := NB438_440.out
 have hns23_1 := NB439_440.out
 have hms23_0 := NB440_438.out
 have hms23_1 := NB440_439.out
 have hs24 : w20.cell? ⟨gb440, 3, none⟩ = some (.int .u64 0) := (blk_cell BK440.out 3).trans rfl
 have hfs24 := blk_frozen BK440.out 3
 have hns24_0 := NB438_440.out
 have hns24_1 := NB439_440.out
 have hms24_0 := NB440_438.out
 have hms24_1 := NB440_439.out
 have hs25 : w20.cell? ⟨gb440, 4, none⟩ = some (.int .i64 0) := (blk_cell BK440.out 4).trans rfl
 have hfs25 := blk_frozen BK440.out 4
 have hns25_0 := NB438_440.out
 have hns25_1 := NB439_440.out
 have hms25_0 := NB440_438.out
 have hms25_1 := NB440_439.out
 have hs26 : w20.cell? ⟨gb440, 5, none⟩ = some (.int .i64 0) := (blk_cell BK440.out 5).trans rfl
 have hfs26 := blk_frozen BK440.out 5
 have hns26_0 := NB438_440.out
 have hns26_1 := NB439_440.out
 have hms26_0 := NB440_438.out
 have hms26_1 := NB440_439.out
 refine skip_ (w1 := ?_) (by rfl) rfl ?_ ?_
 rotate_left
 ·
  go_simp
  rfl
 refine hK.out _ _ ⟨((cell_far (p := ⟨gb440, _, none⟩) NB438_440.out _).trans (((cell_far (p := ⟨gb440, _, none⟩) NB438_440.out _).trans (((cell_far (p := ⟨gb440, _, none⟩) NB438_440.out _).trans (((cell_far (p := ⟨gb440, _, none⟩) NB438_440.out _).trans (((cell_far (p := ⟨gb440, _, none⟩) NB438_440.out _).trans (((cell_far (p := ⟨gb440, _, none⟩) NB438_440.out _).trans (hHeld.1)))))))))))), ((cell_far (p := ⟨gb440, _, none⟩) NB438_440.out _).trans (((cell_far (p := ⟨gb440, _, none⟩) NB438_440.out _).trans (((cell_far (p := ⟨gb440, _, none⟩) NB438_440.out _).trans (((cell_far (p := ⟨gb440, _, none⟩) NB438_440.out _).trans (((cell_far (p := ⟨gb440, _, none⟩) NB438_440.out _).trans (((cell_far (p := ⟨gb440, _, none⟩) NB438_440.out _).trans (hHeld.2.1)))))))))))), ((cell_far (p := ⟨gb440, _, none⟩) NB438_440.out _).trans (((cell_far (p := ⟨gb440, _, none⟩) NB438_440.out _).trans (((cell_far (p := ⟨gb440, _, none⟩) NB438_440.out _).trans (((cell_far (p := ⟨gb440, _, none⟩) NB438_440.out _).trans (((cell_far (p := ⟨gb440, _, none⟩) NB438_440.out _).trans (((cell_far (p := ⟨gb440, _, none⟩) NB438_440.out _).trans (hHeld.2.2.1)))))))))))), ((cell_far (p := ⟨gb440, _, none⟩) NB438_440.out _).trans (((cell_far (p := ⟨gb440, _, none⟩) NB438_440.out _).trans (((cell_far (p := ⟨gb440, _, none⟩) NB438_440.out _).trans (((cell_far (p := ⟨gb440, _, none⟩) NB438_440.out _).trans (((cell_far (p := ⟨gb440, _, none⟩) NB438_440.out _).trans (((cell_far (p := ⟨gb440, _, none⟩) NB438_440.out _).trans (hHeld.2.2.2.1)))))))))))), ((cell_far (p := ⟨gb440, _, none⟩) NB438_440.out _).trans (((cell_far (p := ⟨gb440, _, none⟩) NB438_440.out _).trans (((cell_far (p := ⟨gb440, _, none⟩) NB438_440.out _).trans (((cell_far (p := ⟨gb440, _, none⟩) NB438_440.out _).trans (((cell_far (p := ⟨gb440, _, none⟩) NB438_440.out _).trans (((cell_far (p := ⟨gb440, _, none⟩) NB438_440.out _).trans (hHeld.2.2.2.2.1)))))))))))), ((cell_far (p := ⟨gb440, _, none⟩) NB438_440.out _).trans (((cell_far (p := ⟨gb440, _, none⟩) NB438_440.out _).trans (((cell_far (p := ⟨gb440, _, none⟩) NB438_440.out _).trans (((cell_far (p := ⟨gb440, _, none⟩) NB438_440.out _).trans (((cell_far (p := ⟨gb440, _, none⟩) NB438_440.out _).trans (((cell_far (p := ⟨gb440, _, none⟩) NB438_440.out _).trans (hHeld.2.2.2.2.2.1)))))))))))), ((cell_far (p := ⟨gb440, _, none⟩) NB439_440.out _).trans (((cell_far (p := ⟨gb440, _, none⟩) NB439_440.out _).trans (((cell_far (p := ⟨gb440, _, none⟩) NB439_440.out _).trans (((cell_far (p := ⟨gb440, _, none⟩) NB439_440.out _).trans (((cell_far (p := ⟨gb440, _, none⟩) NB439_440.out _).trans (((cell_far (p := ⟨gb440, _, none⟩) NB439_440.out _).trans (hHeld.2.2.2.2.2.2.1)))))))))))), ((cell_far (p := ⟨gb440, _, none⟩) NB439_440.out _).trans (((cell_far (p := ⟨gb440, _, none⟩) NB439_440.out _).trans (((cell_far (p := ⟨gb440, _, none⟩) NB439_440.out _).trans (((cell_far (p := ⟨gb440, _, none⟩) NB439_440.out _).trans (((cell_far (p := ⟨gb440, _, none⟩) NB439_440.out _).trans (((cell_far (p := ⟨gb440, _, none⟩) NB439_440.out _).trans (hHeld.2.2.2.2.2.2.2.1)))))))))))), ((cell_far (p := ⟨gb440, _, none⟩) NB439_440.out _).trans (((cell_far (p := ⟨gb440, _, none⟩) NB439_440.out _).trans (((cell_far (p := ⟨gb440, _, none⟩) NB439_440.out _).trans (((cell_far (p := ⟨gb440, _, none⟩) NB439_440.out _).trans (((cell_far (p := ⟨gb440, _, none⟩) NB439_440.out _).trans (((cell_far (p := ⟨gb440, _, none⟩) NB439_440.out _).trans (hHeld.2.2.2.2.2.2.2.2.1)))))))))))), ((cell_far (p := ⟨gb440, _, none⟩) NB439_440.out _).trans (((cell_far (p := ⟨gb440, _, none⟩) NB439_440.out _).trans (((cell_far (p := ⟨gb440, _, none⟩) NB439_440.out _).trans (((cell_far (p := ⟨gb440, _, none⟩) NB439_440.out _).trans (((cell_far (p := ⟨gb440, _, none⟩) NB439_440.out _).trans (((cell_far (p := ⟨gb440, _, none⟩) NB439_440.out _).trans (hHeld.2.2.2.2.2.2.2.2.2.1)))))))))))), ((cell_far (p := ⟨gb440, _, none⟩) NB439_440.out _).trans (((cell_far (p := ⟨gb440, _, none⟩) NB439_440.out _).trans (((cell_far (p := ⟨gb440, _, none⟩) NB439_440.out _).trans (((cell_far (p := ⟨gb440, _, none⟩) NB439_440.out _).trans (((cell_far (p := ⟨gb440, _, none⟩) NB439_440.out _).trans (((cell_far (p := ⟨gb440, _, none⟩) NB439_440.out _).trans (hHeld.2.2.2.2.2.2.2.2.2.2.1)))))))))))), ((cell_far (p := ⟨gb440, _, none⟩) NB439_440.out _).trans (((cell_far (p := ⟨gb440, _, none⟩) NB439_440.out _).trans (((cell_far (p := ⟨gb440, _, none⟩) NB439_440.out _).trans (((cell_far (p := ⟨gb440, _, none⟩) NB439_440.out _).trans (((cell_far (p := ⟨gb440, _, none⟩) NB439_440.out _).trans (((cell_far (p := ⟨gb440, _, none⟩) NB439_440.out _).trans (hHeld.2.2.2.2.2.2.2.2.2.2.2))))))))))))⟩ (fun hHeld => ?_)
 clear hK K
 refine done_ (done_of HT_.out (by kernel_rfl)) ?_
 try go_wp2
 refine bodyPost_ret (results_cell_row rfl _ _ gb440 50 #[.int .u64 t459, .int .u64 t460, .int .u64 t461, .int .u64 t462, .int .i64 t463, .int .i64 t464] (0, 0) _ rfl (by (with_reducible repeat (first | refine blk_drewN ?_ _ | refine blk_drew ?_ | refine blk_alloc ?_ _)); refine blk_put (cs := #[.int .u64 t459, .int .u64 t460, .int .u64 t461, .int .u64 t462, .int .i64 t463, .int .i64 0]) ?_ 5 _ rfl; (with_reducible repeat (first | refine blk_drewN ?_ _ | refine blk_drew ?_ | refine blk_alloc ?_ _)); refine blk_put (cs := #[.int .u64 t459, .int .u64 t460, .int .u64 t461, .int .u64 t462, .int .i64 0, .int .i64 0]) ?_ 4 _ rfl; (with_reducible repeat (first | refine blk_drewN ?_ _ | refine blk_drew ?_ | refine blk_alloc ?_ _)); refine blk_put (cs := #[.int .u64 t459, .int .u64 t460, .int .u64 t461, .int .u64 0, .int .i64 0, .int .i64 0]) ?_ 3 _ rfl; (with_reducible repeat (first | refine blk_drewN ?_ _ | refine blk_drew ?_ | refine blk_alloc ?_ _)); refine blk_put (cs := #[.int .u64 t459, .int .u64 t460, .int .u64 0, .int .u64 0, .int .i64 0, .int .i64 0]) ?_ 2 _ rfl; (with_reducible repeat (first | refine blk_drewN ?_ _ | refine blk_drew ?_ | refine blk_alloc ?_ _)); refine blk_put (cs := #[.int .u64 t459, .int .u64 0, .int .u64 0, .int .u64 0, .int .i64 0, .int .i64 0]) ?_ 1 _ rfl; (with_reducible repeat (first | refine blk_drewN ?_ _ | refine blk_drew ?_ | refine blk_alloc ?_ _)); refine blk_put (cs := #[.int .u64 0, .int .u64 0, .int .u64 0, .int .u64 0, .int .i64 0, .int .i64 0]) ?_ 0 _ rfl; exact bfL BK440.out) Try.underlying50 rfl (by kernel_rfl)) rfl ?_
 exact ⟨by first | rfl | (simp [errW_none, errW_some] <;> rfl) | (simp [*, errW_none, errW_some] <;> rfl), bsL HB.out⟩

/-! ### jacquardref13_Join: function 62 -/
def jacquardref13_Join.f (a0_0 : Int) (a0_1 : Int) (a0_2 : Int) (a0_3 : Int) (a1_0 : Int) (a1_1 : Int) (a1_2 : Int) (a1_3 : Int) : Option (Int × Int × Int × Int) := some (mn a0_0 a1_0, mx a0_1 a1_1, mn a0_2 a1_2, mx a0_3 a1_3)
set_option maxHeartbeats 8000000 in
set_option maxRecDepth 100000 in
theorem jacquardref13_Join.calls (a0_0 : Int) (a0_1 : Int) (a0_2 : Int) (a0_3 : Int) (a1_0 : Int) (a1_1 : Int) (a1_2 : Int) (a1_3 : Int) (r1 : Int) (r2 : Int) (r3 : Int) (r4 : Int) (w : World) (h : jacquardref13_Join.f a0_0 a0_1 a0_2 a0_3 a1_0 a1_1 a1_2 a1_3 = some (r1, r2, r3, r4)) :
  Calls Try.prog 62 #[.agg #[.int .u64 a0_0, .int .u64 a0_1, .int .i64 a0_2, .int .i64 a0_3], .agg #[.int .u64 a1_0, .int .u64 a1_1, .int .i64 a1_2, .int .i64 a1_3]] w fun e w' => e = .returned (.agg #[.int .u64 r1, .int .u64 r2, .int .i64 r3, .int .i64 r4]) ∧ Below w.heap.size w w' := by
 have hu30 := Try.underlying30
 have HB := Aside0.mk (Below.refl w.heap.size w)
 have H : (some (mn a0_0 a1_0, mx a0_1 a1_1, mn a0_2 a1_2, mx a0_3 a1_3)) = some (r1, r2, r3, r4) := h
 clear h
 obtain ⟨ji3, hji3⟩ : ∃ j_ : Int, (mn a0_0 a1_0) = j_ := ⟨_, rfl⟩
 replace H : (some (ji3, mx a0_1 a1_1, mn a0_2 a1_2, mx a0_3 a1_3)) = some (r1, r2, r3, r4) := by first | (rw [hji3] at H; exact H) | (simp only [hji3] at H ⊢; exact H)
 have hji3_ : (if a1_0 < a0_0 then a1_0 else a0_0) = ji3 := hji3
 obtain ⟨ji4, hji4⟩ : ∃ j_ : Int, (mx a0_1 a1_1) = j_ := ⟨_, rfl⟩
 replace H : (some (ji3, ji4, mn a0_2 a1_2, mx a0_3 a1_3)) = some (r1, r2, r3, r4) := by first | (rw [hji4] at H; exact H) | (simp only [hji4] at H ⊢; exact H)
 have hji4_ : (if a0_1 < a1_1 then a1_1 else a0_1) = ji4 := hji4
 obtain ⟨ji5, hji5⟩ : ∃ j_ : Int, (mn a0_2 a1_2) = j_ := ⟨_, rfl⟩
 replace H : (some (ji3, ji4, ji5, mx a0_3 a1_3)) = some (r1, r2, r3, r4) := by first | (rw [hji5] at H; exact H) | (simp only [hji5] at H ⊢; exact H)
 have hji5_ : (if a1_2 < a0_2 then a1_2 else a0_2) = ji5 := hji5
 obtain ⟨ji6, hji6⟩ : ∃ j_ : Int, (mx a0_3 a1_3) = j_ := ⟨_, rfl⟩
 replace H : (some (ji3, ji4, ji5, ji6)) = some (r1, r2, r3, r4) := by first | (rw [hji6] at H; exact H) | (simp only [hji6] at H ⊢; exact H)
 have hji6_ : (if a0_3 < a1_3 then a1_3 else a0_3) = ji6 := hji6
 simp only [Option.some.injEq, Prod.mk.injEq] at H
 obtain ⟨rfl, rfl, rfl, rfl⟩ := H
 go_enter Try.func62, Try.ntmps62
 go_wp2_with (first | ((with_reducible refine gate_dst (N := 2) rfl ?_); refine boxE (N := 2) (cs := #[.int .u64 a0_0, .int .u64 a0_1, .int .i64 a0_2, .int .i64 a0_3]) (t := 30) ?_; intro gb465 hg w7 hbox hb; have BK465 := Aside0.mk (hbox); have GW465 := szB hg HB.out; have GE465 := szB hg HB.out; replace HB := bsB HB.out hb; clear hb hbox hg) | ((with_reducible refine gate_dst (N := 3) rfl ?_); refine boxE (N := 3) (cs := #[.int .u64 a1_0, .int .u64 a1_1, .int .i64 a1_2, .int .i64 a1_3]) (t := 30) ?_; intro gb466 hg w8 hbox hb; have BK466 := Aside0.mk (hbox); have GW466 := szB hg HB.out; have GE466 := szB hg HB.out; have NB465_466 := neL hg BK465.out; have NB466_465 := neG hg BK465.out; replace BK465 := bkB BK465.out hb; replace HB := bsB HB.out hb; clear hb hbox hg) | ((with_reducible refine gate_dst (N := 4) rfl ?_); refine boxE (N := 4) (cs := #[.int .u64 0, .int .u64 0, .int .i64 0, .int .i64 0]) (t := 30) ?_; intro gb467 hg w9 hbox hb; have BK467 := Aside0.mk (hbox); have GW467 := szB hg HB.out; have GE467 := szB hg HB.out; have NB465_467 := neL hg BK465.out; have NB467_465 := neG hg BK465.out; have NB466_467 := neL hg BK466.out; have NB467_466 := neG hg BK466.out; replace BK465 := bkB BK465.out hb; replace BK466 := bkB BK466.out hb; replace HB := bsB HB.out hb; clear hb hbox hg; have hnb10 := NB465_466.out; have hnc10 := NB466_465.out; have hnb11 := NB465_467.out; have hnc11 := NB467_465.out; obtain ⟨hcz12_0, hcz12_1, hcz12_2, hcz12_3, hfz12_0, hfz12_1, hfz12_2, hfz12_3⟩ := own4 BK465.out; have hnb13 := NB466_467.out; have hnc13 := NB467_466.out; obtain ⟨hcz14_0, hcz14_1, hcz14_2, hcz14_3, hfz14_0, hfz14_1, hfz14_2, hfz14_3⟩ := own4 BK466.out; obtain ⟨hcz15_0, hcz15_1, hcz15_2, hcz15_3, hfz15_0, hfz15_1, hfz15_2, hfz15_3⟩ := own4 BK467.out))
 refine bodyPost_ret (results_cell_row rfl _ _ gb467 30 #[.int .u64 ji3, .int .u64 ji4, .int .i64 ji5, .int .i64 ji6] (0, 0) _ rfl (by (with_reducible repeat (first | refine blk_drewN ?_ _ | refine blk_drew ?_ | refine blk_alloc ?_ _)); refine blk_put (cs := #[.int .u64 ji3, .int .u64 ji4, .int .i64 ji5, .int .i64 0]) ?_ 3 _ rfl; (with_reducible repeat (first | refine blk_drewN ?_ _ | refine blk_drew ?_ | refine blk_alloc ?_ _)); refine blk_put (cs := #[.int .u64 ji3, .int .u64 ji4, .int .i64 0, .int .i64 0]) ?_ 2 _ rfl; (with_reducible repeat (first | refine blk_drewN ?_ _ | refine blk_drew ?_ | refine blk_alloc ?_ _)); refine blk_put (cs := #[.int .u64 ji3, .int .u64 0, .int .i64 0, .int .i64 0]) ?_ 1 _ rfl; (with_reducible repeat (first | refine blk_drewN ?_ _ | refine blk_drew ?_ | refine blk_alloc ?_ _)); refine blk_put (cs := #[.int .u64 0, .int .u64 0, .int .i64 0, .int .i64 0]) ?_ 0 _ rfl; exact bfL BK467.out) Try.underlying30 rfl (by kernel_rfl)) rfl ?_
 exact ⟨by first | rfl | (simp [errW_none, errW_some] <;> rfl) | (simp only [← hji3, ← hji4, ← hji5, ← hji6]; first | rfl | (simp [errW_none, errW_some] <;> rfl)) | (simp [*, errW_none, errW_some] <;> rfl), bsL HB.out⟩

/-! ### jacquardref12_Join: function 97 -/
def jacquardref12_Join.f (a0_0 : Int) (a0_1 : Int) (a1_0 : Int) (a1_1 : Int) : Option (Int × Int) := some (Go.bits .and .u64 a0_0 a1_0, Go.bits .and .u64 a0_1 a1_1)
set_option maxHeartbeats 8000000 in
set_option maxRecDepth 100000 in
theorem jacquardref12_Join.calls (a0_0 : Int) (a0_1 : Int) (a1_0 : Int) (a1_1 : Int) (r1 : Int) (r2 : Int) (w : World) (h : jacquardref12_Join.f a0_0 a0_1 a1_0 a1_1 = some (r1, r2)) :
  Calls Try.prog 97 #[.agg #[.int .u64 a0_0, .int .u64 a0_1], .agg #[.int .u64 a1_0, .int .u64 a1_1]] w fun e w' => e = .returned (.agg #[.int .u64 r1, .int .u64 r2]) ∧ Below w.heap.size w w' := by
 have hu110 := Try.underlying110
 have HB := Aside0.mk (Below.refl w.heap.size w)
 have H : (some (Go.bits .and .u64 a0_0 a1_0, Go.bits .and .u64 a0_1 a1_1)) = some (r1, r2) := h
 clear h
 simp only [Option.some.injEq, Prod.mk.injEq] at H
 obtain ⟨rfl, rfl⟩ := H
 go_enter Try.func97, Try.ntmps97
 go_wp2_with (first | ((with_reducible refine gate_dst (N := 2) rfl ?_); refine boxE (N := 2) (cs := #[.int .u64 a0_0, .int .u64 a0_1]) (t := 110) ?_; intro gb468 hg w3 hbox hb; have BK468 := Aside0.mk (hbox); have GW468 := szB hg HB.out; have GE468 := szB hg HB.out; replace HB := bsB HB.out hb; clear hb hbox hg) | ((with_reducible refine gate_dst (N := 3) rfl ?_); refine boxE (N := 3) (cs := #[.int .u64 a1_0, .int .u64 a1_1]) (t := 110) ?_; intro gb469 hg w4 hbox hb; have BK469 := Aside0.mk (hbox); have GW469 := szB hg HB.out; have GE469 := szB hg HB.out; have NB468_469 := neL hg BK468.out; have NB469_468 := neG hg BK468.out; replace BK468 := bkB BK468.out hb; replace HB := bsB HB.out hb; clear hb hbox hg) | ((with_reducible refine gate_dst (N := 4) rfl ?_); refine boxE (N := 4) (cs := #[.int .u64 0, .int .u64 0]) (t := 110) ?_; intro gb470 hg w5 hbox hb; have BK470 := Aside0.mk (hbox); have GW470 := szB hg HB.out; have GE470 := szB hg HB.out; have NB468_470 := neL hg BK468.out; have NB470_468 := neG hg BK468.out; have NB469_470 := neL hg BK469.out; have NB470_469 := neG hg BK469.out; replace BK468 := bkB BK468.out hb; replace BK469 := bkB BK469.out hb; replace HB := bsB HB.out hb; clear hb hbox hg; have hnb6 := NB468_469.out; have hnc6 := NB469_468.out; have hnb7 := NB468_470.out; have hnc7 := NB470_468.out; obtain ⟨hcz8_0, hcz8_1, hfz8_0, hfz8_1⟩ := own2 BK468.out; have hnb9 := NB469_470.out; have hnc9 := NB470_469.out; obtain ⟨hcz10_0, hcz10_1, hfz10_0, hfz10_1⟩ := own2 BK469.out; obtain ⟨hcz11_0, hcz11_1, hfz11_0, hfz11_1⟩ := own2 BK470.out))
 refine bodyPost_ret (results_cell_row rfl _ _ gb470 110 #[.int .u64 (Go.bits .and .u64 a0_0 a1_0), .int .u64 (Go.bits .and .u64 a0_1 a1_1)] (0, 0) _ rfl (by (with_reducible repeat (first | refine blk_drewN ?_ _ | refine blk_drew ?_ | refine blk_alloc ?_ _)); refine blk_put (cs := #[.int .u64 (Go.bits .and .u64 a0_0 a1_0), .int .u64 0]) ?_ 1 _ rfl; (with_reducible repeat (first | refine blk_drewN ?_ _ | refine blk_drew ?_ | refine blk_alloc ?_ _)); refine blk_put (cs := #[.int .u64 0, .int .u64 0]) ?_ 0 _ rfl; exact bfL BK470.out) Try.underlying110 rfl (by kernel_rfl)) rfl ?_
 exact ⟨by first | rfl | (simp [errW_none, errW_some] <;> rfl) | (simp [*, errW_none, errW_some] <;> rfl), bsL HB.out⟩

/-! ### jacquardref14_Join: function 38 -/
def jacquardref14_Join.f (a0_0 : Int) (a0_1 : Int) (a0_2 : Int) (a0_3 : Int) (a0_4 : Int) (a0_5 : Int) (a1_0 : Int) (a1_1 : Int) (a1_2 : Int) (a1_3 : Int) (a1_4 : Int) (a1_5 : Int) : Option (Int × Int × Int × Int × Int × Int) := (jacquardref14_bits.f a0_0 a0_1 a0_2 a0_3 a0_4 a0_5).bind fun bt474 => ((jacquardref14_bits.f a1_0 a1_1 a1_2 a1_3 a1_4 a1_5).bind fun bt476 => ((jacquardref12_Join.f bt474.1 bt474.2 bt476.1 bt476.2).bind fun bt478 => ((jacquardref14_span.f a0_0 a0_1 a0_2 a0_3 a0_4 a0_5).bind fun bt480 => ((jacquardref14_span.f a1_0 a1_1 a1_2 a1_3 a1_4 a1_5).bind fun bt484 => ((jacquardref13_Join.f bt480.1 bt480.2.1 bt480.2.2.1 bt480.2.2.2 bt484.1 bt484.2.1 bt484.2.2.1 bt484.2.2.2).bind fun bt488 => ((jacquardref14_fact.f bt478.1 bt478.2 bt488.1 bt488.2.1 bt488.2.2.1 bt488.2.2.2).bind fun bt492 => (some (bt492.1, bt492.2.1, bt492.2.2.1, bt492.2.2.2.1, bt492.2.2.2.2.1, bt492.2.2.2.2.2))))))))
def jacquardref14_Join.T1 : Bool × List (List Nat × List Nat) := (true, [([], []), ([0], [0]), ([], []), ([2, 1], [2]), ([1, 3, 3], [1, 3]), ([], []), ([5, 4], [5]), ([], []), ([7, 6], [7]), ([6, 8, 8], [6, 8]), ([4, 9, 9], [4, 9]), ([10, 10, 0, 1, 2, 3, 4, 5, 6, 7, 8, 9, 10], [10])])
def jacquardref14_Join.B1 : List Nat := [0, 1, 0, 7, 15, 0, 63, 0, 255, 511, 1023, 2047]
theorem jacquardref14_Join.tab1 : rtab .any (opsOf Try.f38 1) = jacquardref14_Join.T1 := by kernel_rfl
theorem jacquardref14_Join.bits1 : waitsOk jacquardref14_Join.T1.2 jacquardref14_Join.B1 = true := by kernel_rfl
set_option maxHeartbeats 8000000 in
set_option maxRecDepth 100000 in
theorem jacquardref14_Join.calls (a0_0 : Int) (a0_1 : Int) (a0_2 : Int) (a0_3 : Int) (a0_4 : Int) (a0_5 : Int) (a1_0 : Int) (a1_1 : Int) (a1_2 : Int) (a1_3 : Int) (a1_4 : Int) (a1_5 : Int) (r1 : Int) (r2 : Int) (r3 : Int) (r4 : Int) (r5 : Int) (r6 : Int) (w : World) (h : jacquardref14_Join.f a0_0 a0_1 a0_2 a0_3 a0_4 a0_5 a1_0 a1_1 a1_2 a1_3 a1_4 a1_5 = some (r1, r2, r3, r4, r5, r6)) :
  Calls Try.prog 38 #[.agg #[.int .u64 a0_0, .int .u64 a0_1, .int .u64 a0_2, .int .u64 a0_3, .int .i64 a0_4, .int .i64 a0_5], .agg #[.int .u64 a1_0, .int .u64 a1_1, .int .u64 a1_2, .int .u64 a1_3, .int .i64 a1_4, .int .i64 a1_5]] w fun e w' => e = .returned (.agg #[.int .u64 r1, .int .u64 r2, .int .u64 r3, .int .u64 r4, .int .i64 r5, .int .i64 r6]) ∧ Below w.heap.size w w' := by
 have hu50 := Try.underlying50
 have HB := Aside0.mk (Below.refl w.heap.size w)
 have H : ((jacquardref14_bits.f a0_0 a0_1 a0_2 a0_3 a0_4 a0_5).bind fun bt474 => ((jacquardref14_bits.f a1_0 a1_1 a1_2 a1_3 a1_4 a1_5).bind fun bt476 => ((jacquardref12_Join.f bt474.1 bt474.2 bt476.1 bt476.2).bind fun bt478 => ((jacquardref14_span.f a0_0 a0_1 a0_2 a0_3 a0_4 a0_5).bind fun bt480 => ((jacquardref14_span.f a1_0 a1_1 a1_2 a1_3 a1_4 a1_5).bind fun bt484 => ((jacquardref13_Join.f bt480.1 bt480.2.1 bt480.2.2.1 bt480.2.2.2 bt484.1 bt484.2.1 bt484.2.2.1 bt484.2.2.2).bind fun bt488 => ((jacquardref14_fact.f bt478.1 bt478.2 bt488.1 bt488.2.1 bt488.2.2.1 bt488.2.2.2).bind fun bt492 => (some (bt492.1, bt492.2.1, bt492.2.2.1, bt492.2.2.2.1, bt492.2.2.2.2.1, bt492.2.2.2.2.2))))))))) = some (r1, r2, r3, r4, r5, r6) := h
 clear h
 replace H := Option.bind_eq_some_iff.mp H
 obtain ⟨⟨t474, t475⟩, A30, H⟩ := H
 replace H : ((jacquardref14_bits.f a1_0 a1_1 a1_2 a1_3 a1_4 a1_5).bind fun bt476 => ((jacquardref12_Join.f t474 t475 bt476.1 bt476.2).bind fun bt478 => ((jacquardref14_span.f a0_0 a0_1 a0_2 a0_3 a0_4 a0_5).bind fun bt480 => ((jacquardref14_span.f a1_0 a1_1 a1_2 a1_3 a1_4 a1_5).bind fun bt484 => ((jacquardref13_Join.f bt480.1 bt480.2.1 bt480.2.2.1 bt480.2.2.2 bt484.1 bt484.2.1 bt484.2.2.1 bt484.2.2.2).bind fun bt488 => ((jacquardref14_fact.f bt478.1 bt478.2 bt488.1 bt488.2.1 bt488.2.2.1 bt488.2.2.2).bind fun bt492 => (some (bt492.1, bt492.2.1, bt492.2.2.1, bt492.2.2.2.1, bt492.2.2.2.2.1, bt492.2.2.2.2.2)))))))) = some (r1, r2, r3, r4, r5, r6) := H
 have A3 := Aside0.mk A30
 clear A30
 replace H := Option.bind_eq_some_iff.mp H
 obtain ⟨⟨t476, t477⟩, A40, H⟩ := H
 replace H : ((jacquardref12_Join.f t474 t475 t476 t477).bind fun bt478 => ((jacquardref14_span.f a0_0 a0_1 a0_2 a0_3 a0_4 a0_5).bind fun bt480 => ((jacquardref14_span.f a1_0 a1_1 a1_2 a1_3 a1_4 a1_5).bind fun bt484 => ((jacquardref13_Join.f bt480.1 bt480.2.1 bt480.2.2.1 bt480.2.2.2 bt484.1 bt484.2.1 bt484.2.2.1 bt484.2.2.2).bind fun bt488 => ((jacquardref14_fact.f bt478.1 bt478.2 bt488.1 bt488.2.1 bt488.2.2.1 bt488.2.2.2).bind fun bt492 => (some (bt492.1, bt492.2.1, bt492.2.2.1, bt492.2.2.2.1, bt492.2.2.2.2.1, bt492.2.2.2.2.2))))))) = some (r1, r2, r3, r4, r5, r6) := H
 have A4 := Aside0.mk A40
 clear A40
 replace H := Option.bind_eq_some_iff.mp H
 obtain ⟨⟨t478, t479⟩, A50, H⟩ := H
 replace H : ((jacquardref14_span.f a0_0 a0_1 a0_2 a0_3 a0_4 a0_5).bind fun bt480 => ((jacquardref14_span.f a1_0 a1_1 a1_2 a1_3 a1_4 a1_5).bind fun bt484 => ((jacquardref13_Join.f bt480.1 bt480.2.1 bt480.2.2.1 bt480.2.2.2 bt484.1 bt484.2.1 bt484.2.2.1 bt484.2.2.2).bind fun bt488 => ((jacquardref14_fact.f t478 t479 bt488.1 bt488.2.1 bt488.2.2.1 bt488.2.2.2).bind fun bt492 => (some (bt492.1, bt492.2.1, bt492.2.2.1, bt492.2.2.2.1, bt492.2.2.2.2.1, bt492.2.2.2.2.2)))))) = some (r1, r2, r3, r4, r5, r6) := H
 have A5 := Aside0.mk A50
 clear A50
 replace H := Option.bind_eq_some_iff.mp H
 obtain ⟨⟨t480, t481, t482, t483⟩, A60, H⟩ := H
 replace H : ((jacquardref14_span.f a1_0 a1_1 a1_2 a1_3 a1_4 a1_5).bind fun bt484 => ((jacquardref13_Join.f t480 t481 t482 t483 bt484.1 bt484.2.1 bt484.2.2.1 bt484.2.2.2).bind fun bt488 => ((jacquardref14_fact.f t478 t479 bt488.1 bt488.2.1 bt488.2.2.1 bt488.2.2.2).bind fun bt492 => (some (bt492.1, bt492.2.1, bt492.2.2.1, bt492.2.2.2.1, bt492.2.2.2.2.1, bt492.2.2.2.2.2))))) = some (r1, r2, r3, r4, r5, r6) := H
 have A6 := Aside0.mk A60
 clear A60
 replace H := Option.bind_eq_some_iff.mp H
 obtain ⟨⟨t484, t485, t486, t487⟩, A70, H⟩ := H
 replace H : ((jacquardref13_Join.f t480 t481 t482 t483 t484 t485 t486 t487).bind fun bt488 => ((jacquardref14_fact.f t478 t479 bt488.1 bt488.2.1 bt488.2.2.1 bt488.2.2.2).bind fun bt492 => (some (bt492.1, bt492.2.1, bt492.2.2.1, bt492.2.2.2.1, bt492.2.2.2.2.1, bt492.2.2.2.2.2)))) = some (r1, r2, r3, r4, r5, r6) := H
 have A7 := Aside0.mk A70
 clear A70
 replace H := Option.bind_eq_some_iff.mp H
 obtain ⟨⟨t488, t489, t490, t491⟩, A80, H⟩ := H
 replace H : ((jacquardref14_fact.f t478 t479 t488 t489 t490 t491).bind fun bt492 => (some (bt492.1, bt492.2.1, bt492.2.2.1, bt492.2.2.2.1, bt492.2.2.2.2.1, bt492.2.2.2.2.2))) = some (r1, r2, r3, r4, r5, r6) := H
 have A8 := Aside0.mk A80
 clear A80
 replace H := Option.bind_eq_some_iff.mp H
 obtain ⟨⟨t492, t493, t494, t495, t496, t497⟩, A90, H⟩ := H
 replace H : (some (t492, t493, t494, t495, t496, t497)) = some (r1, r2, r3, r4, r5, r6) := H
 have A9 := Aside0.mk A90
 clear A90
 simp only [Option.some.injEq, Prod.mk.injEq] at H
 obtain ⟨rfl, rfl, rfl, rfl, rfl, rfl⟩ := H
 go_enter Try.func38, Try.ntmps38
 try go_wp2_with (first | ((with_reducible refine gate_dst (N := 2) rfl ?_); refine boxE (N := 2) (cs := #[.int .u64 a0_0, .int .u64 a0_1, .int .u64 a0_2, .int .u64 a0_3, .int .i64 a0_4, .int .i64 a0_5]) (t := 50) ?_; intro gb471 hg w10 hbox hb; have BK471 := Aside0.mk (hbox); have GW471 := szB hg HB.out; have GE471 := szB hg HB.out; replace HB := bsB HB.out hb; clear hb hbox hg) | ((with_reducible refine gate_dst (N := 3) rfl ?_); refine boxE (N := 3) (cs := #[.int .u64 a1_0, .int .u64 a1_1, .int .u64 a1_2, .int .u64 a1_3, .int .i64 a1_4, .int .i64 a1_5]) (t := 50) ?_; intro gb472 hg w11 hbox hb; have BK472 := Aside0.mk (hbox); have GW472 := szB hg HB.out; have GE472 := szB hg HB.out; have NB471_472 := neL hg BK471.out; have NB472_471 := neG hg BK471.out; replace BK471 := bkB BK471.out hb; replace HB := bsB HB.out hb; clear hb hbox hg) | ((with_reducible refine gate_dst (N := 4) rfl ?_); refine boxE (N := 4) (cs := #[.int .u64 0, .int .u64 0, .int .u64 0, .int .u64 0, .int .i64 0, .int .i64 0]) (t := 50) ?_; intro gb473 hg w12 hbox hb; have BK473 := Aside0.mk (hbox); have GW473 := szB hg HB.out; have GE473 := szB hg HB.out; have NB471_473 := neL hg BK471.out; have NB473_471 := neG hg BK471.out; have NB472_473 := neL hg BK472.out; have NB473_472 := neG hg BK472.out; replace BK471 := bkB BK471.out hb; replace BK472 := bkB BK472.out hb; replace HB := bsB HB.out hb; clear hb hbox hg))
 replace BK471 := Aside0.mk (blk_drew BK471.out)
 replace BK472 := Aside0.mk (blk_drew BK472.out)
 replace BK473 := Aside0.mk (blk_drew BK473.out)
 replace HB := Aside0.mk (below_drew1 HB.out)
 refine start_ (n := 12) (S := fun w' => w'.cell? ⟨gb471, 0, none⟩ = some (.int .u64 a0_0) ∧ w'.cell? ⟨gb471, 1, none⟩ = some (.int .u64 a0_1) ∧ w'.cell? ⟨gb471, 2, none⟩ = some (.int .u64 a0_2) ∧ w'.cell? ⟨gb471, 3, none⟩ = some (.int .u64 a0_3) ∧ w'.cell? ⟨gb471, 4, none⟩ = some (.int .i64 a0_4) ∧ w'.cell? ⟨gb471, 5, none⟩ = some (.int .i64 a0_5) ∧ w'.cell? ⟨gb472, 0, none⟩ = some (.int .u64 a1_0) ∧ w'.cell? ⟨gb472, 1, none⟩ = some (.int .u64 a1_1) ∧ w'.cell? ⟨gb472, 2, none⟩ = some (.int .u64 a1_2) ∧ w'.cell? ⟨gb472, 3, none⟩ = some (.int .u64 a1_3) ∧ w'.cell? ⟨gb472, 4, none⟩ = some (.int .i64 a1_4) ∧ w'.cell? ⟨gb472, 5, none⟩ = some (.int .i64 a1_5)) (ds := []) (bA 12 0) (by kernel_rfl) rfl rfl (by repeat' (first | apply And.intro | exact (blk_cell BK471.out _).trans rfl | exact (blk_cell BK472.out _).trans rfl)) (fun hHeld => ?_); refine with_tabW jacquardref14_Join.tab1 jacquardref14_Join.bits1 (fun HT_ HW_ => ?_)
 generalize w12.drew = w13 at BK471 BK472 BK473 HB hHeld ⊢
 refine takeA HT_ HW_ hHeld (i := 0) (N := some 5) (bA 12 1) ?_ (hy := by rintro w' ⟨s0, s1, s2, s3, s4, s5, s6, s7, s8, s9, s10, s11⟩; go_simp; with_reducible rfl)
 refine takeA HT_ HW_ hHeld (i := 2) (N := some 7) (bA 12 5) ?_ (hy := by rintro w' ⟨s0, s1, s2, s3, s4, s5, s6, s7, s8, s9, s10, s11⟩; go_simp; with_reducible rfl)
 refine takeA HT_ HW_ hHeld (i := 5) (N := some 10) (bA 12 37) ?_ (hy := by rintro w' ⟨s0, s1, s2, s3, s4, s5, s6, s7, s8, s9, s10, s11⟩; go_simp; with_reducible rfl)
 refine takeA HT_ HW_ hHeld (i := 7) (N := some 12) (bA 12 165) ?_ (hy := by rintro w' ⟨s0, s1, s2, s3, s4, s5, s6, s7, s8, s9, s10, s11⟩; go_simp; with_reducible rfl)
 refine one_ (i := 1) (N := some 6) (bA 12 167) rfl rfl (one_of HT_.out (by kernel_rfl)) (by decide) (fun K hK => ?_)
 refine gO Try.func80 #[.agg #[.int .u64 a0_0, .int .u64 a0_1, .int .u64 a0_2, .int .u64 a0_3, .int .i64 a0_4, .int .i64 a0_5]] ?_
 with_reducible refine (jacquardref14_bits.calls a0_0 a0_1 a0_2 a0_3 a0_4 a0_5 t474 t475 _ A3.out).mono ?_
 rintro e w14 ⟨rfl, hb⟩
 refine ⟨_, rfl, ?_⟩
 replace BK471 := bkB BK471.out hb
 replace BK472 := bkB BK472.out hb
 replace BK473 := bkB BK473.out hb
 replace HB := bsB HB.out hb
 (try clear hb)
 refine hK.out _ _ (by repeat' (first | apply And.intro | exact (blk_cell BK471.out _).trans rfl | exact (blk_cell BK472.out _).trans rfl)) (fun hHeld => ?_)
 clear hK K
 refine normA (some 6) ?_
 refine one_ (i := 3) (N := some 8) (bA 12 175) rfl rfl (one_of HT_.out (by kernel_rfl)) (by decide) (fun K hK => ?_)
 refine gO Try.func80 #[.agg #[.int .u64 a1_0, .int .u64 a1_1, .int .u64 a1_2, .int .u64 a1_3, .int .i64 a1_4, .int .i64 a1_5]] ?_
 with_reducible refine (jacquardref14_bits.calls a1_0 a1_1 a1_2 a1_3 a1_4 a1_5 t476 t477 _ A4.out).mono ?_
 rintro e w15 ⟨rfl, hb⟩
 refine ⟨_, rfl, ?_⟩
 replace BK471 := bkB BK471.out hb
 replace BK472 := bkB BK472.out hb
 replace BK473 := bkB BK473.out hb
 replace HB := bsB HB.out hb
 (try clear hb)
 refine hK.out _ _ (by repeat' (first | apply And.intro | exact (blk_cell BK471.out _).trans rfl | exact (blk_cell BK472.out _).trans rfl)) (fun hHeld => ?_)
 clear hK K
 refine normA (some 8) ?_
 refine one_ (i := 4) (N := some 9) (bA 12 191) rfl rfl (one_of HT_.out (by kernel_rfl)) (by decide) (fun K hK => ?_)
 refine gO Try.func97 #[.agg #[.int .u64 t474, .int .u64 t475], .agg #[.int .u64 t476, .int .u64 t477]] ?_
 with_reducible refine (jacquardref12_Join.calls t474 t475 t476 t477 t478 t479 _ A5.out).mono ?_
 rintro e w16 ⟨rfl, hb⟩
 refine ⟨_, rfl, ?_⟩
 replace BK471 := bkB BK471.out hb
 replace BK472 := bkB BK472.out hb
 replace BK473 := bkB BK473.out hb
 replace HB := bsB HB.out hb
 (try clear hb)
 refine hK.out _ _ (by repeat' (first | apply And.intro | exact (blk_cell BK471.out _).trans rfl | exact (blk_cell BK472.out _).trans rfl)) (fun hHeld => ?_)
 clear hK K
 refine normA (some 9) ?_
 refine one_ (i := 6) (N := some 11) (bA 12 255) rfl rfl (one_of HT_.out (by kernel_rfl)) (by decide) (fun K hK => ?_)
 refine gO Try.func84 #[.agg #[.int .u64 a0_0, .int .u64 a0_1, .int .u64 a0_2, .int .u64 a0_3, .int .i64 a0_4, .int .i64 a0_5]] ?_
 with_reducible refine (jacquardref14_span.calls a0_0 a0_1 a0_2 a0_3 a0_4 a0_5 t480 t481 t482 t483 _ A6.out).mono ?_
 rintro e w17 ⟨rfl, hb⟩
 refine ⟨_, rfl, ?_⟩
 replace BK471 := bkB BK471.out hb
 replace BK472 := bkB BK472.out hb
 replace BK473 := bkB BK473.out hb
 replace HB := bsB HB.out hb
 (try clear hb)
 refine hK.out _ _ (by repeat' (first | apply And.intro | exact (blk_cell BK471.out _).trans rfl | exact (blk_cell BK472.out _).trans rfl)) (fun hHeld => ?_)
 clear hK K
 refine normA (some 11) ?_
 refine one_ (i := 8) (N := some 13) (bA 12 511) rfl rfl (one_of HT_.out (by kernel_rfl)) (by decide) (fun K hK => ?_)
 refine gO Try.func84 #[.agg #[.int .u64 a1_0, .int .u64 a1_1, .int .u64 a1_2, .int .u64 a1_3, .int .i64 a1_4, .int .i64 a1_5]] ?_
 with_reducible refine (jacquardref14_span.calls a1_0 a1_1 a1_2 a1_3 a1_4 a1_5 t484 t485 t486 t487 _ A7.out).mono ?_
 rintro e w18 ⟨rfl, hb⟩
 refine ⟨_, rfl, ?_⟩
 replace BK471 := bkB BK471.out hb
 replace BK472 := bkB BK472.out hb
 replace BK473 := bkB BK473.out hb
 replace HB := bsB HB.out hb
 (try clear hb)
 refine hK.out _ _ (by repeat' (first | apply And.intro | exact (blk_cell BK471.out _).trans rfl | exact (blk_cell BK472.out _).trans rfl)) (fun hHeld => ?_)
 clear hK K
 refine normA (some 13) ?_
 refine one_ (i := 9) (N := some 14) (bA 12 1023) rfl rfl (one_of HT_.out (by kernel_rfl)) (by decide) (fun K hK => ?_)
 refine gO Try.func62 #[.agg #[.int .u64 t480, .int .u64 t481, .int .i64 t482, .int .i64 t483], .agg #[.int .u64 t484, .int .u64 t485, .int .i64 t486, .int .i64 t487]] ?_
 with_reducible refine (jacquardref13_Join.calls t480 t481 t482 t483 t484 t485 t486 t487 t488 t489 t490 t491 _ A8.out).mono ?_
 rintro e w19 ⟨rfl, hb⟩
 refine ⟨_, rfl, ?_⟩
 replace BK471 := bkB BK471.out hb
 replace BK472 := bkB BK472.out hb
 replace BK473 := bkB BK473.out hb
 replace HB := bsB HB.out hb
 (try clear hb)
 refine hK.out _ _ (by repeat' (first | apply And.intro | exact (blk_cell BK471.out _).trans rfl | exact (blk_cell BK472.out _).trans rfl)) (fun hHeld => ?_)
 clear hK K
 refine normA (some 14) ?_
 refine one_ (i := 10) (N := some 15) (bA 12 2047) rfl rfl (one_of HT_.out (by kernel_rfl)) (by decide) (fun K hK => ?_)
 refine gO Try.func82 #[.agg #[.int .u64 t478, .int .u64 t479], .agg #[.int .u64 t488, .int .u64 t489, .int .i64 t490, .int .i64 t491]] ?_
 with_reducible refine (jacquardref14_fact.calls t478 t479 t488 t489 t490 t491 t492 t493 t494 t495 t496 t497 _ A9.out).mono ?_
 rintro e w20 ⟨rfl, hb⟩
 refine ⟨_, rfl, ?_⟩
 replace BK471 := bkB BK471.out hb
 replace BK472 := bkB BK472.out hb
 replace BK473 := bkB BK473.out hb
 replace HB := bsB HB.out hb
 (try clear hb)
 refine hK.out _ _ (by repeat' (first | apply And.intro | exact (blk_cell BK471.out _).trans rfl | exact (blk_cell BK472.out _).trans rfl)) (fun hHeld => ?_)
 clear hK K
 refine normA (some 15) ?_
 refine one_ (i := 11) (N := none) (bA 12 4095) rfl rfl (one_of HT_.out (by kernel_rfl)) (by decide) (fun K hK => ?_)
 have hs21 : w20.cell? ⟨gb473, 0, none⟩ = some (.int .u64 0) := (blk_cell BK473.out 0).trans rfl
 have hfs21 := blk_frozen BK473.out 0
 have hns21_0 := NB471_473.out
 have hns21_1 := NB472_473.out
 have hms21_0 := NB473_471.out
 have hms21_1 := NB473_472.out
 have hs22 : w20.cell? ⟨gb473, 1, none⟩ = some (.int .u64 0) := (blk_cell BK473.out 1).trans rfl
 have hfs22 := blk_frozen BK473.out 1
 have hns22_0 := NB471_473.out
 have hns22_1 := NB472_473.out
 have hms22_0 := NB473_471.out
 have hms22_1 := NB473_472.out
 have hs23 : w20.cell? ⟨gb473, 2, none⟩ = some (.int .u64 0) := (blk_cell BK473.out 2).trans rfl
 have hfs23 := blk_frozen BK473.out 2
 have hns23_0 := NB471_473.out
 have hns23_1 := NB472_473.out
 have hms23_0 := NB473_471.out
 have hms23_1 := NB473_472.out
 have hs24 : w20.cell? ⟨gb473, 3, none⟩ = some (.int .u64 0) := (blk_cell BK473.out 3).trans rfl
 have hfs24 := blk_frozen BK473.out 3
 have hns24_0 := NB471_473.out
 have hns24_1 := NB472_473.out
 have hms24_0 := NB473_471.out
 have hms24_1 := NB473_472.out
 have hs25 : w20.cell? ⟨gb473, 4, none⟩ = some (.int .i64 0) := (blk_cell BK473.out 4).trans rfl
 have hfs25 := blk_frozen BK473.out 4
 have hns25_0 := NB471_473.out
 have hns25_1 := NB472_473.out
 have hms25_0 := NB473_471.out
 have hms25_1 := NB473_472.out
 have hs26 : w20.cell? ⟨gb473, 5, none⟩ = some (.int .i64 0) := (blk_cell BK473.out 5).trans rfl
 have hfs26 := blk_frozen BK473.out 5
 have hns26_0 := NB471_473.out
 have hns26_1 := NB472_473.out
 have hms26_0 := NB473_471.out
 have hms26_1 := NB473_472.out
 refine skip_ (w1 := ?_) (by rfl) rfl ?_ ?_
 rotate_left
 ·
  go_simp
  rfl
 refine hK.out _ _ ⟨((cell_far (p := ⟨gb473, _, none⟩) NB471_473.out _).trans (((cell_far (p := ⟨gb473, _, none⟩) NB471_473.out _).trans (((cell_far (p := ⟨gb473, _, none⟩) NB471_473.out _).trans (((cell_far (p := ⟨gb473, _, none⟩) NB471_473.out _).trans (((cell_far (p := ⟨gb473, _, none⟩) NB471_473.out _).trans (((cell_far (p := ⟨gb473, _, none⟩) NB471_473.out _).trans (hHeld.1)))))))))))), ((cell_far (p := ⟨gb473, _, none⟩) NB471_473.out _).trans (((cell_far (p := ⟨gb473, _, none⟩) NB471_473.out _).trans (((cell_far (p := ⟨gb473, _, none⟩) NB471_473.out _).trans (((cell_far (p := ⟨gb473, _, none⟩) NB471_473.out _).trans (((cell_far (p := ⟨gb473, _, none⟩) NB471_473.out _).trans (((cell_far (p := ⟨gb473, _, none⟩) NB471_473.out _).trans (hHeld.2.1)))))))))))), ((cell_far (p := ⟨gb473, _, none⟩) NB471_473.out _).trans (((cell_far (p := ⟨gb473, _, none⟩) NB471_473.out _).trans (((cell_far (p := ⟨gb473, _, none⟩) NB471_473.out _).trans (((cell_far (p := ⟨gb473, _, none⟩) NB471_473.out _).trans (((cell_far (p := ⟨gb473, _, none⟩) NB471_473.out _).trans (((cell_far (p := ⟨gb473, _, none⟩) NB471_473.out _).trans (hHeld.2.2.1)))))))))))), ((cell_far (p := ⟨gb473, _, none⟩) NB471_473.out _).trans (((cell_far (p := ⟨gb473, _, none⟩) NB471_473.out _).trans (((cell_far (p := ⟨gb473, _, none⟩) NB471_473.out _).trans (((cell_far (p := ⟨gb473, _, none⟩) NB471_473.out _).trans (((cell_far (p := ⟨gb473, _, none⟩) NB471_473.out _).trans (((cell_far (p := ⟨gb473, _, none⟩) NB471_473.out _).trans (hHeld.2.2.2.1)))))))))))), ((cell_far (p := ⟨gb473, _, none⟩) NB471_473.out _).trans (((cell_far (p := ⟨gb473, _, none⟩) NB471_473.out _).trans (((cell_far (p := ⟨gb473, _, none⟩) NB471_473.out _).trans (((cell_far (p := ⟨gb473, _, none⟩) NB471_473.out _).trans (((cell_far (p := ⟨gb473, _, none⟩) NB471_473.out _).trans (((cell_far (p := ⟨gb473, _, none⟩) NB471_473.out _).trans (hHeld.2.2.2.2.1)))))))))))), ((cell_far (p := ⟨gb473, _, none⟩) NB471_473.out _).trans (((cell_far (p := ⟨gb473, _, none⟩) NB471_473.out _).trans (((cell_far (p := ⟨gb473, _, none⟩) NB471_473.out _).trans (((cell_far (p := ⟨gb473, _, none⟩) NB471_473.out _).trans (((cell_far (p := ⟨gb473, _, none⟩) NB471_473.out _).trans (((cell_far (p := ⟨gb473, _, none⟩) NB471_473.out _).trans (hHeld.2.2.2.2.2.1)))))))))))), ((cell_far (p := ⟨gb473, _, none⟩) NB472_473.out _).trans (((cell_far (p := ⟨gb473, _, none⟩) NB472_473.out _).trans (((cell_far (p := ⟨gb473, _, none⟩) NB472_473.out _).trans (((cell_far (p := ⟨gb473, _, none⟩) NB472_473.out _).trans (((cell_far (p := ⟨gb473, _, none⟩) NB472_473.out _).trans (((cell_far (p := ⟨gb473, _, none⟩) NB472_473.out _).trans (hHeld.2.2.2.2.2.2.1)))))))))))), ((cell_far (p := ⟨gb473, _, none⟩) NB472_473.out _).trans (((cell_far (p := ⟨gb473, _, none⟩) NB472_473.out _).trans (((cell_far (p := ⟨gb473, _, none⟩) NB472_473.out _).trans (((cell_far (p := ⟨gb473, _, none⟩) NB472_473.out _).trans (((cell_far (p := ⟨gb473, _, none⟩) NB472_473.out _).trans (((cell_far (p := ⟨gb473, _, none⟩) NB472_473.out _).trans (hHeld.2.2.2.2.2.2.2.1)))))))))))), ((cell_far (p := ⟨gb473, _, none⟩) NB472_473.out _).trans (((cell_far (p := ⟨gb473, _, none⟩) NB472_473.out _).trans (((cell_far (p := ⟨gb473, _, none⟩) NB472_473.out _).trans (((cell_far (p := ⟨gb473, _, none⟩) NB472_473.out _).trans (((cell_far (p := ⟨gb473, _, none⟩) NB472_473.out _).trans (((cell_far (p := ⟨gb473, _, none⟩) NB472_473.out _).trans (hHeld.2.2.2.2.2.2.2.2.1)))))))))))), ((cell_far (p := ⟨gb473, _, none⟩) NB472_473.out _).trans (((cell_far (p := ⟨gb473, _, none⟩) NB472_473.out _).trans (((cell_far (p := ⟨gb473, _, none⟩) NB472_473.out _).trans (((cell_far (p := ⟨gb473, _, none⟩) NB472_473.out _).trans (((cell_far (p := ⟨gb473, _, none⟩) NB472_473.out _).trans (((cell_far (p := ⟨gb473, _, none⟩) NB472_473.out _).trans (hHeld.2.2.2.2.2.2.2.2.2.1)))))))))))), ((cell_far (p := ⟨gb473, _, none⟩) NB472_473.out _).trans (((cell_far (p := ⟨gb473, _, none⟩) NB472_473.out _).trans (((cell_far (p := ⟨gb473, _, none⟩) NB472_473.out _).trans (((cell_far (p := ⟨gb473, _, none⟩) NB472_473.out _).trans (((cell_far (p := ⟨gb473, _, none⟩) NB472_473.out _).trans (((cell_far (p := ⟨gb473, _, none⟩) NB472_473.out _).trans (hHeld.2.2.2.2.2.2.2.2.2.2.1)))))))))))), ((cell_far (p := ⟨gb473, _, none⟩) NB472_473.out _).trans (((cell_far (p := ⟨gb473, _, none⟩) NB472_473.out _).trans (((cell_far (p := ⟨gb473, _, none⟩) NB472_473.out _).trans (((cell_far (p := ⟨gb473, _, none⟩) NB472_473.out _).trans (((cell_far (p := ⟨gb473, _, none⟩) NB472_473.out _).trans (((cell_far (p := ⟨gb473, _, none⟩) NB472_473.out _).trans (hHeld.2.2.2.2.2.2.2.2.2.2.2))))))))))))⟩ (fun hHeld => ?_)
 clear hK K
 refine done_ (done_of HT_.out (by kernel_rfl)) ?_
 try go_wp2
 refine bodyPost_ret (results_cell_row rfl _ _ gb473 50 #[.int .u64 t492, .int .u64 t493, .int .u64 t494, .int .u64 t495, .int .i64 t496, .int .i64 t497] (0, 0) _ rfl (by (with_reducible repeat (first | refine blk_drewN ?_ _ | refine blk_drew ?_ | refine blk_alloc ?_ _)); refine blk_put (cs := #[.int .u64 t492, .int .u64 t493, .int .u64 t494, .int .u64 t495, .int .i64 t496, .int .i64 0]) ?_ 5 _ rfl; (with_reducible repeat (first | refine blk_drewN ?_ _ | refine blk_drew ?_ | refine blk_alloc ?_ _)); refine blk_put (cs := #[.int .u64 t492, .int .u64 t493, .int .u64 t494, .int .u64 t495, .int .i64 0, .int .i64 0]) ?_ 4 _ rfl; (with_reducible repeat (first | refine blk_drewN ?_ _ | refine blk_drew ?_ | refine blk_alloc ?_ _)); refine blk_put (cs := #[.int .u64 t492, .int .u64 t493, .int .u64 t494, .int .u64 0, .int .i64 0, .int .i64 0]) ?_ 3 _ rfl; (with_reducible repeat (first | refine blk_drewN ?_ _ | refine blk_drew ?_ | refine blk_alloc ?_ _)); refine blk_put (cs := #[.int .u64 t492, .int .u64 t493, .int .u64 0, .int .u64 0, .int .i64 0, .int .i64 0]) ?_ 2 _ rfl; (with_reducible repeat (first | refine blk_drewN ?_ _ | refine blk_drew ?_ | refine blk_alloc ?_ _)); refine blk_put (cs := #[.int .u64 t492, .int .u64 0, .int .u64 0, .int .u64 0, .int .i64 0, .int .i64 0]) ?_ 1 _ rfl; (with_reducible repeat (first | refine blk_drewN ?_ _ | refine blk_drew ?_ | refine blk_alloc ?_ _)); refine blk_put (cs := #[.int .u64 0, .int .u64 0, .int .u64 0, .int .u64 0, .int .i64 0, .int .i64 0]) ?_ 0 _ rfl; exact bfL BK473.out) Try.underlying50 rfl (by kernel_rfl)) rfl ?_
 exact ⟨by first | rfl | (simp [errW_none, errW_some] <;> rfl) | (simp [*, errW_none, errW_some] <;> rfl), bsL HB.out⟩

/-! ### knownbits_Meet: function 98 -/
def knownbits_Meet.f (a0_0 : Int) (a0_1 : Int) (a1_0 : Int) (a1_1 : Int) : Option (Int × Int × Bool) := if (Go.bits .and .u64 (Go.bits .or .u64 a0_0 a1_0) (Go.bits .or .u64 a0_1 a1_1)) = 0 then (some (Go.bits .or .u64 a0_0 a1_0, Go.bits .or .u64 a0_1 a1_1, true)) else (some (0, 0, false))
set_option maxHeartbeats 8000000 in
set_option maxRecDepth 100000 in
theorem knownbits_Meet.calls (a0_0 : Int) (a0_1 : Int) (a1_0 : Int) (a1_1 : Int) (r1 : Int) (r2 : Int) (r3 : Bool) (w : World) (h : knownbits_Meet.f a0_0 a0_1 a1_0 a1_1 = some (r1, r2, r3)) :
  Calls Try.prog 98 #[.agg #[.int .u64 a0_0, .int .u64 a0_1], .agg #[.int .u64 a1_0, .int .u64 a1_1]] w fun e w' => e = .returned (.tuple #[.agg #[.int .u64 r1, .int .u64 r2], .bool r3]) ∧ Below w.heap.size w w' := by
 have hu110 := Try.underlying110
 have HB := Aside0.mk (Below.refl w.heap.size w)
 have H : (if (Go.bits .and .u64 (Go.bits .or .u64 a0_0 a1_0) (Go.bits .or .u64 a0_1 a1_1)) = 0 then (some (Go.bits .or .u64 a0_0 a1_0, Go.bits .or .u64 a0_1 a1_1, true)) else (some (0, 0, false))) = some (r1, r2, r3) := h
 clear h
 by_cases c3 : (Go.bits .and .u64 (Go.bits .or .u64 a0_0 a1_0) (Go.bits .or .u64 a0_1 a1_1)) = 0
 ·
  rw [if_pos c3] at H
  have c3b0 : ((Go.bits .and .u64 (Go.bits .or .u64 a0_0 a1_0) (Go.bits .or .u64 a0_1 a1_1)) == 0) = true := beq_iff_eq.mpr c3
  have c3b1 : ((Go.bits .and .u64 (Go.bits .or .u64 a0_0 a1_0) (Go.bits .or .u64 a0_1 a1_1)) != 0) = false := bne_eq_false_iff_eq.mpr c3
  clear c3
  simp only [Option.some.injEq, Prod.mk.injEq] at H
  obtain ⟨rfl, rfl, rfl⟩ := H
  go_enter Try.func98, Try.ntmps98
  go_wp2_with (first | ((with_reducible refine gate_dst (N := 2) rfl ?_); refine boxE (N := 2) (cs := #[.int .u64 a0_0, .int .u64 a0_1]) (t := 110) ?_; intro gb498 hg w4 hbox hb; have BK498 := Aside0.mk (hbox); have GW498 := szB hg HB.out; have GE498 := szB hg HB.out; replace HB := bsB HB.out hb; clear hb hbox hg) | ((with_reducible refine gate_dst (N := 3) rfl ?_); refine boxE (N := 3) (cs := #[.int .u64 a1_0, .int .u64 a1_1]) (t := 110) ?_; intro gb499 hg w5 hbox hb; have BK499 := Aside0.mk (hbox); have GW499 := szB hg HB.out; have GE499 := szB hg HB.out; have NB498_499 := neL hg BK498.out; have NB499_498 := neG hg BK498.out; replace BK498 := bkB BK498.out hb; replace HB := bsB HB.out hb; clear hb hbox hg) | ((with_reducible refine gate_dst (N := 4) rfl ?_); refine boxE (N := 4) (cs := #[.int .u64 0, .int .u64 0]) (t := 110) ?_; intro gb500 hg w6 hbox hb; have BK500 := Aside0.mk (hbox); have GW500 := szB hg HB.out; have GE500 := szB hg HB.out; have NB498_500 := neL hg BK498.out; have NB500_498 := neG hg BK498.out; have NB499_500 := neL hg BK499.out; have NB500_499 := neG hg BK499.out; replace BK498 := bkB BK498.out hb; replace BK499 := bkB BK499.out hb; replace HB := bsB HB.out hb; clear hb hbox hg; have hnb7 := NB498_499.out; have hnc7 := NB499_498.out; have hnb8 := NB498_500.out; have hnc8 := NB500_498.out; obtain ⟨hcz9_0, hcz9_1, hfz9_0, hfz9_1⟩ := own2 BK498.out; have hnb10 := NB499_500.out; have hnc10 := NB500_499.out; obtain ⟨hcz11_0, hcz11_1, hfz11_0, hfz11_1⟩ := own2 BK499.out) | ((with_reducible refine gate_dst (N := 6) rfl ?_); refine boxE (N := 6) (cs := #[.int .u64 0, .int .u64 0]) (t := 110) ?_; intro gb501 hg w12 hbox hb; have BK501 := Aside0.mk (hbox); have GW501 := szB hg HB.out; have GE501 := szB hg HB.out; have NB498_501 := neL hg BK498.out; have NB501_498 := neG hg BK498.out; have NB499_501 := neL hg BK499.out; have NB501_499 := neG hg BK499.out; have NB500_501 := neL hg BK500.out; have NB501_500 := neG hg BK500.out; replace BK498 := bkB BK498.out hb; replace BK499 := bkB BK499.out hb; replace BK500 := bkB BK500.out hb; replace HB := bsB HB.out hb; clear hb hbox hg; have hnb13 := NB501_498.out; have hnc13 := NB498_501.out; have hnb14 := NB501_499.out; have hnc14 := NB499_501.out; have hnb15 := NB501_500.out; have hnc15 := NB500_501.out; obtain ⟨hcz16_0, hcz16_1, hfz16_0, hfz16_1⟩ := own2 BK501.out; obtain ⟨hcz17_0, hcz17_1, hfz17_0, hfz17_1⟩ := own2 BK500.out))
  refine bodyPost_ret (results_ct rfl _ _ gb500 110 #[.int .u64 (Go.bits .or .u64 a0_0 a1_0), .int .u64 (Go.bits .or .u64 a0_1 a1_1)] (0, 0) _ rfl (by (with_reducible repeat (first | refine blk_drewN ?_ _ | refine blk_drew ?_ | refine blk_alloc ?_ _)); refine blk_put (cs := #[.int .u64 (Go.bits .or .u64 a0_0 a1_0), .int .u64 0]) ?_ 1 _ rfl; (with_reducible repeat (first | refine blk_drewN ?_ _ | refine blk_drew ?_ | refine blk_alloc ?_ _)); refine blk_put (cs := #[.int .u64 0, .int .u64 0]) ?_ 0 _ rfl; exact bfL BK500.out) Try.underlying110 rfl (by kernel_rfl)) rfl ?_
  exact ⟨by first | rfl | (simp [errW_none, errW_some] <;> rfl) | (simp [*, errW_none, errW_some] <;> rfl), bsL HB.out⟩
 ·
  rw [if_neg c3] at H
  have c3b0 : ((Go.bits .and .u64 (Go.bits .or .u64 a0_0 a1_0) (Go.bits .or .u64 a0_1 a1_1)) == 0) = false := beq_eq_false_iff_ne.mpr c3
  have c3b1 : ((Go.bits .and .u64 (Go.bits .or .u64 a0_0 a1_0) (Go.bits .or .u64 a0_1 a1_1)) != 0) = true := bne_iff_ne.mpr c3
  simp only [Option.some.injEq, Prod.mk.injEq] at H
  obtain ⟨rfl, rfl, rfl⟩ := H
  go_enter Try.func98, Try.ntmps98
  go_wp2_with (first | ((with_reducible refine gate_dst (N := 2) rfl ?_); refine boxE (N := 2) (cs := #[.int .u64 a0_0, .int .u64 a0_1]) (t := 110) ?_; intro gb498 hg w18 hbox hb; have BK498 := Aside0.mk (hbox); have GW498 := szB hg HB.out; have GE498 := szB hg HB.out; replace HB := bsB HB.out hb; clear hb hbox hg) | ((with_reducible refine gate_dst (N := 3) rfl ?_); refine boxE (N := 3) (cs := #[.int .u64 a1_0, .int .u64 a1_1]) (t := 110) ?_; intro gb499 hg w19 hbox hb; have BK499 := Aside0.mk (hbox); have GW499 := szB hg HB.out; have GE499 := szB hg HB.out; have NB498_499 := neL hg BK498.out; have NB499_498 := neG hg BK498.out; replace BK498 := bkB BK498.out hb; replace HB := bsB HB.out hb; clear hb hbox hg) | ((with_reducible refine gate_dst (N := 4) rfl ?_); refine boxE (N := 4) (cs := #[.int .u64 0, .int .u64 0]) (t := 110) ?_; intro gb500 hg w20 hbox hb; have BK500 := Aside0.mk (hbox); have GW500 := szB hg HB.out; have GE500 := szB hg HB.out; have NB498_500 := neL hg BK498.out; have NB500_498 := neG hg BK498.out; have NB499_500 := neL hg BK499.out; have NB500_499 := neG hg BK499.out; replace BK498 := bkB BK498.out hb; replace BK499 := bkB BK499.out hb; replace HB := bsB HB.out hb; clear hb hbox hg; have hnb21 := NB498_499.out; have hnc21 := NB499_498.out; have hnb22 := NB498_500.out; have hnc22 := NB500_498.out; obtain ⟨hcz23_0, hcz23_1, hfz23_0, hfz23_1⟩ := own2 BK498.out; have hnb24 := NB499_500.out; have hnc24 := NB500_499.out; obtain ⟨hcz25_0, hcz25_1, hfz25_0, hfz25_1⟩ := own2 BK499.out) | ((with_reducible refine gate_dst (N := 6) rfl ?_); refine boxE (N := 6) (cs := #[.int .u64 0, .int .u64 0]) (t := 110) ?_; intro gb501 hg w26 hbox hb; have BK501 := Aside0.mk (hbox); have GW501 := szB hg HB.out; have GE501 := szB hg HB.out; have NB498_501 := neL hg BK498.out; have NB501_498 := neG hg BK498.out; have NB499_501 := neL hg BK499.out; have NB501_499 := neG hg BK499.out; have NB500_501 := neL hg BK500.out; have NB501_500 := neG hg BK500.out; replace BK498 := bkB BK498.out hb; replace BK499 := bkB BK499.out hb; replace BK500 := bkB BK500.out hb; replace HB := bsB HB.out hb; clear hb hbox hg; have hnb27 := NB501_498.out; have hnc27 := NB498_501.out; have hnb28 := NB501_499.out; have hnc28 := NB499_501.out; have hnb29 := NB501_500.out; have hnc29 := NB500_501.out; obtain ⟨hcz30_0, hcz30_1, hfz30_0, hfz30_1⟩ := own2 BK501.out; obtain ⟨hcz31_0, hcz31_1, hfz31_0, hfz31_1⟩ := own2 BK500.out))
  refine bodyPost_ret (results_ct rfl _ _ gb500 110 #[.int .u64 0, .int .u64 0] (0, 0) _ rfl (by (with_reducible repeat (first | refine blk_drewN ?_ _ | refine blk_drew ?_ | refine blk_alloc ?_ _)); refine blk_put (cs := #[.int .u64 0, .int .u64 0]) ?_ 1 _ rfl; (with_reducible repeat (first | refine blk_drewN ?_ _ | refine blk_drew ?_ | refine blk_alloc ?_ _)); refine blk_put (cs := #[.int .u64 0, .int .u64 0]) ?_ 0 _ rfl; exact bfL BK500.out) Try.underlying110 rfl (by kernel_rfl)) rfl ?_
  exact ⟨by first | rfl | (simp [errW_none, errW_some] <;> rfl) | (simp [*, errW_none, errW_some] <;> rfl), bsL HB.out⟩

/-! ### interval_Meet: function 99 -/
def interval_Meet.f (a0_0 : Int) (a0_1 : Int) (a0_2 : Int) (a0_3 : Int) (a1_0 : Int) (a1_1 : Int) (a1_2 : Int) (a1_3 : Int) : Option (Int × Int × Int × Int × Bool) := if (mx a0_0 a1_0) > (mn a0_1 a1_1) then (some (0, 0, 0, 0, false)) else (if (mx a0_2 a1_2) > (mn a0_3 a1_3) then (some (0, 0, 0, 0, false)) else (some (mx a0_0 a1_0, mn a0_1 a1_1, mx a0_2 a1_2, mn a0_3 a1_3, true)))
set_option maxHeartbeats 8000000 in
set_option maxRecDepth 100000 in
theorem interval_Meet.calls (a0_0 : Int) (a0_1 : Int) (a0_2 : Int) (a0_3 : Int) (a1_0 : Int) (a1_1 : Int) (a1_2 : Int) (a1_3 : Int) (r1 : Int) (r2 : Int) (r3 : Int) (r4 : Int) (r5 : Bool) (w : World) (h : interval_Meet.f a0_0 a0_1 a0_2 a0_3 a1_0 a1_1 a1_2 a1_3 = some (r1, r2, r3, r4, r5)) :
  Calls Try.prog 99 #[.agg #[.int .u64 a0_0, .int .u64 a0_1, .int .i64 a0_2, .int .i64 a0_3], .agg #[.int .u64 a1_0, .int .u64 a1_1, .int .i64 a1_2, .int .i64 a1_3]] w fun e w' => e = .returned (.tuple #[.agg #[.int .u64 r1, .int .u64 r2, .int .i64 r3, .int .i64 r4], .bool r5]) ∧ Below w.heap.size w w' := by
 have hu30 := Try.underlying30
 have HB := Aside0.mk (Below.refl w.heap.size w)
 have H : (if (mx a0_0 a1_0) > (mn a0_1 a1_1) then (some (0, 0, 0, 0, false)) else (if (mx a0_2 a1_2) > (mn a0_3 a1_3) then (some (0, 0, 0, 0, false)) else (some (mx a0_0 a1_0, mn a0_1 a1_1, mx a0_2 a1_2, mn a0_3 a1_3, true)))) = some (r1, r2, r3, r4, r5) := h
 clear h
 obtain ⟨ji3, hji3⟩ : ∃ j_ : Int, (mx a0_0 a1_0) = j_ := ⟨_, rfl⟩
 replace H : (if (ji3) > (mn a0_1 a1_1) then (some (0, 0, 0, 0, false)) else (if (mx a0_2 a1_2) > (mn a0_3 a1_3) then (some (0, 0, 0, 0, false)) else (some (ji3, mn a0_1 a1_1, mx a0_2 a1_2, mn a0_3 a1_3, true)))) = some (r1, r2, r3, r4, r5) := by first | (rw [hji3] at H; exact H) | (simp only [hji3] at H ⊢; exact H)
 have hji3_ : (if a0_0 < a1_0 then a1_0 else a0_0) = ji3 := hji3
 obtain ⟨ji4, hji4⟩ : ∃ j_ : Int, (mn a0_1 a1_1) = j_ := ⟨_, rfl⟩
 replace H : (if (ji3) > (ji4) then (some (0, 0, 0, 0, false)) else (if (mx a0_2 a1_2) > (mn a0_3 a1_3) then (some (0, 0, 0, 0, false)) else (some (ji3, ji4, mx a0_2 a1_2, mn a0_3 a1_3, true)))) = some (r1, r2, r3, r4, r5) := by first | (rw [hji4] at H; exact H) | (simp only [hji4] at H ⊢; exact H)
 have hji4_ : (if a1_1 < a0_1 then a1_1 else a0_1) = ji4 := hji4
 obtain ⟨ji5, hji5⟩ : ∃ j_ : Int, (mx a0_2 a1_2) = j_ := ⟨_, rfl⟩
 replace H : (if (ji3) > (ji4) then (some (0, 0, 0, 0, false)) else (if (ji5) > (mn a0_3 a1_3) then (some (0, 0, 0, 0, false)) else (some (ji3, ji4, ji5, mn a0_3 a1_3, true)))) = some (r1, r2, r3, r4, r5) := by first | (rw [hji5] at H; exact H) | (simp only [hji5] at H ⊢; exact H)
 have hji5_ : (if a0_2 < a1_2 then a1_2 else a0_2) = ji5 := hji5
 obtain ⟨ji6, hji6⟩ : ∃ j_ : Int, (mn a0_3 a1_3) = j_ := ⟨_, rfl⟩
 replace H : (if (ji3) > (ji4) then (some (0, 0, 0, 0, false)) else (if (ji5) > (ji6) then (some (0, 0, 0, 0, false)) else (some (ji3, ji4, ji5, ji6, true)))) = some (r1, r2, r3, r4, r5) := by first | (rw [hji6] at H; exact H) | (simp only [hji6] at H ⊢; exact H)
 have hji6_ : (if a1_3 < a0_3 then a1_3 else a0_3) = ji6 := hji6
 by_cases c7 : (ji3) > (ji4)
 ·
  rw [if_pos c7] at H
  have c7b0 : decide ((ji4) < (ji3)) = true := decide_eq_true c7
  clear c7
  simp only [Option.some.injEq, Prod.mk.injEq] at H
  obtain ⟨rfl, rfl, rfl, rfl, rfl⟩ := H
  go_enter Try.func99, Try.ntmps99
  go_wp2_with (first | ((with_reducible refine gate_dst (N := 2) rfl ?_); refine boxE (N := 2) (cs := #[.int .u64 a0_0, .int .u64 a0_1, .int .i64 a0_2, .int .i64 a0_3]) (t := 30) ?_; intro gb502 hg w8 hbox hb; have BK502 := Aside0.mk (hbox); have GW502 := szB hg HB.out; have GE502 := szB hg HB.out; replace HB := bsB HB.out hb; clear hb hbox hg) | ((with_reducible refine gate_dst (N := 3) rfl ?_); refine boxE (N := 3) (cs := #[.int .u64 a1_0, .int .u64 a1_1, .int .i64 a1_2, .int .i64 a1_3]) (t := 30) ?_; intro gb503 hg w9 hbox hb; have BK503 := Aside0.mk (hbox); have GW503 := szB hg HB.out; have GE503 := szB hg HB.out; have NB502_503 := neL hg BK502.out; have NB503_502 := neG hg BK502.out; replace BK502 := bkB BK502.out hb; replace HB := bsB HB.out hb; clear hb hbox hg) | ((with_reducible refine gate_dst (N := 4) rfl ?_); refine boxE (N := 4) (cs := #[.int .u64 0, .int .u64 0, .int .i64 0, .int .i64 0]) (t := 30) ?_; intro gb504 hg w10 hbox hb; have BK504 := Aside0.mk (hbox); have GW504 := szB hg HB.out; have GE504 := szB hg HB.out; have NB502_504 := neL hg BK502.out; have NB504_502 := neG hg BK502.out; have NB503_504 := neL hg BK503.out; have NB504_503 := neG hg BK503.out; replace BK502 := bkB BK502.out hb; replace BK503 := bkB BK503.out hb; replace HB := bsB HB.out hb; clear hb hbox hg; have hnb11 := NB502_503.out; have hnc11 := NB503_502.out; have hnb12 := NB502_504.out; have hnc12 := NB504_502.out; obtain ⟨hcz13_0, hcz13_1, hcz13_2, hcz13_3, hfz13_0, hfz13_1, hfz13_2, hfz13_3⟩ := own4 BK502.out; have hnb14 := NB503_504.out; have hnc14 := NB504_503.out; obtain ⟨hcz15_0, hcz15_1, hcz15_2, hcz15_3, hfz15_0, hfz15_1, hfz15_2, hfz15_3⟩ := own4 BK503.out) | ((with_reducible refine gate_dst (N := 6) rfl ?_); refine boxE (N := 6) (cs := #[.int .u64 0, .int .u64 0, .int .i64 0, .int .i64 0]) (t := 30) ?_; intro gb505 hg w16 hbox hb; have BK505 := Aside0.mk (hbox); have GW505 := szB hg HB.out; have GE505 := szB hg HB.out; have NB502_505 := neL hg BK502.out; have NB505_502 := neG hg BK502.out; have NB503_505 := neL hg BK503.out; have NB505_503 := neG hg BK503.out; have NB504_505 := neL hg BK504.out; have NB505_504 := neG hg BK504.out; replace BK502 := bkB BK502.out hb; replace BK503 := bkB BK503.out hb; replace BK504 := bkB BK504.out hb; replace HB := bsB HB.out hb; clear hb hbox hg; have hnb17 := NB505_502.out; have hnc17 := NB502_505.out; have hnb18 := NB505_503.out; have hnc18 := NB503_505.out; have hnb19 := NB505_504.out; have hnc19 := NB504_505.out; obtain ⟨hcz20_0, hcz20_1, hcz20_2, hcz20_3, hfz20_0, hfz20_1, hfz20_2, hfz20_3⟩ := own4 BK505.out; obtain ⟨hcz21_0, hcz21_1, hcz21_2, hcz21_3, hfz21_0, hfz21_1, hfz21_2, hfz21_3⟩ := own4 BK504.out))
  refine bodyPost_ret (results_ct rfl _ _ gb504 30 #[.int .u64 0, .int .u64 0, .int .i64 0, .int .i64 0] (0, 0) _ rfl (by (with_reducible repeat (first | refine blk_drewN ?_ _ | refine blk_drew ?_ | refine blk_alloc ?_ _)); refine blk_put (cs := #[.int .u64 0, .int .u64 0, .int .i64 0, .int .i64 0]) ?_ 3 _ rfl; (with_reducible repeat (first | refine blk_drewN ?_ _ | refine blk_drew ?_ | refine blk_alloc ?_ _)); refine blk_put (cs := #[.int .u64 0, .int .u64 0, .int .i64 0, .int .i64 0]) ?_ 2 _ rfl; (with_reducible repeat (first | refine blk_drewN ?_ _ | refine blk_drew ?_ | refine blk_alloc ?_ _)); refine blk_put (cs := #[.int .u64 0, .int .u64 0, .int .i64 0, .int .i64 0]) ?_ 1 _ rfl; (with_reducible repeat (first | refine blk_drewN ?_ _ | refine blk_drew ?_ | refine blk_alloc ?_ _)); refine blk_put (cs := #[.int .u64 0, .int .u64 0, .int .i64 0, .int .i64 0]) ?_ 0 _ rfl; exact bfL BK504.out) Try.underlying30 rfl (by kernel_rfl)) rfl ?_
  exact ⟨by first | rfl | (simp [errW_none, errW_some] <;> rfl) | (simp only [← hji3, ← hji4, ← hji5, ← hji6]; first | rfl | (simp [errW_none, errW_some] <;> rfl)) | (simp [*, errW_none, errW_some] <;> rfl), bsL HB.out⟩
 ·
  rw [if_neg c7] at H
  have c7b0 : decide ((ji4) < (ji3)) = false := decide_eq_false c7
  clear c7
  by_cases c22 : (ji5) > (ji6)
  ·
   rw [if_pos c22] at H
   have c22b0 : decide ((ji6) < (ji5)) = true := decide_eq_true c22
   clear c22
   simp only [Option.some.injEq, Prod.mk.injEq] at H
   obtain ⟨rfl, rfl, rfl, rfl, rfl⟩ := H
   go_enter Try.func99, Try.ntmps99
   go_wp2_with (first | ((with_reducible refine gate_dst (N := 2) rfl ?_); refine boxE (N := 2) (cs := #[.int .u64 a0_0, .int .u64 a0_1, .int .i64 a0_2, .int .i64 a0_3]) (t := 30) ?_; intro gb502 hg w23 hbox hb; have BK502 := Aside0.mk (hbox); have GW502 := szB hg HB.out; have GE502 := szB hg HB.out; replace HB := bsB HB.out hb; clear hb hbox hg) | ((with_reducible refine gate_dst (N := 3) rfl ?_); refine boxE (N := 3) (cs := #[.int .u64 a1_0, .int .u64 a1_1, .int .i64 a1_2, .int .i64 a1_3]) (t := 30) ?_; intro gb503 hg w24 hbox hb; have BK503 := Aside0.mk (hbox); have GW503 := szB hg HB.out; have GE503 := szB hg HB.out; have NB502_503 := neL hg BK502.out; have NB503_502 := neG hg BK502.out; replace BK502 := bkB BK502.out hb; replace HB := bsB HB.out hb; clear hb hbox hg) | ((with_reducible refine gate_dst (N := 4) rfl ?_); refine boxE (N := 4) (cs := #[.int .u64 0, .int .u64 0, .int .i64 0, .int .i64 0]) (t := 30) ?_; intro gb504 hg w25 hbox hb; have BK504 := Aside0.mk (hbox); have GW504 := szB hg HB.out; have GE504 := szB hg HB.out; have NB502_504 := neL hg BK502.out; have NB504_502 := neG hg BK502.out; have NB503_504 := neL hg BK503.out; have NB504_503 := neG hg BK503.out; replace BK502 := bkB BK502.out hb; replace BK503 := bkB BK503.out hb; replace HB := bsB HB.out hb; clear hb hbox hg; have hnb26 := NB502_503.out; have hnc26 := NB503_502.out; have hnb27 := NB502_504.out; have hnc27 := NB504_502.out; obtain ⟨hcz28_0, hcz28_1, hcz28_2, hcz28_3, hfz28_0, hfz28_1, hfz28_2, hfz28_3⟩ := own4 BK502.out; have hnb29 := NB503_504.out; have hnc29 := NB504_503.out; obtain ⟨hcz30_0, hcz30_1, hcz30_2, hcz30_3, hfz30_0, hfz30_1, hfz30_2, hfz30_3⟩ := own4 BK503.out) | ((with_reducible refine gate_dst (N := 6) rfl ?_); refine boxE (N := 6) (cs := #[.int .u64 0, .int .u64 0, .int .i64 0, .int .i64 0]) (t := 30) ?_; intro gb505 hg w31 hbox hb; have BK505 := Aside0.mk (hbox); have GW505 := szB hg HB.out; have GE505 := szB hg HB.out; have NB502_505 := neL hg BK502.out; have NB505_502 := neG hg BK502.out; have NB503_505 := neL hg BK503.out; have NB505_503 := neG hg BK503.out; have NB504_505 := neL hg BK504.out; have NB505_504 := neG hg BK504.out; replace BK502 := bkB BK502.out hb; replace BK503 := bkB BK503.out hb; replace BK504 := bkB BK504.out hb; replace HB := bsB HB.out hb; clear hb hbox hg; have hnb32 := NB505_502.out; have hnc32 := NB502_505.out; have hnb33 := NB505_503.out; have hnc33 := NB503_505.out; have hnb34 := NB505_504.out; have hnc34 := NB504_505.out; obtain ⟨hcz35_0, hcz35_1, hcz35_2, hcz35_3, hfz35_0, hfz35_1, hfz35_2, hfz35_3⟩ := own4 BK505.out; obtain ⟨hcz36_0, hcz36_1, hcz36_2, hcz36_3, hfz36_0, hfz36_1, hfz36_2, hfz36_3⟩ := own4 BK504.out))
   refine bodyPost_ret (results_ct rfl _ _ gb504 30 #[.int .u64 0, .int .u64 0, .int .i64 0, .int .i64 0] (0, 0) _ rfl (by (with_reducible repeat (first | refine blk_drewN ?_ _ | refine blk_drew ?_ | refine blk_alloc ?_ _)); refine blk_put (cs := #[.int .u64 0, .int .u64 0, .int .i64 0, .int .i64 0]) ?_ 3 _ rfl; (with_reducible repeat (first | refine blk_drewN ?_ _ | refine blk_drew ?_ | refine blk_alloc ?_ _)); refine blk_put (cs := #[.int .u64 0, .int .u64 0, .int .i64 0, .int .i64 0]) ?_ 2 _ rfl; (with_reducible repeat (first | refine blk_drewN ?_ _ | refine blk_drew ?_ | refine blk_alloc ?_ _)); refine blk_put (cs := #[.int .u64 0, .int .u64 0, .int .i64 0, .int .i64 0]) ?_ 1 _ rfl; (with_reducible repeat (first | refine blk_drewN ?_ _ | refine blk_drew ?_ | refine blk_alloc ?_ _)); refine blk_put (cs := #[.int .u64 0, .int .u64 0, .int .i64 0, .int .i64 0]) ?_ 0 _ rfl; exact bfL BK504.out) Try.underlying30 rfl (by kernel_rfl)) rfl ?_
   exact ⟨by first | rfl | (simp [errW_none, errW_some] <;> rfl) | (simp only [← hji3, ← hji4, ← hji5, ← hji6]; first | rfl | (simp [errW_none, errW_some] <;> rfl)) | (simp [*, errW_none, errW_some] <;> rfl), bsL HB.out⟩
  ·
   rw [if_neg c22] at H
   have c22b0 : decide ((ji6) < (ji5)) = false := decide_eq_false c22
   clear c22
   simp only [Option.some.injEq, Prod.mk.injEq] at H
   obtain ⟨rfl, rfl, rfl, rfl, rfl⟩ := H
   go_enter Try.func99, Try.ntmps99
   go_wp2_with (first | ((with_reducible refine gate_dst (N := 2) rfl ?_); refine boxE (N := 2) (cs := #[.int .u64 a0_0, .int .u64 a0_1, .int .i64 a0_2, .int .i64 a0_3]) (t := 30) ?_; intro gb502 hg w37 hbox hb; have BK502 := Aside0.mk (hbox); have GW502 := szB hg HB.out; have GE502 := szB hg HB.out; replace HB := bsB HB.out hb; clear hb hbox hg) | ((with_reducible refine gate_dst (N := 3) rfl ?_); refine boxE (N := 3) (cs := #[.int .u64 a1_0, .int .u64 a1_1, .int .i64 a1_2, .int .i64 a1_3]) (t := 30) ?_; intro gb503 hg w38 hbox hb; have BK503 := Aside0.mk (hbox); have GW503 := szB hg HB.out; have GE503 := szB hg HB.out; have NB502_503 := neL hg BK502.out; have NB503_502 := neG hg BK502.out; replace BK502 := bkB BK502.out hb; replace HB := bsB HB.out hb; clear hb hbox hg) | ((with_reducible refine gate_dst (N := 4) rfl ?_); refine boxE (N := 4) (cs := #[.int .u64 0, .int .u64 0, .int .i64 0, .int .i64 0]) (t := 30) ?_; intro gb504 hg w39 hbox hb; have BK504 := Aside0.mk (hbox); have GW504 := szB hg HB.out; have GE504 := szB hg HB.out; have NB502_504 := neL hg BK502.out; have NB504_502 := neG hg BK502.out; have NB503_504 := neL hg BK503.out; have NB504_503 := neG hg BK503.out; replace BK502 := bkB BK502.out hb; replace BK503 := bkB BK503.out hb; replace HB := bsB HB.out hb; clear hb hbox hg; have hnb40 := NB502_503.out; have hnc40 := NB503_502.out; have hnb41 := NB502_504.out; have hnc41 := NB504_502.out; obtain ⟨hcz42_0, hcz42_1, hcz42_2, hcz42_3, hfz42_0, hfz42_1, hfz42_2, hfz42_3⟩ := own4 BK502.out; have hnb43 := NB503_504.out; have hnc43 := NB504_503.out; obtain ⟨hcz44_0, hcz44_1, hcz44_2, hcz44_3, hfz44_0, hfz44_1, hfz44_2, hfz44_3⟩ := own4 BK503.out) | ((with_reducible refine gate_dst (N := 6) rfl ?_); refine boxE (N := 6) (cs := #[.int .u64 0, .int .u64 0, .int .i64 0, .int .i64 0]) (t := 30) ?_; intro gb505 hg w45 hbox hb; have BK505 := Aside0.mk (hbox); have GW505 := szB hg HB.out; have GE505 := szB hg HB.out; have NB502_505 := neL hg BK502.out; have NB505_502 := neG hg BK502.out; have NB503_505 := neL hg BK503.out; have NB505_503 := neG hg BK503.out; have NB504_505 := neL hg BK504.out; have NB505_504 := neG hg BK504.out; replace BK502 := bkB BK502.out hb; replace BK503 := bkB BK503.out hb; replace BK504 := bkB BK504.out hb; replace HB := bsB HB.out hb; clear hb hbox hg; have hnb46 := NB505_502.out; have hnc46 := NB502_505.out; have hnb47 := NB505_503.out; have hnc47 := NB503_505.out; have hnb48 := NB505_504.out; have hnc48 := NB504_505.out; obtain ⟨hcz49_0, hcz49_1, hcz49_2, hcz49_3, hfz49_0, hfz49_1, hfz49_2, hfz49_3⟩ := own4 BK505.out; obtain ⟨hcz50_0, hcz50_1, hcz50_2, hcz50_3, hfz50_0, hfz50_1, hfz50_2, hfz50_3⟩ := own4 BK504.out))
   refine bodyPost_ret (results_ct rfl _ _ gb504 30 #[.int .u64 ji3, .int .u64 ji4, .int .i64 ji5, .int .i64 ji6] (0, 0) _ rfl (by (with_reducible repeat (first | refine blk_drewN ?_ _ | refine blk_drew ?_ | refine blk_alloc ?_ _)); refine blk_put (cs := #[.int .u64 ji3, .int .u64 ji4, .int .i64 ji5, .int .i64 0]) ?_ 3 _ rfl; (with_reducible repeat (first | refine blk_drewN ?_ _ | refine blk_drew ?_ | refine blk_alloc ?_ _)); refine blk_put (cs := #[.int .u64 ji3, .int .u64 ji4, .int .i64 0, .int .i64 0]) ?_ 2 _ rfl; (with_reducible repeat (first | refine blk_drewN ?_ _ | refine blk_drew ?_ | refine blk_alloc ?_ _)); refine blk_put (cs := #[.int .u64 ji3, .int .u64 0, .int .i64 0, .int .i64 0]) ?_ 1 _ rfl; (with_reducible repeat (first | refine blk_drewN ?_ _ | refine blk_drew ?_ | refine blk_alloc ?_ _)); refine blk_put (cs := #[.int .u64 0, .int .u64 0, .int .i64 0, .int .i64 0]) ?_ 0 _ rfl; exact bfL BK504.out) Try.underlying30 rfl (by kernel_rfl)) rfl ?_
   exact ⟨by first | rfl | (simp [errW_none, errW_some] <;> rfl) | (simp only [← hji3, ← hji4, ← hji5, ← hji6]; first | rfl | (simp [errW_none, errW_some] <;> rfl)) | (simp [*, errW_none, errW_some] <;> rfl), bsL HB.out⟩

/-! ### facts_Meet: function 39 -/
def facts_Meet.j0 : Nat → Int → Bool → Int → Int → Int → Int → Int → Int → Option (Int × Int × Int × Int × Int × Int × Bool)
 | 0, _, _, _, _, _, _, _, _ => none
 | k + 1, x0, x33, x517000, x517001, x531000, x531001, x531002, x531003 => if x33 = true then (some (0, 0, 0, 0, 0, 0, false)) else ((facts_fact.f x517000 x517001 x531000 x531001 x531002 x531003).bind fun bt531 => ((facts_Tighten.f k x0 bt531.1 bt531.2.1 bt531.2.2.1 bt531.2.2.2.1 bt531.2.2.2.2.1 bt531.2.2.2.2.2).bind fun bt537 => (some (bt537.1, bt537.2.1, bt537.2.2.1, bt537.2.2.2.1, bt537.2.2.2.2.1, bt537.2.2.2.2.2.1, bt537.2.2.2.2.2.2))))
def facts_Meet.f (k : Nat) (a0 : Int) (a1_0 : Int) (a1_1 : Int) (a1_2 : Int) (a1_3 : Int) (a1_4 : Int) (a1_5 : Int) (a2_0 : Int) (a2_1 : Int) (a2_2 : Int) (a2_3 : Int) (a2_4 : Int) (a2_5 : Int) : Option (Int × Int × Int × Int × Int × Int × Bool) := (facts_known.f a1_0 a1_1 a1_2 a1_3 a1_4 a1_5).bind fun bt509 => ((facts_known.f a2_0 a2_1 a2_2 a2_3 a2_4 a2_5).bind fun bt511 => ((knownbits_Meet.f bt509.1 bt509.2 bt511.1 bt511.2).bind fun bt513 => ((facts_span.f a1_0 a1_1 a1_2 a1_3 a1_4 a1_5).bind fun bt517 => ((facts_span.f a2_0 a2_1 a2_2 a2_3 a2_4 a2_5).bind fun bt521 => ((interval_Meet.f bt517.1 bt517.2.1 bt517.2.2.1 bt517.2.2.2 bt521.1 bt521.2.1 bt521.2.2.1 bt521.2.2.2).bind fun bt525 => (if bt513.2.2 = true then (facts_Meet.j0 k a0 (!bt525.2.2.2.2) bt513.1 bt513.2.1 bt525.1 bt525.2.1 bt525.2.2.1 bt525.2.2.2.1) else (facts_Meet.j0 k a0 true bt513.1 bt513.2.1 bt525.1 bt525.2.1 bt525.2.2.1 bt525.2.2.2.1)))))))
theorem facts_Meet.mono_l : ∀ k, (∀ y0 y1 y2 y3 y4 y5 y6 y7, LeO (facts_Meet.j0 k y0 y1 y2 y3 y4 y5 y6 y7) (facts_Meet.j0 (k + 1) y0 y1 y2 y3 y4 y5 y6 y7))
 | 0 => fun _ _ _ _ _ _ _ _ r h => by simp [facts_Meet.j0] at h
 | k + 1 => by
  have ih0 := facts_Meet.mono_l k
  ·
   intro y0 y1 y2 y3 y4 y5 y6 y7
   unfold facts_Meet.j0
   repeat' first
   | (with_reducible exact ih0 _ _ _ _ _ _ _ _)
   | (with_reducible exact facts_Tighten.mono _ _ _ _ _ _ _ _)
   | (with_reducible exact LeO.refl _)
   | (with_reducible exact LeO.none _)
   | (with_reducible refine LeO.ite ?_ ?_)
   | (with_reducible refine LeO.bind ?_ (fun _ => ?_))
   | exact ih0 _ _ _ _ _ _ _ _
   | exact facts_Tighten.mono _ _ _ _ _ _ _ _
   | exact LeO.none _
   | refine LeO.ite ?_ ?_
   | refine LeO.bind ?_ (fun _ => ?_)
theorem facts_Meet.mono : ∀ a0 a1 a2 a3 a4 a5 a6 a7 a8 a9 a10 a11 a12 k, LeO (facts_Meet.f k a0 a1 a2 a3 a4 a5 a6 a7 a8 a9 a10 a11 a12) (facts_Meet.f (k + 1) a0 a1 a2 a3 a4 a5 a6 a7 a8 a9 a10 a11 a12) := by
 intro a0 a1 a2 a3 a4 a5 a6 a7 a8 a9 a10 a11 a12 k
 have ih0 := facts_Meet.mono_l k
 unfold facts_Meet.f
 repeat' first
   | (with_reducible exact ih0 _ _ _ _ _ _ _ _)
   | (with_reducible exact facts_Tighten.mono _ _ _ _ _ _ _ _)
   | (with_reducible exact LeO.refl _)
   | (with_reducible exact LeO.none _)
   | (with_reducible refine LeO.ite ?_ ?_)
   | (with_reducible refine LeO.bind ?_ (fun _ => ?_))
   | exact ih0 _ _ _ _ _ _ _ _
   | exact facts_Tighten.mono _ _ _ _ _ _ _ _
   | exact LeO.none _
   | refine LeO.ite ?_ ?_
   | refine LeO.bind ?_ (fun _ => ?_)
def facts_Meet.T1 : Bool × List (List Nat × List Nat) := (true, [([], []), ([0], [0]), ([], []), ([2, 1], [2]), ([1, 3, 3], [1, 3]), ([4], [4]), ([5], [5]), ([5], [5]), ([], []), ([8, 6, 4, 0, 1, 2, 3, 4, 5, 6, 8], [6, 8]), ([7, 9, 0, 1, 2, 3, 4, 5, 6, 7, 8, 9], [7])])
def facts_Meet.B1 : List Nat := [0, 1, 0, 7, 15, 31, 63, 63, 0, 383, 1023]
theorem facts_Meet.tab1 : rtab .any (opsOf Try.f39 1) = facts_Meet.T1 := by kernel_rfl
theorem facts_Meet.bits1 : waitsOk facts_Meet.T1.2 facts_Meet.B1 = true := by kernel_rfl
def facts_Meet.T2 : Bool × List (List Nat × List Nat) := (true, [([], []), ([0], [0]), ([], []), ([2, 1], [2]), ([1, 3, 3], [1, 3]), ([4], [4]), ([5], [5]), ([5], [5]), ([], []), ([8, 6, 4, 0, 1, 2, 3, 4, 5, 6, 8], [6, 8]), ([7, 9, 0, 1, 2, 3, 4, 5, 6, 7, 8, 9], [7])])
def facts_Meet.B2 : List Nat := [0, 1, 0, 7, 15, 31, 63, 63, 0, 383, 1023]
theorem facts_Meet.tab2 : rtab .any (opsOf Try.f39 2) = facts_Meet.T2 := by kernel_rfl
theorem facts_Meet.bits2 : waitsOk facts_Meet.T2.2 facts_Meet.B2 = true := by kernel_rfl
set_option maxHeartbeats 8000000 in
set_option maxRecDepth 100000 in
theorem facts_Meet.calls (k : Nat) (a0 : Int) (a1_0 : Int) (a1_1 : Int) (a1_2 : Int) (a1_3 : Int) (a1_4 : Int) (a1_5 : Int) (a2_0 : Int) (a2_1 : Int) (a2_2 : Int) (a2_3 : Int) (a2_4 : Int) (a2_5 : Int) (r1 : Int) (r2 : Int) (r3 : Int) (r4 : Int) (r5 : Int) (r6 : Int) (r7 : Bool) (w : World) (h : facts_Meet.f k a0 a1_0 a1_1 a1_2 a1_3 a1_4 a1_5 a2_0 a2_1 a2_2 a2_3 a2_4 a2_5 = some (r1, r2, r3, r4, r5, r6, r7)) :
  Calls Try.prog 39 #[.int .i64 a0, .agg #[.int .u64 a1_0, .int .u64 a1_1, .int .u64 a1_2, .int .u64 a1_3, .int .i64 a1_4, .int .i64 a1_5], .agg #[.int .u64 a2_0, .int .u64 a2_1, .int .u64 a2_2, .int .u64 a2_3, .int .i64 a2_4, .int .i64 a2_5]] w fun e w' => e = .returned (.tuple #[.agg #[.int .u64 r1, .int .u64 r2, .int .u64 r3, .int .u64 r4, .int .i64 r5, .int .i64 r6], .bool r7]) ∧ Below w.heap.size w w' := by
 have hu50 := Try.underlying50
 have hu110 := Try.underlying110
 have hu30 := Try.underlying30
 have HB := Aside0.mk (Below.refl w.heap.size w)
 have H : ((facts_known.f a1_0 a1_1 a1_2 a1_3 a1_4 a1_5).bind fun bt509 => ((facts_known.f a2_0 a2_1 a2_2 a2_3 a2_4 a2_5).bind fun bt511 => ((knownbits_Meet.f bt509.1 bt509.2 bt511.1 bt511.2).bind fun bt513 => ((facts_span.f a1_0 a1_1 a1_2 a1_3 a1_4 a1_5).bind fun bt517 => ((facts_span.f a2_0 a2_1 a2_2 a2_3 a2_4 a2_5).bind fun bt521 => ((interval_Meet.f bt517.1 bt517.2.1 bt517.2.2.1 bt517.2.2.2 bt521.1 bt521.2.1 bt521.2.2.1 bt521.2.2.2).bind fun bt525 => (if bt513.2.2 = true then (facts_Meet.j0 k a0 (!bt525.2.2.2.2) bt513.1 bt513.2.1 bt525.1 bt525.2.1 bt525.2.2.1 bt525.2.2.2.1) else (facts_Meet.j0 k a0 true bt513.1 bt513.2.1 bt525.1 bt525.2.1 bt525.2.2.1 bt525.2.2.2.1)))))))) = some (r1, r2, r3, r4, r5, r6, r7) := h
 clear h
 replace H := Option.bind_eq_some_iff.mp H
 obtain ⟨⟨t509, t510⟩, A40, H⟩ := H
 replace H : ((facts_known.f a2_0 a2_1 a2_2 a2_3 a2_4 a2_5).bind fun bt511 => ((knownbits_Meet.f t509 t510 bt511.1 bt511.2).bind fun bt513 => ((facts_span.f a1_0 a1_1 a1_2 a1_3 a1_4 a1_5).bind fun bt517 => ((facts_span.f a2_0 a2_1 a2_2 a2_3 a2_4 a2_5).bind fun bt521 => ((interval_Meet.f bt517.1 bt517.2.1 bt517.2.2.1 bt517.2.2.2 bt521.1 bt521.2.1 bt521.2.2.1 bt521.2.2.2).bind fun bt525 => (if bt513.2.2 = true then (facts_Meet.j0 k a0 (!bt525.2.2.2.2) bt513.1 bt513.2.1 bt525.1 bt525.2.1 bt525.2.2.1 bt525.2.2.2.1) else (facts_Meet.j0 k a0 true bt513.1 bt513.2.1 bt525.1 bt525.2.1 bt525.2.2.1 bt525.2.2.2.1))))))) = some (r1, r2, r3, r4, r5, r6, r7) := H
 have A4 := Aside0.mk A40
 clear A40
 replace H := Option.bind_eq_some_iff.mp H
 obtain ⟨⟨t511, t512⟩, A50, H⟩ := H
 replace H : ((knownbits_Meet.f t509 t510 t511 t512).bind fun bt513 => ((facts_span.f a1_0 a1_1 a1_2 a1_3 a1_4 a1_5).bind fun bt517 => ((facts_span.f a2_0 a2_1 a2_2 a2_3 a2_4 a2_5).bind fun bt521 => ((interval_Meet.f bt517.1 bt517.2.1 bt517.2.2.1 bt517.2.2.2 bt521.1 bt521.2.1 bt521.2.2.1 bt521.2.2.2).bind fun bt525 => (if bt513.2.2 = true then (facts_Meet.j0 k a0 (!bt525.2.2.2.2) bt513.1 bt513.2.1 bt525.1 bt525.2.1 bt525.2.2.1 bt525.2.2.2.1) else (facts_Meet.j0 k a0 true bt513.1 bt513.2.1 bt525.1 bt525.2.1 bt525.2.2.1 bt525.2.2.2.1)))))) = some (r1, r2, r3, r4, r5, r6, r7) := H
 have A5 := Aside0.mk A50
 clear A50
 replace H := Option.bind_eq_some_iff.mp H
 obtain ⟨⟨t513, t514, t515⟩, A60, H⟩ := H
 replace H : ((facts_span.f a1_0 a1_1 a1_2 a1_3 a1_4 a1_5).bind fun bt517 => ((facts_span.f a2_0 a2_1 a2_2 a2_3 a2_4 a2_5).bind fun bt521 => ((interval_Meet.f bt517.1 bt517.2.1 bt517.2.2.1 bt517.2.2.2 bt521.1 bt521.2.1 bt521.2.2.1 bt521.2.2.2).bind fun bt525 => (if t515 = true then (facts_Meet.j0 k a0 (!bt525.2.2.2.2) t513 t514 bt525.1 bt525.2.1 bt525.2.2.1 bt525.2.2.2.1) else (facts_Meet.j0 k a0 true t513 t514 bt525.1 bt525.2.1 bt525.2.2.1 bt525.2.2.2.1))))) = some (r1, r2, r3, r4, r5, r6, r7) := H
 have A6 := Aside0.mk A60
 clear A60
 replace H := Option.bind_eq_some_iff.mp H
 obtain ⟨⟨t517, t518, t519, t520⟩, A70, H⟩ := H
 replace H : ((facts_span.f a2_0 a2_1 a2_2 a2_3 a2_4 a2_5).bind fun bt521 => ((interval_Meet.f t517 t518 t519 t520 bt521.1 bt521.2.1 bt521.2.2.1 bt521.2.2.2).bind fun bt525 => (if t515 = true then (facts_Meet.j0 k a0 (!bt525.2.2.2.2) t513 t514 bt525.1 bt525.2.1 bt525.2.2.1 bt525.2.2.2.1) else (facts_Meet.j0 k a0 true t513 t514 bt525.1 bt525.2.1 bt525.2.2.1 bt525.2.2.2.1)))) = some (r1, r2, r3, r4, r5, r6, r7) := H
 have A7 := Aside0.mk A70
 clear A70
 replace H := Option.bind_eq_some_iff.mp H
 obtain ⟨⟨t521, t522, t523, t524⟩, A80, H⟩ := H
 replace H : ((interval_Meet.f t517 t518 t519 t520 t521 t522 t523 t524).bind fun bt525 => (if t515 = true then (facts_Meet.j0 k a0 (!bt525.2.2.2.2) t513 t514 bt525.1 bt525.2.1 bt525.2.2.1 bt525.2.2.2.1) else (facts_Meet.j0 k a0 true t513 t514 bt525.1 bt525.2.1 bt525.2.2.1 bt525.2.2.2.1))) = some (r1, r2, r3, r4, r5, r6, r7) := H
 have A8 := Aside0.mk A80
 clear A80
 replace H := Option.bind_eq_some_iff.mp H
 obtain ⟨⟨t525, t526, t527, t528, t529⟩, A90, H⟩ := H
 replace H : (if t515 = true then (facts_Meet.j0 k a0 (!t529) t513 t514 t525 t526 t527 t528) else (facts_Meet.j0 k a0 true t513 t514 t525 t526 t527 t528)) = some (r1, r2, r3, r4, r5, r6, r7) := H
 have A9 := Aside0.mk A90
 clear A90
 have HC10 := Aside0.mk H
 clear H
 go_enter Try.func39, Try.ntmps39
 try go_wp2_with (first | ((with_reducible refine gate_dst (N := 4) rfl ?_); refine boxE (N := 4) (cs := #[.int .u64 a1_0, .int .u64 a1_1, .int .u64 a1_2, .int .u64 a1_3, .int .i64 a1_4, .int .i64 a1_5]) (t := 50) ?_; intro gb506 hg w11 hbox hb; have BK506 := Aside0.mk (hbox); have GW506 := szB hg HB.out; have GE506 := szB hg HB.out; replace HB := bsB HB.out hb; clear hb hbox hg) | ((with_reducible refine gate_dst (N := 5) rfl ?_); refine boxE (N := 5) (cs := #[.int .u64 a2_0, .int .u64 a2_1, .int .u64 a2_2, .int .u64 a2_3, .int .i64 a2_4, .int .i64 a2_5]) (t := 50) ?_; intro gb507 hg w12 hbox hb; have BK507 := Aside0.mk (hbox); have GW507 := szB hg HB.out; have GE507 := szB hg HB.out; have NB506_507 := neL hg BK506.out; have NB507_506 := neG hg BK506.out; replace BK506 := bkB BK506.out hb; replace HB := bsB HB.out hb; clear hb hbox hg) | ((with_reducible refine gate_dst (N := 6) rfl ?_); refine boxE (N := 6) (cs := #[.int .u64 0, .int .u64 0, .int .u64 0, .int .u64 0, .int .i64 0, .int .i64 0]) (t := 50) ?_; intro gb508 hg w13 hbox hb; have BK508 := Aside0.mk (hbox); have GW508 := szB hg HB.out; have GE508 := szB hg HB.out; have NB506_508 := neL hg BK506.out; have NB508_506 := neG hg BK506.out; have NB507_508 := neL hg BK507.out; have NB508_507 := neG hg BK507.out; replace BK506 := bkB BK506.out hb; replace BK507 := bkB BK507.out hb; replace HB := bsB HB.out hb; clear hb hbox hg))
 replace BK506 := Aside0.mk (blk_drew BK506.out)
 replace BK507 := Aside0.mk (blk_drew BK507.out)
 replace BK508 := Aside0.mk (blk_drew BK508.out)
 replace HB := Aside0.mk (below_drew1 HB.out)
 refine start_ (n := 11) (S := fun w' => w'.cell? ⟨gb506, 0, none⟩ = some (.int .u64 a1_0) ∧ w'.cell? ⟨gb506, 1, none⟩ = some (.int .u64 a1_1) ∧ w'.cell? ⟨gb506, 2, none⟩ = some (.int .u64 a1_2) ∧ w'.cell? ⟨gb506, 3, none⟩ = some (.int .u64 a1_3) ∧ w'.cell? ⟨gb506, 4, none⟩ = some (.int .i64 a1_4) ∧ w'.cell? ⟨gb506, 5, none⟩ = some (.int .i64 a1_5) ∧ w'.cell? ⟨gb507, 0, none⟩ = some (.int .u64 a2_0) ∧ w'.cell? ⟨gb507, 1, none⟩ = some (.int .u64 a2_1) ∧ w'.cell? ⟨gb507, 2, none⟩ = some (.int .u64 a2_2) ∧ w'.cell? ⟨gb507, 3, none⟩ = some (.int .u64 a2_3) ∧ w'.cell? ⟨gb507, 4, none⟩ = some (.int .i64 a2_4) ∧ w'.cell? ⟨gb507, 5, none⟩ = some (.int .i64 a2_5)) (ds := []) (bA 11 0) (by kernel_rfl) rfl rfl (by repeat' (first | apply And.intro | exact (blk_cell BK506.out _).trans rfl | exact (blk_cell BK507.out _).trans rfl)) (fun hHeld => ?_); refine with_tabW facts_Meet.tab1 facts_Meet.bits1 (fun HT_ HW_ => ?_)
 generalize w13.drew = w14 at BK506 BK507 BK508 HB hHeld ⊢
 refine takeA HT_ HW_ hHeld (i := 0) (N := some 13) (bA 11 1) ?_ (hy := by rintro w' ⟨s0, s1, s2, s3, s4, s5, s6, s7, s8, s9, s10, s11⟩; go_simp; with_reducible rfl)
 refine takeA HT_ HW_ hHeld (i := 2) (N := some 15) (bA 11 5) ?_ (hy := by rintro w' ⟨s0, s1, s2, s3, s4, s5, s6, s7, s8, s9, s10, s11⟩; go_simp; with_reducible rfl)
 refine join_ (σ := Nat) 2 (bA 11 511) (fun s_ => [(14, .agg #[.int .u64 t509, .int .u64 t510]), (16, .agg #[.int .u64 t511, .int .u64 t512]), (17, .tuple #[.agg #[.int .u64 t513, .int .u64 t514], .bool t515]), (8, .pointer (some ⟨s_, 0, none⟩)), (12, .tuple #[.agg #[.int .u64 t513, .int .u64 t514], .bool t515]), (18, .agg #[.int .u64 t513, .int .u64 t514]), (19, .bool t515)]) (fun s_ w' => (w'.cell? ⟨gb506, 0, none⟩ = some (.int .u64 a1_0) ∧ w'.cell? ⟨gb506, 1, none⟩ = some (.int .u64 a1_1) ∧ w'.cell? ⟨gb506, 2, none⟩ = some (.int .u64 a1_2) ∧ w'.cell? ⟨gb506, 3, none⟩ = some (.int .u64 a1_3) ∧ w'.cell? ⟨gb506, 4, none⟩ = some (.int .i64 a1_4) ∧ w'.cell? ⟨gb506, 5, none⟩ = some (.int .i64 a1_5) ∧ w'.cell? ⟨gb507, 0, none⟩ = some (.int .u64 a2_0) ∧ w'.cell? ⟨gb507, 1, none⟩ = some (.int .u64 a2_1) ∧ w'.cell? ⟨gb507, 2, none⟩ = some (.int .u64 a2_2) ∧ w'.cell? ⟨gb507, 3, none⟩ = some (.int .u64 a2_3) ∧ w'.cell? ⟨gb507, 4, none⟩ = some (.int .i64 a2_4) ∧ w'.cell? ⟨gb507, 5, none⟩ = some (.int .i64 a2_5)) ∧ (w'.heap[gb506]? = some (.cells #[.int .u64 a1_0, .int .u64 a1_1, .int .u64 a1_2, .int .u64 a1_3, .int .i64 a1_4, .int .i64 a1_5] 50 (0, 0))) ∧ (w'.heap[gb507]? = some (.cells #[.int .u64 a2_0, .int .u64 a2_1, .int .u64 a2_2, .int .u64 a2_3, .int .i64 a2_4, .int .i64 a2_5] 50 (0, 0))) ∧ (w'.heap[gb508]? = some (.cells #[.int .u64 0, .int .u64 0, .int .u64 0, .int .u64 0, .int .i64 0, .int .i64 0] 50 (0, 0))) ∧ (w'.heap[s_]? = some (.cells #[.int .u64 0, .int .u64 0] 110 (0, 0))) ∧ (w.heap.size ≤ s_) ∧ (w.heap.size ≤ s_) ∧ (gb506 ≠ s_) ∧ (s_ ≠ gb506) ∧ (gb507 ≠ s_) ∧ (s_ ≠ gb507) ∧ (gb508 ≠ s_) ∧ (s_ ≠ gb508) ∧ (Below w.heap.size w w')) ?_ ?_
 rotate_left
 ·
  intro hCont
  refine two_ (i := 1) (j := 8) (Ni := some 14) (Nj := some 8) (bA 11 7) (bA 11 261) rfl rfl rfl rfl (two_of HT_.out (by kernel_rfl)) (by decide) (by decide) (fun K hK => ?_) (fun K hK => ?_)
  ·
   skip
   refine gO Try.func86 #[.agg #[.int .u64 a1_0, .int .u64 a1_1, .int .u64 a1_2, .int .u64 a1_3, .int .i64 a1_4, .int .i64 a1_5]] ?_
   with_reducible refine (facts_known.calls a1_0 a1_1 a1_2 a1_3 a1_4 a1_5 t509 t510 _ A4.out).mono ?_
   rintro e w15 ⟨rfl, hb⟩
   refine ⟨_, rfl, ?_⟩
   replace BK506 := bkB BK506.out hb
   replace BK507 := bkB BK507.out hb
   replace BK508 := bkB BK508.out hb
   replace HB := bsB HB.out hb
   (try clear hb)
   refine hK.out _ _ (by repeat' (first | apply And.intro | exact (blk_cell BK506.out _).trans rfl | exact (blk_cell BK507.out _).trans rfl)) (fun hHeld => ?_)
   clear hK K
   refine normA (some 14) ?_
   refine two_ (i := 3) (j := 8) (Ni := some 16) (Nj := some 8) (bA 11 15) (bA 11 263) rfl rfl rfl rfl (two_of HT_.out (by kernel_rfl)) (by decide) (by decide) (fun K hK => ?_) (fun K hK => ?_)
   ·
    skip
    refine gO Try.func86 #[.agg #[.int .u64 a2_0, .int .u64 a2_1, .int .u64 a2_2, .int .u64 a2_3, .int .i64 a2_4, .int .i64 a2_5]] ?_
    with_reducible refine (facts_known.calls a2_0 a2_1 a2_2 a2_3 a2_4 a2_5 t511 t512 _ A5.out).mono ?_
    rintro e w16 ⟨rfl, hb⟩
    refine ⟨_, rfl, ?_⟩
    replace BK506 := bkB BK506.out hb
    replace BK507 := bkB BK507.out hb
    replace BK508 := bkB BK508.out hb
    replace HB := bsB HB.out hb
    (try clear hb)
    refine hK.out _ _ (by repeat' (first | apply And.intro | exact (blk_cell BK506.out _).trans rfl | exact (blk_cell BK507.out _).trans rfl)) (fun hHeld => ?_)
    clear hK K
    refine normA (some 16) ?_
    refine two_ (i := 4) (j := 8) (Ni := some 17) (Nj := some 8) (bA 11 31) (bA 11 271) rfl rfl rfl rfl (two_of HT_.out (by kernel_rfl)) (by decide) (by decide) (fun K hK => ?_) (fun K hK => ?_)
    ·
     skip
     refine gO Try.func98 #[.agg #[.int .u64 t509, .int .u64 t510], .agg #[.int .u64 t511, .int .u64 t512]] ?_
     with_reducible refine (knownbits_Meet.calls t509 t510 t511 t512 t513 t514 t515 _ A6.out).mono ?_
     rintro e w17 ⟨rfl, hb⟩
     refine ⟨_, rfl, ?_⟩
     replace BK506 := bkB BK506.out hb
     replace BK507 := bkB BK507.out hb
     replace BK508 := bkB BK508.out hb
     replace HB := bsB HB.out hb
     (try clear hb)
     refine hK.out _ _ (by repeat' (first | apply And.intro | exact (blk_cell BK506.out _).trans rfl | exact (blk_cell BK507.out _).trans rfl)) (fun hHeld => ?_)
     clear hK K
     refine normA (some 17) ?_
     refine pureA HT_ (i := 5) (N := some 12) (bA 11 63) ?_
     refine pureA HT_ (i := 6) (N := some 18) (bA 11 127) ?_
     refine pureA HT_ (i := 7) (N := some 19) (bA 11 255) ?_
     refine one_ (i := 8) (N := some 8) (bA 11 511) rfl rfl (one_of HT_.out (by kernel_rfl)) (by decide) (fun K hK => ?_)
     refine boxS (N := 8) (cs := #[.int .u64 0, .int .u64 0]) (t := 110) ?_
     intro gb516 hg w18 hbox hb
     have BK516 := Aside0.mk (hbox)
     have GW516 := szB hg HB.out
     have GE516 := szB hg HB.out
     have NB506_516 := neL hg BK506.out
     have NB516_506 := neG hg BK506.out
     have NB507_516 := neL hg BK507.out
     have NB516_507 := neG hg BK507.out
     have NB508_516 := neL hg BK508.out
     have NB516_508 := neG hg BK508.out
     replace BK506 := bkB BK506.out hb
     replace BK507 := bkB BK507.out hb
     replace BK508 := bkB BK508.out hb
     replace HB := bsB HB.out hb
     clear hb hbox hg
     refine hK.out _ _ (by repeat' (first | apply And.intro | exact (blk_cell BK506.out _).trans rfl | exact (blk_cell BK507.out _).trans rfl)) (fun hHeld => ?_)
     clear hK K
     refine normA (some 8) ?_
     exact norm_ (by simp only [putAll, Act.put, List.setIfInBounds_toArray, List.set_cons_zero, List.set_cons_succ]) (hCont (gb516) _ ⟨hHeld, (by exact bfL BK506.out), (by exact bfL BK507.out), (by exact bfL BK508.out), (by exact bfL BK516.out), GW516.out, GE516.out, NB506_516.out, NB516_506.out, NB507_516.out, NB516_507.out, NB508_516.out, NB516_508.out, (by repeat (first | (with_reducible first | exact HB.out | apply below_alloc | apply pw_below_drewN | apply below_drew1 | refine below_set ?_ GE506.out | refine below_set ?_ GE507.out | refine below_set ?_ GE508.out | refine below_set ?_ GE516.out) | exact HB.out))⟩)
    ·
     skip
     refine boxS (N := 8) (cs := #[.int .u64 0, .int .u64 0]) (t := 110) ?_
     intro gb516 hg w17 hbox hb
     have BK516 := Aside0.mk (hbox)
     have GW516 := szB hg HB.out
     have GE516 := szB hg HB.out
     have NB506_516 := neL hg BK506.out
     have NB516_506 := neG hg BK506.out
     have NB507_516 := neL hg BK507.out
     have NB516_507 := neG hg BK507.out
     have NB508_516 := neL hg BK508.out
     have NB516_508 := neG hg BK508.out
     replace BK506 := bkB BK506.out hb
     replace BK507 := bkB BK507.out hb
     replace BK508 := bkB BK508.out hb
     replace HB := bsB HB.out hb
     clear hb hbox hg
     refine hK.out _ _ (by repeat' (first | apply And.intro | exact (blk_cell BK506.out _).trans rfl | exact (blk_cell BK507.out _).trans rfl)) (fun hHeld => ?_)
     clear hK K
     refine normA (some 8) ?_
     refine one_ (i := 4) (N := some 17) (bA 11 287) rfl rfl (one_of HT_.out (by kernel_rfl)) (by decide) (fun K hK => ?_)
     refine gO Try.func98 #[.agg #[.int .u64 t509, .int .u64 t510], .agg #[.int .u64 t511, .int .u64 t512]] ?_
     with_reducible refine (knownbits_Meet.calls t509 t510 t511 t512 t513 t514 t515 _ A6.out).mono ?_
     rintro e w18 ⟨rfl, hb⟩
     refine ⟨_, rfl, ?_⟩
     replace BK506 := bkB BK506.out hb
     replace BK507 := bkB BK507.out hb
     replace BK508 := bkB BK508.out hb
     replace BK516 := bkB BK516.out hb
     replace HB := bsB HB.out hb
     (try clear hb)
     refine hK.out _ _ (by repeat' (first | apply And.intro | exact (blk_cell BK506.out _).trans rfl | exact (blk_cell BK507.out _).trans rfl)) (fun hHeld => ?_)
     clear hK K
     refine normA (some 17) ?_
     refine pureA HT_ (i := 5) (N := some 12) (bA 11 319) ?_
     refine pureA HT_ (i := 6) (N := some 18) (bA 11 383) ?_
     refine pureA HT_ (i := 7) (N := some 19) (bA 11 511) ?_
     exact norm_ (by simp only [putAll, Act.put, List.setIfInBounds_toArray, List.set_cons_zero, List.set_cons_succ]) (hCont (gb516) _ ⟨hHeld, (by exact bfL BK506.out), (by exact bfL BK507.out), (by exact bfL BK508.out), (by exact bfL BK516.out), GW516.out, GE516.out, NB506_516.out, NB516_506.out, NB507_516.out, NB516_507.out, NB508_516.out, NB516_508.out, (by repeat (first | (with_reducible first | exact HB.out | apply below_alloc | apply pw_below_drewN | apply below_drew1 | refine below_set ?_ GE506.out | refine below_set ?_ GE507.out | refine below_set ?_ GE508.out | refine below_set ?_ GE516.out) | exact HB.out))⟩)
   ·
    skip
    refine boxS (N := 8) (cs := #[.int .u64 0, .int .u64 0]) (t := 110) ?_
    intro gb516 hg w16 hbox hb
    have BK516 := Aside0.mk (hbox)
    have GW516 := szB hg HB.out
    have GE516 := szB hg HB.out
    have NB506_516 := neL hg BK506.out
    have NB516_506 := neG hg BK506.out
    have NB507_516 := neL hg BK507.out
    have NB516_507 := neG hg BK507.out
    have NB508_516 := neL hg BK508.out
    have NB516_508 := neG hg BK508.out
    replace BK506 := bkB BK506.out hb
    replace BK507 := bkB BK507.out hb
    replace BK508 := bkB BK508.out hb
    replace HB := bsB HB.out hb
    clear hb hbox hg
    refine hK.out _ _ (by repeat' (first | apply And.intro | exact (blk_cell BK506.out _).trans rfl | exact (blk_cell BK507.out _).trans rfl)) (fun hHeld => ?_)
    clear hK K
    refine normA (some 8) ?_
    refine one_ (i := 3) (N := some 16) (bA 11 271) rfl rfl (one_of HT_.out (by kernel_rfl)) (by decide) (fun K hK => ?_)
    refine gO Try.func86 #[.agg #[.int .u64 a2_0, .int .u64 a2_1, .int .u64 a2_2, .int .u64 a2_3, .int .i64 a2_4, .int .i64 a2_5]] ?_
    with_reducible refine (facts_known.calls a2_0 a2_1 a2_2 a2_3 a2_4 a2_5 t511 t512 _ A5.out).mono ?_
    rintro e w17 ⟨rfl, hb⟩
    refine ⟨_, rfl, ?_⟩
    replace BK506 := bkB BK506.out hb
    replace BK507 := bkB BK507.out hb
    replace BK508 := bkB BK508.out hb
    replace BK516 := bkB BK516.out hb
    replace HB := bsB HB.out hb
    (try clear hb)
    refine hK.out _ _ (by repeat' (first | apply And.intro | exact (blk_cell BK506.out _).trans rfl | exact (blk_cell BK507.out _).trans rfl)) (fun hHeld => ?_)
    clear hK K
    refine normA (some 16) ?_
    refine one_ (i := 4) (N := some 17) (bA 11 287) rfl rfl (one_of HT_.out (by kernel_rfl)) (by decide) (fun K hK => ?_)
    refine gO Try.func98 #[.agg #[.int .u64 t509, .int .u64 t510], .agg #[.int .u64 t511, .int .u64 t512]] ?_
    with_reducible refine (knownbits_Meet.calls t509 t510 t511 t512 t513 t514 t515 _ A6.out).mono ?_
    rintro e w18 ⟨rfl, hb⟩
    refine ⟨_, rfl, ?_⟩
    replace BK506 := bkB BK506.out hb
    replace BK507 := bkB BK507.out hb
    replace BK508 := bkB BK508.out hb
    replace BK516 := bkB BK516.out hb
    replace HB := bsB HB.out hb
    (try clear hb)
    refine hK.out _ _ (by repeat' (first | apply And.intro | exact (blk_cell BK506.out _).trans rfl | exact (blk_cell BK507.out _).trans rfl)) (fun hHeld => ?_)
    clear hK K
    refine normA (some 17) ?_
    refine pureA HT_ (i := 5) (N := some 12) (bA 11 319) ?_
    refine pureA HT_ (i := 6) (N := some 18) (bA 11 383) ?_
    refine pureA HT_ (i := 7) (N := some 19) (bA 11 511) ?_
    exact norm_ (by simp only [putAll, Act.put, List.setIfInBounds_toArray, List.set_cons_zero, List.set_cons_succ]) (hCont (gb516) _ ⟨hHeld, (by exact bfL BK506.out), (by exact bfL BK507.out), (by exact bfL BK508.out), (by exact bfL BK516.out), GW516.out, GE516.out, NB506_516.out, NB516_506.out, NB507_516.out, NB516_507.out, NB508_516.out, NB516_508.out, (by repeat (first | (with_reducible first | exact HB.out | apply below_alloc | apply pw_below_drewN | apply below_drew1 | refine below_set ?_ GE506.out | refine below_set ?_ GE507.out | refine below_set ?_ GE508.out | refine below_set ?_ GE516.out) | exact HB.out))⟩)
  ·
   skip
   refine boxS (N := 8) (cs := #[.int .u64 0, .int .u64 0]) (t := 110) ?_
   intro gb516 hg w15 hbox hb
   have BK516 := Aside0.mk (hbox)
   have GW516 := szB hg HB.out
   have GE516 := szB hg HB.out
   have NB506_516 := neL hg BK506.out
   have NB516_506 := neG hg BK506.out
   have NB507_516 := neL hg BK507.out
   have NB516_507 := neG hg BK507.out
   have NB508_516 := neL hg BK508.out
   have NB516_508 := neG hg BK508.out
   replace BK506 := bkB BK506.out hb
   replace BK507 := bkB BK507.out hb
   replace BK508 := bkB BK508.out hb
   replace HB := bsB HB.out hb
   clear hb hbox hg
   refine hK.out _ _ (by repeat' (first | apply And.intro | exact (blk_cell BK506.out _).trans rfl | exact (blk_cell BK507.out _).trans rfl)) (fun hHeld => ?_)
   clear hK K
   refine normA (some 8) ?_
   refine one_ (i := 1) (N := some 14) (bA 11 263) rfl rfl (one_of HT_.out (by kernel_rfl)) (by decide) (fun K hK => ?_)
   refine gO Try.func86 #[.agg #[.int .u64 a1_0, .int .u64 a1_1, .int .u64 a1_2, .int .u64 a1_3, .int .i64 a1_4, .int .i64 a1_5]] ?_
   with_reducible refine (facts_known.calls a1_0 a1_1 a1_2 a1_3 a1_4 a1_5 t509 t510 _ A4.out).mono ?_
   rintro e w16 ⟨rfl, hb⟩
   refine ⟨_, rfl, ?_⟩
   replace BK506 := bkB BK506.out hb
   replace BK507 := bkB BK507.out hb
   replace BK508 := bkB BK508.out hb
   replace BK516 := bkB BK516.out hb
   replace HB := bsB HB.out hb
   (try clear hb)
   refine hK.out _ _ (by repeat' (first | apply And.intro | exact (blk_cell BK506.out _).trans rfl | exact (blk_cell BK507.out _).trans rfl)) (fun hHeld => ?_)
   clear hK K
   refine normA (some 14) ?_
   refine one_ (i := 3) (N := some 16) (bA 11 271) rfl rfl (one_of HT_.out (by kernel_rfl)) (by decide) (fun K hK => ?_)
   refine gO Try.func86 #[.agg #[.int .u64 a2_0, .int .u64 a2_1, .int .u64 a2_2, .int .u64 a2_3, .int .i64 a2_4, .int .i64 a2_5]] ?_
   with_reducible refine (facts_known.calls a2_0 a2_1 a2_2 a2_3 a2_4 a2_5 t511 t512 _ A5.out).mono ?_
   rintro e w17 ⟨rfl, hb⟩
   refine ⟨_, rfl, ?_⟩
   replace BK506 := bkB BK506.out hb
   replace BK507 := bkB BK507.out hb
   replace BK508 := bkB BK508.out hb
   replace BK516 := bkB BK516.out hb
   replace HB := bsB HB.out hb
   (try clear hb)
   refine hK.out _ _ (by repeat' (first | apply And.intro | exact (blk_cell BK506.out _).trans rfl | exact (blk_cell BK507.out _).trans rfl)) (fun hHeld => ?_)
   clear hK K
   refine normA (some 16) ?_
   refine one_ (i := 4) (N := some 17) (bA 11 287) rfl rfl (one_of HT_.out (by kernel_rfl)) (by decide) (fun K hK => ?_)
   refine gO Try.func98 #[.agg #[.int .u64 t509, .int .u64 t510], .agg #[.int .u64 t511, .int .u64 t512]] ?_
   with_reducible refine (knownbits_Meet.calls t509 t510 t511 t512 t513 t514 t515 _ A6.out).mono ?_
   rintro e w18 ⟨rfl, hb⟩
   refine ⟨_, rfl, ?_⟩
   replace BK506 := bkB BK506.out hb
   replace BK507 := bkB BK507.out hb
   replace BK508 := bkB BK508.out hb
   replace BK516 := bkB BK516.out hb
   replace HB := bsB HB.out hb
   (try clear hb)
   refine hK.out _ _ (by repeat' (first | apply And.intro | exact (blk_cell BK506.out _).trans rfl | exact (blk_cell BK507.out _).trans rfl)) (fun hHeld => ?_)
   clear hK K
   refine normA (some 17) ?_
   refine pureA HT_ (i := 5) (N := some 12) (bA 11 319) ?_
   refine pureA HT_ (i := 6) (N := some 18) (bA 11 383) ?_
   refine pureA HT_ (i := 7) (N := some 19) (bA 11 511) ?_
   exact norm_ (by simp only [putAll, Act.put, List.setIfInBounds_toArray, List.set_cons_zero, List.set_cons_succ]) (hCont (gb516) _ ⟨hHeld, (by exact bfL BK506.out), (by exact bfL BK507.out), (by exact bfL BK508.out), (by exact bfL BK516.out), GW516.out, GE516.out, NB506_516.out, NB516_506.out, NB507_516.out, NB516_507.out, NB508_516.out, NB516_508.out, (by repeat (first | (with_reducible first | exact HB.out | apply below_alloc | apply pw_below_drewN | apply below_drew1 | refine below_set ?_ GE506.out | refine below_set ?_ GE507.out | refine below_set ?_ GE508.out | refine below_set ?_ GE516.out) | exact HB.out))⟩)
 rintro gb516 w19 ⟨hS_, h0_, h1_, h2_, h3_, h4_, h5_, h6_, h7_, h8_, h9_, h10_, h11_, h12_⟩
 have n0_ : Aside0 (w19.heap[gb506]? = some (.cells #[.int .u64 a1_0, .int .u64 a1_1, .int .u64 a1_2, .int .u64 a1_3, .int .i64 a1_4, .int .i64 a1_5] 50 (0, 0))) := ⟨h0_⟩
 have n1_ : Aside0 (w19.heap[gb507]? = some (.cells #[.int .u64 a2_0, .int .u64 a2_1, .int .u64 a2_2, .int .u64 a2_3, .int .i64 a2_4, .int .i64 a2_5] 50 (0, 0))) := ⟨h1_⟩
 have n2_ : Aside0 (w19.heap[gb508]? = some (.cells #[.int .u64 0, .int .u64 0, .int .u64 0, .int .u64 0, .int .i64 0, .int .i64 0] 50 (0, 0))) := ⟨h2_⟩
 have n3_ : Aside0 (w19.heap[gb516]? = some (.cells #[.int .u64 0, .int .u64 0] 110 (0, 0))) := ⟨h3_⟩
 have n4_ : Aside0 (w.heap.size ≤ gb516) := ⟨h4_⟩
 have n5_ : Aside0 (w.heap.size ≤ gb516) := ⟨h5_⟩
 have n6_ : Aside0 (gb506 ≠ gb516) := ⟨h6_⟩
 have n7_ : Aside0 (gb516 ≠ gb506) := ⟨h7_⟩
 have n8_ : Aside0 (gb507 ≠ gb516) := ⟨h8_⟩
 have n9_ : Aside0 (gb516 ≠ gb507) := ⟨h9_⟩
 have n10_ : Aside0 (gb508 ≠ gb516) := ⟨h10_⟩
 have n11_ : Aside0 (gb516 ≠ gb508) := ⟨h11_⟩
 have n12_ : Aside0 (Below w.heap.size w w19) := ⟨h12_⟩
 clear BK506
 clear BK507
 clear BK508
 clear HB
 clear h0_ h1_ h2_ h3_ h4_ h5_ h6_ h7_ h8_ h9_ h10_ h11_ h12_
 have BK506 := n0_
 have BK507 := n1_
 have BK508 := n2_
 have BK516 := n3_
 have GW516 := n4_
 have GE516 := n5_
 have NB506_516 := n6_
 have NB516_506 := n7_
 have NB507_516 := n8_
 have NB516_507 := n9_
 have NB508_516 := n10_
 have NB516_508 := n11_
 have HB := n12_
 clear n0_ n1_ n2_ n3_ n4_ n5_ n6_ n7_ n8_ n9_ n10_ n11_ n12_
 have hHeld : w19.cell? ⟨gb506, 0, none⟩ = some (.int .u64 a1_0) ∧ w19.cell? ⟨gb506, 1, none⟩ = some (.int .u64 a1_1) ∧ w19.cell? ⟨gb506, 2, none⟩ = some (.int .u64 a1_2) ∧ w19.cell? ⟨gb506, 3, none⟩ = some (.int .u64 a1_3) ∧ w19.cell? ⟨gb506, 4, none⟩ = some (.int .i64 a1_4) ∧ w19.cell? ⟨gb506, 5, none⟩ = some (.int .i64 a1_5) ∧ w19.cell? ⟨gb507, 0, none⟩ = some (.int .u64 a2_0) ∧ w19.cell? ⟨gb507, 1, none⟩ = some (.int .u64 a2_1) ∧ w19.cell? ⟨gb507, 2, none⟩ = some (.int .u64 a2_2) ∧ w19.cell? ⟨gb507, 3, none⟩ = some (.int .u64 a2_3) ∧ w19.cell? ⟨gb507, 4, none⟩ = some (.int .i64 a2_4) ∧ w19.cell? ⟨gb507, 5, none⟩ = some (.int .i64 a2_5) := hS_
 refine norm_ (a' := ?_) ?_ ?_
 rotate_left
 ·
  simp only [putAll, Act.put, List.setIfInBounds_toArray, List.set_cons_zero, List.set_cons_succ]
  rfl
 refine one_ (i := 9) (N := none) (bA 11 1023) rfl rfl (one_of HT_.out (by kernel_rfl)) (by decide) (fun K hK => ?_)
 have hs20 : w19.cell? ⟨gb516, 0, none⟩ = some (.int .u64 0) := (blk_cell BK516.out 0).trans rfl
 have hfs20 := blk_frozen BK516.out 0
 have hns20_0 := NB506_516.out
 have hns20_1 := NB507_516.out
 have hns20_2 := NB508_516.out
 have hms20_0 := NB516_506.out
 have hms20_1 := NB516_507.out
 have hms20_2 := NB516_508.out
 have hs21 : w19.cell? ⟨gb516, 1, none⟩ = some (.int .u64 0) := (blk_cell BK516.out 1).trans rfl
 have hfs21 := blk_frozen BK516.out 1
 have hns21_0 := NB506_516.out
 have hns21_1 := NB507_516.out
 have hns21_2 := NB508_516.out
 have hms21_0 := NB516_506.out
 have hms21_1 := NB516_507.out
 have hms21_2 := NB516_508.out
 refine skip_ (w1 := ?_) (by rfl) rfl ?_ ?_
 rotate_left
 ·
  go_simp
  rfl
 refine hK.out _ _ ⟨((cell_far (p := ⟨gb516, _, none⟩) NB506_516.out _).trans (((cell_far (p := ⟨gb516, _, none⟩) NB506_516.out _).trans (hHeld.1)))), ((cell_far (p := ⟨gb516, _, none⟩) NB506_516.out _).trans (((cell_far (p := ⟨gb516, _, none⟩) NB506_516.out _).trans (hHeld.2.1)))), ((cell_far (p := ⟨gb516, _, none⟩) NB506_516.out _).trans (((cell_far (p := ⟨gb516, _, none⟩) NB506_516.out _).trans (hHeld.2.2.1)))), ((cell_far (p := ⟨gb516, _, none⟩) NB506_516.out _).trans (((cell_far (p := ⟨gb516, _, none⟩) NB506_516.out _).trans (hHeld.2.2.2.1)))), ((cell_far (p := ⟨gb516, _, none⟩) NB506_516.out _).trans (((cell_far (p := ⟨gb516, _, none⟩) NB506_516.out _).trans (hHeld.2.2.2.2.1)))), ((cell_far (p := ⟨gb516, _, none⟩) NB506_516.out _).trans (((cell_far (p := ⟨gb516, _, none⟩) NB506_516.out _).trans (hHeld.2.2.2.2.2.1)))), ((cell_far (p := ⟨gb516, _, none⟩) NB507_516.out _).trans (((cell_far (p := ⟨gb516, _, none⟩) NB507_516.out _).trans (hHeld.2.2.2.2.2.2.1)))), ((cell_far (p := ⟨gb516, _, none⟩) NB507_516.out _).trans (((cell_far (p := ⟨gb516, _, none⟩) NB507_516.out _).trans (hHeld.2.2.2.2.2.2.2.1)))), ((cell_far (p := ⟨gb516, _, none⟩) NB507_516.out _).trans (((cell_far (p := ⟨gb516, _, none⟩) NB507_516.out _).trans (hHeld.2.2.2.2.2.2.2.2.1)))), ((cell_far (p := ⟨gb516, _, none⟩) NB507_516.out _).trans (((cell_far (p := ⟨gb516, _, none⟩) NB507_516.out _).trans (hHeld.2.2.2.2.2.2.2.2.2.1)))), ((cell_far (p := ⟨gb516, _, none⟩) NB507_516.out _).trans (((cell_far (p := ⟨gb516, _, none⟩) NB507_516.out _).trans (hHeld.2.2.2.2.2.2.2.2.2.2.1)))), ((cell_far (p := ⟨gb516, _, none⟩) NB507_516.out _).trans (((cell_far (p := ⟨gb516, _, none⟩) NB507_516.out _).trans (hHeld.2.2.2.2.2.2.2.2.2.2.2))))⟩ (fun hHeld => ?_)
 clear hK K
 refine pureA HT_ (i := 10) (N := some 9) (bA 11 2047) ?_
 refine done_ (done_of HT_.out (by kernel_rfl)) ?_
 try go_wp2
 have n0_ : Aside0 (((w19.setCell ⟨gb516, 0, none⟩ (.int .u64 t513)).setCell ⟨gb516, 1, none⟩ (.int .u64 t514)).heap[gb506]? = some (.cells #[.int .u64 a1_0, .int .u64 a1_1, .int .u64 a1_2, .int .u64 a1_3, .int .i64 a1_4, .int .i64 a1_5] 50 (0, 0))) := ⟨by exact bfL BK506.out⟩
 have n1_ : Aside0 (((w19.setCell ⟨gb516, 0, none⟩ (.int .u64 t513)).setCell ⟨gb516, 1, none⟩ (.int .u64 t514)).heap[gb507]? = some (.cells #[.int .u64 a2_0, .int .u64 a2_1, .int .u64 a2_2, .int .u64 a2_3, .int .i64 a2_4, .int .i64 a2_5] 50 (0, 0))) := ⟨by exact bfL BK507.out⟩
 have n2_ : Aside0 (((w19.setCell ⟨gb516, 0, none⟩ (.int .u64 t513)).setCell ⟨gb516, 1, none⟩ (.int .u64 t514)).heap[gb508]? = some (.cells #[.int .u64 0, .int .u64 0, .int .u64 0, .int .u64 0, .int .i64 0, .int .i64 0] 50 (0, 0))) := ⟨by exact bfL BK508.out⟩
 have n3_ : Aside0 (((w19.setCell ⟨gb516, 0, none⟩ (.int .u64 t513)).setCell ⟨gb516, 1, none⟩ (.int .u64 t514)).heap[gb516]? = some (.cells #[.int .u64 t513, .int .u64 t514] 110 (0, 0))) := ⟨by (with_reducible repeat (first | refine blk_drewN ?_ _ | refine blk_drew ?_ | refine blk_alloc ?_ _)); refine blk_put (cs := #[.int .u64 t513, .int .u64 0]) ?_ 1 _ rfl; (with_reducible repeat (first | refine blk_drewN ?_ _ | refine blk_drew ?_ | refine blk_alloc ?_ _)); refine blk_put (cs := #[.int .u64 0, .int .u64 0]) ?_ 0 _ rfl; exact bfL BK516.out⟩
 have n4_ : Aside0 (Below w.heap.size w ((w19.setCell ⟨gb516, 0, none⟩ (.int .u64 t513)).setCell ⟨gb516, 1, none⟩ (.int .u64 t514))) := ⟨bsL HB.out⟩
 (try clear BK506)
 (try clear BK507)
 (try clear BK508)
 (try clear BK516)
 (try clear HB)
 generalize ((w19.setCell ⟨gb516, 0, none⟩ (.int .u64 t513)).setCell ⟨gb516, 1, none⟩ (.int .u64 t514)) = w22 at n0_ n1_ n2_ n3_ n4_ ⊢
 have BK506 := n0_
 have BK507 := n1_
 have BK508 := n2_
 have BK516 := n3_
 have HB := n4_
 clear n0_ n1_ n2_ n3_ n4_
 replace BK506 := Aside0.mk (blk_drew BK506.out)
 replace BK507 := Aside0.mk (blk_drew BK507.out)
 replace BK508 := Aside0.mk (blk_drew BK508.out)
 replace BK516 := Aside0.mk (blk_drew BK516.out)
 replace HB := Aside0.mk (below_drew1 HB.out)
 refine start_ (n := 11) (S := fun w' => w'.cell? ⟨gb506, 0, none⟩ = some (.int .u64 a1_0) ∧ w'.cell? ⟨gb506, 1, none⟩ = some (.int .u64 a1_1) ∧ w'.cell? ⟨gb506, 2, none⟩ = some (.int .u64 a1_2) ∧ w'.cell? ⟨gb506, 3, none⟩ = some (.int .u64 a1_3) ∧ w'.cell? ⟨gb506, 4, none⟩ = some (.int .i64 a1_4) ∧ w'.cell? ⟨gb506, 5, none⟩ = some (.int .i64 a1_5) ∧ w'.cell? ⟨gb507, 0, none⟩ = some (.int .u64 a2_0) ∧ w'.cell? ⟨gb507, 1, none⟩ = some (.int .u64 a2_1) ∧ w'.cell? ⟨gb507, 2, none⟩ = some (.int .u64 a2_2) ∧ w'.cell? ⟨gb507, 3, none⟩ = some (.int .u64 a2_3) ∧ w'.cell? ⟨gb507, 4, none⟩ = some (.int .i64 a2_4) ∧ w'.cell? ⟨gb507, 5, none⟩ = some (.int .i64 a2_5)) (ds := []) (bA 11 0) (by kernel_rfl) rfl rfl (by repeat' (first | apply And.intro | exact (blk_cell BK506.out _).trans rfl | exact (blk_cell BK507.out _).trans rfl)) (fun hHeld => ?_); refine with_tabW facts_Meet.tab2 facts_Meet.bits2 (fun HT_ HW_ => ?_)
 generalize w22.drew = w23 at BK506 BK507 BK508 BK516 HB hHeld ⊢
 refine takeA HT_ HW_ hHeld (i := 0) (N := some 21) (bA 11 1) ?_ (hy := by rintro w' ⟨s0, s1, s2, s3, s4, s5, s6, s7, s8, s9, s10, s11⟩; go_simp; with_reducible rfl)
 refine takeA HT_ HW_ hHeld (i := 2) (N := some 23) (bA 11 5) ?_ (hy := by rintro w' ⟨s0, s1, s2, s3, s4, s5, s6, s7, s8, s9, s10, s11⟩; go_simp; with_reducible rfl)
 refine join_ (σ := Nat) 2 (bA 11 511) (fun s_ => [(22, .agg #[.int .u64 t517, .int .u64 t518, .int .i64 t519, .int .i64 t520]), (24, .agg #[.int .u64 t521, .int .u64 t522, .int .i64 t523, .int .i64 t524]), (25, .tuple #[.agg #[.int .u64 t525, .int .u64 t526, .int .i64 t527, .int .i64 t528], .bool t529]), (10, .pointer (some ⟨s_, 0, none⟩)), (20, .tuple #[.agg #[.int .u64 t525, .int .u64 t526, .int .i64 t527, .int .i64 t528], .bool t529]), (26, .agg #[.int .u64 t525, .int .u64 t526, .int .i64 t527, .int .i64 t528]), (27, .bool t529)]) (fun s_ w' => (w'.cell? ⟨gb506, 0, none⟩ = some (.int .u64 a1_0) ∧ w'.cell? ⟨gb506, 1, none⟩ = some (.int .u64 a1_1) ∧ w'.cell? ⟨gb506, 2, none⟩ = some (.int .u64 a1_2) ∧ w'.cell? ⟨gb506, 3, none⟩ = some (.int .u64 a1_3) ∧ w'.cell? ⟨gb506, 4, none⟩ = some (.int .i64 a1_4) ∧ w'.cell? ⟨gb506, 5, none⟩ = some (.int .i64 a1_5) ∧ w'.cell? ⟨gb507, 0, none⟩ = some (.int .u64 a2_0) ∧ w'.cell? ⟨gb507, 1, none⟩ = some (.int .u64 a2_1) ∧ w'.cell? ⟨gb507, 2, none⟩ = some (.int .u64 a2_2) ∧ w'.cell? ⟨gb507, 3, none⟩ = some (.int .u64 a2_3) ∧ w'.cell? ⟨gb507, 4, none⟩ = some (.int .i64 a2_4) ∧ w'.cell? ⟨gb507, 5, none⟩ = some (.int .i64 a2_5)) ∧ (w'.heap[gb506]? = some (.cells #[.int .u64 a1_0, .int .u64 a1_1, .int .u64 a1_2, .int .u64 a1_3, .int .i64 a1_4, .int .i64 a1_5] 50 (0, 0))) ∧ (w'.heap[gb507]? = some (.cells #[.int .u64 a2_0, .int .u64 a2_1, .int .u64 a2_2, .int .u64 a2_3, .int .i64 a2_4, .int .i64 a2_5] 50 (0, 0))) ∧ (w'.heap[gb508]? = some (.cells #[.int .u64 0, .int .u64 0, .int .u64 0, .int .u64 0, .int .i64 0, .int .i64 0] 50 (0, 0))) ∧ (w'.heap[gb516]? = some (.cells #[.int .u64 t513, .int .u64 t514] 110 (0, 0))) ∧ (w'.heap[s_]? = some (.cells #[.int .u64 0, .int .u64 0, .int .i64 0, .int .i64 0] 30 (0, 0))) ∧ (w.heap.size ≤ s_) ∧ (w.heap.size ≤ s_) ∧ (gb506 ≠ s_) ∧ (s_ ≠ gb506) ∧ (gb507 ≠ s_) ∧ (s_ ≠ gb507) ∧ (gb508 ≠ s_) ∧ (s_ ≠ gb508) ∧ (gb516 ≠ s_) ∧ (s_ ≠ gb516) ∧ (Below w.heap.size w w')) ?_ ?_
 rotate_left
 ·
  intro hCont
  refine two_ (i := 1) (j := 8) (Ni := some 22) (Nj := some 10) (bA 11 7) (bA 11 261) rfl rfl rfl rfl (two_of HT_.out (by kernel_rfl)) (by decide) (by decide) (fun K hK => ?_) (fun K hK => ?_)
  ·
   skip
   refine gO Try.func76 #[.agg #[.int .u64 a1_0, .int .u64 a1_1, .int .u64 a1_2, .int .u64 a1_3, .int .i64 a1_4, .int .i64 a1_5]] ?_
   with_reducible refine (facts_span.calls a1_0 a1_1 a1_2 a1_3 a1_4 a1_5 t517 t518 t519 t520 _ A7.out).mono ?_
   rintro e w24 ⟨rfl, hb⟩
   refine ⟨_, rfl, ?_⟩
   replace BK506 := bkB BK506.out hb
   replace BK507 := bkB BK507.out hb
   replace BK508 := bkB BK508.out hb
   replace BK516 := bkB BK516.out hb
   replace HB := bsB HB.out hb
   (try clear hb)
   refine hK.out _ _ (by repeat' (first | apply And.intro | exact (blk_cell BK506.out _).trans rfl | exact (blk_cell BK507.out _).trans rfl)) (fun hHeld => ?_)
   clear hK K
   refine normA (some 22) ?_
   refine two_ (i := 3) (j := 8) (Ni := some 24) (Nj := some 10) (bA 11 15) (bA 11 263) rfl rfl rfl rfl (two_of HT_.out (by kernel_rfl)) (by decide) (by decide) (fun K hK => ?_) (fun K hK => ?_)
   ·
    skip
    refine gO Try.func76 #[.agg #[.int .u64 a2_0, .int .u64 a2_1, .int .u64 a2_2, .int .u64 a2_3, .int .i64 a2_4, .int .i64 a2_5]] ?_
    with_reducible refine (facts_span.calls a2_0 a2_1 a2_2 a2_3 a2_4 a2_5 t521 t522 t523 t524 _ A8.out).mono ?_
    rintro e w25 ⟨rfl, hb⟩
    refine ⟨_, rfl, ?_⟩
    replace BK506 := bkB BK506.out hb
    replace BK507 := bkB BK507.out hb
    replace BK508 := bkB BK508.out hb
    replace BK516 := bkB BK516.out hb
    replace HB := bsB HB.out hb
    (try clear hb)
    refine hK.out _ _ (by repeat' (first | apply And.intro | exact (blk_cell BK506.out _).trans rfl | exact (blk_cell BK507.out _).trans rfl)) (fun hHeld => ?_)
    clear hK K
    refine normA (some 24) ?_
    refine two_ (i := 4) (j := 8) (Ni := some 25) (Nj := some 10) (bA 11 31) (bA 11 271) rfl rfl rfl rfl (two_of HT_.out (by kernel_rfl)) (by decide) (by decide) (fun K hK => ?_) (fun K hK => ?_)
    ·
     skip
     refine gO Try.func99 #[.agg #[.int .u64 t517, .int .u64 t518, .int .i64 t519, .int .i64 t520], .agg #[.int .u64 t521, .int .u64 t522, .int .i64 t523, .int .i64 t524]] ?_
     with_reducible refine (interval_Meet.calls t517 t518 t519 t520 t521 t522 t523 t524 t525 t526 t527 t528 t529 _ A9.out).mono ?_
     rintro e w26 ⟨rfl, hb⟩
     refine ⟨_, rfl, ?_⟩
     replace BK506 := bkB BK506.out hb
     replace BK507 := bkB BK507.out hb
     replace BK508 := bkB BK508.out hb
     replace BK516 := bkB BK516.out hb
     replace HB := bsB HB.out hb
     (try clear hb)
     refine hK.out _ _ (by repeat' (first | apply And.intro | exact (blk_cell BK506.out _).trans rfl | exact (blk_cell BK507.out _).trans rfl)) (fun hHeld => ?_)
     clear hK K
     refine normA (some 25) ?_
     refine pureA HT_ (i := 5) (N := some 20) (bA 11 63) ?_
     refine pureA HT_ (i := 6) (N := some 26) (bA 11 127) ?_
     refine pureA HT_ (i := 7) (N := some 27) (bA 11 255) ?_
     refine one_ (i := 8) (N := some 10) (bA 11 511) rfl rfl (one_of HT_.out (by kernel_rfl)) (by decide) (fun K hK => ?_)
     refine boxS (N := 10) (cs := #[.int .u64 0, .int .u64 0, .int .i64 0, .int .i64 0]) (t := 30) ?_
     intro gb530 hg w27 hbox hb
     have BK530 := Aside0.mk (hbox)
     have GW530 := szB hg HB.out
     have GE530 := szB hg HB.out
     have NB506_530 := neL hg BK506.out
     have NB530_506 := neG hg BK506.out
     have NB507_530 := neL hg BK507.out
     have NB530_507 := neG hg BK507.out
     have NB508_530 := neL hg BK508.out
     have NB530_508 := neG hg BK508.out
     have NB516_530 := neL hg BK516.out
     have NB530_516 := neG hg BK516.out
     replace BK506 := bkB BK506.out hb
     replace BK507 := bkB BK507.out hb
     replace BK508 := bkB BK508.out hb
     replace BK516 := bkB BK516.out hb
     replace HB := bsB HB.out hb
     clear hb hbox hg
     refine hK.out _ _ (by repeat' (first | apply And.intro | exact (blk_cell BK506.out _).trans rfl | exact (blk_cell BK507.out _).trans rfl)) (fun hHeld => ?_)
     clear hK K
     refine normA (some 10) ?_
     exact norm_ (by simp only [putAll, Act.put, List.setIfInBounds_toArray, List.set_cons_zero, List.set_cons_succ]) (hCont (gb530) _ ⟨hHeld, (by exact bfL BK506.out), (by exact bfL BK507.out), (by exact bfL BK508.out), (by exact bfL BK516.out), (by exact bfL BK530.out), GW530.out, GE530.out, NB506_530.out, NB530_506.out, NB507_530.out, NB530_507.out, NB508_530.out, NB530_508.out, NB516_530.out, NB530_516.out, (by repeat (first | (with_reducible first | exact HB.out | apply below_alloc | apply pw_below_drewN | apply below_drew1 | refine below_set ?_ GE506.out | refine below_set ?_ GE507.out | refine below_set ?_ GE508.out | refine below_set ?_ GE516.out | refine below_set ?_ GE530.out) | exact HB.out))⟩)
    ·
     skip
     refine boxS (N := 10) (cs := #[.int .u64 0, .int .u64 0, .int .i64 0, .int .i64 0]) (t := 30) ?_
     intro gb530 hg w26 hbox hb
     have BK530 := Aside0.mk (hbox)
     have GW530 := szB hg HB.out
     have GE530 := szB hg HB.out
     have NB506_530 := neL hg BK506.out
     have NB530_506 := neG hg BK506.out
     have NB507_530 := neL hg BK507.out
     have NB530_507 := neG hg BK507.out
     have NB508_530 := neL hg BK508.out
     have NB530_508 := neG hg BK508.out
     have NB516_530 := neL hg BK516.out
     have NB530_516 := neG hg BK516.out
     replace BK506 := bkB BK506.out hb
     replace BK507 := bkB BK507.out hb
     replace BK508 := bkB BK508.out hb
     replace BK516 := bkB BK516.out hb
     replace HB := bsB HB.out hb
     clear hb hbox hg
     refine hK.out _ _ (by repeat' (first | apply And.intro | exact (blk_cell BK506.out _).trans rfl | exact (blk_cell BK507.out _).trans rfl)) (fun hHeld => ?_)
     clear hK K
     refine normA (some 10) ?_
     refine one_ (i := 4) (N := some 25) (bA 11 287) rfl rfl (one_of HT_.out (by kernel_rfl)) (by decide) (fun K hK => ?_)
     refine gO Try.func99 #[.agg #[.int .u64 t517, .int .u64 t518, .int .i64 t519, .int .i64 t520], .agg #[.int .u64 t521, .int .u64 t522, .int .i64 t523, .int .i64 t524]] ?_
     with_reducible refine (interval_Meet.calls t517 t518 t519 t520 t521 t522 t523 t524 t525 t526 t527 t528 t529 _ A9.out).mono ?_
     rintro e w27 ⟨rfl, hb⟩
     refine ⟨_, rfl, ?_⟩
     replace BK506 := bkB BK506.out hb
     replace BK507 := bkB BK507.out hb
     replace BK508 := bkB BK508.out hb
     replace BK516 := bkB BK516.out hb
     replace BK530 := bkB BK530.out hb
     replace HB := bsB HB.out hb
     (try clear hb)
     refine hK.out _ _ (by repeat' (first | apply And.intro | exact (blk_cell BK506.out _).trans rfl | exact (blk_cell BK507.out _).trans rfl)) (fun hHeld => ?_)
     clear hK K
     refine normA (some 25) ?_
     refine pureA HT_ (i := 5) (N := some 20) (bA 11 319) ?_
     refine pureA HT_ (i := 6) (N := some 26) (bA 11 383) ?_
     refine pureA HT_ (i := 7) (N := some 27) (bA 11 511) ?_
     exact norm_ (by simp only [putAll, Act.put, List.setIfInBounds_toArray, List.set_cons_zero, List.set_cons_succ]) (hCont (gb530) _ ⟨hHeld, (by exact bfL BK506.out), (by exact bfL BK507.out), (by exact bfL BK508.out), (by exact bfL BK516.out), (by exact bfL BK530.out), GW530.out, GE530.out, NB506_530.out, NB530_506.out, NB507_530.out, NB530_507.out, NB508_530.out, NB530_508.out, NB516_530.out, NB530_516.out, (by repeat (first | (with_reducible first | exact HB.out | apply below_alloc | apply pw_below_drewN | apply below_drew1 | refine below_set ?_ GE506.out | refine below_set ?_ GE507.out | refine below_set ?_ GE508.out | refine below_set ?_ GE516.out | refine below_set ?_ GE530.out) | exact HB.out))⟩)
   ·
    skip
    refine boxS (N := 10) (cs := #[.int .u64 0, .int .u64 0, .int .i64 0, .int .i64 0]) (t := 30) ?_
    intro gb530 hg w25 hbox hb
    have BK530 := Aside0.mk (hbox)
    have GW530 := szB hg HB.out
    have GE530 := szB hg HB.out
    have NB506_530 := neL hg BK506.out
    have NB530_506 := neG hg BK506.out
    have NB507_530 := neL hg BK507.out
    have NB530_507 := neG hg BK507.out
    have NB508_530 := neL hg BK508.out
    have NB530_508 := neG hg BK508.out
    have NB516_530 := neL hg BK516.out
    have NB530_516 := neG hg BK516.out
    replace BK506 := bkB BK506.out hb
    replace BK507 := bkB BK507.out hb
    replace BK508 := bkB BK508.out hb
    replace BK516 := bkB BK516.out hb
    replace HB := bsB HB.out hb
    clear hb hbox hg
    refine hK.out _ _ (by repeat' (first | apply And.intro | exact (blk_cell BK506.out _).trans rfl | exact (blk_cell BK507.out _).trans rfl)) (fun hHeld => ?_)
    clear hK K
    refine normA (some 10) ?_
    refine one_ (i := 3) (N := some 24) (bA 11 271) rfl rfl (one_of HT_.out (by kernel_rfl)) (by decide) (fun K hK => ?_)
    refine gO Try.func76 #[.agg #[.int .u64 a2_0, .int .u64 a2_1, .int .u64 a2_2, .int .u64 a2_3, .int .i64 a2_4, .int .i64 a2_5]] ?_
    with_reducible refine (facts_span.calls a2_0 a2_1 a2_2 a2_3 a2_4 a2_5 t521 t522 t523 t524 _ A8.out).mono ?_
    rintro e w26 ⟨rfl, hb⟩
    refine ⟨_, rfl, ?_⟩
    replace BK506 := bkB BK506.out hb
    replace BK507 := bkB BK507.out hb
    replace BK508 := bkB BK508.out hb
    replace BK516 := bkB BK516.out hb
    replace BK530 := bkB BK530.out hb
    replace HB := bsB HB.out hb
    (try clear hb)
    refine hK.out _ _ (by repeat' (first | apply And.intro | exact (blk_cell BK506.out _).trans rfl | exact (blk_cell BK507.out _).trans rfl)) (fun hHeld => ?_)
    clear hK K
    refine normA (some 24) ?_
    refine one_ (i := 4) (N := some 25) (bA 11 287) rfl rfl (one_of HT_.out (by kernel_rfl)) (by decide) (fun K hK => ?_)
    refine gO Try.func99 #[.agg #[.int .u64 t517, .int .u64 t518, .int .i64 t519, .int .i64 t520], .agg #[.int .u64 t521, .int .u64 t522, .int .i64 t523, .int .i64 t524]] ?_
    with_reducible refine (interval_Meet.calls t517 t518 t519 t520 t521 t522 t523 t524 t525 t526 t527 t528 t529 _ A9.out).mono ?_
    rintro e w27 ⟨rfl, hb⟩
    refine ⟨_, rfl, ?_⟩
    replace BK506 := bkB BK506.out hb
    replace BK507 := bkB BK507.out hb
    replace BK508 := bkB BK508.out hb
    replace BK516 := bkB BK516.out hb
    replace BK530 := bkB BK530.out hb
    replace HB := bsB HB.out hb
    (try clear hb)
    refine hK.out _ _ (by repeat' (first | apply And.intro | exact (blk_cell BK506.out _).trans rfl | exact (blk_cell BK507.out _).trans rfl)) (fun hHeld => ?_)
    clear hK K
    refine normA (some 25) ?_
    refine pureA HT_ (i := 5) (N := some 20) (bA 11 319) ?_
    refine pureA HT_ (i := 6) (N := some 26) (bA 11 383) ?_
    refine pureA HT_ (i := 7) (N := some 27) (bA 11 511) ?_
    exact norm_ (by simp only [putAll, Act.put, List.setIfInBounds_toArray, List.set_cons_zero, List.set_cons_succ]) (hCont (gb530) _ ⟨hHeld, (by exact bfL BK506.out), (by exact bfL BK507.out), (by exact bfL BK508.out), (by exact bfL BK516.out), (by exact bfL BK530.out), GW530.out, GE530.out, NB506_530.out, NB530_506.out, NB507_530.out, NB530_507.out, NB508_530.out, NB530_508.out, NB516_530.out, NB530_516.out, (by repeat (first | (with_reducible first | exact HB.out | apply below_alloc | apply pw_below_drewN | apply below_drew1 | refine below_set ?_ GE506.out | refine below_set ?_ GE507.out | refine below_set ?_ GE508.out | refine below_set ?_ GE516.out | refine below_set ?_ GE530.out) | exact HB.out))⟩)
  ·
   skip
   refine boxS (N := 10) (cs := #[.int .u64 0, .int .u64 0, .int .i64 0, .int .i64 0]) (t := 30) ?_
   intro gb530 hg w24 hbox hb
   have BK530 := Aside0.mk (hbox)
   have GW530 := szB hg HB.out
   have GE530 := szB hg HB.out
   have NB506_530 := neL hg BK506.out
   have NB530_506 := neG hg BK506.out
   have NB507_530 := neL hg BK507.out
   have NB530_507 := neG hg BK507.out
   have NB508_530 := neL hg BK508.out
   have NB530_508 := neG hg BK508.out
   have NB516_530 := neL hg BK516.out
   have NB530_516 := neG hg BK516.out
   replace BK506 := bkB BK506.out hb
   replace BK507 := bkB BK507.out hb
   replace BK508 := bkB BK508.out hb
   replace BK516 := bkB BK516.out hb
   replace HB := bsB HB.out hb
   clear hb hbox hg
   refine hK.out _ _ (by repeat' (first | apply And.intro | exact (blk_cell BK506.out _).trans rfl | exact (blk_cell BK507.out _).trans rfl)) (fun hHeld => ?_)
   clear hK K
   refine normA (some 10) ?_
   refine one_ (i := 1) (N := some 22) (bA 11 263) rfl rfl (one_of HT_.out (by kernel_rfl)) (by decide) (fun K hK => ?_)
   refine gO Try.func76 #[.agg #[.int .u64 a1_0, .int .u64 a1_1, .int .u64 a1_2, .int .u64 a1_3, .int .i64 a1_4, .int .i64 a1_5]] ?_
   with_reducible refine (facts_span.calls a1_0 a1_1 a1_2 a1_3 a1_4 a1_5 t517 t518 t519 t520 _ A7.out).mono ?_
   rintro e w25 ⟨rfl, hb⟩
   refine ⟨_, rfl, ?_⟩
   replace BK506 := bkB BK506.out hb
   replace BK507 := bkB BK507.out hb
   replace BK508 := bkB BK508.out hb
   replace BK516 := bkB BK516.out hb
   replace BK530 := bkB BK530.out hb
   replace HB := bsB HB.out hb
   (try clear hb)
   refine hK.out _ _ (by repeat' (first | apply And.intro | exact (blk_cell BK506.out _).trans rfl | exact (blk_cell BK507.out _).trans rfl)) (fun hHeld => ?_)
   clear hK K
   refine normA (some 22) ?_
   refine one_ (i := 3) (N := some 24) (bA 11 271) rfl rfl (one_of HT_.out (by kernel_rfl)) (by decide) (fun K hK => ?_)
   refine gO Try.func76 #[.agg #[.int .u64 a2_0, .int .u64 a2_1, .int .u64 a2_2, .int .u64 a2_3, .int .i64 a2_4, .int .i64 a2_5]] ?_
   with_reducible refine (facts_span.calls a2_0 a2_1 a2_2 a2_3 a2_4 a2_5 t521 t522 t523 t524 _ A8.out).mono ?_
   rintro e w26 ⟨rfl, hb⟩
   refine ⟨_, rfl, ?_⟩
   replace BK506 := bkB BK506.out hb
   replace BK507 := bkB BK507.out hb
   replace BK508 := bkB BK508.out hb
   replace BK516 := bkB BK516.out hb
   replace BK530 := bkB BK530.out hb
   replace HB := bsB HB.out hb
   (try clear hb)
   refine hK.out _ _ (by repeat' (first | apply And.intro | exact (blk_cell BK506.out _).trans rfl | exact (blk_cell BK507.out _).trans rfl)) (fun hHeld => ?_)
   clear hK K
   refine normA (some 24) ?_
   refine one_ (i := 4) (N := some 25) (bA 11 287) rfl rfl (one_of HT_.out (by kernel_rfl)) (by decide) (fun K hK => ?_)
   refine gO Try.func99 #[.agg #[.int .u64 t517, .int .u64 t518, .int .i64 t519, .int .i64 t520], .agg #[.int .u64 t521, .int .u64 t522, .int .i64 t523, .int .i64 t524]] ?_
   with_reducible refine (interval_Meet.calls t517 t518 t519 t520 t521 t522 t523 t524 t525 t526 t527 t528 t529 _ A9.out).mono ?_
   rintro e w27 ⟨rfl, hb⟩
   refine ⟨_, rfl, ?_⟩
   replace BK506 := bkB BK506.out hb
   replace BK507 := bkB BK507.out hb
   replace BK508 := bkB BK508.out hb
   replace BK516 := bkB BK516.out hb
   replace BK530 := bkB BK530.out hb
   replace HB := bsB HB.out hb
   (try clear hb)
   refine hK.out _ _ (by repeat' (first | apply And.intro | exact (blk_cell BK506.out _).trans rfl | exact (blk_cell BK507.out _).trans rfl)) (fun hHeld => ?_)
   clear hK K
   refine normA (some 25) ?_
   refine pureA HT_ (i := 5) (N := some 20) (bA 11 319) ?_
   refine pureA HT_ (i := 6) (N := some 26) (bA 11 383) ?_
   refine pureA HT_ (i := 7) (N := some 27) (bA 11 511) ?_
   exact norm_ (by simp only [putAll, Act.put, List.setIfInBounds_toArray, List.set_cons_zero, List.set_cons_succ]) (hCont (gb530) _ ⟨hHeld, (by exact bfL BK506.out), (by exact bfL BK507.out), (by exact bfL BK508.out), (by exact bfL BK516.out), (by exact bfL BK530.out), GW530.out, GE530.out, NB506_530.out, NB530_506.out, NB507_530.out, NB530_507.out, NB508_530.out, NB530_508.out, NB516_530.out, NB530_516.out, (by repeat (first | (with_reducible first | exact HB.out | apply below_alloc | apply pw_below_drewN | apply below_drew1 | refine below_set ?_ GE506.out | refine below_set ?_ GE507.out | refine below_set ?_ GE508.out | refine below_set ?_ GE516.out | refine below_set ?_ GE530.out) | exact HB.out))⟩)
 rintro gb530 w28 ⟨hS_, h0_, h1_, h2_, h3_, h4_, h5_, h6_, h7_, h8_, h9_, h10_, h11_, h12_, h13_, h14_, h15_⟩
 have n0_ : Aside0 (w28.heap[gb506]? = some (.cells #[.int .u64 a1_0, .int .u64 a1_1, .int .u64 a1_2, .int .u64 a1_3, .int .i64 a1_4, .int .i64 a1_5] 50 (0, 0))) := ⟨h0_⟩
 have n1_ : Aside0 (w28.heap[gb507]? = some (.cells #[.int .u64 a2_0, .int .u64 a2_1, .int .u64 a2_2, .int .u64 a2_3, .int .i64 a2_4, .int .i64 a2_5] 50 (0, 0))) := ⟨h1_⟩
 have n2_ : Aside0 (w28.heap[gb508]? = some (.cells #[.int .u64 0, .int .u64 0, .int .u64 0, .int .u64 0, .int .i64 0, .int .i64 0] 50 (0, 0))) := ⟨h2_⟩
 have n3_ : Aside0 (w28.heap[gb516]? = some (.cells #[.int .u64 t513, .int .u64 t514] 110 (0, 0))) := ⟨h3_⟩
 have n4_ : Aside0 (w28.heap[gb530]? = some (.cells #[.int .u64 0, .int .u64 0, .int .i64 0, .int .i64 0] 30 (0, 0))) := ⟨h4_⟩
 have n5_ : Aside0 (w.heap.size ≤ gb530) := ⟨h5_⟩
 have n6_ : Aside0 (w.heap.size ≤ gb530) := ⟨h6_⟩
 have n7_ : Aside0 (gb506 ≠ gb530) := ⟨h7_⟩
 have n8_ : Aside0 (gb530 ≠ gb506) := ⟨h8_⟩
 have n9_ : Aside0 (gb507 ≠ gb530) := ⟨h9_⟩
 have n10_ : Aside0 (gb530 ≠ gb507) := ⟨h10_⟩
 have n11_ : Aside0 (gb508 ≠ gb530) := ⟨h11_⟩
 have n12_ : Aside0 (gb530 ≠ gb508) := ⟨h12_⟩
 have n13_ : Aside0 (gb516 ≠ gb530) := ⟨h13_⟩
 have n14_ : Aside0 (gb530 ≠ gb516) := ⟨h14_⟩
 have n15_ : Aside0 (Below w.heap.size w w28) := ⟨h15_⟩
 clear BK506
 clear BK507
 clear BK508
 clear BK516
 clear HB
 clear h0_ h1_ h2_ h3_ h4_ h5_ h6_ h7_ h8_ h9_ h10_ h11_ h12_ h13_ h14_ h15_
 have BK506 := n0_
 have BK507 := n1_
 have BK508 := n2_
 have BK516 := n3_
 have BK530 := n4_
 have GW530 := n5_
 have GE530 := n6_
 have NB506_530 := n7_
 have NB530_506 := n8_
 have NB507_530 := n9_
 have NB530_507 := n10_
 have NB508_530 := n11_
 have NB530_508 := n12_
 have NB516_530 := n13_
 have NB530_516 := n14_
 have HB := n15_
 clear n0_ n1_ n2_ n3_ n4_ n5_ n6_ n7_ n8_ n9_ n10_ n11_ n12_ n13_ n14_ n15_
 have hHeld : w28.cell? ⟨gb506, 0, none⟩ = some (.int .u64 a1_0) ∧ w28.cell? ⟨gb506, 1, none⟩ = some (.int .u64 a1_1) ∧ w28.cell? ⟨gb506, 2, none⟩ = some (.int .u64 a1_2) ∧ w28.cell? ⟨gb506, 3, none⟩ = some (.int .u64 a1_3) ∧ w28.cell? ⟨gb506, 4, none⟩ = some (.int .i64 a1_4) ∧ w28.cell? ⟨gb506, 5, none⟩ = some (.int .i64 a1_5) ∧ w28.cell? ⟨gb507, 0, none⟩ = some (.int .u64 a2_0) ∧ w28.cell? ⟨gb507, 1, none⟩ = some (.int .u64 a2_1) ∧ w28.cell? ⟨gb507, 2, none⟩ = some (.int .u64 a2_2) ∧ w28.cell? ⟨gb507, 3, none⟩ = some (.int .u64 a2_3) ∧ w28.cell? ⟨gb507, 4, none⟩ = some (.int .i64 a2_4) ∧ w28.cell? ⟨gb507, 5, none⟩ = some (.int .i64 a2_5) := hS_
 refine norm_ (a' := ?_) ?_ ?_
 rotate_left
 ·
  simp only [putAll, Act.put, List.setIfInBounds_toArray, List.set_cons_zero, List.set_cons_succ]
  rfl
 refine one_ (i := 9) (N := none) (bA 11 1023) rfl rfl (one_of HT_.out (by kernel_rfl)) (by decide) (fun K hK => ?_)
 have hs29 : w28.cell? ⟨gb530, 0, none⟩ = some (.int .u64 0) := (blk_cell BK530.out 0).trans rfl
 have hfs29 := blk_frozen BK530.out 0
 have hns29_0 := NB506_530.out
 have hns29_1 := NB507_530.out
 have hns29_2 := NB508_530.out
 have hns29_3 := NB516_530.out
 have hms29_0 := NB530_506.out
 have hms29_1 := NB530_507.out
 have hms29_2 := NB530_508.out
 have hms29_3 := NB530_516.out
 have hs30 : w28.cell? ⟨gb530, 1, none⟩ = some (.int .u64 0) := (blk_cell BK530.out 1).trans rfl
 have hfs30 := blk_frozen BK530.out 1
 have hns30_0 := NB506_530.out
 have hns30_1 := NB507_530.out
 have hns30_2 := NB508_530.out
 have hns30_3 := NB516_530.out
 have hms30_0 := NB530_506.out
 have hms30_1 := NB530_507.out
 have hms30_2 := NB530_508.out
 have hms30_3 := NB530_516.out
 have hs31 : w28.cell? ⟨gb530, 2, none⟩ = some (.int .i64 0) := (blk_cell BK530.out 2).trans rfl
 have hfs31 := blk_frozen BK530.out 2
 have hns31_0 := NB506_530.out
 have hns31_1 := NB507_530.out
 have hns31_2 := NB508_530.out
 have hns31_3 := NB516_530.out
 have hms31_0 := NB530_506.out
 have hms31_1 := NB530_507.out
 have hms31_2 := NB530_508.out
 have hms31_3 := NB530_516.out
 have hs32 : w28.cell? ⟨gb530, 3, none⟩ = some (.int .i64 0) := (blk_cell BK530.out 3).trans rfl
 have hfs32 := blk_frozen BK530.out 3
 have hns32_0 := NB506_530.out
 have hns32_1 := NB507_530.out
 have hns32_2 := NB508_530.out
 have hns32_3 := NB516_530.out
 have hms32_0 := NB530_506.out
 have hms32_1 := NB530_507.out
 have hms32_2 := NB530_508.out
 have hms32_3 := NB530_516.out
 refine skip_ (w1 := ?_) (by rfl) rfl ?_ ?_
 rotate_left
 ·
  go_simp
  rfl
 refine hK.out _ _ ⟨((cell_far (p := ⟨gb530, _, none⟩) NB506_530.out _).trans (((cell_far (p := ⟨gb530, _, none⟩) NB506_530.out _).trans (((cell_far (p := ⟨gb530, _, none⟩) NB506_530.out _).trans (((cell_far (p := ⟨gb530, _, none⟩) NB506_530.out _).trans (hHeld.1)))))))), ((cell_far (p := ⟨gb530, _, none⟩) NB506_530.out _).trans (((cell_far (p := ⟨gb530, _, none⟩) NB506_530.out _).trans (((cell_far (p := ⟨gb530, _, none⟩) NB506_530.out _).trans (((cell_far (p := ⟨gb530, _, none⟩) NB506_530.out _).trans (hHeld.2.1)))))))), ((cell_far (p := ⟨gb530, _, none⟩) NB506_530.out _).trans (((cell_far (p := ⟨gb530, _, none⟩) NB506_530.out _).trans (((cell_far (p := ⟨gb530, _, none⟩) NB506_530.out _).trans (((cell_far (p := ⟨gb530, _, none⟩) NB506_530.out _).trans (hHeld.2.2.1)))))))), ((cell_far (p := ⟨gb530, _, none⟩) NB506_530.out _).trans (((cell_far (p := ⟨gb530, _, none⟩) NB506_530.out _).trans (((cell_far (p := ⟨gb530, _, none⟩) NB506_530.out _).trans (((cell_far (p := ⟨gb530, _, none⟩) NB506_530.out _).trans (hHeld.2.2.2.1)))))))), ((cell_far (p := ⟨gb530, _, none⟩) NB506_530.out _).trans (((cell_far (p := ⟨gb530, _, none⟩) NB506_530.out _).trans (((cell_far (p := ⟨gb530, _, none⟩) NB506_530.out _).trans (((cell_far (p := ⟨gb530, _, none⟩) NB506_530.out _).trans (hHeld.2.2.2.2.1)))))))), ((cell_far (p := ⟨gb530, _, none⟩) NB506_530.out _).trans (((cell_far (p := ⟨gb530, _, none⟩) NB506_530.out _).trans (((cell_far (p := ⟨gb530, _, none⟩) NB506_530.out _).trans (((cell_far (p := ⟨gb530, _, none⟩) NB506_530.out _).trans (hHeld.2.2.2.2.2.1)))))))), ((cell_far (p := ⟨gb530, _, none⟩) NB507_530.out _).trans (((cell_far (p := ⟨gb530, _, none⟩) NB507_530.out _).trans (((cell_far (p := ⟨gb530, _, none⟩) NB507_530.out _).trans (((cell_far (p := ⟨gb530, _, none⟩) NB507_530.out _).trans (hHeld.2.2.2.2.2.2.1)))))))), ((cell_far (p := ⟨gb530, _, none⟩) NB507_530.out _).trans (((cell_far (p := ⟨gb530, _, none⟩) NB507_530.out _).trans (((cell_far (p := ⟨gb530, _, none⟩) NB507_530.out _).trans (((cell_far (p := ⟨gb530, _, none⟩) NB507_530.out _).trans (hHeld.2.2.2.2.2.2.2.1)))))))), ((cell_far (p := ⟨gb530, _, none⟩) NB507_530.out _).trans (((cell_far (p := ⟨gb530, _, none⟩) NB507_530.out _).trans (((cell_far (p := ⟨gb530, _, none⟩) NB507_530.out _).trans (((cell_far (p := ⟨gb530, _, none⟩) NB507_530.out _).trans (hHeld.2.2.2.2.2.2.2.2.1)))))))), ((cell_far (p := ⟨gb530, _, none⟩) NB507_530.out _).trans (((cell_far (p := ⟨gb530, _, none⟩) NB507_530.out _).trans (((cell_far (p := ⟨gb530, _, none⟩) NB507_530.out _).trans (((cell_far (p := ⟨gb530, _, none⟩) NB507_530.out _).trans (hHeld.2.2.2.2.2.2.2.2.2.1)))))))), ((cell_far (p := ⟨gb530, _, none⟩) NB507_530.out _).trans (((cell_far (p := ⟨gb530, _, none⟩) NB507_530.out _).trans (((cell_far (p := ⟨gb530, _, none⟩) NB507_530.out _).trans (((cell_far (p := ⟨gb530, _, none⟩) NB507_530.out _).trans (hHeld.2.2.2.2.2.2.2.2.2.2.1)))))))), ((cell_far (p := ⟨gb530, _, none⟩) NB507_530.out _).trans (((cell_far (p := ⟨gb530, _, none⟩) NB507_530.out _).trans (((cell_far (p := ⟨gb530, _, none⟩) NB507_530.out _).trans (((cell_far (p := ⟨gb530, _, none⟩) NB507_530.out _).trans (hHeld.2.2.2.2.2.2.2.2.2.2.2))))))))⟩ (fun hHeld => ?_)
 clear hK K
 refine pureA HT_ (i := 10) (N := some 11) (bA 11 2047) ?_
 refine done_ (done_of HT_.out (by kernel_rfl)) ?_
 go_upto_region 3 with (fail)
 go_cut [33] (fun v33 wc => ∃ (kq : Nat) (x33_9 : Bool), v33 = .bool x33_9 ∧ Aside0 (facts_Meet.j0 kq a0 x33_9 t513 t514 t525 t526 t527 t528 = some (r1, r2, r3, r4, r5, r6, r7)) ∧ Aside0 (kq ≤ k) ∧ Aside0 (wc.heap[gb506]? = some (.cells #[.int .u64 a1_0, .int .u64 a1_1, .int .u64 a1_2, .int .u64 a1_3, .int .i64 a1_4, .int .i64 a1_5] 50 (0, 0))) ∧ Aside0 (wc.heap[gb507]? = some (.cells #[.int .u64 a2_0, .int .u64 a2_1, .int .u64 a2_2, .int .u64 a2_3, .int .i64 a2_4, .int .i64 a2_5] 50 (0, 0))) ∧ Aside0 (wc.heap[gb508]? = some (.cells #[.int .u64 0, .int .u64 0, .int .u64 0, .int .u64 0, .int .i64 0, .int .i64 0] 50 (0, 0))) ∧ Aside0 (wc.heap[gb516]? = some (.cells #[.int .u64 t513, .int .u64 t514] 110 (0, 0))) ∧ Aside0 (wc.heap[gb530]? = some (.cells #[.int .u64 t525, .int .u64 t526, .int .i64 t527, .int .i64 t528] 30 (0, 0))) ∧ Aside0 (Below w.heap.size w wc))
 case first =>
  have H := HC10.out
  clear HC10
  by_cases c33 : t515 = true
  ·
   subst c33
   have H1 : (facts_Meet.j0 k a0 (!t529) t513 t514 t525 t526 t527 t528) = some (r1, r2, r3, r4, r5, r6, r7) := by rw [if_pos rfl] at H; exact H
   clear H
   have H := H1
   clear H1
   have H' := Aside0.mk H
   clear H
   go_wp2
   go_meet
   case rel => exact ⟨_, (!t529), (by first | rfl | (simp; done) | (simp [*]; done)), H', ⟨by first | omega | exact Nat.le_refl _⟩, ⟨by exact bfL BK506.out⟩, ⟨by exact bfL BK507.out⟩, ⟨by exact bfL BK508.out⟩, ⟨by exact bfL BK516.out⟩, ⟨by (with_reducible repeat (first | refine blk_drewN ?_ _ | refine blk_drew ?_ | refine blk_alloc ?_ _)); refine blk_put (cs := #[.int .u64 t525, .int .u64 t526, .int .i64 t527, .int .i64 0]) ?_ 3 _ rfl; (with_reducible repeat (first | refine blk_drewN ?_ _ | refine blk_drew ?_ | refine blk_alloc ?_ _)); refine blk_put (cs := #[.int .u64 t525, .int .u64 t526, .int .i64 0, .int .i64 0]) ?_ 2 _ rfl; (with_reducible repeat (first | refine blk_drewN ?_ _ | refine blk_drew ?_ | refine blk_alloc ?_ _)); refine blk_put (cs := #[.int .u64 t525, .int .u64 0, .int .i64 0, .int .i64 0]) ?_ 1 _ rfl; (with_reducible repeat (first | refine blk_drewN ?_ _ | refine blk_drew ?_ | refine blk_alloc ?_ _)); refine blk_put (cs := #[.int .u64 0, .int .u64 0, .int .i64 0, .int .i64 0]) ?_ 0 _ rfl; exact bfL BK530.out⟩, ⟨bsL HB.out⟩⟩
  ·
   replace c33 := Bool.eq_false_iff.mpr c33
   subst c33
   have H1 : (facts_Meet.j0 k a0 true t513 t514 t525 t526 t527 t528) = some (r1, r2, r3, r4, r5, r6, r7) := by rw [if_neg (show ¬ (false = true) by decide)] at H; exact H
   clear H
   have H := H1
   clear H1
   have H' := Aside0.mk H
   clear H
   go_wp2
   go_meet
   case rel => exact ⟨_, (true), (by first | rfl | (simp; done) | (simp [*]; done)), H', ⟨by first | omega | exact Nat.le_refl _⟩, ⟨by exact bfL BK506.out⟩, ⟨by exact bfL BK507.out⟩, ⟨by exact bfL BK508.out⟩, ⟨by exact bfL BK516.out⟩, ⟨by (with_reducible repeat (first | refine blk_drewN ?_ _ | refine blk_drew ?_ | refine blk_alloc ?_ _)); refine blk_put (cs := #[.int .u64 t525, .int .u64 t526, .int .i64 t527, .int .i64 0]) ?_ 3 _ rfl; (with_reducible repeat (first | refine blk_drewN ?_ _ | refine blk_drew ?_ | refine blk_alloc ?_ _)); refine blk_put (cs := #[.int .u64 t525, .int .u64 t526, .int .i64 0, .int .i64 0]) ?_ 2 _ rfl; (with_reducible repeat (first | refine blk_drewN ?_ _ | refine blk_drew ?_ | refine blk_alloc ?_ _)); refine blk_put (cs := #[.int .u64 t525, .int .u64 0, .int .i64 0, .int .i64 0]) ?_ 1 _ rfl; (with_reducible repeat (first | refine blk_drewN ?_ _ | refine blk_drew ?_ | refine blk_alloc ?_ _)); refine blk_put (cs := #[.int .u64 0, .int .u64 0, .int .i64 0, .int .i64 0]) ?_ 0 _ rfl; exact bfL BK530.out⟩, ⟨bsL HB.out⟩⟩
 case rest =>
  clear HC10
  try clear p2
  try clear c3
  try clear c7
  try clear c9
  try clear c33
  obtain ⟨kq, x33_9, rfl, HA, HJ9, BK506, BK507, BK508, BK516, BK530, HB⟩ := hcut
  cases kq with
  | zero => exact absurd HA.out (by simp [facts_Meet.j0])
  | succ kj9 =>
   have H := HA.out
   clear HA
   simp only [facts_Meet.j0] at H
   by_cases c34 : x33_9 = true
   ·
    subst c34
    have H1 : (some (0, 0, 0, 0, 0, 0, false)) = some (r1, r2, r3, r4, r5, r6, r7) := by rw [if_pos rfl] at H; exact H
    clear H
    have H := H1
    clear H1
    simp only [Option.some.injEq, Prod.mk.injEq] at H
    obtain ⟨rfl, rfl, rfl, rfl, rfl, rfl, rfl⟩ := H
    have hnb35 := NB508_506.out
    have hnc35 := NB506_508.out
    have hnb36 := NB508_507.out
    have hnc36 := NB507_508.out
    have hnb37 := NB508_516.out
    have hnc37 := NB516_508.out
    have hnb38 := NB508_530.out
    have hnc38 := NB530_508.out
    obtain ⟨hcz39_0, hcz39_1, hcz39_2, hcz39_3, hcz39_4, hcz39_5, hfz39_0, hfz39_1, hfz39_2, hfz39_3, hfz39_4, hfz39_5⟩ := own6 BK508.out
    go_wp2
    refine bodyPost_ret (results_ct rfl _ _ gb508 50 #[.int .u64 0, .int .u64 0, .int .u64 0, .int .u64 0, .int .i64 0, .int .i64 0] (0, 0) _ rfl (by (with_reducible repeat (first | refine blk_drewN ?_ _ | refine blk_drew ?_ | refine blk_alloc ?_ _)); refine blk_put (cs := #[.int .u64 0, .int .u64 0, .int .u64 0, .int .u64 0, .int .i64 0, .int .i64 0]) ?_ 5 _ rfl; (with_reducible repeat (first | refine blk_drewN ?_ _ | refine blk_drew ?_ | refine blk_alloc ?_ _)); refine blk_put (cs := #[.int .u64 0, .int .u64 0, .int .u64 0, .int .u64 0, .int .i64 0, .int .i64 0]) ?_ 4 _ rfl; (with_reducible repeat (first | refine blk_drewN ?_ _ | refine blk_drew ?_ | refine blk_alloc ?_ _)); refine blk_put (cs := #[.int .u64 0, .int .u64 0, .int .u64 0, .int .u64 0, .int .i64 0, .int .i64 0]) ?_ 3 _ rfl; (with_reducible repeat (first | refine blk_drewN ?_ _ | refine blk_drew ?_ | refine blk_alloc ?_ _)); refine blk_put (cs := #[.int .u64 0, .int .u64 0, .int .u64 0, .int .u64 0, .int .i64 0, .int .i64 0]) ?_ 2 _ rfl; (with_reducible repeat (first | refine blk_drewN ?_ _ | refine blk_drew ?_ | refine blk_alloc ?_ _)); refine blk_put (cs := #[.int .u64 0, .int .u64 0, .int .u64 0, .int .u64 0, .int .i64 0, .int .i64 0]) ?_ 1 _ rfl; (with_reducible repeat (first | refine blk_drewN ?_ _ | refine blk_drew ?_ | refine blk_alloc ?_ _)); refine blk_put (cs := #[.int .u64 0, .int .u64 0, .int .u64 0, .int .u64 0, .int .i64 0, .int .i64 0]) ?_ 0 _ rfl; exact bfL BK508.out) Try.underlying50 rfl (by kernel_rfl)) rfl ?_
    exact ⟨by first | rfl | (simp [errW_none, errW_some] <;> rfl) | (simp [*, errW_none, errW_some] <;> rfl), bsL HB.out⟩
   ·
    replace c34 := Bool.eq_false_iff.mpr c34
    subst c34
    have H1 : ((facts_fact.f t513 t514 t525 t526 t527 t528).bind fun bt531 => ((facts_Tighten.f kj9 a0 bt531.1 bt531.2.1 bt531.2.2.1 bt531.2.2.2.1 bt531.2.2.2.2.1 bt531.2.2.2.2.2).bind fun bt537 => (some (bt537.1, bt537.2.1, bt537.2.2.1, bt537.2.2.2.1, bt537.2.2.2.2.1, bt537.2.2.2.2.2.1, bt537.2.2.2.2.2.2)))) = some (r1, r2, r3, r4, r5, r6, r7) := by rw [if_neg (show ¬ (false = true) by decide)] at H; exact H
    clear H
    have H := H1
    clear H1
    replace H := Option.bind_eq_some_iff.mp H
    obtain ⟨⟨t531, t532, t533, t534, t535, t536⟩, A400, H⟩ := H
    replace H : ((facts_Tighten.f kj9 a0 t531 t532 t533 t534 t535 t536).bind fun bt537 => (some (bt537.1, bt537.2.1, bt537.2.2.1, bt537.2.2.2.1, bt537.2.2.2.2.1, bt537.2.2.2.2.2.1, bt537.2.2.2.2.2.2))) = some (r1, r2, r3, r4, r5, r6, r7) := H
    have A40 := Aside0.mk A400
    clear A400
    replace H := Option.bind_eq_some_iff.mp H
    obtain ⟨⟨t537, t538, t539, t540, t541, t542, t543⟩, A410, H⟩ := H
    replace H : (some (t537, t538, t539, t540, t541, t542, t543)) = some (r1, r2, r3, r4, r5, r6, r7) := H
    have A41 := Aside0.mk A410
    clear A410
    simp only [Option.some.injEq, Prod.mk.injEq] at H
    obtain ⟨rfl, rfl, rfl, rfl, rfl, rfl, rfl⟩ := H
    have hnb42 := NB516_506.out
    have hnc42 := NB506_516.out
    have hnb43 := NB516_507.out
    have hnc43 := NB507_516.out
    have hnb44 := NB516_508.out
    have hnc44 := NB508_516.out
    have hnb45 := NB516_530.out
    have hnc45 := NB530_516.out
    obtain ⟨hcz46_0, hcz46_1, hfz46_0, hfz46_1⟩ := own2 BK516.out
    have hnb47 := NB530_506.out
    have hnc47 := NB506_530.out
    have hnb48 := NB530_507.out
    have hnc48 := NB507_530.out
    have hnb49 := NB530_508.out
    have hnc49 := NB508_530.out
    obtain ⟨hcz50_0, hcz50_1, hcz50_2, hcz50_3, hfz50_0, hfz50_1, hfz50_2, hfz50_3⟩ := own4 BK530.out
    go_wp2_with (first | ((with_reducible refine gate_callee (f := 78) rfl ?_); refine gL (some 38) Try.func78 #[.agg #[.int .u64 t513, .int .u64 t514], .agg #[.int .u64 t525, .int .u64 t526, .int .i64 t527, .int .i64 t528]] ?_; (with_reducible refine (facts_fact.calls t513 t514 t525 t526 t527 t528 t531 t532 t533 t534 t535 t536 _ A40.out).mono ?_); rintro e w51 ⟨rfl, hb⟩; refine ⟨_, rfl, ?_⟩; replace BK506 := bkB BK506.out hb; replace BK507 := bkB BK507.out hb; replace BK508 := bkB BK508.out hb; replace BK516 := bkB BK516.out hb; replace BK530 := bkB BK530.out hb; replace HB := bsB HB.out hb; (try clear hb)) | ((with_reducible refine gate_callee (f := 25) rfl ?_); refine gL (some 39) Try.func25 #[.int .i64 a0, .agg #[.int .u64 t531, .int .u64 t532, .int .u64 t533, .int .u64 t534, .int .i64 t535, .int .i64 t536]] ?_; (with_reducible refine (facts_Tighten.calls kj9 a0 t531 t532 t533 t534 t535 t536 t537 t538 t539 t540 t541 t542 t543 _ A41.out).mono ?_); rintro e w52 ⟨rfl, hb⟩; refine ⟨_, rfl, ?_⟩; replace BK506 := bkB BK506.out hb; replace BK507 := bkB BK507.out hb; replace BK508 := bkB BK508.out hb; replace BK516 := bkB BK516.out hb; replace BK530 := bkB BK530.out hb; replace HB := bsB HB.out hb; (try clear hb); (try clear hb2); (try clear hk); (try clear hi); have hnb53 := NB508_506.out; have hnc53 := NB506_508.out; have hnb54 := NB508_507.out; have hnc54 := NB507_508.out; obtain ⟨hcz55_0, hcz55_1, hcz55_2, hcz55_3, hcz55_4, hcz55_5, hfz55_0, hfz55_1, hfz55_2, hfz55_3, hfz55_4, hfz55_5⟩ := own6 BK508.out))
    refine bodyPost_ret (results_ct rfl _ _ gb508 50 #[.int .u64 t537, .int .u64 t538, .int .u64 t539, .int .u64 t540, .int .i64 t541, .int .i64 t542] (0, 0) _ rfl (by (with_reducible repeat (first | refine blk_drewN ?_ _ | refine blk_drew ?_ | refine blk_alloc ?_ _)); refine blk_put (cs := #[.int .u64 t537, .int .u64 t538, .int .u64 t539, .int .u64 t540, .int .i64 t541, .int .i64 0]) ?_ 5 _ rfl; (with_reducible repeat (first | refine blk_drewN ?_ _ | refine blk_drew ?_ | refine blk_alloc ?_ _)); refine blk_put (cs := #[.int .u64 t537, .int .u64 t538, .int .u64 t539, .int .u64 t540, .int .i64 0, .int .i64 0]) ?_ 4 _ rfl; (with_reducible repeat (first | refine blk_drewN ?_ _ | refine blk_drew ?_ | refine blk_alloc ?_ _)); refine blk_put (cs := #[.int .u64 t537, .int .u64 t538, .int .u64 t539, .int .u64 0, .int .i64 0, .int .i64 0]) ?_ 3 _ rfl; (with_reducible repeat (first | refine blk_drewN ?_ _ | refine blk_drew ?_ | refine blk_alloc ?_ _)); refine blk_put (cs := #[.int .u64 t537, .int .u64 t538, .int .u64 0, .int .u64 0, .int .i64 0, .int .i64 0]) ?_ 2 _ rfl; (with_reducible repeat (first | refine blk_drewN ?_ _ | refine blk_drew ?_ | refine blk_alloc ?_ _)); refine blk_put (cs := #[.int .u64 t537, .int .u64 0, .int .u64 0, .int .u64 0, .int .i64 0, .int .i64 0]) ?_ 1 _ rfl; (with_reducible repeat (first | refine blk_drewN ?_ _ | refine blk_drew ?_ | refine blk_alloc ?_ _)); refine blk_put (cs := #[.int .u64 0, .int .u64 0, .int .u64 0, .int .u64 0, .int .i64 0, .int .i64 0]) ?_ 0 _ rfl; exact bfL BK508.out) Try.underlying50 rfl (by kernel_rfl)) rfl ?_
    exact ⟨by first | rfl | (simp [errW_none, errW_some] <;> rfl) | (simp [*, errW_none, errW_some] <;> rfl), bsL HB.out⟩

/-! ### jacquardref13_Meet: function 100 -/
def jacquardref13_Meet.f (a0_0 : Int) (a0_1 : Int) (a0_2 : Int) (a0_3 : Int) (a1_0 : Int) (a1_1 : Int) (a1_2 : Int) (a1_3 : Int) : Option (Int × Int × Int × Int × Bool) := if (mx a0_0 a1_0) > (mn a0_1 a1_1) then (some (0, 0, 0, 0, false)) else (if (mx a0_2 a1_2) > (mn a0_3 a1_3) then (some (0, 0, 0, 0, false)) else (some (mx a0_0 a1_0, mn a0_1 a1_1, mx a0_2 a1_2, mn a0_3 a1_3, true)))
set_option maxHeartbeats 8000000 in
set_option maxRecDepth 100000 in
theorem jacquardref13_Meet.calls (a0_0 : Int) (a0_1 : Int) (a0_2 : Int) (a0_3 : Int) (a1_0 : Int) (a1_1 : Int) (a1_2 : Int) (a1_3 : Int) (r1 : Int) (r2 : Int) (r3 : Int) (r4 : Int) (r5 : Bool) (w : World) (h : jacquardref13_Meet.f a0_0 a0_1 a0_2 a0_3 a1_0 a1_1 a1_2 a1_3 = some (r1, r2, r3, r4, r5)) :
  Calls Try.prog 100 #[.agg #[.int .u64 a0_0, .int .u64 a0_1, .int .i64 a0_2, .int .i64 a0_3], .agg #[.int .u64 a1_0, .int .u64 a1_1, .int .i64 a1_2, .int .i64 a1_3]] w fun e w' => e = .returned (.tuple #[.agg #[.int .u64 r1, .int .u64 r2, .int .i64 r3, .int .i64 r4], .bool r5]) ∧ Below w.heap.size w w' := by
 have hu30 := Try.underlying30
 have HB := Aside0.mk (Below.refl w.heap.size w)
 have H : (if (mx a0_0 a1_0) > (mn a0_1 a1_1) then (some (0, 0, 0, 0, false)) else (if (mx a0_2 a1_2) > (mn a0_3 a1_3) then (some (0, 0, 0, 0, false)) else (some (mx a0_0 a1_0, mn a0_1 a1_1, mx a0_2 a1_2, mn a0_3 a1_3, true)))) = some (r1, r2, r3, r4, r5) := h
 clear h
 obtain ⟨ji3, hji3⟩ : ∃ j_ : Int, (mx a0_0 a1_0) = j_ := ⟨_, rfl⟩
 replace H : (if (ji3) > (mn a0_1 a1_1) then (some (0, 0, 0, 0, false)) else (if (mx a0_2 a1_2) > (mn a0_3 a1_3) then (some (0, 0, 0, 0, false)) else (some (ji3, mn a0_1 a1_1, mx a0_2 a1_2, mn a0_3 a1_3, true)))) = some (r1, r2, r3, r4, r5) := by first | (rw [hji3] at H; exact H) | (simp only [hji3] at H ⊢; exact H)
 have hji3_ : (if a0_0 < a1_0 then a1_0 else a0_0) = ji3 := hji3
 obtain ⟨ji4, hji4⟩ : ∃ j_ : Int, (mn a0_1 a1_1) = j_ := ⟨_, rfl⟩
 replace H : (if (ji3) > (ji4) then (some (0, 0, 0, 0, false)) else (if (mx a0_2 a1_2) > (mn a0_3 a1_3) then (some (0, 0, 0, 0, false)) else (some (ji3, ji4, mx a0_2 a1_2, mn a0_3 a1_3, true)))) = some (r1, r2, r3, r4, r5) := by first | (rw [hji4] at H; exact H) | (simp only [hji4] at H ⊢; exact H)
 have hji4_ : (if a1_1 < a0_1 then a1_1 else a0_1) = ji4 := hji4
 obtain ⟨ji5, hji5⟩ : ∃ j_ : Int, (mx a0_2 a1_2) = j_ := ⟨_, rfl⟩
 replace H : (if (ji3) > (ji4) then (some (0, 0, 0, 0, false)) else (if (ji5) > (mn a0_3 a1_3) then (some (0, 0, 0, 0, false)) else (some (ji3, ji4, ji5, mn a0_3 a1_3, true)))) = some (r1, r2, r3, r4, r5) := by first | (rw [hji5] at H; exact H) | (simp only [hji5] at H ⊢; exact H)
 have hji5_ : (if a0_2 < a1_2 then a1_2 else a0_2) = ji5 := hji5
 obtain ⟨ji6, hji6⟩ : ∃ j_ : Int, (mn a0_3 a1_3) = j_ := ⟨_, rfl⟩
 replace H : (if (ji3) > (ji4) then (some (0, 0, 0, 0, false)) else (if (ji5) > (ji6) then (some (0, 0, 0, 0, false)) else (some (ji3, ji4, ji5, ji6, true)))) = some (r1, r2, r3, r4, r5) := by first | (rw [hji6] at H; exact H) | (simp only [hji6] at H ⊢; exact H)
 have hji6_ : (if a1_3 < a0_3 then a1_3 else a0_3) = ji6 := hji6
 by_cases c7 : (ji3) > (ji4)
 ·
  rw [if_pos c7] at H
  have c7b0 : decide ((ji4) < (ji3)) = true := decide_eq_true c7
  clear c7
  simp only [Option.some.injEq, Prod.mk.injEq] at H
  obtain ⟨rfl, rfl, rfl, rfl, rfl⟩ := H
  go_enter Try.func100, Try.ntmps100
  go_wp2_with (first | ((with_reducible refine gate_dst (N := 2) rfl ?_); refine boxE (N := 2) (cs := #[.int .u64 a0_0, .int .u64 a0_1, .int .i64 a0_2, .int .i64 a0_3]) (t := 30) ?_; intro gb544 hg w8 hbox hb; have BK544 := Aside0.mk (hbox); have GW544 := szB hg HB.out; have GE544 := szB hg HB.out; replace HB := bsB HB.out hb; clear hb hbox hg) | ((with_reducible refine gate_dst (N := 3) rfl ?_); refine boxE (N := 3) (cs := #[.int .u64 a1_0, .int .u64 a1_1, .int .i64 a1_2, .int .i64 a1_3]) (t := 30) ?_; intro gb545 hg w9 hbox hb; have BK545 := Aside0.mk (hbox); have GW545 := szB hg HB.out; have GE545 := szB hg HB.out; have NB544_545 := neL hg BK544.out; have NB545_544 := neG hg BK544.out; replace BK544 := bkB BK544.out hb; replace HB := bsB HB.out hb; clear hb hbox hg) | ((with_reducible refine gate_dst (N := 4) rfl ?_); refine boxE (N := 4) (cs := #[.int .u64 0, .int .u64 0, .int .i64 0, .int .i64 0]) (t := 30) ?_; intro gb546 hg w10 hbox hb; have BK546 := Aside0.mk (hbox); have GW546 := szB hg HB.out; have GE546 := szB hg HB.out; have NB544_546 := neL hg BK544.out; have NB546_544 := neG hg BK544.out; have NB545_546 := neL hg BK545.out; have NB546_545 := neG hg BK545.out; replace BK544 := bkB BK544.out hb; replace BK545 := bkB BK545.out hb; replace HB := bsB HB.out hb; clear hb hbox hg; have hnb11 := NB544_545.out; have hnc11 := NB545_544.out; have hnb12 := NB544_546.out; have hnc12 := NB546_544.out; obtain ⟨hcz13_0, hcz13_1, hcz13_2, hcz13_3, hfz13_0, hfz13_1, hfz13_2, hfz13_3⟩ := own4 BK544.out; have hnb14 := NB545_546.out; have hnc14 := NB546_545.out; obtain ⟨hcz15_0, hcz15_1, hcz15_2, hcz15_3, hfz15_0, hfz15_1, hfz15_2, hfz15_3⟩ := own4 BK545.out) | ((with_reducible refine gate_dst (N := 6) rfl ?_); refine boxE (N := 6) (cs := #[.int .u64 0, .int .u64 0, .int .i64 0, .int .i64 0]) (t := 30) ?_; intro gb547 hg w16 hbox hb; have BK547 := Aside0.mk (hbox); have GW547 := szB hg HB.out; have GE547 := szB hg HB.out; have NB544_547 := neL hg BK544.out; have NB547_544 := neG hg BK544.out; have NB545_547 := neL hg BK545.out; have NB547_545 := neG hg BK545.out; have NB546_547 := neL hg BK546.out; have NB547_546 := neG hg BK546.out; replace BK544 := bkB BK544.out hb; replace BK545 := bkB BK545.out hb; replace BK546 := bkB BK546.out hb; replace HB := bsB HB.out hb; clear hb hbox hg; have hnb17 := NB547_544.out; have hnc17 := NB544_547.out; have hnb18 := NB547_545.out; have hnc18 := NB545_547.out; have hnb19 := NB547_546.out; have hnc19 := NB546_547.out; obtain ⟨hcz20_0, hcz20_1, hcz20_2, hcz20_3, hfz20_0, hfz20_1, hfz20_2, hfz20_3⟩ := own4 BK547.out; obtain ⟨hcz21_0, hcz21_1, hcz21_2, hcz21_3, hfz21_0, hfz21_1, hfz21_2, hfz21_3⟩ := own4 BK546.out))
  refine bodyPost_ret (results_ct rfl _ _ gb546 30 #[.int .u64 0, .int .u64 0, .int .i64 0, .int .i64 0] (0, 0) _ rfl (by (with_reducible repeat (first | refine blk_drewN ?_ _ | refine blk_drew ?_ | refine blk_alloc ?_ _)); refine blk_put (cs := #[.int .u64 0, .int .u64 0, .int .i64 0, .int .i64 0]) ?_ 3 _ rfl; (with_reducible repeat (first | refine blk_drewN ?_ _ | refine blk_drew ?_ | refine blk_alloc ?_ _)); refine blk_put (cs := #[.int .u64 0, .int .u64 0, .int .i64 0, .int .i64 0]) ?_ 2 _ rfl; (with_reducible repeat (first | refine blk_drewN ?_ _ | refine blk_drew ?_ | refine blk_alloc ?_ _)); refine blk_put (cs := #[.int .u64 0, .int .u64 0, .int .i64 0, .int .i64 0]) ?_ 1 _ rfl; (with_reducible repeat (first | refine blk_drewN ?_ _ | refine blk_drew ?_ | refine blk_alloc ?_ _)); refine blk_put (cs := #[.int .u64 0, .int .u64 0, .int .i64 0, .int .i64 0]) ?_ 0 _ rfl; exact bfL BK546.out) Try.underlying30 rfl (by kernel_rfl)) rfl ?_
  exact ⟨by first | rfl | (simp [errW_none, errW_some] <;> rfl) | (simp only [← hji3, ← hji4, ← hji5, ← hji6]; first | rfl | (simp [errW_none, errW_some] <;> rfl)) | (simp [*, errW_none, errW_some] <;> rfl), bsL HB.out⟩
 ·
  rw [if_neg c7] at H
  have c7b0 : decide ((ji4) < (ji3)) = false := decide_eq_false c7
  clear c7
  by_cases c22 : (ji5) > (ji6)
  ·
   rw [if_pos c22] at H
   have c22b0 : decide ((ji6) < (ji5)) = true := decide_eq_true c22
   clear c22
   simp only [Option.some.injEq, Prod.mk.injEq] at H
   obtain ⟨rfl, rfl, rfl, rfl, rfl⟩ := H
   go_enter Try.func100, Try.ntmps100
   go_wp2_with (first | ((with_reducible refine gate_dst (N := 2) rfl ?_); refine boxE (N := 2) (cs := #[.int .u64 a0_0, .int .u64 a0_1, .int .i64 a0_2, .int .i64 a0_3]) (t := 30) ?_; intro gb544 hg w23 hbox hb; have BK544 := Aside0.mk (hbox); have GW544 := szB hg HB.out; have GE544 := szB hg HB.out; replace HB := bsB HB.out hb; clear hb hbox hg) | ((with_reducible refine gate_dst (N := 3) rfl ?_); refine boxE (N := 3) (cs := #[.int .u64 a1_0, .int .u64 a1_1, .int .i64 a1_2, .int .i64 a1_3]) (t := 30) ?_; intro gb545 hg w24 hbox hb; have BK545 := Aside0.mk (hbox); have GW545 := szB hg HB.out; have GE545 := szB hg HB.out; have NB544_545 := neL hg BK544.out; have NB545_544 := neG hg BK544.out; replace BK544 := bkB BK544.out hb; replace HB := bsB HB.out hb; clear hb hbox hg) | ((with_reducible refine gate_dst (N := 4) rfl ?_); refine boxE (N := 4) (cs := #[.int .u64 0, .int .u64 0, .int .i64 0, .int .i64 0]) (t := 30) ?_; intro gb546 hg w25 hbox hb; have BK546 := Aside0.mk (hbox); have GW546 := szB hg HB.out; have GE546 := szB hg HB.out; have NB544_546 := neL hg BK544.out; have NB546_544 := neG hg BK544.out; have NB545_546 := neL hg BK545.out; have NB546_545 := neG hg BK545.out; replace BK544 := bkB BK544.out hb; replace BK545 := bkB BK545.out hb; replace HB := bsB HB.out hb; clear hb hbox hg; have hnb26 := NB544_545.out; have hnc26 := NB545_544.out; have hnb27 := NB544_546.out; have hnc27 := NB546_544.out; obtain ⟨hcz28_0, hcz28_1, hcz28_2, hcz28_3, hfz28_0, hfz28_1, hfz28_2, hfz28_3⟩ := own4 BK544.out; have hnb29 := NB545_546.out; have hnc29 := NB546_545.out; obtain ⟨hcz30_0, hcz30_1, hcz30_2, hcz30_3, hfz30_0, hfz30_1, hfz30_2, hfz30_3⟩ := own4 BK545.out) | ((with_reducible refine gate_dst (N := 6) rfl ?_); refine boxE (N := 6) (cs := #[.int .u64 0, .int .u64 0, .int .i64 0, .int .i64 0]) (t := 30) ?_; intro gb547 hg w31 hbox hb; have BK547 := Aside0.mk (hbox); have GW547 := szB hg HB.out; have GE547 := szB hg HB.out; have NB544_547 := neL hg BK544.out; have NB547_544 := neG hg BK544.out; have NB545_547 := neL hg BK545.out; have NB547_545 := neG hg BK545.out; have NB546_547 := neL hg BK546.out; have NB547_546 := neG hg BK546.out; replace BK544 := bkB BK544.out hb; replace BK545 := bkB BK545.out hb; replace BK546 := bkB BK546.out hb; replace HB := bsB HB.out hb; clear hb hbox hg; have hnb32 := NB547_544.out; have hnc32 := NB544_547.out; have hnb33 := NB547_545.out; have hnc33 := NB545_547.out; have hnb34 := NB547_546.out; have hnc34 := NB546_547.out; obtain ⟨hcz35_0, hcz35_1, hcz35_2, hcz35_3, hfz35_0, hfz35_1, hfz35_2, hfz35_3⟩ := own4 BK547.out; obtain ⟨hcz36_0, hcz36_1, hcz36_2, hcz36_3, hfz36_0, hfz36_1, hfz36_2, hfz36_3⟩ := own4 BK546.out))
   refine bodyPost_ret (results_ct rfl _ _ gb546 30 #[.int .u64 0, .int .u64 0, .int .i64 0, .int .i64 0] (0, 0) _ rfl (by (with_reducible repeat (first | refine blk_drewN ?_ _ | refine blk_drew ?_ | refine blk_alloc ?_ _)); refine blk_put (cs := #[.int .u64 0, .int .u64 0, .int .i64 0, .int .i64 0]) ?_ 3 _ rfl; (with_reducible repeat (first | refine blk_drewN ?_ _ | refine blk_drew ?_ | refine blk_alloc ?_ _)); refine blk_put (cs := #[.int .u64 0, .int .u64 0, .int .i64 0, .int .i64 0]) ?_ 2 _ rfl; (with_reducible repeat (first | refine blk_drewN ?_ _ | refine blk_drew ?_ | refine blk_alloc ?_ _)); refine blk_put (cs := #[.int .u64 0, .int .u64 0, .int .i64 0, .int .i64 0]) ?_ 1 _ rfl; (with_reducible repeat (first | refine blk_drewN ?_ _ | refine blk_drew ?_ | refine blk_alloc ?_ _)); refine blk_put (cs := #[.int .u64 0, .int .u64 0, .int .i64 0, .int .i64 0]) ?_ 0 _ rfl; exact bfL BK546.out) Try.underlying30 rfl (by kernel_rfl)) rfl ?_
   exact ⟨by first | rfl | (simp [errW_none, errW_some] <;> rfl) | (simp only [← hji3, ← hji4, ← hji5, ← hji6]; first | rfl | (simp [errW_none, errW_some] <;> rfl)) | (simp [*, errW_none, errW_some] <;> rfl), bsL HB.out⟩
  ·
   rw [if_neg c22] at H
   have c22b0 : decide ((ji6) < (ji5)) = false := decide_eq_false c22
   clear c22
   simp only [Option.some.injEq, Prod.mk.injEq] at H
   obtain ⟨rfl, rfl, rfl, rfl, rfl⟩ := H
   go_enter Try.func100, Try.ntmps100
   go_wp2_with (first | ((with_reducible refine gate_dst (N := 2) rfl ?_); refine boxE (N := 2) (cs := #[.int .u64 a0_0, .int .u64 a0_1, .int .i64 a0_2, .int .i64 a0_3]) (t := 30) ?_; intro gb544 hg w37 hbox hb; have BK544 := Aside0.mk (hbox); have GW544 := szB hg HB.out; have GE544 := szB hg HB.out; replace HB := bsB HB.out hb; clear hb hbox hg) | ((with_reducible refine gate_dst (N := 3) rfl ?_); refine boxE (N := 3) (cs := #[.int .u64 a1_0, .int .u64 a1_1, .int .i64 a1_2, .int .i64 a1_3]) (t := 30) ?_; intro gb545 hg w38 hbox hb; have BK545 := Aside0.mk (hbox); have GW545 := szB hg HB.out; have GE545 := szB hg HB.out; have NB544_545 := neL hg BK544.out; have NB545_544 := neG hg BK544.out; replace BK544 := bkB BK544.out hb; replace HB := bsB HB.out hb; clear hb hbox hg) | ((with_reducible refine gate_dst (N := 4) rfl ?_); refine boxE (N := 4) (cs := #[.int .u64 0, .int .u64 0, .int .i64 0, .int .i64 0]) (t := 30) ?_; intro gb546 hg w39 hbox hb; have BK546 := Aside0.mk (hbox); have GW546 := szB hg HB.out; have GE546 := szB hg HB.out; have NB544_546 := neL hg BK544.out; have NB546_544 := neG hg BK544.out; have NB545_546 := neL hg BK545.out; have NB546_545 := neG hg BK545.out; replace BK544 := bkB BK544.out hb; replace BK545 := bkB BK545.out hb; replace HB := bsB HB.out hb; clear hb hbox hg; have hnb40 := NB544_545.out; have hnc40 := NB545_544.out; have hnb41 := NB544_546.out; have hnc41 := NB546_544.out; obtain ⟨hcz42_0, hcz42_1, hcz42_2, hcz42_3, hfz42_0, hfz42_1, hfz42_2, hfz42_3⟩ := own4 BK544.out; have hnb43 := NB545_546.out; have hnc43 := NB546_545.out; obtain ⟨hcz44_0, hcz44_1, hcz44_2, hcz44_3, hfz44_0, hfz44_1, hfz44_2, hfz44_3⟩ := own4 BK545.out) | ((with_reducible refine gate_dst (N := 6) rfl ?_); refine boxE (N := 6) (cs := #[.int .u64 0, .int .u64 0, .int .i64 0, .int .i64 0]) (t := 30) ?_; intro gb547 hg w45 hbox hb; have BK547 := Aside0.mk (hbox); have GW547 := szB hg HB.out; have GE547 := szB hg HB.out; have NB544_547 := neL hg BK544.out; have NB547_544 := neG hg BK544.out; have NB545_547 := neL hg BK545.out; have NB547_545 := neG hg BK545.out; have NB546_547 := neL hg BK546.out; have NB547_546 := neG hg BK546.out; replace BK544 := bkB BK544.out hb; replace BK545 := bkB BK545.out hb; replace BK546 := bkB BK546.out hb; replace HB := bsB HB.out hb; clear hb hbox hg; have hnb46 := NB547_544.out; have hnc46 := NB544_547.out; have hnb47 := NB547_545.out; have hnc47 := NB545_547.out; have hnb48 := NB547_546.out; have hnc48 := NB546_547.out; obtain ⟨hcz49_0, hcz49_1, hcz49_2, hcz49_3, hfz49_0, hfz49_1, hfz49_2, hfz49_3⟩ := own4 BK547.out; obtain ⟨hcz50_0, hcz50_1, hcz50_2, hcz50_3, hfz50_0, hfz50_1, hfz50_2, hfz50_3⟩ := own4 BK546.out))
   refine bodyPost_ret (results_ct rfl _ _ gb546 30 #[.int .u64 ji3, .int .u64 ji4, .int .i64 ji5, .int .i64 ji6] (0, 0) _ rfl (by (with_reducible repeat (first | refine blk_drewN ?_ _ | refine blk_drew ?_ | refine blk_alloc ?_ _)); refine blk_put (cs := #[.int .u64 ji3, .int .u64 ji4, .int .i64 ji5, .int .i64 0]) ?_ 3 _ rfl; (with_reducible repeat (first | refine blk_drewN ?_ _ | refine blk_drew ?_ | refine blk_alloc ?_ _)); refine blk_put (cs := #[.int .u64 ji3, .int .u64 ji4, .int .i64 0, .int .i64 0]) ?_ 2 _ rfl; (with_reducible repeat (first | refine blk_drewN ?_ _ | refine blk_drew ?_ | refine blk_alloc ?_ _)); refine blk_put (cs := #[.int .u64 ji3, .int .u64 0, .int .i64 0, .int .i64 0]) ?_ 1 _ rfl; (with_reducible repeat (first | refine blk_drewN ?_ _ | refine blk_drew ?_ | refine blk_alloc ?_ _)); refine blk_put (cs := #[.int .u64 0, .int .u64 0, .int .i64 0, .int .i64 0]) ?_ 0 _ rfl; exact bfL BK546.out) Try.underlying30 rfl (by kernel_rfl)) rfl ?_
   exact ⟨by first | rfl | (simp [errW_none, errW_some] <;> rfl) | (simp only [← hji3, ← hji4, ← hji5, ← hji6]; first | rfl | (simp [errW_none, errW_some] <;> rfl)) | (simp [*, errW_none, errW_some] <;> rfl), bsL HB.out⟩

end Go.Proofs.Ytbiohdgeclokmaa.P
