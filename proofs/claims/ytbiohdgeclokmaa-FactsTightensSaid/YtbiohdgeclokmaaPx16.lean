-- made by a program of this work (wip/mkprint.py, wip/mp.sh) out of the translation
import Derived.Test.YtbiohdgeclokmaaPx0
import Derived.Test.YtbiohdgeclokmaaPx4
import Derived.Test.YtbiohdgeclokmaaPx15
namespace Go.Proofs.Ytbiohdgeclokmaa.P
open Go.RowKit Go.Proofs.YtbiohdgeclokmaaW.PrintWords Go.Proofs.YtbiohdgeclokmaaW.PrintLast Go.Proofs.YtbiohdgeclokmaaW.PrintMore
attribute [local go_sem] max2_int min2_int max_two min_two max_three min_three max_four min_four   -- for this text's walks alone
set_option linter.unusedVariables false
set_option linter.unusedSimpArgs false

/-! ### facts_Leq: function 29 -/
def facts_Leq.f (a0_0 : Int) (a0_1 : Int) (a0_2 : Int) (a0_3 : Int) (a0_4 : Int) (a0_5 : Int) (a1_0 : Int) (a1_1 : Int) (a1_2 : Int) (a1_3 : Int) (a1_4 : Int) (a1_5 : Int) : Option (Bool) := (facts_known.f a0_0 a0_1 a0_2 a0_3 a0_4 a0_5).bind fun bt329 => ((facts_known.f a1_0 a1_1 a1_2 a1_3 a1_4 a1_5).bind fun bt331 => ((knownbits_Leq.f bt329.1 bt329.2 bt331.1 bt331.2).bind fun t333 => (if t333 = true then ((facts_span.f a0_0 a0_1 a0_2 a0_3 a0_4 a0_5).bind fun bt334 => ((facts_span.f a1_0 a1_1 a1_2 a1_3 a1_4 a1_5).bind fun bt338 => ((interval_Leq.f bt334.1 bt334.2.1 bt334.2.2.1 bt334.2.2.2 bt338.1 bt338.2.1 bt338.2.2.1 bt338.2.2.2).bind fun t342 => (some t342)))) else (some false))))
def facts_Leq.T1 : Bool × List (List Nat × List Nat) := (true, [([], []), ([0], [0]), ([], []), ([2, 1], [2]), ([1, 3, 3], [1, 3]), ([4, 4], [4]), ([5], [5]), ([6, 5, 5], [5, 6]), ([5], [5]), ([8, 7, 5], [5, 8]), ([7, 9, 9, 5], [5, 7, 9]), ([5, 10], [5, 10]), ([11, 10, 0, 1, 2, 3, 4, 5, 6, 7, 8, 9, 10, 11], [11])])
def facts_Leq.B1 : List Nat := [0, 1, 0, 7, 15, 31, 63, 127, 63, 511, 1023, 2047, 4095]
theorem facts_Leq.tab1 : rtab .any (opsOf Try.f29 1) = facts_Leq.T1 := by kernel_rfl
theorem facts_Leq.bits1 : waitsOk facts_Leq.T1.2 facts_Leq.B1 = true := by kernel_rfl
set_option maxHeartbeats 8000000 in
set_option maxRecDepth 100000 in
theorem facts_Leq.calls (a0_0 : Int) (a0_1 : Int) (a0_2 : Int) (a0_3 : Int) (a0_4 : Int) (a0_5 : Int) (a1_0 : Int) (a1_1 : Int) (a1_2 : Int) (a1_3 : Int) (a1_4 : Int) (a1_5 : Int) (r : Bool) (w : World) (h : facts_Leq.f a0_0 a0_1 a0_2 a0_3 a0_4 a0_5 a1_0 a1_1 a1_2 a1_3 a1_4 a1_5 = some r) :
  Calls Try.prog 29 #[.agg #[.int .u64 a0_0, .int .u64 a0_1, .int .u64 a0_2, .int .u64 a0_3, .int .i64 a0_4, .int .i64 a0_5], .agg #[.int .u64 a1_0, .int .u64 a1_1, .int .u64 a1_2, .int .u64 a1_3, .int .i64 a1_4, .int .i64 a1_5]] w fun e w' => e = .returned (.bool r) ∧ Below w.heap.size w w' := by
 have hu50 := Try.underlying50
 have HB := Aside0.mk (Below.refl w.heap.size w)
 have H : ((facts_known.f a0_0 a0_1 a0_2 a0_3 a0_4 a0_5).bind fun bt329 => ((facts_known.f a1_0 a1_1 a1_2 a1_3 a1_4 a1_5).bind fun bt331 => ((knownbits_Leq.f bt329.1 bt329.2 bt331.1 bt331.2).bind fun t333 => (if t333 = true then ((facts_span.f a0_0 a0_1 a0_2 a0_3 a0_4 a0_5).bind fun bt334 => ((facts_span.f a1_0 a1_1 a1_2 a1_3 a1_4 a1_5).bind fun bt338 => ((interval_Leq.f bt334.1 bt334.2.1 bt334.2.2.1 bt334.2.2.2 bt338.1 bt338.2.1 bt338.2.2.1 bt338.2.2.2).bind fun t342 => (some t342)))) else (some false))))) = some r := h
 clear h
 replace H := Option.bind_eq_some_iff.mp H
 obtain ⟨⟨t329, t330⟩, A30, H⟩ := H
 replace H : ((facts_known.f a1_0 a1_1 a1_2 a1_3 a1_4 a1_5).bind fun bt331 => ((knownbits_Leq.f t329 t330 bt331.1 bt331.2).bind fun t333 => (if t333 = true then ((facts_span.f a0_0 a0_1 a0_2 a0_3 a0_4 a0_5).bind fun bt334 => ((facts_span.f a1_0 a1_1 a1_2 a1_3 a1_4 a1_5).bind fun bt338 => ((interval_Leq.f bt334.1 bt334.2.1 bt334.2.2.1 bt334.2.2.2 bt338.1 bt338.2.1 bt338.2.2.1 bt338.2.2.2).bind fun t342 => (some t342)))) else (some false)))) = some r := H
 have A3 := Aside0.mk A30
 clear A30
 replace H := Option.bind_eq_some_iff.mp H
 obtain ⟨⟨t331, t332⟩, A40, H⟩ := H
 replace H : ((knownbits_Leq.f t329 t330 t331 t332).bind fun t333 => (if t333 = true then ((facts_span.f a0_0 a0_1 a0_2 a0_3 a0_4 a0_5).bind fun bt334 => ((facts_span.f a1_0 a1_1 a1_2 a1_3 a1_4 a1_5).bind fun bt338 => ((interval_Leq.f bt334.1 bt334.2.1 bt334.2.2.1 bt334.2.2.2 bt338.1 bt338.2.1 bt338.2.2.1 bt338.2.2.2).bind fun t342 => (some t342)))) else (some false))) = some r := H
 have A4 := Aside0.mk A40
 clear A40
 replace H := Option.bind_eq_some_iff.mp H
 obtain ⟨t333, A50, H⟩ := H
 replace H : (if t333 = true then ((facts_span.f a0_0 a0_1 a0_2 a0_3 a0_4 a0_5).bind fun bt334 => ((facts_span.f a1_0 a1_1 a1_2 a1_3 a1_4 a1_5).bind fun bt338 => ((interval_Leq.f bt334.1 bt334.2.1 bt334.2.2.1 bt334.2.2.2 bt338.1 bt338.2.1 bt338.2.2.1 bt338.2.2.2).bind fun t342 => (some t342)))) else (some false)) = some r := H
 have A5 := Aside0.mk A50
 clear A50
 by_cases c6 : t333 = true
 ·
  subst c6
  have H1 : ((facts_span.f a0_0 a0_1 a0_2 a0_3 a0_4 a0_5).bind fun bt334 => ((facts_span.f a1_0 a1_1 a1_2 a1_3 a1_4 a1_5).bind fun bt338 => ((interval_Leq.f bt334.1 bt334.2.1 bt334.2.2.1 bt334.2.2.2 bt338.1 bt338.2.1 bt338.2.2.1 bt338.2.2.2).bind fun t342 => (some t342)))) = some r := by rw [if_pos rfl] at H; exact H
  clear H
  have H := H1
  clear H1
  replace H := Option.bind_eq_some_iff.mp H
  obtain ⟨⟨t334, t335, t336, t337⟩, A70, H⟩ := H
  replace H : ((facts_span.f a1_0 a1_1 a1_2 a1_3 a1_4 a1_5).bind fun bt338 => ((interval_Leq.f t334 t335 t336 t337 bt338.1 bt338.2.1 bt338.2.2.1 bt338.2.2.2).bind fun t342 => (some t342))) = some r := H
  have A7 := Aside0.mk A70
  clear A70
  replace H := Option.bind_eq_some_iff.mp H
  obtain ⟨⟨t338, t339, t340, t341⟩, A80, H⟩ := H
  replace H : ((interval_Leq.f t334 t335 t336 t337 t338 t339 t340 t341).bind fun t342 => (some t342)) = some r := H
  have A8 := Aside0.mk A80
  clear A80
  replace H := Option.bind_eq_some_iff.mp H
  obtain ⟨t342, A90, H⟩ := H
  replace H : (some t342) = some r := H
  have A9 := Aside0.mk A90
  clear A90
  obtain rfl := Option.some.inj H
  go_enter Try.func29, Try.ntmps29
  try go_wp2_with (first | ((with_reducible refine gate_dst (N := 2) rfl ?_); refine box_event ?hg (N := 2) ?hd (cs := #[.int .u64 a0_0, .int .u64 a0_1, .int .u64 a0_2, .int .u64 a0_3, .int .i64 a0_4, .int .i64 a0_5]) (t := 50) ?hr ?_; (case hd => rfl); (case hg => rfl); (case hr => first | (go_simp; done) | (go_simp; rfl)); intro gb327 hg w10 hbox hb; have n0_ := bsB HB.out hb; have n1_ := Aside0.mk (hbox); have n2_ := szB hg HB.out; have n3_ := szB hg HB.out; clear HB; have HB := n0_; have BK327 := n1_; have GW327 := n2_; have GE327 := n3_; clear n0_ n1_ n2_ n3_; clear hb hbox hg) | ((with_reducible refine gate_dst (N := 3) rfl ?_); refine box_event ?hg (N := 3) ?hd (cs := #[.int .u64 a1_0, .int .u64 a1_1, .int .u64 a1_2, .int .u64 a1_3, .int .i64 a1_4, .int .i64 a1_5]) (t := 50) ?hr ?_; (case hd => rfl); (case hg => rfl); (case hr => first | (go_simp; done) | (go_simp; rfl)); intro gb328 hg w11 hbox hb; have n0_ := bkB BK327.out hb; have n1_ := bsB HB.out hb; have n2_ := Aside0.mk (hbox); have n3_ := szB hg HB.out; have n4_ := szB hg HB.out; have n5_ := Aside0.mk ((by rw [hg]; exact Nat.ne_of_lt (blk_lt (g := gb327) (o := .cells #[.int .u64 a0_0, .int .u64 a0_1, .int .u64 a0_2, .int .u64 a0_3, .int .i64 a0_4, .int .i64 a0_5] 50 (0, 0)) (by exact bfL BK327.out)) : gb327 ≠ gb328)); have n6_ := Aside0.mk ((by rw [hg]; exact Nat.ne_of_gt (blk_lt (g := gb327) (o := .cells #[.int .u64 a0_0, .int .u64 a0_1, .int .u64 a0_2, .int .u64 a0_3, .int .i64 a0_4, .int .i64 a0_5] 50 (0, 0)) (by exact bfL BK327.out)) : gb328 ≠ gb327)); clear BK327; clear HB; have BK327 := n0_; have HB := n1_; have BK328 := n2_; have GW328 := n3_; have GE328 := n4_; have NB327_328 := n5_; have NB328_327 := n6_; clear n0_ n1_ n2_ n3_ n4_ n5_ n6_; clear hb hbox hg))
  have n0_ := Aside0.mk (blk_drew BK327.out)
  have n1_ := Aside0.mk (blk_drew BK328.out)
  have n2_ := Aside0.mk (below_drew1 HB.out)
  clear BK327
  clear BK328
  clear HB
  have BK327 := n0_
  have BK328 := n1_
  have HB := n2_
  clear n0_ n1_ n2_
  refine start_ (n := 13) (S := fun w' => w'.cell? ⟨gb327, 0, none⟩ = some (.int .u64 a0_0) ∧ w'.cell? ⟨gb327, 1, none⟩ = some (.int .u64 a0_1) ∧ w'.cell? ⟨gb327, 2, none⟩ = some (.int .u64 a0_2) ∧ w'.cell? ⟨gb327, 3, none⟩ = some (.int .u64 a0_3) ∧ w'.cell? ⟨gb327, 4, none⟩ = some (.int .i64 a0_4) ∧ w'.cell? ⟨gb327, 5, none⟩ = some (.int .i64 a0_5) ∧ w'.cell? ⟨gb328, 0, none⟩ = some (.int .u64 a1_0) ∧ w'.cell? ⟨gb328, 1, none⟩ = some (.int .u64 a1_1) ∧ w'.cell? ⟨gb328, 2, none⟩ = some (.int .u64 a1_2) ∧ w'.cell? ⟨gb328, 3, none⟩ = some (.int .u64 a1_3) ∧ w'.cell? ⟨gb328, 4, none⟩ = some (.int .i64 a1_4) ∧ w'.cell? ⟨gb328, 5, none⟩ = some (.int .i64 a1_5)) (ds := []) (bA 13 0) (by kernel_rfl) rfl rfl (by repeat' (first | apply And.intro | exact (blk_cell BK327.out _).trans rfl | exact (blk_cell BK328.out _).trans rfl)) (fun hHeld => ?_); refine with_tabW facts_Leq.tab1 facts_Leq.bits1 (fun HT_ HW_ => ?_)
  generalize w11.drew = w12 at BK327 BK328 HB hHeld ⊢
  refine takeA HT_ HW_ hHeld (i := 0) (N := some 5) (bA 13 1) ?_ (hy := by rintro w' ⟨s0, s1, s2, s3, s4, s5, s6, s7, s8, s9, s10, s11⟩; go_simp; with_reducible rfl)
  refine takeA HT_ HW_ hHeld (i := 2) (N := some 7) (bA 13 5) ?_ (hy := by rintro w' ⟨s0, s1, s2, s3, s4, s5, s6, s7, s8, s9, s10, s11⟩; go_simp; with_reducible rfl)
  refine one_ (i := 1) (N := some 6) (bA 13 7) rfl rfl (one_of HT_.out (by kernel_rfl)) (by decide) (fun K hK => ?_)
  refine gO Try.func86 #[.agg #[.int .u64 a0_0, .int .u64 a0_1, .int .u64 a0_2, .int .u64 a0_3, .int .i64 a0_4, .int .i64 a0_5]] ?_
  with_reducible refine (facts_known.calls a0_0 a0_1 a0_2 a0_3 a0_4 a0_5 t329 t330 _ A3.out).mono ?_
  rintro e w13 ⟨rfl, hb⟩
  refine ⟨_, rfl, ?_⟩
  replace BK327 := bkB BK327.out hb
  replace BK328 := bkB BK328.out hb
  replace HB := bsB HB.out hb
  (try clear hb)
  refine hK.out _ _ (by repeat' (first | apply And.intro | exact (blk_cell BK327.out _).trans rfl | exact (blk_cell BK328.out _).trans rfl)) (fun hHeld => ?_)
  clear hK K
  refine normA (some 6) ?_
  refine one_ (i := 3) (N := some 8) (bA 13 15) rfl rfl (one_of HT_.out (by kernel_rfl)) (by decide) (fun K hK => ?_)
  refine gO Try.func86 #[.agg #[.int .u64 a1_0, .int .u64 a1_1, .int .u64 a1_2, .int .u64 a1_3, .int .i64 a1_4, .int .i64 a1_5]] ?_
  with_reducible refine (facts_known.calls a1_0 a1_1 a1_2 a1_3 a1_4 a1_5 t331 t332 _ A4.out).mono ?_
  rintro e w14 ⟨rfl, hb⟩
  refine ⟨_, rfl, ?_⟩
  replace BK327 := bkB BK327.out hb
  replace BK328 := bkB BK328.out hb
  replace HB := bsB HB.out hb
  (try clear hb)
  refine hK.out _ _ (by repeat' (first | apply And.intro | exact (blk_cell BK327.out _).trans rfl | exact (blk_cell BK328.out _).trans rfl)) (fun hHeld => ?_)
  clear hK K
  refine normA (some 8) ?_
  refine one_ (i := 4) (N := some 9) (bA 13 31) rfl rfl (one_of HT_.out (by kernel_rfl)) (by decide) (fun K hK => ?_)
  refine gO Try.func87 #[.agg #[.int .u64 t329, .int .u64 t330], .agg #[.int .u64 t331, .int .u64 t332]] ?_
  with_reducible refine (knownbits_Leq.calls t329 t330 t331 t332 true _ A5.out).mono ?_
  rintro e w15 ⟨rfl, hb⟩
  refine ⟨_, rfl, ?_⟩
  replace BK327 := bkB BK327.out hb
  replace BK328 := bkB BK328.out hb
  replace HB := bsB HB.out hb
  (try clear hb)
  refine hK.out _ _ (by repeat' (first | apply And.intro | exact (blk_cell BK327.out _).trans rfl | exact (blk_cell BK328.out _).trans rfl)) (fun hHeld => ?_)
  clear hK K
  refine normA (some 9) ?_
  refine pureA HT_ (i := 5) (N := some 10) (bA 13 63) ?_
  refine takeA HT_ HW_ hHeld (i := 6) (N := some 11) (bA 13 127) ?_ (hy := by rintro w' ⟨s0, s1, s2, s3, s4, s5, s6, s7, s8, s9, s10, s11⟩; go_simp; with_reducible rfl)
  refine takeA HT_ HW_ hHeld (i := 8) (N := some 13) (bA 13 383) ?_ (hy := by rintro w' ⟨s0, s1, s2, s3, s4, s5, s6, s7, s8, s9, s10, s11⟩; go_simp; with_reducible rfl)
  refine one_ (i := 7) (N := some 12) (bA 13 511) rfl rfl (one_of HT_.out (by kernel_rfl)) (by decide) (fun K hK => ?_)
  refine gO Try.func76 #[.agg #[.int .u64 a0_0, .int .u64 a0_1, .int .u64 a0_2, .int .u64 a0_3, .int .i64 a0_4, .int .i64 a0_5]] ?_
  with_reducible refine (facts_span.calls a0_0 a0_1 a0_2 a0_3 a0_4 a0_5 t334 t335 t336 t337 _ A7.out).mono ?_
  rintro e w16 ⟨rfl, hb⟩
  refine ⟨_, rfl, ?_⟩
  replace BK327 := bkB BK327.out hb
  replace BK328 := bkB BK328.out hb
  replace HB := bsB HB.out hb
  (try clear hb)
  refine hK.out _ _ (by repeat' (first | apply And.intro | exact (blk_cell BK327.out _).trans rfl | exact (blk_cell BK328.out _).trans rfl)) (fun hHeld => ?_)
  clear hK K
  refine normA (some 12) ?_
  refine one_ (i := 9) (N := some 14) (bA 13 1023) rfl rfl (one_of HT_.out (by kernel_rfl)) (by decide) (fun K hK => ?_)
  refine gO Try.func76 #[.agg #[.int .u64 a1_0, .int .u64 a1_1, .int .u64 a1_2, .int .u64 a1_3, .int .i64 a1_4, .int .i64 a1_5]] ?_
  with_reducible refine (facts_span.calls a1_0 a1_1 a1_2 a1_3 a1_4 a1_5 t338 t339 t340 t341 _ A8.out).mono ?_
  rintro e w17 ⟨rfl, hb⟩
  refine ⟨_, rfl, ?_⟩
  replace BK327 := bkB BK327.out hb
  replace BK328 := bkB BK328.out hb
  replace HB := bsB HB.out hb
  (try clear hb)
  refine hK.out _ _ (by repeat' (first | apply And.intro | exact (blk_cell BK327.out _).trans rfl | exact (blk_cell BK328.out _).trans rfl)) (fun hHeld => ?_)
  clear hK K
  refine normA (some 14) ?_
  refine one_ (i := 10) (N := some 15) (bA 13 2047) rfl rfl (one_of HT_.out (by kernel_rfl)) (by decide) (fun K hK => ?_)
  refine gO Try.func88 #[.agg #[.int .u64 t334, .int .u64 t335, .int .i64 t336, .int .i64 t337], .agg #[.int .u64 t338, .int .u64 t339, .int .i64 t340, .int .i64 t341]] ?_
  with_reducible refine (interval_Leq.calls t334 t335 t336 t337 t338 t339 t340 t341 t342 _ A9.out).mono ?_
  rintro e w18 ⟨rfl, hb⟩
  refine ⟨_, rfl, ?_⟩
  replace BK327 := bkB BK327.out hb
  replace BK328 := bkB BK328.out hb
  replace HB := bsB HB.out hb
  (try clear hb)
  refine hK.out _ _ (by repeat' (first | apply And.intro | exact (blk_cell BK327.out _).trans rfl | exact (blk_cell BK328.out _).trans rfl)) (fun hHeld => ?_)
  clear hK K
  refine normA (some 15) ?_
  refine pureA HT_ (i := 11) (N := some 16) (bA 13 4095) ?_
  refine pureA HT_ (i := 12) (N := some 4) (bA 13 8191) ?_
  refine done_ (done_of HT_.out (by kernel_rfl)) ?_
  try go_wp2
  go_ret
  exact ⟨by first | rfl | (simp [errW_none, errW_some] <;> rfl) | (simp [*, errW_none, errW_some] <;> rfl), bsL HB.out⟩
 ·
  replace c6 := Bool.eq_false_iff.mpr c6
  subst c6
  have H1 : (some false) = some r := by rw [if_neg (show ¬ (false = true) by decide)] at H; exact H
  clear H
  have H := H1
  clear H1
  obtain rfl := Option.some.inj H
  go_enter Try.func29, Try.ntmps29
  try go_wp2_with (first | ((with_reducible refine gate_dst (N := 2) rfl ?_); refine box_event ?hg (N := 2) ?hd (cs := #[.int .u64 a0_0, .int .u64 a0_1, .int .u64 a0_2, .int .u64 a0_3, .int .i64 a0_4, .int .i64 a0_5]) (t := 50) ?hr ?_; (case hd => rfl); (case hg => rfl); (case hr => first | (go_simp; done) | (go_simp; rfl)); intro gb327 hg w19 hbox hb; have n0_ := bsB HB.out hb; have n1_ := Aside0.mk (hbox); have n2_ := szB hg HB.out; have n3_ := szB hg HB.out; clear HB; have HB := n0_; have BK327 := n1_; have GW327 := n2_; have GE327 := n3_; clear n0_ n1_ n2_ n3_; clear hb hbox hg) | ((with_reducible refine gate_dst (N := 3) rfl ?_); refine box_event ?hg (N := 3) ?hd (cs := #[.int .u64 a1_0, .int .u64 a1_1, .int .u64 a1_2, .int .u64 a1_3, .int .i64 a1_4, .int .i64 a1_5]) (t := 50) ?hr ?_; (case hd => rfl); (case hg => rfl); (case hr => first | (go_simp; done) | (go_simp; rfl)); intro gb328 hg w20 hbox hb; have n0_ := bkB BK327.out hb; have n1_ := bsB HB.out hb; have n2_ := Aside0.mk (hbox); have n3_ := szB hg HB.out; have n4_ := szB hg HB.out; have n5_ := Aside0.mk ((by rw [hg]; exact Nat.ne_of_lt (blk_lt (g := gb327) (o := .cells #[.int .u64 a0_0, .int .u64 a0_1, .int .u64 a0_2, .int .u64 a0_3, .int .i64 a0_4, .int .i64 a0_5] 50 (0, 0)) (by exact bfL BK327.out)) : gb327 ≠ gb328)); have n6_ := Aside0.mk ((by rw [hg]; exact Nat.ne_of_gt (blk_lt (g := gb327) (o := .cells #[.int .u64 a0_0, .int .u64 a0_1, .int .u64 a0_2, .int .u64 a0_3, .int .i64 a0_4, .int .i64 a0_5] 50 (0, 0)) (by exact bfL BK327.out)) : gb328 ≠ gb327)); clear BK327; clear HB; have BK327 := n0_; have HB := n1_; have BK328 := n2_; have GW328 := n3_; have GE328 := n4_; have NB327_328 := n5_; have NB328_327 := n6_; clear n0_ n1_ n2_ n3_ n4_ n5_ n6_; clear hb hbox hg))
  have n0_ := Aside0.mk (blk_drew BK327.out)
  have n1_ := Aside0.mk (blk_drew BK328.out)
  have n2_ := Aside0.mk (below_drew1 HB.out)
  clear BK327
  clear BK328
  clear HB
  have BK327 := n0_
  have BK328 := n1_
  have HB := n2_
  clear n0_ n1_ n2_
  refine start_ (n := 13) (S := fun w' => w'.cell? ⟨gb327, 0, none⟩ = some (.int .u64 a0_0) ∧ w'.cell? ⟨gb327, 1, none⟩ = some (.int .u64 a0_1) ∧ w'.cell? ⟨gb327, 2, none⟩ = some (.int .u64 a0_2) ∧ w'.cell? ⟨gb327, 3, none⟩ = some (.int .u64 a0_3) ∧ w'.cell? ⟨gb327, 4, none⟩ = some (.int .i64 a0_4) ∧ w'.cell? ⟨gb327, 5, none⟩ = some (.int .i64 a0_5) ∧ w'.cell? ⟨gb328, 0, none⟩ = some (.int .u64 a1_0) ∧ w'.cell? ⟨gb328, 1, none⟩ = some (.int .u64 a1_1) ∧ w'.cell? ⟨gb328, 2, none⟩ = some (.int .u64 a1_2) ∧ w'.cell? ⟨gb328, 3, none⟩ = some (.int .u64 a1_3) ∧ w'.cell? ⟨gb328, 4, none⟩ = some (.int .i64 a1_4) ∧ w'.cell? ⟨gb328, 5, none⟩ = some (.int .i64 a1_5)) (ds := []) (bA 13 0) (by kernel_rfl) rfl rfl (by repeat' (first | apply And.intro | exact (blk_cell BK327.out _).trans rfl | exact (blk_cell BK328.out _).trans rfl)) (fun hHeld => ?_); refine with_tabW facts_Leq.tab1 facts_Leq.bits1 (fun HT_ HW_ => ?_)
  generalize w20.drew = w21 at BK327 BK328 HB hHeld ⊢
  refine takeA HT_ HW_ hHeld (i := 0) (N := some 5) (bA 13 1) ?_ (hy := by rintro w' ⟨s0, s1, s2, s3, s4, s5, s6, s7, s8, s9, s10, s11⟩; go_simp; with_reducible rfl)
  refine takeA HT_ HW_ hHeld (i := 2) (N := some 7) (bA 13 5) ?_ (hy := by rintro w' ⟨s0, s1, s2, s3, s4, s5, s6, s7, s8, s9, s10, s11⟩; go_simp; with_reducible rfl)
  refine one_ (i := 1) (N := some 6) (bA 13 7) rfl rfl (one_of HT_.out (by kernel_rfl)) (by decide) (fun K hK => ?_)
  refine gO Try.func86 #[.agg #[.int .u64 a0_0, .int .u64 a0_1, .int .u64 a0_2, .int .u64 a0_3, .int .i64 a0_4, .int .i64 a0_5]] ?_
  with_reducible refine (facts_known.calls a0_0 a0_1 a0_2 a0_3 a0_4 a0_5 t329 t330 _ A3.out).mono ?_
  rintro e w22 ⟨rfl, hb⟩
  refine ⟨_, rfl, ?_⟩
  replace BK327 := bkB BK327.out hb
  replace BK328 := bkB BK328.out hb
  replace HB := bsB HB.out hb
  (try clear hb)
  refine hK.out _ _ (by repeat' (first | apply And.intro | exact (blk_cell BK327.out _).trans rfl | exact (blk_cell BK328.out _).trans rfl)) (fun hHeld => ?_)
  clear hK K
  refine normA (some 6) ?_
  refine one_ (i := 3) (N := some 8) (bA 13 15) rfl rfl (one_of HT_.out (by kernel_rfl)) (by decide) (fun K hK => ?_)
  refine gO Try.func86 #[.agg #[.int .u64 a1_0, .int .u64 a1_1, .int .u64 a1_2, .int .u64 a1_3, .int .i64 a1_4, .int .i64 a1_5]] ?_
  with_reducible refine (facts_known.calls a1_0 a1_1 a1_2 a1_3 a1_4 a1_5 t331 t332 _ A4.out).mono ?_
  rintro e w23 ⟨rfl, hb⟩
  refine ⟨_, rfl, ?_⟩
  replace BK327 := bkB BK327.out hb
  replace BK328 := bkB BK328.out hb
  replace HB := bsB HB.out hb
  (try clear hb)
  refine hK.out _ _ (by repeat' (first | apply And.intro | exact (blk_cell BK327.out _).trans rfl | exact (blk_cell BK328.out _).trans rfl)) (fun hHeld => ?_)
  clear hK K
  refine normA (some 8) ?_
  refine one_ (i := 4) (N := some 9) (bA 13 31) rfl rfl (one_of HT_.out (by kernel_rfl)) (by decide) (fun K hK => ?_)
  refine gO Try.func87 #[.agg #[.int .u64 t329, .int .u64 t330], .agg #[.int .u64 t331, .int .u64 t332]] ?_
  with_reducible refine (knownbits_Leq.calls t329 t330 t331 t332 false _ A5.out).mono ?_
  rintro e w24 ⟨rfl, hb⟩
  refine ⟨_, rfl, ?_⟩
  replace BK327 := bkB BK327.out hb
  replace BK328 := bkB BK328.out hb
  replace HB := bsB HB.out hb
  (try clear hb)
  refine hK.out _ _ (by repeat' (first | apply And.intro | exact (blk_cell BK327.out _).trans rfl | exact (blk_cell BK328.out _).trans rfl)) (fun hHeld => ?_)
  clear hK K
  refine normA (some 9) ?_
  refine pureA HT_ (i := 5) (N := some 10) (bA 13 63) ?_
  refine pureU HT_ (i := 6) (N := some 11) (bA 13 127) ?_
  refine pureU HT_ (i := 7) (N := some 12) (bA 13 255) ?_
  refine pureU HT_ (i := 8) (N := some 13) (bA 13 511) ?_
  refine pureU HT_ (i := 9) (N := some 14) (bA 13 1023) ?_
  refine pureU HT_ (i := 10) (N := some 15) (bA 13 2047) ?_
  refine pureA HT_ (i := 11) (N := some 16) (bA 13 4095) ?_
  refine pureA HT_ (i := 12) (N := some 4) (bA 13 8191) ?_
  refine done_ (done_of HT_.out (by kernel_rfl)) ?_
  try go_wp2
  go_ret
  exact ⟨by first | rfl | (simp [errW_none, errW_some] <;> rfl) | (simp [*, errW_none, errW_some] <;> rfl), bsL HB.out⟩

end Go.Proofs.Ytbiohdgeclokmaa.P
