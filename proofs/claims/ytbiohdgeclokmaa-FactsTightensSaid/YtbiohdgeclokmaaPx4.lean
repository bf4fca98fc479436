-- made by a program of this work (wip/mkprint.py, wip/mp.sh) out of the translation
import Derived.Test.YtbiohdgeclokmaaPx0
import Derived.Test.YtbiohdgeclokmaaPx2
namespace Go.Proofs.Ytbiohdgeclokmaa.P
open Go.RowKit Go.Proofs.YtbiohdgeclokmaaW.PrintWords Go.Proofs.YtbiohdgeclokmaaW.PrintLast Go.Proofs.YtbiohdgeclokmaaW.PrintMore
attribute [local go_sem] max2_int min2_int max_two min_two max_three min_three max_four min_four   -- for this text's walks alone
set_option linter.unusedVariables false
set_option linter.unusedSimpArgs false

/-! ### interval_Valid: function 21 -/
def interval_Valid.f (a0 : Int) (a1_0 : Int) (a1_1 : Int) (a1_2 : Int) (a1_3 : Int) : Option (Bool) := (interval_good.f a0).bind fun t147 => (if t147 = true then ((interval_ends.f a0).bind fun bt148 => (if a1_0 ≤ a1_1 then ((bits_Mask.f a0).bind fun t150 => (if a1_1 ≤ t150 then (if bt148.1 ≤ a1_2 then (if a1_2 ≤ a1_3 then (some (decide (a1_3 ≤ bt148.2))) else (some false)) else (some false)) else (some false))) else (some false))) else (some false))
def interval_Valid.T4 : Bool × List (List Nat × List Nat) := (true, [([], []), ([0], [0]), ([], []), ([2], [2]), ([1, 3], [1, 3]), ([4], [4]), ([5], [5]), ([6, 5], [5, 6]), ([5], [5]), ([8, 5, 5], [5, 8]), ([7, 9, 5], [5, 7, 9]), ([5, 10], [5, 10]), ([11, 9], [11]), ([12], [12]), ([12], [12]), ([14, 12], [12, 14]), ([13, 15, 12], [12, 13, 15]), ([12, 16], [12, 16]), ([17, 12], [17]), ([18], [18]), ([19, 18], [18, 19]), ([18], [18]), ([21, 18], [18, 21]), ([20, 22, 18], [18, 20, 22]), ([18, 23], [18, 23]), ([24, 18], [24]), ([25], [25]), ([26, 25], [25, 26]), ([25], [25]), ([27, 28, 25], [25, 27, 28]), ([25, 29], [25, 29]), ([30, 25, 0, 1, 2, 3, 4, 5, 6, 7, 8, 9, 10, 11, 12, 13, 14, 15, 16, 17, 18, 19, 20, 21, 22, 23, 24, 25, 26, 27, 28, 29, 30], [30])])
def interval_Valid.B4 : List Nat := [0, 1, 0, 4, 15, 31, 63, 127, 63, 319, 1023, 2047, 4095, 8191, 8191, 24575, 65535, 131071, 262143, 524287, 1048575, 524287, 2621439, 8388607, 16777215, 33554431, 67108863, 134217727, 67108863, 536870911, 1073741823, 2147483647]
theorem interval_Valid.tab4 : rtab .any (opsOf Try.f21 4) = interval_Valid.T4 := by kernel_rfl
theorem interval_Valid.bits4 : waitsOk interval_Valid.T4.2 interval_Valid.B4 = true := by kernel_rfl
set_option maxHeartbeats 8000000 in
set_option maxRecDepth 100000 in
theorem interval_Valid.calls (a0 : Int) (a1_0 : Int) (a1_1 : Int) (a1_2 : Int) (a1_3 : Int) (r : Bool) (w : World) (h : interval_Valid.f a0 a1_0 a1_1 a1_2 a1_3 = some r) :
  Calls Try.prog 21 #[.int .i64 a0, .agg #[.int .u64 a1_0, .int .u64 a1_1, .int .i64 a1_2, .int .i64 a1_3]] w fun e w' => e = .returned (.bool r) ∧ Below w.heap.size w w' := by
 have hu30 := Try.underlying30
 have HB := Aside0.mk (Below.refl w.heap.size w)
 have H : ((interval_good.f a0).bind fun t147 => (if t147 = true then ((interval_ends.f a0).bind fun bt148 => (if a1_0 ≤ a1_1 then ((bits_Mask.f a0).bind fun t150 => (if a1_1 ≤ t150 then (if bt148.1 ≤ a1_2 then (if a1_2 ≤ a1_3 then (some (decide (a1_3 ≤ bt148.2))) else (some false)) else (some false)) else (some false))) else (some false))) else (some false))) = some r := h
 clear h
 replace H := Option.bind_eq_some_iff.mp H
 obtain ⟨t147, A30, H⟩ := H
 replace H : (if t147 = true then ((interval_ends.f a0).bind fun bt148 => (if a1_0 ≤ a1_1 then ((bits_Mask.f a0).bind fun t150 => (if a1_1 ≤ t150 then (if bt148.1 ≤ a1_2 then (if a1_2 ≤ a1_3 then (some (decide (a1_3 ≤ bt148.2))) else (some false)) else (some false)) else (some false))) else (some false))) else (some false)) = some r := H
 have A3 := Aside0.mk A30
 clear A30
 by_cases c4 : t147 = true
 ·
  subst c4
  have H1 : ((interval_ends.f a0).bind fun bt148 => (if a1_0 ≤ a1_1 then ((bits_Mask.f a0).bind fun t150 => (if a1_1 ≤ t150 then (if bt148.1 ≤ a1_2 then (if a1_2 ≤ a1_3 then (some (decide (a1_3 ≤ bt148.2))) else (some false)) else (some false)) else (some false))) else (some false))) = some r := by rw [if_pos rfl] at H; exact H
  clear H
  have H := H1
  clear H1
  replace H := Option.bind_eq_some_iff.mp H
  obtain ⟨⟨t148, t149⟩, A50, H⟩ := H
  replace H : (if a1_0 ≤ a1_1 then ((bits_Mask.f a0).bind fun t150 => (if a1_1 ≤ t150 then (if t148 ≤ a1_2 then (if a1_2 ≤ a1_3 then (some (decide (a1_3 ≤ t149))) else (some false)) else (some false)) else (some false))) else (some false)) = some r := H
  have A5 := Aside0.mk A50
  clear A50
  by_cases c6 : a1_0 ≤ a1_1
  ·
   rw [if_pos c6] at H
   have c6b0 : decide (a1_0 ≤ a1_1) = true := decide_eq_true c6
   clear c6
   replace H := Option.bind_eq_some_iff.mp H
   obtain ⟨t150, A70, H⟩ := H
   replace H : (if a1_1 ≤ t150 then (if t148 ≤ a1_2 then (if a1_2 ≤ a1_3 then (some (decide (a1_3 ≤ t149))) else (some false)) else (some false)) else (some false)) = some r := H
   have A7 := Aside0.mk A70
   clear A70
   by_cases c8 : a1_1 ≤ t150
   ·
    rw [if_pos c8] at H
    have c8b0 : decide (a1_1 ≤ t150) = true := decide_eq_true c8
    clear c8
    by_cases c9 : t148 ≤ a1_2
    ·
     rw [if_pos c9] at H
     have c9b0 : decide (t148 ≤ a1_2) = true := decide_eq_true c9
     clear c9
     by_cases c10 : a1_2 ≤ a1_3
     ·
      rw [if_pos c10] at H
      have c10b0 : decide (a1_2 ≤ a1_3) = true := decide_eq_true c10
      clear c10
      obtain rfl := Option.some.inj H
      go_enter Try.func21, Try.ntmps21
      try go_wp2_with (first | ((with_reducible refine gate_dst (N := 3) rfl ?_); refine box_event ?hg (N := 3) ?hd (cs := #[.int .u64 a1_0, .int .u64 a1_1, .int .i64 a1_2, .int .i64 a1_3]) (t := 30) ?hr ?_; (case hd => rfl); (case hg => rfl); (case hr => first | (go_simp; done) | (go_simp; rfl)); intro gb146 hg w11 hbox hb; have n0_ := bsB HB.out hb; have n1_ := Aside0.mk (hbox); have n2_ := szB hg HB.out; have n3_ := szB hg HB.out; clear HB; have HB := n0_; have BK146 := n1_; have GW146 := n2_; have GE146 := n3_; clear n0_ n1_ n2_ n3_; clear hb hbox hg) | ((with_reducible refine gate_callee (f := 66) rfl ?_); refine gL (some 8) Try.func66 #[.int .i64 a0] ?_; (with_reducible refine (interval_good.calls a0 true _ A3.out).mono ?_); rintro e w' ⟨rfl, ⟨nd, rfl⟩⟩; refine ⟨_, rfl, ?_⟩) | ((with_reducible refine gate_callee (f := 55) rfl ?_); refine gL (some 12) Try.func55 #[.int .i64 a0] ?_; (with_reducible refine (interval_ends.calls a0 t148 t149 _ A5.out).mono ?_); rintro e w' ⟨rfl, ⟨nd, rfl⟩⟩; refine ⟨_, rfl, ?_⟩))
      (try (rw [drewN_self w11]; generalize hq_ : World.drewN w11 _ = w11; have n0_ : Aside0 (w11.heap[gb146]? = some (.cells #[.int .u64 a1_0, .int .u64 a1_1, .int .i64 a1_2, .int .i64 a1_3] 30 (0, 0))) := ⟨by rw [← hq_]; exact (by exact bfL BK146.out)⟩; have n1_ : Aside0 (Below w.heap.size w w11) := ⟨by rw [← hq_]; exact (by repeat (first | (with_reducible first | exact HB.out | apply below_alloc | apply pw_below_drewN | apply below_drew1 | refine below_set ?_ GE146.out) | exact HB.out))⟩; clear BK146 HB hq_; have BK146 := n0_; have HB := n1_; clear n0_ n1_))
      have n0_ := Aside0.mk (blk_drew BK146.out)
      have n1_ := Aside0.mk (below_drew1 HB.out)
      clear BK146
      clear HB
      have BK146 := n0_
      have HB := n1_
      clear n0_ n1_
      refine start_ (n := 32) (S := fun w' => w'.cell? ⟨gb146, 0, none⟩ = some (.int .u64 a1_0) ∧ w'.cell? ⟨gb146, 1, none⟩ = some (.int .u64 a1_1) ∧ w'.cell? ⟨gb146, 2, none⟩ = some (.int .i64 a1_2) ∧ w'.cell? ⟨gb146, 3, none⟩ = some (.int .i64 a1_3)) (ds := []) (bA 32 0) (by kernel_rfl) rfl rfl (by repeat' (first | apply And.intro | exact (blk_cell BK146.out _).trans rfl)) (fun hHeld => ?_); refine with_tabW interval_Valid.tab4 interval_Valid.bits4 (fun HT_ HW_ => ?_)
      generalize w11.drew = w12 at BK146 HB hHeld ⊢
      refine pureA HT_ (i := 0) (N := some 15) (bA 32 1) ?_
      refine pureA HT_ (i := 2) (N := some 17) (bA 32 5) ?_
      refine takeA HT_ HW_ hHeld (i := 1) (N := some 16) (bA 32 7) ?_ (hy := by rintro w' ⟨s0, s1, s2, s3⟩; go_simp; with_reducible rfl)
      refine takeA HT_ HW_ hHeld (i := 3) (N := some 18) (bA 32 15) ?_ (hy := by rintro w' ⟨s0, s1, s2, s3⟩; go_simp; with_reducible rfl)
      refine pureA HT_ (i := 4) (N := some 19) (bA 32 31) ?_
      refine pureA HT_ (i := 5) (N := some 20) (bA 32 63) ?_
      refine pureA HT_ (i := 6) (N := some 21) (bA 32 127) ?_
      refine pureA HT_ (i := 8) (N := some 23) (bA 32 383) ?_
      refine takeA HT_ HW_ hHeld (i := 7) (N := some 22) (bA 32 511) ?_ (hy := by rintro w' ⟨s0, s1, s2, s3⟩; go_simp; with_reducible rfl)
      refine one_ (i := 9) (N := some 24) (bA 32 1023) rfl rfl (one_of HT_.out (by kernel_rfl)) (by decide) (fun K hK => ?_)
      refine gO Try.func56 #[.int .i64 a0] ?_
      with_reducible refine (bits_Mask.calls a0 t150 _ A7.out).mono ?_
      rintro e w13 ⟨rfl, hb⟩
      refine ⟨_, rfl, ?_⟩
      replace BK146 := bkB BK146.out hb
      replace HB := bsB HB.out hb
      (try clear hb)
      refine hK.out _ _ (by repeat' (first | apply And.intro | exact (blk_cell BK146.out _).trans rfl)) (fun hHeld => ?_)
      clear hK K
      refine normA (some 24) ?_
      refine pureA HT_ (i := 10) (N := some 25) (bA 32 2047) ?_
      refine pureA HT_ (i := 11) (N := some 26) (bA 32 4095) ?_
      refine pureA HT_ (i := 12) (N := some 27) (bA 32 8191) ?_
      refine pureA HT_ (i := 13) (N := some 28) (bA 32 16383) ?_
      refine pureA HT_ (i := 14) (N := some 29) (bA 32 32767) ?_
      refine takeA HT_ HW_ hHeld (i := 15) (N := some 30) (bA 32 65535) ?_ (hy := by rintro w' ⟨s0, s1, s2, s3⟩; go_simp; with_reducible rfl)
      refine pureA HT_ (i := 16) (N := some 31) (bA 32 131071) ?_
      refine pureA HT_ (i := 17) (N := some 32) (bA 32 262143) ?_
      refine pureA HT_ (i := 18) (N := some 33) (bA 32 524287) ?_
      refine pureA HT_ (i := 19) (N := some 34) (bA 32 1048575) ?_
      refine pureA HT_ (i := 21) (N := some 36) (bA 32 3145727) ?_
      refine takeA HT_ HW_ hHeld (i := 20) (N := some 35) (bA 32 4194303) ?_ (hy := by rintro w' ⟨s0, s1, s2, s3⟩; go_simp; with_reducible rfl)
      refine takeA HT_ HW_ hHeld (i := 22) (N := some 37) (bA 32 8388607) ?_ (hy := by rintro w' ⟨s0, s1, s2, s3⟩; go_simp; with_reducible rfl)
      refine pureA HT_ (i := 23) (N := some 38) (bA 32 16777215) ?_
      refine pureA HT_ (i := 24) (N := some 39) (bA 32 33554431) ?_
      refine pureA HT_ (i := 25) (N := some 40) (bA 32 67108863) ?_
      refine pureA HT_ (i := 26) (N := some 41) (bA 32 134217727) ?_
      refine pureA HT_ (i := 28) (N := some 43) (bA 32 402653183) ?_
      refine takeA HT_ HW_ hHeld (i := 27) (N := some 42) (bA 32 536870911) ?_ (hy := by rintro w' ⟨s0, s1, s2, s3⟩; go_simp; with_reducible rfl)
      refine pureA HT_ (i := 29) (N := some 44) (bA 32 1073741823) ?_
      refine pureA HT_ (i := 30) (N := some 45) (bA 32 2147483647) ?_
      refine pureA HT_ (i := 31) (N := some 4) (bA 32 4294967295) ?_
      refine done_ (done_of HT_.out (by kernel_rfl)) ?_
      try go_wp2
      go_ret
      exact ⟨by first | rfl | (simp [errW_none, errW_some] <;> rfl) | (simp [*, errW_none, errW_some] <;> rfl), bsL HB.out⟩
     ·
      rw [if_neg c10] at H
      have c10b0 : decide (a1_2 ≤ a1_3) = false := decide_eq_false c10
      clear c10
      obtain rfl := Option.some.inj H
      go_enter Try.func21, Try.ntmps21
      try go_wp2_with (first | ((with_reducible refine gate_dst (N := 3) rfl ?_); refine box_event ?hg (N := 3) ?hd (cs := #[.int .u64 a1_0, .int .u64 a1_1, .int .i64 a1_2, .int .i64 a1_3]) (t := 30) ?hr ?_; (case hd => rfl); (case hg => rfl); (case hr => first | (go_simp; done) | (go_simp; rfl)); intro gb146 hg w14 hbox hb; have n0_ := bsB HB.out hb; have n1_ := Aside0.mk (hbox); have n2_ := szB hg HB.out; have n3_ := szB hg HB.out; clear HB; have HB := n0_; have BK146 := n1_; have GW146 := n2_; have GE146 := n3_; clear n0_ n1_ n2_ n3_; clear hb hbox hg) | ((with_reducible refine gate_callee (f := 66) rfl ?_); refine gL (some 8) Try.func66 #[.int .i64 a0] ?_; (with_reducible refine (interval_good.calls a0 true _ A3.out).mono ?_); rintro e w' ⟨rfl, ⟨nd, rfl⟩⟩; refine ⟨_, rfl, ?_⟩) | ((with_reducible refine gate_callee (f := 55) rfl ?_); refine gL (some 12) Try.func55 #[.int .i64 a0] ?_; (with_reducible refine (interval_ends.calls a0 t148 t149 _ A5.out).mono ?_); rintro e w' ⟨rfl, ⟨nd, rfl⟩⟩; refine ⟨_, rfl, ?_⟩))
      (try (rw [drewN_self w14]; generalize hq_ : World.drewN w14 _ = w14; have n0_ : Aside0 (w14.heap[gb146]? = some (.cells #[.int .u64 a1_0, .int .u64 a1_1, .int .i64 a1_2, .int .i64 a1_3] 30 (0, 0))) := ⟨by rw [← hq_]; exact (by exact bfL BK146.out)⟩; have n1_ : Aside0 (Below w.heap.size w w14) := ⟨by rw [← hq_]; exact (by repeat (first | (with_reducible first | exact HB.out | apply below_alloc | apply pw_below_drewN | apply below_drew1 | refine below_set ?_ GE146.out) | exact HB.out))⟩; clear BK146 HB hq_; have BK146 := n0_; have HB := n1_; clear n0_ n1_))
      have n0_ := Aside0.mk (blk_drew BK146.out)
      have n1_ := Aside0.mk (below_drew1 HB.out)
      clear BK146
      clear HB
      have BK146 := n0_
      have HB := n1_
      clear n0_ n1_
      refine start_ (n := 32) (S := fun w' => w'.cell? ⟨gb146, 0, none⟩ = some (.int .u64 a1_0) ∧ w'.cell? ⟨gb146, 1, none⟩ = some (.int .u64 a1_1) ∧ w'.cell? ⟨gb146, 2, none⟩ = some (.int .i64 a1_2) ∧ w'.cell? ⟨gb146, 3, none⟩ = some (.int .i64 a1_3)) (ds := []) (bA 32 0) (by kernel_rfl) rfl rfl (by repeat' (first | apply And.intro | exact (blk_cell BK146.out _).trans rfl)) (fun hHeld => ?_); refine with_tabW interval_Valid.tab4 interval_Valid.bits4 (fun HT_ HW_ => ?_)
      generalize w14.drew = w15 at BK146 HB hHeld ⊢
      refine pureA HT_ (i := 0) (N := some 15) (bA 32 1) ?_
      refine pureA HT_ (i := 2) (N := some 17) (bA 32 5) ?_
      refine takeA HT_ HW_ hHeld (i := 1) (N := some 16) (bA 32 7) ?_ (hy := by rintro w' ⟨s0, s1, s2, s3⟩; go_simp; with_reducible rfl)
      refine takeA HT_ HW_ hHeld (i := 3) (N := some 18) (bA 32 15) ?_ (hy := by rintro w' ⟨s0, s1, s2, s3⟩; go_simp; with_reducible rfl)
      refine pureA HT_ (i := 4) (N := some 19) (bA 32 31) ?_
      refine pureA HT_ (i := 5) (N := some 20) (bA 32 63) ?_
      refine pureA HT_ (i := 6) (N := some 21) (bA 32 127) ?_
      refine pureA HT_ (i := 8) (N := some 23) (bA 32 383) ?_
      refine takeA HT_ HW_ hHeld (i := 7) (N := some 22) (bA 32 511) ?_ (hy := by rintro w' ⟨s0, s1, s2, s3⟩; go_simp; with_reducible rfl)
      refine one_ (i := 9) (N := some 24) (bA 32 1023) rfl rfl (one_of HT_.out (by kernel_rfl)) (by decide) (fun K hK => ?_)
      refine gO Try.func56 #[.int .i64 a0] ?_
      with_reducible refine (bits_Mask.calls a0 t150 _ A7.out).mono ?_
      rintro e w16 ⟨rfl, hb⟩
      refine ⟨_, rfl, ?_⟩
      replace BK146 := bkB BK146.out hb
      replace HB := bsB HB.out hb
      (try clear hb)
      refine hK.out _ _ (by repeat' (first | apply And.intro | exact (blk_cell BK146.out _).trans rfl)) (fun hHeld => ?_)
      clear hK K
      refine normA (some 24) ?_
      refine pureA HT_ (i := 10) (N := some 25) (bA 32 2047) ?_
      refine pureA HT_ (i := 11) (N := some 26) (bA 32 4095) ?_
      refine pureA HT_ (i := 12) (N := some 27) (bA 32 8191) ?_
      refine pureA HT_ (i := 13) (N := some 28) (bA 32 16383) ?_
      refine pureA HT_ (i := 14) (N := some 29) (bA 32 32767) ?_
      refine takeA HT_ HW_ hHeld (i := 15) (N := some 30) (bA 32 65535) ?_ (hy := by rintro w' ⟨s0, s1, s2, s3⟩; go_simp; with_reducible rfl)
      refine pureA HT_ (i := 16) (N := some 31) (bA 32 131071) ?_
      refine pureA HT_ (i := 17) (N := some 32) (bA 32 262143) ?_
      refine pureA HT_ (i := 18) (N := some 33) (bA 32 524287) ?_
      refine pureA HT_ (i := 19) (N := some 34) (bA 32 1048575) ?_
      refine pureA HT_ (i := 21) (N := some 36) (bA 32 3145727) ?_
      refine takeA HT_ HW_ hHeld (i := 20) (N := some 35) (bA 32 4194303) ?_ (hy := by rintro w' ⟨s0, s1, s2, s3⟩; go_simp; with_reducible rfl)
      refine takeA HT_ HW_ hHeld (i := 22) (N := some 37) (bA 32 8388607) ?_ (hy := by rintro w' ⟨s0, s1, s2, s3⟩; go_simp; with_reducible rfl)
      refine pureA HT_ (i := 23) (N := some 38) (bA 32 16777215) ?_
      refine pureA HT_ (i := 24) (N := some 39) (bA 32 33554431) ?_
      refine pureA HT_ (i := 25) (N := some 40) (bA 32 67108863) ?_
      refine pureU HT_ (i := 26) (N := some 41) (bA 32 134217727) ?_
      refine pureU HT_ (i := 27) (N := some 42) (bA 32 268435455) ?_
      refine pureU HT_ (i := 28) (N := some 43) (bA 32 536870911) ?_
      refine pureU HT_ (i := 29) (N := some 44) (bA 32 1073741823) ?_
      refine pureA HT_ (i := 30) (N := some 45) (bA 32 2147483647) ?_
      refine pureA HT_ (i := 31) (N := some 4) (bA 32 4294967295) ?_
      refine done_ (done_of HT_.out (by kernel_rfl)) ?_
      try go_wp2
      go_ret
      exact ⟨by first | rfl | (simp [errW_none, errW_some] <;> rfl) | (simp [*, errW_none, errW_some] <;> rfl), bsL HB.out⟩
    ·
     rw [if_neg c9] at H
     have c9b0 : decide (t148 ≤ a1_2) = false := decide_eq_false c9
     clear c9
     obtain rfl := Option.some.inj H
     go_enter Try.func21, Try.ntmps21
     try go_wp2_with (first | ((with_reducible refine gate_dst (N := 3) rfl ?_); refine box_event ?hg (N := 3) ?hd (cs := #[.int .u64 a1_0, .int .u64 a1_1, .int .i64 a1_2, .int .i64 a1_3]) (t := 30) ?hr ?_; (case hd => rfl); (case hg => rfl); (case hr => first | (go_simp; done) | (go_simp; rfl)); intro gb146 hg w17 hbox hb; have n0_ := bsB HB.out hb; have n1_ := Aside0.mk (hbox); have n2_ := szB hg HB.out; have n3_ := szB hg HB.out; clear HB; have HB := n0_; have BK146 := n1_; have GW146 := n2_; have GE146 := n3_; clear n0_ n1_ n2_ n3_; clear hb hbox hg) | ((with_reducible refine gate_callee (f := 66) rfl ?_); refine gL (some 8) Try.func66 #[.int .i64 a0] ?_; (with_reducible refine (interval_good.calls a0 true _ A3.out).mono ?_); rintro e w' ⟨rfl, ⟨nd, rfl⟩⟩; refine ⟨_, rfl, ?_⟩) | ((with_reducible refine gate_callee (f := 55) rfl ?_); refine gL (some 12) Try.func55 #[.int .i64 a0] ?_; (with_reducible refine (interval_ends.calls a0 t148 t149 _ A5.out).mono ?_); rintro e w' ⟨rfl, ⟨nd, rfl⟩⟩; refine ⟨_, rfl, ?_⟩))
     (try (rw [drewN_self w17]; generalize hq_ : World.drewN w17 _ = w17; have n0_ : Aside0 (w17.heap[gb146]? = some (.cells #[.int .u64 a1_0, .int .u64 a1_1, .int .i64 a1_2, .int .i64 a1_3] 30 (0, 0))) := ⟨by rw [← hq_]; exact (by exact bfL BK146.out)⟩; have n1_ : Aside0 (Below w.heap.size w w17) := ⟨by rw [← hq_]; exact (by repeat (first | (with_reducible first | exact HB.out | apply below_alloc | apply pw_below_drewN | apply below_drew1 | refine below_set ?_ GE146.out) | exact HB.out))⟩; clear BK146 HB hq_; have BK146 := n0_; have HB := n1_; clear n0_ n1_))
     have n0_ := Aside0.mk (blk_drew BK146.out)
     have n1_ := Aside0.mk (below_drew1 HB.out)
     clear BK146
     clear HB
     have BK146 := n0_
     have HB := n1_
     clear n0_ n1_
     refine start_ (n := 32) (S := fun w' => w'.cell? ⟨gb146, 0, none⟩ = some (.int .u64 a1_0) ∧ w'.cell? ⟨gb146, 1, none⟩ = some (.int .u64 a1_1) ∧ w'.cell? ⟨gb146, 2, none⟩ = some (.int .i64 a1_2) ∧ w'.cell? ⟨gb146, 3, none⟩ = some (.int .i64 a1_3)) (ds := []) (bA 32 0) (by kernel_rfl) rfl rfl (by repeat' (first | apply And.intro | exact (blk_cell BK146.out _).trans rfl)) (fun hHeld => ?_); refine with_tabW interval_Valid.tab4 interval_Valid.bits4 (fun HT_ HW_ => ?_)
     generalize w17.drew = w18 at BK146 HB hHeld ⊢
     refine pureA HT_ (i := 0) (N := some 15) (bA 32 1) ?_
     refine pureA HT_ (i := 2) (N := some 17) (bA 32 5) ?_
     refine takeA HT_ HW_ hHeld (i := 1) (N := some 16) (bA 32 7) ?_ (hy := by rintro w' ⟨s0, s1, s2, s3⟩; go_simp; with_reducible rfl)
     refine takeA HT_ HW_ hHeld (i := 3) (N := some 18) (bA 32 15) ?_ (hy := by rintro w' ⟨s0, s1, s2, s3⟩; go_simp; with_reducible rfl)
     refine pureA HT_ (i := 4) (N := some 19) (bA 32 31) ?_
     refine pureA HT_ (i := 5) (N := some 20) (bA 32 63) ?_
     refine pureA HT_ (i := 6) (N := some 21) (bA 32 127) ?_
     refine pureA HT_ (i := 8) (N := some 23) (bA 32 383) ?_
     refine takeA HT_ HW_ hHeld (i := 7) (N := some 22) (bA 32 511) ?_ (hy := by rintro w' ⟨s0, s1, s2, s3⟩; go_simp; with_reducible rfl)
     refine one_ (i := 9) (N := some 24) (bA 32 1023) rfl rfl (one_of HT_.out (by kernel_rfl)) (by decide) (fun K hK => ?_)
     refine gO Try.func56 #[.int .i64 a0] ?_
     with_reducible refine (bits_Mask.calls a0 t150 _ A7.out).mono ?_
     rintro e w19 ⟨rfl, hb⟩
     refine ⟨_, rfl, ?_⟩
     replace BK146 := bkB BK146.out hb
     replace HB := bsB HB.out hb
     (try clear hb)
     refine hK.out _ _ (by repeat' (first | apply And.intro | exact (blk_cell BK146.out _).trans rfl)) (fun hHeld => ?_)
     clear hK K
     refine normA (some 24) ?_
     refine pureA HT_ (i := 10) (N := some 25) (bA 32 2047) ?_
     refine pureA HT_ (i := 11) (N := some 26) (bA 32 4095) ?_
     refine pureA HT_ (i := 12) (N := some 27) (bA 32 8191) ?_
     refine pureA HT_ (i := 13) (N := some 28) (bA 32 16383) ?_
     refine pureA HT_ (i := 14) (N := some 29) (bA 32 32767) ?_
     refine takeA HT_ HW_ hHeld (i := 15) (N := some 30) (bA 32 65535) ?_ (hy := by rintro w' ⟨s0, s1, s2, s3⟩; go_simp; with_reducible rfl)
     refine pureA HT_ (i := 16) (N := some 31) (bA 32 131071) ?_
     refine pureA HT_ (i := 17) (N := some 32) (bA 32 262143) ?_
     refine pureA HT_ (i := 18) (N := some 33) (bA 32 524287) ?_
     refine pureU HT_ (i := 19) (N := some 34) (bA 32 1048575) ?_
     refine pureU HT_ (i := 20) (N := some 35) (bA 32 2097151) ?_
     refine pureU HT_ (i := 21) (N := some 36) (bA 32 4194303) ?_
     refine pureU HT_ (i := 22) (N := some 37) (bA 32 8388607) ?_
     refine pureU HT_ (i := 23) (N := some 38) (bA 32 16777215) ?_
     refine pureA HT_ (i := 24) (N := some 39) (bA 32 33554431) ?_
     refine pureA HT_ (i := 25) (N := some 40) (bA 32 67108863) ?_
     refine pureU HT_ (i := 26) (N := some 41) (bA 32 134217727) ?_
     refine pureU HT_ (i := 27) (N := some 42) (bA 32 268435455) ?_
     refine pureU HT_ (i := 28) (N := some 43) (bA 32 536870911) ?_
     refine pureU HT_ (i := 29) (N := some 44) (bA 32 1073741823) ?_
     refine pureA HT_ (i := 30) (N := some 45) (bA 32 2147483647) ?_
     refine pureA HT_ (i := 31) (N := some 4) (bA 32 4294967295) ?_
     refine done_ (done_of HT_.out (by kernel_rfl)) ?_
     try go_wp2
     go_ret
     exact ⟨by first | rfl | (simp [errW_none, errW_some] <;> rfl) | (simp [*, errW_none, errW_some] <;> rfl), bsL HB.out⟩
   ·
    rw [if_neg c8] at H
    have c8b0 : decide (a1_1 ≤ t150) = false := decide_eq_false c8
    clear c8
    obtain rfl := Option.some.inj H
    go_enter Try.func21, Try.ntmps21
    try go_wp2_with (first | ((with_reducible refine gate_dst (N := 3) rfl ?_); refine box_event ?hg (N := 3) ?hd (cs := #[.int .u64 a1_0, .int .u64 a1_1, .int .i64 a1_2, .int .i64 a1_3]) (t := 30) ?hr ?_; (case hd => rfl); (case hg => rfl); (case hr => first | (go_simp; done) | (go_simp; rfl)); intro gb146 hg w20 hbox hb; have n0_ := bsB HB.out hb; have n1_ := Aside0.mk (hbox); have n2_ := szB hg HB.out; have n3_ := szB hg HB.out; clear HB; have HB := n0_; have BK146 := n1_; have GW146 := n2_; have GE146 := n3_; clear n0_ n1_ n2_ n3_; clear hb hbox hg) | ((with_reducible refine gate_callee (f := 66) rfl ?_); refine gL (some 8) Try.func66 #[.int .i64 a0] ?_; (with_reducible refine (interval_good.calls a0 true _ A3.out).mono ?_); rintro e w' ⟨rfl, ⟨nd, rfl⟩⟩; refine ⟨_, rfl, ?_⟩) | ((with_reducible refine gate_callee (f := 55) rfl ?_); refine gL (some 12) Try.func55 #[.int .i64 a0] ?_; (with_reducible refine (interval_ends.calls a0 t148 t149 _ A5.out).mono ?_); rintro e w' ⟨rfl, ⟨nd, rfl⟩⟩; refine ⟨_, rfl, ?_⟩))
    (try (rw [drewN_self w20]; generalize hq_ : World.drewN w20 _ = w20; have n0_ : Aside0 (w20.heap[gb146]? = some (.cells #[.int .u64 a1_0, .int .u64 a1_1, .int .i64 a1_2, .int .i64 a1_3] 30 (0, 0))) := ⟨by rw [← hq_]; exact (by exact bfL BK146.out)⟩; have n1_ : Aside0 (Below w.heap.size w w20) := ⟨by rw [← hq_]; exact (by repeat (first | (with_reducible first | exact HB.out | apply below_alloc | apply pw_below_drewN | apply below_drew1 | refine below_set ?_ GE146.out) | exact HB.out))⟩; clear BK146 HB hq_; have BK146 := n0_; have HB := n1_; clear n0_ n1_))
    have n0_ := Aside0.mk (blk_drew BK146.out)
    have n1_ := Aside0.mk (below_drew1 HB.out)
    clear BK146
    clear HB
    have BK146 := n0_
    have HB := n1_
    clear n0_ n1_
    refine start_ (n := 32) (S := fun w' => w'.cell? ⟨gb146, 0, none⟩ = some (.int .u64 a1_0) ∧ w'.cell? ⟨gb146, 1, none⟩ = some (.int .u64 a1_1) ∧ w'.cell? ⟨gb146, 2, none⟩ = some (.int .i64 a1_2) ∧ w'.cell? ⟨gb146, 3, none⟩ = some (.int .i64 a1_3)) (ds := []) (bA 32 0) (by kernel_rfl) rfl rfl (by repeat' (first | apply And.intro | exact (blk_cell BK146.out _).trans rfl)) (fun hHeld => ?_); refine with_tabW interval_Valid.tab4 interval_Valid.bits4 (fun HT_ HW_ => ?_)
    generalize w20.drew = w21 at BK146 HB hHeld ⊢
    refine pureA HT_ (i := 0) (N := some 15) (bA 32 1) ?_
    refine pureA HT_ (i := 2) (N := some 17) (bA 32 5) ?_
    refine takeA HT_ HW_ hHeld (i := 1) (N := some 16) (bA 32 7) ?_ (hy := by rintro w' ⟨s0, s1, s2, s3⟩; go_simp; with_reducible rfl)
    refine takeA HT_ HW_ hHeld (i := 3) (N := some 18) (bA 32 15) ?_ (hy := by rintro w' ⟨s0, s1, s2, s3⟩; go_simp; with_reducible rfl)
    refine pureA HT_ (i := 4) (N := some 19) (bA 32 31) ?_
    refine pureA HT_ (i := 5) (N := some 20) (bA 32 63) ?_
    refine pureA HT_ (i := 6) (N := some 21) (bA 32 127) ?_
    refine pureA HT_ (i := 8) (N := some 23) (bA 32 383) ?_
    refine takeA HT_ HW_ hHeld (i := 7) (N := some 22) (bA 32 511) ?_ (hy := by rintro w' ⟨s0, s1, s2, s3⟩; go_simp; with_reducible rfl)
    refine one_ (i := 9) (N := some 24) (bA 32 1023) rfl rfl (one_of HT_.out (by kernel_rfl)) (by decide) (fun K hK => ?_)
    refine gO Try.func56 #[.int .i64 a0] ?_
    with_reducible refine (bits_Mask.calls a0 t150 _ A7.out).mono ?_
    rintro e w22 ⟨rfl, hb⟩
    refine ⟨_, rfl, ?_⟩
    replace BK146 := bkB BK146.out hb
    replace HB := bsB HB.out hb
    (try clear hb)
    refine hK.out _ _ (by repeat' (first | apply And.intro | exact (blk_cell BK146.out _).trans rfl)) (fun hHeld => ?_)
    clear hK K
    refine normA (some 24) ?_
    refine pureA HT_ (i := 10) (N := some 25) (bA 32 2047) ?_
    refine pureA HT_ (i := 11) (N := some 26) (bA 32 4095) ?_
    refine pureA HT_ (i := 12) (N := some 27) (bA 32 8191) ?_
    refine pureU HT_ (i := 13) (N := some 28) (bA 32 16383) ?_
    refine pureU HT_ (i := 14) (N := some 29) (bA 32 32767) ?_
    refine pureU HT_ (i := 15) (N := some 30) (bA 32 65535) ?_
    refine pureU HT_ (i := 16) (N := some 31) (bA 32 131071) ?_
    refine pureA HT_ (i := 17) (N := some 32) (bA 32 262143) ?_
    refine pureA HT_ (i := 18) (N := some 33) (bA 32 524287) ?_
    refine pureU HT_ (i := 19) (N := some 34) (bA 32 1048575) ?_
    refine pureU HT_ (i := 20) (N := some 35) (bA 32 2097151) ?_
    refine pureU HT_ (i := 21) (N := some 36) (bA 32 4194303) ?_
    refine pureU HT_ (i := 22) (N := some 37) (bA 32 8388607) ?_
    refine pureU HT_ (i := 23) (N := some 38) (bA 32 16777215) ?_
    refine pureA HT_ (i := 24) (N := some 39) (bA 32 33554431) ?_
    refine pureA HT_ (i := 25) (N := some 40) (bA 32 67108863) ?_
    refine pureU HT_ (i := 26) (N := some 41) (bA 32 134217727) ?_
    refine pureU HT_ (i := 27) (N := some 42) (bA 32 268435455) ?_
    refine pureU HT_ (i := 28) (N := some 43) (bA 32 536870911) ?_
    refine pureU HT_ (i := 29) (N := some 44) (bA 32 1073741823) ?_
    refine pureA HT_ (i := 30) (N := some 45) (bA 32 2147483647) ?_
    refine pureA HT_ (i := 31) (N := some 4) (bA 32 4294967295) ?_
    refine done_ (done_of HT_.out (by kernel_rfl)) ?_
    try go_wp2
    go_ret
    exact ⟨by first | rfl | (simp [errW_none, errW_some] <;> rfl) | (simp [*, errW_none, errW_some] <;> rfl), bsL HB.out⟩
  ·
   rw [if_neg c6] at H
   have c6b0 : decide (a1_0 ≤ a1_1) = false := decide_eq_false c6
   clear c6
   obtain rfl := Option.some.inj H
   go_enter Try.func21, Try.ntmps21
   try go_wp2_with (first | ((with_reducible refine gate_dst (N := 3) rfl ?_); refine box_event ?hg (N := 3) ?hd (cs := #[.int .u64 a1_0, .int .u64 a1_1, .int .i64 a1_2, .int .i64 a1_3]) (t := 30) ?hr ?_; (case hd => rfl); (case hg => rfl); (case hr => first | (go_simp; done) | (go_simp; rfl)); intro gb146 hg w23 hbox hb; have n0_ := bsB HB.out hb; have n1_ := Aside0.mk (hbox); have n2_ := szB hg HB.out; have n3_ := szB hg HB.out; clear HB; have HB := n0_; have BK146 := n1_; have GW146 := n2_; have GE146 := n3_; clear n0_ n1_ n2_ n3_; clear hb hbox hg) | ((with_reducible refine gate_callee (f := 66) rfl ?_); refine gL (some 8) Try.func66 #[.int .i64 a0] ?_; (with_reducible refine (interval_good.calls a0 true _ A3.out).mono ?_); rintro e w' ⟨rfl, ⟨nd, rfl⟩⟩; refine ⟨_, rfl, ?_⟩) | ((with_reducible refine gate_callee (f := 55) rfl ?_); refine gL (some 12) Try.func55 #[.int .i64 a0] ?_; (with_reducible refine (interval_ends.calls a0 t148 t149 _ A5.out).mono ?_); rintro e w' ⟨rfl, ⟨nd, rfl⟩⟩; refine ⟨_, rfl, ?_⟩))
   (try (rw [drewN_self w23]; generalize hq_ : World.drewN w23 _ = w23; have n0_ : Aside0 (w23.heap[gb146]? = some (.cells #[.int .u64 a1_0, .int .u64 a1_1, .int .i64 a1_2, .int .i64 a1_3] 30 (0, 0))) := ⟨by rw [← hq_]; exact (by exact bfL BK146.out)⟩; have n1_ : Aside0 (Below w.heap.size w w23) := ⟨by rw [← hq_]; exact (by repeat (first | (with_reducible first | exact HB.out | apply below_alloc | apply pw_below_drewN | apply below_drew1 | refine below_set ?_ GE146.out) | exact HB.out))⟩; clear BK146 HB hq_; have BK146 := n0_; have HB := n1_; clear n0_ n1_))
   have n0_ := Aside0.mk (blk_drew BK146.out)
   have n1_ := Aside0.mk (below_drew1 HB.out)
   clear BK146
   clear HB
   have BK146 := n0_
   have HB := n1_
   clear n0_ n1_
   refine start_ (n := 32) (S := fun w' => w'.cell? ⟨gb146, 0, none⟩ = some (.int .u64 a1_0) ∧ w'.cell? ⟨gb146, 1, none⟩ = some (.int .u64 a1_1) ∧ w'.cell? ⟨gb146, 2, none⟩ = some (.int .i64 a1_2) ∧ w'.cell? ⟨gb146, 3, none⟩ = some (.int .i64 a1_3)) (ds := []) (bA 32 0) (by kernel_rfl) rfl rfl (by repeat' (first | apply And.intro | exact (blk_cell BK146.out _).trans rfl)) (fun hHeld => ?_); refine with_tabW interval_Valid.tab4 interval_Valid.bits4 (fun HT_ HW_ => ?_)
   generalize w23.drew = w24 at BK146 HB hHeld ⊢
   refine pureA HT_ (i := 0) (N := some 15) (bA 32 1) ?_
   refine pureA HT_ (i := 2) (N := some 17) (bA 32 5) ?_
   refine takeA HT_ HW_ hHeld (i := 1) (N := some 16) (bA 32 7) ?_ (hy := by rintro w' ⟨s0, s1, s2, s3⟩; go_simp; with_reducible rfl)
   refine takeA HT_ HW_ hHeld (i := 3) (N := some 18) (bA 32 15) ?_ (hy := by rintro w' ⟨s0, s1, s2, s3⟩; go_simp; with_reducible rfl)
   refine pureA HT_ (i := 4) (N := some 19) (bA 32 31) ?_
   refine pureA HT_ (i := 5) (N := some 20) (bA 32 63) ?_
   refine pureU HT_ (i := 6) (N := some 21) (bA 32 127) ?_
   refine pureU HT_ (i := 7) (N := some 22) (bA 32 255) ?_
   refine pureU HT_ (i := 8) (N := some 23) (bA 32 511) ?_
   refine pureU HT_ (i := 9) (N := some 24) (bA 32 1023) ?_
   refine pureU HT_ (i := 10) (N := some 25) (bA 32 2047) ?_
   refine pureA HT_ (i := 11) (N := some 26) (bA 32 4095) ?_
   refine pureA HT_ (i := 12) (N := some 27) (bA 32 8191) ?_
   refine pureU HT_ (i := 13) (N := some 28) (bA 32 16383) ?_
   refine pureU HT_ (i := 14) (N := some 29) (bA 32 32767) ?_
   refine pureU HT_ (i := 15) (N := some 30) (bA 32 65535) ?_
   refine pureU HT_ (i := 16) (N := some 31) (bA 32 131071) ?_
   refine pureA HT_ (i := 17) (N := some 32) (bA 32 262143) ?_
   refine pureA HT_ (i := 18) (N := some 33) (bA 32 524287) ?_
   refine pureU HT_ (i := 19) (N := some 34) (bA 32 1048575) ?_
   refine pureU HT_ (i := 20) (N := some 35) (bA 32 2097151) ?_
   refine pureU HT_ (i := 21) (N := some 36) (bA 32 4194303) ?_
   refine pureU HT_ (i := 22) (N := some 37) (bA 32 8388607) ?_
   refine pureU HT_ (i := 23) (N := some 38) (bA 32 16777215) ?_
   refine pureA HT_ (i := 24) (N := some 39) (bA 32 33554431) ?_
   refine pureA HT_ (i := 25) (N := some 40) (bA 32 67108863) ?_
   refine pureU HT_ (i := 26) (N := some 41) (bA 32 134217727) ?_
   refine pureU HT_ (i := 27) (N := some 42) (bA 32 268435455) ?_
   refine pureU HT_ (i := 28) (N := some 43) (bA 32 536870911) ?_
   refine pureU HT_ (i := 29) (N := some 44) (bA 32 1073741823) ?_
   refine pureA HT_ (i := 30) (N := some 45) (bA 32 2147483647) ?_
   refine pureA HT_ (i := 31) (N := some 4) (bA 32 4294967295) ?_
   refine done_ (done_of HT_.out (by kernel_rfl)) ?_
   try go_wp2
   go_ret
   exact ⟨by first | rfl | (simp [errW_none, errW_some] <;> rfl) | (simp [*, errW_none, errW_some] <;> rfl), bsL HB.out⟩
 ·
  replace c4 := Bool.eq_false_iff.mpr c4
  subst c4
  have H1 : (some false) = some r := by rw [if_neg (show ¬ (false = true) by decide)] at H; exact H
  clear H
  have H := H1
  clear H1
  obtain rfl := Option.some.inj H
  go_enter Try.func21, Try.ntmps21
  go_wp2_with (first | ((with_reducible refine gate_dst (N := 3) rfl ?_); refine box_event ?hg (N := 3) ?hd (cs := #[.int .u64 a1_0, .int .u64 a1_1, .int .i64 a1_2, .int .i64 a1_3]) (t := 30) ?hr ?_; (case hd => rfl); (case hg => rfl); (case hr => first | (go_simp; done) | (go_simp; rfl)); intro gb146 hg w25 hbox hb; have n0_ := bsB HB.out hb; have n1_ := Aside0.mk (hbox); have n2_ := szB hg HB.out; have n3_ := szB hg HB.out; clear HB; have HB := n0_; have BK146 := n1_; have GW146 := n2_; have GE146 := n3_; clear n0_ n1_ n2_ n3_; clear hb hbox hg) | ((with_reducible refine gate_callee (f := 66) rfl ?_); refine gL (some 8) Try.func66 #[.int .i64 a0] ?_; (with_reducible refine (interval_good.calls a0 false _ A3.out).mono ?_); rintro e w' ⟨rfl, ⟨nd, rfl⟩⟩; refine ⟨_, rfl, ?_⟩))
  go_ret
  exact ⟨by first | rfl | (simp [errW_none, errW_some] <;> rfl) | (simp [*, errW_none, errW_some] <;> rfl), bsL HB.out⟩

/-! ### facts_span: function 76 -/
def facts_span.f (a0_0 : Int) (a0_1 : Int) (a0_2 : Int) (a0_3 : Int) (a0_4 : Int) (a0_5 : Int) : Option (Int × Int × Int × Int) := some (a0_2, a0_3, a0_4, a0_5)
set_option maxHeartbeats 8000000 in
set_option maxRecDepth 100000 in
theorem facts_span.calls (a0_0 : Int) (a0_1 : Int) (a0_2 : Int) (a0_3 : Int) (a0_4 : Int) (a0_5 : Int) (r1 : Int) (r2 : Int) (r3 : Int) (r4 : Int) (w : World) (h : facts_span.f a0_0 a0_1 a0_2 a0_3 a0_4 a0_5 = some (r1, r2, r3, r4)) :
  Calls Try.prog 76 #[.agg #[.int .u64 a0_0, .int .u64 a0_1, .int .u64 a0_2, .int .u64 a0_3, .int .i64 a0_4, .int .i64 a0_5]] w fun e w' => e = .returned (.agg #[.int .u64 r1, .int .u64 r2, .int .i64 r3, .int .i64 r4]) ∧ Below w.heap.size w w' := by
 have hu50 := Try.underlying50
 have hu30 := Try.underlying30
 have HB := Aside0.mk (Below.refl w.heap.size w)
 have H : (some (a0_2, a0_3, a0_4, a0_5)) = some (r1, r2, r3, r4) := h
 clear h
 simp only [Option.some.injEq, Prod.mk.injEq] at H
 obtain ⟨rfl, rfl, rfl, rfl⟩ := H
 go_enter Try.func76, Try.ntmps76
 go_wp2_with (first | ((with_reducible refine gate_dst (N := 1) rfl ?_); refine box_event ?hg (N := 1) ?hd (cs := #[.int .u64 a0_0, .int .u64 a0_1, .int .u64 a0_2, .int .u64 a0_3, .int .i64 a0_4, .int .i64 a0_5]) (t := 50) ?hr ?_; (case hd => rfl); (case hg => rfl); (case hr => first | (go_simp; done) | (go_simp; rfl)); intro gb151 hg w2 hbox hb; have n0_ := bsB HB.out hb; have n1_ := Aside0.mk (hbox); have n2_ := szB hg HB.out; have n3_ := szB hg HB.out; clear HB; have HB := n0_; have BK151 := n1_; have GW151 := n2_; have GE151 := n3_; clear n0_ n1_ n2_ n3_; clear hb hbox hg) | ((with_reducible refine gate_dst (N := 2) rfl ?_); refine box_event ?hg (N := 2) ?hd (cs := #[.int .u64 0, .int .u64 0, .int .i64 0, .int .i64 0]) (t := 30) ?hr ?_; (case hd => rfl); (case hg => rfl); (case hr => first | (go_simp; done) | (go_simp; rfl)); intro gb152 hg w3 hbox hb; have n0_ := bkB BK151.out hb; have n1_ := bsB HB.out hb; have n2_ := Aside0.mk (hbox); have n3_ := szB hg HB.out; have n4_ := szB hg HB.out; have n5_ := Aside0.mk ((by rw [hg]; exact Nat.ne_of_lt (blk_lt (g := gb151) (o := .cells #[.int .u64 a0_0, .int .u64 a0_1, .int .u64 a0_2, .int .u64 a0_3, .int .i64 a0_4, .int .i64 a0_5] 50 (0, 0)) (by exact bfL BK151.out)) : gb151 ≠ gb152)); have n6_ := Aside0.mk ((by rw [hg]; exact Nat.ne_of_gt (blk_lt (g := gb151) (o := .cells #[.int .u64 a0_0, .int .u64 a0_1, .int .u64 a0_2, .int .u64 a0_3, .int .i64 a0_4, .int .i64 a0_5] 50 (0, 0)) (by exact bfL BK151.out)) : gb152 ≠ gb151)); clear BK151; clear HB; have BK151 := n0_; have HB := n1_; have BK152 := n2_; have GW152 := n3_; have GE152 := n4_; have NB151_152 := n5_; have NB152_151 := n6_; clear n0_ n1_ n2_ n3_ n4_ n5_ n6_; clear hb hbox hg; have hnb4 := NB151_152.out; have hnc4 := NB152_151.out; have hcz5_0 : w3.cell? ⟨gb151, 0, none⟩ = some (.int .u64 a0_0) := (blk_cell BK151.out 0).trans rfl; have hcz5_1 : w3.cell? ⟨gb151, 1, none⟩ = some (.int .u64 a0_1) := (blk_cell BK151.out 1).trans rfl; have hcz5_2 : w3.cell? ⟨gb151, 2, none⟩ = some (.int .u64 a0_2) := (blk_cell BK151.out 2).trans rfl; have hcz5_3 : w3.cell? ⟨gb151, 3, none⟩ = some (.int .u64 a0_3) := (blk_cell BK151.out 3).trans rfl; have hcz5_4 : w3.cell? ⟨gb151, 4, none⟩ = some (.int .i64 a0_4) := (blk_cell BK151.out 4).trans rfl; have hcz5_5 : w3.cell? ⟨gb151, 5, none⟩ = some (.int .i64 a0_5) := (blk_cell BK151.out 5).trans rfl; have hfz5_0 := blk_frozen BK151.out 0; have hfz5_1 := blk_frozen BK151.out 1; have hfz5_2 := blk_frozen BK151.out 2; have hfz5_3 := blk_frozen BK151.out 3; have hfz5_4 := blk_frozen BK151.out 4; have hfz5_5 := blk_frozen BK151.out 5; have hcz6_0 : w3.cell? ⟨gb152, 0, none⟩ = some (.int .u64 0) := (blk_cell BK152.out 0).trans rfl; have hcz6_1 : w3.cell? ⟨gb152, 1, none⟩ = some (.int .u64 0) := (blk_cell BK152.out 1).trans rfl; have hcz6_2 : w3.cell? ⟨gb152, 2, none⟩ = some (.int .i64 0) := (blk_cell BK152.out 2).trans rfl; have hcz6_3 : w3.cell? ⟨gb152, 3, none⟩ = some (.int .i64 0) := (blk_cell BK152.out 3).trans rfl; have hfz6_0 := blk_frozen BK152.out 0; have hfz6_1 := blk_frozen BK152.out 1; have hfz6_2 := blk_frozen BK152.out 2; have hfz6_3 := blk_frozen BK152.out 3))
 refine bodyPost_ret (results_cell_row rfl _ _ gb152 30 #[.int .u64 a0_2, .int .u64 a0_3, .int .i64 a0_4, .int .i64 a0_5] (0, 0) _ rfl (by (with_reducible repeat (first | refine blk_drewN ?_ _ | refine blk_drew ?_ | refine blk_alloc ?_ _)); refine blk_put (cs := #[.int .u64 a0_2, .int .u64 a0_3, .int .i64 a0_4, .int .i64 0]) ?_ 3 _ rfl; (with_reducible repeat (first | refine blk_drewN ?_ _ | refine blk_drew ?_ | refine blk_alloc ?_ _)); refine blk_put (cs := #[.int .u64 a0_2, .int .u64 a0_3, .int .i64 0, .int .i64 0]) ?_ 2 _ rfl; (with_reducible repeat (first | refine blk_drewN ?_ _ | refine blk_drew ?_ | refine blk_alloc ?_ _)); refine blk_put (cs := #[.int .u64 a0_2, .int .u64 0, .int .i64 0, .int .i64 0]) ?_ 1 _ rfl; (with_reducible repeat (first | refine blk_drewN ?_ _ | refine blk_drew ?_ | refine blk_alloc ?_ _)); refine blk_put (cs := #[.int .u64 0, .int .u64 0, .int .i64 0, .int .i64 0]) ?_ 0 _ rfl; exact bfL BK152.out) Try.underlying30 rfl (by kernel_rfl)) rfl ?_
 exact ⟨by first | rfl | (simp [errW_none, errW_some] <;> rfl) | (simp [*, errW_none, errW_some] <;> rfl), bsL HB.out⟩

/-! ### facts_known: function 86 -/
def facts_known.f (a0_0 : Int) (a0_1 : Int) (a0_2 : Int) (a0_3 : Int) (a0_4 : Int) (a0_5 : Int) : Option (Int × Int) := some (a0_0, a0_1)
set_option maxHeartbeats 8000000 in
set_option maxRecDepth 100000 in
theorem facts_known.calls (a0_0 : Int) (a0_1 : Int) (a0_2 : Int) (a0_3 : Int) (a0_4 : Int) (a0_5 : Int) (r1 : Int) (r2 : Int) (w : World) (h : facts_known.f a0_0 a0_1 a0_2 a0_3 a0_4 a0_5 = some (r1, r2)) :
  Calls Try.prog 86 #[.agg #[.int .u64 a0_0, .int .u64 a0_1, .int .u64 a0_2, .int .u64 a0_3, .int .i64 a0_4, .int .i64 a0_5]] w fun e w' => e = .returned (.agg #[.int .u64 r1, .int .u64 r2]) ∧ Below w.heap.size w w' := by
 have hu50 := Try.underlying50
 have hu110 := Try.underlying110
 have HB := Aside0.mk (Below.refl w.heap.size w)
 have H : (some (a0_0, a0_1)) = some (r1, r2) := h
 clear h
 simp only [Option.some.injEq, Prod.mk.injEq] at H
 obtain ⟨rfl, rfl⟩ := H
 go_enter Try.func86, Try.ntmps86
 go_wp2_with (first | ((with_reducible refine gate_dst (N := 1) rfl ?_); refine box_event ?hg (N := 1) ?hd (cs := #[.int .u64 a0_0, .int .u64 a0_1, .int .u64 a0_2, .int .u64 a0_3, .int .i64 a0_4, .int .i64 a0_5]) (t := 50) ?hr ?_; (case hd => rfl); (case hg => rfl); (case hr => first | (go_simp; done) | (go_simp; rfl)); intro gb153 hg w2 hbox hb; have n0_ := bsB HB.out hb; have n1_ := Aside0.mk (hbox); have n2_ := szB hg HB.out; have n3_ := szB hg HB.out; clear HB; have HB := n0_; have BK153 := n1_; have GW153 := n2_; have GE153 := n3_; clear n0_ n1_ n2_ n3_; clear hb hbox hg) | ((with_reducible refine gate_dst (N := 2) rfl ?_); refine box_event ?hg (N := 2) ?hd (cs := #[.int .u64 0, .int .u64 0]) (t := 110) ?hr ?_; (case hd => rfl); (case hg => rfl); (case hr => first | (go_simp; done) | (go_simp; rfl)); intro gb154 hg w3 hbox hb; have n0_ := bkB BK153.out hb; have n1_ := bsB HB.out hb; have n2_ := Aside0.mk (hbox); have n3_ := szB hg HB.out; have n4_ := szB hg HB.out; have n5_ := Aside0.mk ((by rw [hg]; exact Nat.ne_of_lt (blk_lt (g := gb153) (o := .cells #[.int .u64 a0_0, .int .u64 a0_1, .int .u64 a0_2, .int .u64 a0_3, .int .i64 a0_4, .int .i64 a0_5] 50 (0, 0)) (by exact bfL BK153.out)) : gb153 ≠ gb154)); have n6_ := Aside0.mk ((by rw [hg]; exact Nat.ne_of_gt (blk_lt (g := gb153) (o := .cells #[.int .u64 a0_0, .int .u64 a0_1, .int .u64 a0_2, .int .u64 a0_3, .int .i64 a0_4, .int .i64 a0_5] 50 (0, 0)) (by exact bfL BK153.out)) : gb154 ≠ gb153)); clear BK153; clear HB; have BK153 := n0_; have HB := n1_; have BK154 := n2_; have GW154 := n3_; have GE154 := n4_; have NB153_154 := n5_; have NB154_153 := n6_; clear n0_ n1_ n2_ n3_ n4_ n5_ n6_; clear hb hbox hg; have hnb4 := NB153_154.out; have hnc4 := NB154_153.out; have hcz5_0 : w3.cell? ⟨gb153, 0, none⟩ = some (.int .u64 a0_0) := (blk_cell BK153.out 0).trans rfl; have hcz5_1 : w3.cell? ⟨gb153, 1, none⟩ = some (.int .u64 a0_1) := (blk_cell BK153.out 1).trans rfl; have hcz5_2 : w3.cell? ⟨gb153, 2, none⟩ = some (.int .u64 a0_2) := (blk_cell BK153.out 2).trans rfl; have hcz5_3 : w3.cell? ⟨gb153, 3, none⟩ = some (.int .u64 a0_3) := (blk_cell BK153.out 3).trans rfl; have hcz5_4 : w3.cell? ⟨gb153, 4, none⟩ = some (.int .i64 a0_4) := (blk_cell BK153.out 4).trans rfl; have hcz5_5 : w3.cell? ⟨gb153, 5, none⟩ = some (.int .i64 a0_5) := (blk_cell BK153.out 5).trans rfl; have hfz5_0 := blk_frozen BK153.out 0; have hfz5_1 := blk_frozen BK153.out 1; have hfz5_2 := blk_frozen BK153.out 2; have hfz5_3 := blk_frozen BK153.out 3; have hfz5_4 := blk_frozen BK153.out 4; have hfz5_5 := blk_frozen BK153.out 5; have hcz6_0 : w3.cell? ⟨gb154, 0, none⟩ = some (.int .u64 0) := (blk_cell BK154.out 0).trans rfl; have hcz6_1 : w3.cell? ⟨gb154, 1, none⟩ = some (.int .u64 0) := (blk_cell BK154.out 1).trans rfl; have hfz6_0 := blk_frozen BK154.out 0; have hfz6_1 := blk_frozen BK154.out 1))
 refine bodyPost_ret (results_cell_row rfl _ _ gb154 110 #[.int .u64 a0_0, .int .u64 a0_1] (0, 0) _ rfl (by (with_reducible repeat (first | refine blk_drewN ?_ _ | refine blk_drew ?_ | refine blk_alloc ?_ _)); refine blk_put (cs := #[.int .u64 a0_0, .int .u64 0]) ?_ 1 _ rfl; (with_reducible repeat (first | refine blk_drewN ?_ _ | refine blk_drew ?_ | refine blk_alloc ?_ _)); refine blk_put (cs := #[.int .u64 0, .int .u64 0]) ?_ 0 _ rfl; exact bfL BK154.out) Try.underlying110 rfl (by kernel_rfl)) rfl ?_
 exact ⟨by first | rfl | (simp [errW_none, errW_some] <;> rfl) | (simp [*, errW_none, errW_some] <;> rfl), bsL HB.out⟩

end Go.Proofs.Ytbiohdgeclokmaa.P
