-- made by a program of this work (wip/mkprint.py, wip/mp.sh) out of the translation
import Derived.Test.YtbiohdgeclokmaaPx0
import Derived.Test.YtbiohdgeclokmaaPx9
namespace Go.Proofs.Ytbiohdgeclokmaa.P
open Go.RowKit Go.Proofs.YtbiohdgeclokmaaW.PrintWords Go.Proofs.YtbiohdgeclokmaaW.PrintLast Go.Proofs.YtbiohdgeclokmaaW.PrintMore
attribute [local go_sem] max2_int min2_int max_two min_two max_three min_three max_four min_four   -- for this text's walks alone
set_option linter.unusedVariables false
set_option linter.unusedSimpArgs false

/-! ### jacquardref13_Valid: function 74 -/
def jacquardref13_Valid.f (k : Nat) (a0 : Int) (a1_0 : Int) (a1_1 : Int) (a1_2 : Int) (a1_3 : Int) : Option (Bool) := if a0 ≥ 1 then (if a0 ≤ 64 then (if a1_0 ≤ a1_1 then ((jacquardref13_Umax.f k a0).bind fun t219 => (if a1_1 ≤ t219 then ((jacquardref13_Smin.f k a0).bind fun t220 => (if t220 ≤ a1_2 then (if a1_2 ≤ a1_3 then ((jacquardref13_Smax.f k a0).bind fun t221 => (some (decide (a1_3 ≤ t221)))) else (some false)) else (some false))) else (some false))) else (some false)) else (some false)) else (some false)
theorem jacquardref13_Valid.mono : ∀ a0 a1 a2 a3 a4 k, LeO (jacquardref13_Valid.f k a0 a1 a2 a3 a4) (jacquardref13_Valid.f (k + 1) a0 a1 a2 a3 a4) := by
 intro a0 a1 a2 a3 a4 k
 unfold jacquardref13_Valid.f
 repeat' first
   | (with_reducible exact jacquardref13_Smax.mono _ _)
   | (with_reducible exact jacquardref13_Smin.mono _ _)
   | (with_reducible exact jacquardref13_Umax.mono _ _)
   | (with_reducible exact LeO.refl _)
   | (with_reducible exact LeO.none _)
   | (with_reducible refine LeO.ite ?_ ?_)
   | (with_reducible refine LeO.bind ?_ (fun _ => ?_))
   | exact jacquardref13_Smax.mono _ _
   | exact jacquardref13_Smin.mono _ _
   | exact jacquardref13_Umax.mono _ _
   | exact LeO.none _
   | refine LeO.ite ?_ ?_
   | refine LeO.bind ?_ (fun _ => ?_)
def jacquardref13_Valid.T1 : Bool × List (List Nat × List Nat) := (true, [([], []), ([0], [0]), ([1], [1]), ([2], [2]), ([3, 2], [2, 3]), ([2, 4], [2, 4]), ([5, 2], [5]), ([6], [6]), ([7, 6], [6, 7]), ([6], [6]), ([9, 6], [6, 9]), ([8, 10, 6], [6, 8, 10]), ([6, 11], [6, 11]), ([12, 6], [12]), ([13], [13]), ([14, 13], [13, 14]), ([13], [13]), ([16, 13, 13], [13, 16]), ([15, 17, 13], [13, 15, 17]), ([13, 18], [13, 18]), ([19, 17], [19]), ([20], [20]), ([21, 20, 20], [20, 21]), ([20], [20]), ([23, 20], [20, 23]), ([22, 24, 20], [20, 22, 24]), ([20, 25], [20, 25]), ([26, 22], [26]), ([27], [27]), ([28, 27], [27, 28]), ([27], [27]), ([30, 27], [27, 30]), ([29, 31, 27], [27, 29, 31]), ([27, 32], [27, 32]), ([33, 27], [33]), ([34], [34]), ([35, 34], [34, 35]), ([34], [34]), ([37, 34, 34], [34, 37]), ([36, 38, 34], [34, 36, 38]), ([34, 39], [34, 39]), ([40, 38, 0, 1, 2, 3, 4, 5, 6, 7, 8, 9, 10, 11, 12, 13, 14, 15, 16, 17, 18, 19, 20, 21, 22, 23, 24, 25, 26, 27, 28, 29, 30, 31, 32, 33, 34, 35, 36, 37, 38, 39, 40], [40])])
def jacquardref13_Valid.B1 : List Nat := [0, 1, 3, 7, 15, 31, 63, 127, 255, 127, 639, 2047, 4095, 8191, 16383, 32767, 16383, 81919, 262143, 524287, 1048575, 2097151, 4194303, 2097151, 10485759, 33554431, 67108863, 134217727, 268435455, 536870911, 268435455, 1342177279, 4294967295, 8589934591, 17179869183, 34359738367, 68719476735, 34359738367, 171798691839, 549755813887, 1099511627775, 2199023255551]
theorem jacquardref13_Valid.tab1 : rtab .any (opsOf Try.f74 1) = jacquardref13_Valid.T1 := by kernel_rfl
theorem jacquardref13_Valid.bits1 : waitsOk jacquardref13_Valid.T1.2 jacquardref13_Valid.B1 = true := by kernel_rfl
set_option maxHeartbeats 8000000 in
set_option maxRecDepth 100000 in
theorem jacquardref13_Valid.calls (k : Nat) (a0 : Int) (a1_0 : Int) (a1_1 : Int) (a1_2 : Int) (a1_3 : Int) (r : Bool) (w : World) (h : jacquardref13_Valid.f k a0 a1_0 a1_1 a1_2 a1_3 = some r) :
  Calls Try.prog 74 #[.int .i64 a0, .agg #[.int .u64 a1_0, .int .u64 a1_1, .int .i64 a1_2, .int .i64 a1_3]] w fun e w' => e = .returned (.bool r) ∧ Below w.heap.size w w' := by
 have hu30 := Try.underlying30
 have HB := Aside0.mk (Below.refl w.heap.size w)
 have H : (if a0 ≥ 1 then (if a0 ≤ 64 then (if a1_0 ≤ a1_1 then ((jacquardref13_Umax.f k a0).bind fun t219 => (if a1_1 ≤ t219 then ((jacquardref13_Smin.f k a0).bind fun t220 => (if t220 ≤ a1_2 then (if a1_2 ≤ a1_3 then ((jacquardref13_Smax.f k a0).bind fun t221 => (some (decide (a1_3 ≤ t221)))) else (some false)) else (some false))) else (some false))) else (some false)) else (some false)) else (some false)) = some r := h
 clear h
 by_cases c3 : a0 ≥ 1
 ·
  rw [if_pos c3] at H
  have c3b0 : decide (1 ≤ a0) = true := decide_eq_true c3
  clear c3
  by_cases c4 : a0 ≤ 64
  ·
   rw [if_pos c4] at H
   have c4b0 : decide (a0 ≤ 64) = true := decide_eq_true c4
   clear c4
   by_cases c5 : a1_0 ≤ a1_1
   ·
    rw [if_pos c5] at H
    have c5b0 : decide (a1_0 ≤ a1_1) = true := decide_eq_true c5
    clear c5
    replace H := Option.bind_eq_some_iff.mp H
    obtain ⟨t219, A60, H⟩ := H
    replace H : (if a1_1 ≤ t219 then ((jacquardref13_Smin.f k a0).bind fun t220 => (if t220 ≤ a1_2 then (if a1_2 ≤ a1_3 then ((jacquardref13_Smax.f k a0).bind fun t221 => (some (decide (a1_3 ≤ t221)))) else (some false)) else (some false))) else (some false)) = some r := H
    have A6 := Aside0.mk A60
    clear A60
    by_cases c7 : a1_1 ≤ t219
    ·
     rw [if_pos c7] at H
     have c7b0 : decide (a1_1 ≤ t219) = true := decide_eq_true c7
     clear c7
     replace H := Option.bind_eq_some_iff.mp H
     obtain ⟨t220, A80, H⟩ := H
     replace H : (if t220 ≤ a1_2 then (if a1_2 ≤ a1_3 then ((jacquardref13_Smax.f k a0).bind fun t221 => (some (decide (a1_3 ≤ t221)))) else (some false)) else (some false)) = some r := H
     have A8 := Aside0.mk A80
     clear A80
     by_cases c9 : t220 ≤ a1_2
     ·
      rw [if_pos c9] at H
      have c9b0 : decide (t220 ≤ a1_2) = true := decide_eq_true c9
      clear c9
      by_cases c10 : a1_2 ≤ a1_3
      ·
       rw [if_pos c10] at H
       have c10b0 : decide (a1_2 ≤ a1_3) = true := decide_eq_true c10
       clear c10
       replace H := Option.bind_eq_some_iff.mp H
       obtain ⟨t221, A110, H⟩ := H
       replace H : (some (decide (a1_3 ≤ t221))) = some r := H
       have A11 := Aside0.mk A110
       clear A110
       obtain rfl := Option.some.inj H
       go_enter Try.func74, Try.ntmps74
       try go_wp2_with (first | ((with_reducible refine gate_dst (N := 3) rfl ?_); refine box_event ?hg (N := 3) ?hd (cs := #[.int .u64 a1_0, .int .u64 a1_1, .int .i64 a1_2, .int .i64 a1_3]) (t := 30) ?hr ?_; (case hd => rfl); (case hg => rfl); (case hr => first | (go_simp; done) | (go_simp; rfl)); intro gb218 hg w12 hbox hb; have n0_ := bsB HB.out hb; have n1_ := Aside0.mk (hbox); have n2_ := szB hg HB.out; have n3_ := szB hg HB.out; clear HB; have HB := n0_; have BK218 := n1_; have GW218 := n2_; have GE218 := n3_; clear n0_ n1_ n2_ n3_; clear hb hbox hg))
       have n0_ := Aside0.mk (blk_drew BK218.out)
       have n1_ := Aside0.mk (below_drew1 HB.out)
       clear BK218
       clear HB
       have BK218 := n0_
       have HB := n1_
       clear n0_ n1_
       refine start_ (n := 42) (S := fun w' => w'.cell? ⟨gb218, 0, none⟩ = some (.int .u64 a1_0) ∧ w'.cell? ⟨gb218, 1, none⟩ = some (.int .u64 a1_1) ∧ w'.cell? ⟨gb218, 2, none⟩ = some (.int .i64 a1_2) ∧ w'.cell? ⟨gb218, 3, none⟩ = some (.int .i64 a1_3)) (ds := []) (bA 42 0) (by kernel_rfl) rfl rfl (by repeat' (first | apply And.intro | exact (blk_cell BK218.out _).trans rfl)) (fun hHeld => ?_); refine with_tabW jacquardref13_Valid.tab1 jacquardref13_Valid.bits1 (fun HT_ HW_ => ?_)
       generalize w12.drew = w13 at BK218 HB hHeld ⊢
       refine pureA HT_ (i := 0) (N := some 5) (bA 42 1) ?_
       refine pureA HT_ (i := 1) (N := some 6) (bA 42 3) ?_
       refine pureA HT_ (i := 2) (N := some 7) (bA 42 7) ?_
       refine pureA HT_ (i := 3) (N := some 8) (bA 42 15) ?_
       refine pureA HT_ (i := 4) (N := some 9) (bA 42 31) ?_
       refine pureA HT_ (i := 5) (N := some 10) (bA 42 63) ?_
       refine pureA HT_ (i := 6) (N := some 11) (bA 42 127) ?_
       refine pureA HT_ (i := 7) (N := some 12) (bA 42 255) ?_
       refine pureA HT_ (i := 9) (N := some 14) (bA 42 767) ?_
       refine takeA HT_ HW_ hHeld (i := 8) (N := some 13) (bA 42 1023) ?_ (hy := by rintro w' ⟨s0, s1, s2, s3⟩; go_simp; with_reducible rfl)
       refine takeA HT_ HW_ hHeld (i := 10) (N := some 15) (bA 42 2047) ?_ (hy := by rintro w' ⟨s0, s1, s2, s3⟩; go_simp; with_reducible rfl)
       refine pureA HT_ (i := 11) (N := some 16) (bA 42 4095) ?_
       refine pureA HT_ (i := 12) (N := some 17) (bA 42 8191) ?_
       refine pureA HT_ (i := 13) (N := some 18) (bA 42 16383) ?_
       refine pureA HT_ (i := 14) (N := some 19) (bA 42 32767) ?_
       refine pureA HT_ (i := 16) (N := some 21) (bA 42 98303) ?_
       refine takeA HT_ HW_ hHeld (i := 15) (N := some 20) (bA 42 131071) ?_ (hy := by rintro w' ⟨s0, s1, s2, s3⟩; go_simp; with_reducible rfl)
       refine one_ (i := 17) (N := some 22) (bA 42 262143) rfl rfl (one_of HT_.out (by kernel_rfl)) (by decide) (fun K hK => ?_)
       refine gO Try.func75 #[.int .i64 a0] ?_
       with_reducible refine (jacquardref13_Umax.calls k a0 t219 _ A6.out).mono ?_
       rintro e w' ⟨rfl, ⟨nd, rfl⟩⟩
       refine ⟨_, rfl, ?_⟩
       refine hK.out _ _ (by repeat' (first | apply And.intro | exact (blk_cell BK218.out _).trans rfl)) (fun hHeld => ?_)
       clear hK K
       refine normA (some 22) ?_
       refine pureA HT_ (i := 18) (N := some 23) (bA 42 524287) ?_
       refine pureA HT_ (i := 19) (N := some 24) (bA 42 1048575) ?_
       refine pureA HT_ (i := 20) (N := some 25) (bA 42 2097151) ?_
       refine pureA HT_ (i := 21) (N := some 26) (bA 42 4194303) ?_
       refine pureA HT_ (i := 23) (N := some 28) (bA 42 12582911) ?_
       refine takeA HT_ HW_ hHeld (i := 24) (N := some 29) (bA 42 29360127) ?_ (hy := by rintro w' ⟨s0, s1, s2, s3⟩; go_simp; with_reducible rfl)
       refine one_ (i := 22) (N := some 27) (bA 42 33554431) rfl rfl (one_of HT_.out (by kernel_rfl)) (by decide) (fun K hK => ?_)
       refine gO Try.func133 #[.int .i64 a0] ?_
       with_reducible refine (jacquardref13_Smin.calls k a0 t220 _ A8.out).mono ?_
       rintro e w' ⟨rfl, ⟨nd, rfl⟩⟩
       refine ⟨_, rfl, ?_⟩
       refine hK.out _ _ (by repeat' (first | apply And.intro | exact (blk_cell BK218.out _).trans rfl)) (fun hHeld => ?_)
       clear hK K
       refine normA (some 27) ?_
       refine pureA HT_ (i := 25) (N := some 30) (bA 42 67108863) ?_
       refine pureA HT_ (i := 26) (N := some 31) (bA 42 134217727) ?_
       refine pureA HT_ (i := 27) (N := some 32) (bA 42 268435455) ?_
       refine pureA HT_ (i := 28) (N := some 33) (bA 42 536870911) ?_
       refine pureA HT_ (i := 30) (N := some 35) (bA 42 1610612735) ?_
       refine takeA HT_ HW_ hHeld (i := 29) (N := some 34) (bA 42 2147483647) ?_ (hy := by rintro w' ⟨s0, s1, s2, s3⟩; go_simp; with_reducible rfl)
       refine takeA HT_ HW_ hHeld (i := 31) (N := some 36) (bA 42 4294967295) ?_ (hy := by rintro w' ⟨s0, s1, s2, s3⟩; go_simp; with_reducible rfl)
       refine pureA HT_ (i := 32) (N := some 37) (bA 42 8589934591) ?_
       refine pureA HT_ (i := 33) (N := some 38) (bA 42 17179869183) ?_
       refine pureA HT_ (i := 34) (N := some 39) (bA 42 34359738367) ?_
       refine pureA HT_ (i := 35) (N := some 40) (bA 42 68719476735) ?_
       refine pureA HT_ (i := 37) (N := some 42) (bA 42 206158430207) ?_
       refine takeA HT_ HW_ hHeld (i := 36) (N := some 41) (bA 42 274877906943) ?_ (hy := by rintro w' ⟨s0, s1, s2, s3⟩; go_simp; with_reducible rfl)
       refine one_ (i := 38) (N := some 43) (bA 42 549755813887) rfl rfl (one_of HT_.out (by kernel_rfl)) (by decide) (fun K hK => ?_)
       refine gO Try.func134 #[.int .i64 a0] ?_
       with_reducible refine (jacquardref13_Smax.calls k a0 t221 _ A11.out).mono ?_
       rintro e w' ⟨rfl, ⟨nd, rfl⟩⟩
       refine ⟨_, rfl, ?_⟩
       refine hK.out _ _ (by repeat' (first | apply And.intro | exact (blk_cell BK218.out _).trans rfl)) (fun hHeld => ?_)
       clear hK K
       refine normA (some 43) ?_
       refine pureA HT_ (i := 39) (N := some 44) (bA 42 1099511627775) ?_
       refine pureA HT_ (i := 40) (N := some 45) (bA 42 2199023255551) ?_
       refine pureA HT_ (i := 41) (N := some 4) (bA 42 4398046511103) ?_
       refine done_ (done_of HT_.out (by kernel_rfl)) ?_
       try go_wp2
       go_ret
       exact ⟨by first | rfl | (simp [errW_none, errW_some] <;> rfl) | (simp [*, errW_none, errW_some] <;> rfl), bsL HB.out⟩
      ·
       rw [if_neg c10] at H
       have c10b0 : decide (a1_2 ≤ a1_3) = false := decide_eq_false c10
       clear c10
       obtain rfl := Option.some.inj H
       go_enter Try.func74, Try.ntmps74
       try go_wp2_with (first | ((with_reducible refine gate_dst (N := 3) rfl ?_); refine box_event ?hg (N := 3) ?hd (cs := #[.int .u64 a1_0, .int .u64 a1_1, .int .i64 a1_2, .int .i64 a1_3]) (t := 30) ?hr ?_; (case hd => rfl); (case hg => rfl); (case hr => first | (go_simp; done) | (go_simp; rfl)); intro gb218 hg w14 hbox hb; have n0_ := bsB HB.out hb; have n1_ := Aside0.mk (hbox); have n2_ := szB hg HB.out; have n3_ := szB hg HB.out; clear HB; have HB := n0_; have BK218 := n1_; have GW218 := n2_; have GE218 := n3_; clear n0_ n1_ n2_ n3_; clear hb hbox hg))
       have n0_ := Aside0.mk (blk_drew BK218.out)
       have n1_ := Aside0.mk (below_drew1 HB.out)
       clear BK218
       clear HB
       have BK218 := n0_
       have HB := n1_
       clear n0_ n1_
       refine start_ (n := 42) (S := fun w' => w'.cell? ⟨gb218, 0, none⟩ = some (.int .u64 a1_0) ∧ w'.cell? ⟨gb218, 1, none⟩ = some (.int .u64 a1_1) ∧ w'.cell? ⟨gb218, 2, none⟩ = some (.int .i64 a1_2) ∧ w'.cell? ⟨gb218, 3, none⟩ = some (.int .i64 a1_3)) (ds := []) (bA 42 0) (by kernel_rfl) rfl rfl (by repeat' (first | apply And.intro | exact (blk_cell BK218.out _).trans rfl)) (fun hHeld => ?_); refine with_tabW jacquardref13_Valid.tab1 jacquardref13_Valid.bits1 (fun HT_ HW_ => ?_)
       generalize w14.drew = w15 at BK218 HB hHeld ⊢
       refine pureA HT_ (i := 0) (N := some 5) (bA 42 1) ?_
       refine pureA HT_ (i := 1) (N := some 6) (bA 42 3) ?_
       refine pureA HT_ (i := 2) (N := some 7) (bA 42 7) ?_
       refine pureA HT_ (i := 3) (N := some 8) (bA 42 15) ?_
       refine pureA HT_ (i := 4) (N := some 9) (bA 42 31) ?_
       refine pureA HT_ (i := 5) (N := some 10) (bA 42 63) ?_
       refine pureA HT_ (i := 6) (N := some 11) (bA 42 127) ?_
       refine pureA HT_ (i := 7) (N := some 12) (bA 42 255) ?_
       refine pureA HT_ (i := 9) (N := some 14) (bA 42 767) ?_
       refine takeA HT_ HW_ hHeld (i := 8) (N := some 13) (bA 42 1023) ?_ (hy := by rintro w' ⟨s0, s1, s2, s3⟩; go_simp; with_reducible rfl)
       refine takeA HT_ HW_ hHeld (i := 10) (N := some 15) (bA 42 2047) ?_ (hy := by rintro w' ⟨s0, s1, s2, s3⟩; go_simp; with_reducible rfl)
       refine pureA HT_ (i := 11) (N := some 16) (bA 42 4095) ?_
       refine pureA HT_ (i := 12) (N := some 17) (bA 42 8191) ?_
       refine pureA HT_ (i := 13) (N := some 18) (bA 42 16383) ?_
       refine pureA HT_ (i := 14) (N := some 19) (bA 42 32767) ?_
       refine pureA HT_ (i := 16) (N := some 21) (bA 42 98303) ?_
       refine takeA HT_ HW_ hHeld (i := 15) (N := some 20) (bA 42 131071) ?_ (hy := by rintro w' ⟨s0, s1, s2, s3⟩; go_simp; with_reducible rfl)
       refine one_ (i := 17) (N := some 22) (bA 42 262143) rfl rfl (one_of HT_.out (by kernel_rfl)) (by decide) (fun K hK => ?_)
       refine gO Try.func75 #[.int .i64 a0] ?_
       with_reducible refine (jacquardref13_Umax.calls k a0 t219 _ A6.out).mono ?_
       rintro e w' ⟨rfl, ⟨nd, rfl⟩⟩
       refine ⟨_, rfl, ?_⟩
       refine hK.out _ _ (by repeat' (first | apply And.intro | exact (blk_cell BK218.out _).trans rfl)) (fun hHeld => ?_)
       clear hK K
       refine normA (some 22) ?_
       refine pureA HT_ (i := 18) (N := some 23) (bA 42 524287) ?_
       refine pureA HT_ (i := 19) (N := some 24) (bA 42 1048575) ?_
       refine pureA HT_ (i := 20) (N := some 25) (bA 42 2097151) ?_
       refine pureA HT_ (i := 21) (N := some 26) (bA 42 4194303) ?_
       refine pureA HT_ (i := 23) (N := some 28) (bA 42 12582911) ?_
       refine takeA HT_ HW_ hHeld (i := 24) (N := some 29) (bA 42 29360127) ?_ (hy := by rintro w' ⟨s0, s1, s2, s3⟩; go_simp; with_reducible rfl)
       refine one_ (i := 22) (N := some 27) (bA 42 33554431) rfl rfl (one_of HT_.out (by kernel_rfl)) (by decide) (fun K hK => ?_)
       refine gO Try.func133 #[.int .i64 a0] ?_
       with_reducible refine (jacquardref13_Smin.calls k a0 t220 _ A8.out).mono ?_
       rintro e w' ⟨rfl, ⟨nd, rfl⟩⟩
       refine ⟨_, rfl, ?_⟩
       refine hK.out _ _ (by repeat' (first | apply And.intro | exact (blk_cell BK218.out _).trans rfl)) (fun hHeld => ?_)
       clear hK K
       refine normA (some 27) ?_
       refine pureA HT_ (i := 25) (N := some 30) (bA 42 67108863) ?_
       refine pureA HT_ (i := 26) (N := some 31) (bA 42 134217727) ?_
       refine pureA HT_ (i := 27) (N := some 32) (bA 42 268435455) ?_
       refine pureA HT_ (i := 28) (N := some 33) (bA 42 536870911) ?_
       refine pureA HT_ (i := 30) (N := some 35) (bA 42 1610612735) ?_
       refine takeA HT_ HW_ hHeld (i := 29) (N := some 34) (bA 42 2147483647) ?_ (hy := by rintro w' ⟨s0, s1, s2, s3⟩; go_simp; with_reducible rfl)
       refine takeA HT_ HW_ hHeld (i := 31) (N := some 36) (bA 42 4294967295) ?_ (hy := by rintro w' ⟨s0, s1, s2, s3⟩; go_simp; with_reducible rfl)
       refine pureA HT_ (i := 32) (N := some 37) (bA 42 8589934591) ?_
       refine pureA HT_ (i := 33) (N := some 38) (bA 42 17179869183) ?_
       refine pureA HT_ (i := 34) (N := some 39) (bA 42 34359738367) ?_
       refine pureU HT_ (i := 35) (N := some 40) (bA 42 68719476735) ?_
       refine pureU HT_ (i := 36) (N := some 41) (bA 42 137438953471) ?_
       refine pureU HT_ (i := 37) (N := some 42) (bA 42 274877906943) ?_
       refine pureU HT_ (i := 38) (N := some 43) (bA 42 549755813887) ?_
       refine pureU HT_ (i := 39) (N := some 44) (bA 42 1099511627775) ?_
       refine pureA HT_ (i := 40) (N := some 45) (bA 42 2199023255551) ?_
       refine pureA HT_ (i := 41) (N := some 4) (bA 42 4398046511103) ?_
       refine done_ (done_of HT_.out (by kernel_rfl)) ?_
       try go_wp2
       go_ret
       exact ⟨by first | rfl | (simp [errW_none, errW_some] <;> rfl) | (simp [*, errW_none, errW_some] <;> rfl), bsL HB.out⟩
     ·
      rw [if_neg c9] at H
      have c9b0 : decide (t220 ≤ a1_2) = false := decide_eq_false c9
      clear c9
      obtain rfl := Option.some.inj H
      go_enter Try.func74, Try.ntmps74
      try go_wp2_with (first | ((with_reducible refine gate_dst (N := 3) rfl ?_); refine box_event ?hg (N := 3) ?hd (cs := #[.int .u64 a1_0, .int .u64 a1_1, .int .i64 a1_2, .int .i64 a1_3]) (t := 30) ?hr ?_; (case hd => rfl); (case hg => rfl); (case hr => first | (go_simp; done) | (go_simp; rfl)); intro gb218 hg w16 hbox hb; have n0_ := bsB HB.out hb; have n1_ := Aside0.mk (hbox); have n2_ := szB hg HB.out; have n3_ := szB hg HB.out; clear HB; have HB := n0_; have BK218 := n1_; have GW218 := n2_; have GE218 := n3_; clear n0_ n1_ n2_ n3_; clear hb hbox hg))
      have n0_ := Aside0.mk (blk_drew BK218.out)
      have n1_ := Aside0.mk (below_drew1 HB.out)
      clear BK218
      clear HB
      have BK218 := n0_
      have HB := n1_
      clear n0_ n1_
      refine start_ (n := 42) (S := fun w' => w'.cell? ⟨gb218, 0, none⟩ = some (.int .u64 a1_0) ∧ w'.cell? ⟨gb218, 1, none⟩ = some (.int .u64 a1_1) ∧ w'.cell? ⟨gb218, 2, none⟩ = some (.int .i64 a1_2) ∧ w'.cell? ⟨gb218, 3, none⟩ = some (.int .i64 a1_3)) (ds := []) (bA 42 0) (by kernel_rfl) rfl rfl (by repeat' (first | apply And.intro | exact (blk_cell BK218.out _).trans rfl)) (fun hHeld => ?_); refine with_tabW jacquardref13_Valid.tab1 jacquardref13_Valid.bits1 (fun HT_ HW_ => ?_)
      generalize w16.drew = w17 at BK218 HB hHeld ⊢
      refine pureA HT_ (i := 0) (N := some 5) (bA 42 1) ?_
      refine pureA HT_ (i := 1) (N := some 6) (bA 42 3) ?_
      refine pureA HT_ (i := 2) (N := some 7) (bA 42 7) ?_
      refine pureA HT_ (i := 3) (N := some 8) (bA 42 15) ?_
      refine pureA HT_ (i := 4) (N := some 9) (bA 42 31) ?_
      refine pureA HT_ (i := 5) (N := some 10) (bA 42 63) ?_
      refine pureA HT_ (i := 6) (N := some 11) (bA 42 127) ?_
      refine pureA HT_ (i := 7) (N := some 12) (bA 42 255) ?_
      refine pureA HT_ (i := 9) (N := some 14) (bA 42 767) ?_
      refine takeA HT_ HW_ hHeld (i := 8) (N := some 13) (bA 42 1023) ?_ (hy := by rintro w' ⟨s0, s1, s2, s3⟩; go_simp; with_reducible rfl)
      refine takeA HT_ HW_ hHeld (i := 10) (N := some 15) (bA 42 2047) ?_ (hy := by rintro w' ⟨s0, s1, s2, s3⟩; go_simp; with_reducible rfl)
      refine pureA HT_ (i := 11) (N := some 16) (bA 42 4095) ?_
      refine pureA HT_ (i := 12) (N := some 17) (bA 42 8191) ?_
      refine pureA HT_ (i := 13) (N := some 18) (bA 42 16383) ?_
      refine pureA HT_ (i := 14) (N := some 19) (bA 42 32767) ?_
      refine pureA HT_ (i := 16) (N := some 21) (bA 42 98303) ?_
      refine takeA HT_ HW_ hHeld (i := 15) (N := some 20) (bA 42 131071) ?_ (hy := by rintro w' ⟨s0, s1, s2, s3⟩; go_simp; with_reducible rfl)
      refine one_ (i := 17) (N := some 22) (bA 42 262143) rfl rfl (one_of HT_.out (by kernel_rfl)) (by decide) (fun K hK => ?_)
      refine gO Try.func75 #[.int .i64 a0] ?_
      with_reducible refine (jacquardref13_Umax.calls k a0 t219 _ A6.out).mono ?_
      rintro e w' ⟨rfl, ⟨nd, rfl⟩⟩
      refine ⟨_, rfl, ?_⟩
      refine hK.out _ _ (by repeat' (first | apply And.intro | exact (blk_cell BK218.out _).trans rfl)) (fun hHeld => ?_)
      clear hK K
      refine normA (some 22) ?_
      refine pureA HT_ (i := 18) (N := some 23) (bA 42 524287) ?_
      refine pureA HT_ (i := 19) (N := some 24) (bA 42 1048575) ?_
      refine pureA HT_ (i := 20) (N := some 25) (bA 42 2097151) ?_
      refine pureA HT_ (i := 21) (N := some 26) (bA 42 4194303) ?_
      refine pureA HT_ (i := 23) (N := some 28) (bA 42 12582911) ?_
      refine takeA HT_ HW_ hHeld (i := 24) (N := some 29) (bA 42 29360127) ?_ (hy := by rintro w' ⟨s0, s1, s2, s3⟩; go_simp; with_reducible rfl)
      refine one_ (i := 22) (N := some 27) (bA 42 33554431) rfl rfl (one_of HT_.out (by kernel_rfl)) (by decide) (fun K hK => ?_)
      refine gO Try.func133 #[.int .i64 a0] ?_
      with_reducible refine (jacquardref13_Smin.calls k a0 t220 _ A8.out).mono ?_
      rintro e w' ⟨rfl, ⟨nd, rfl⟩⟩
      refine ⟨_, rfl, ?_⟩
      refine hK.out _ _ (by repeat' (first | apply And.intro | exact (blk_cell BK218.out _).trans rfl)) (fun hHeld => ?_)
      clear hK K
      refine normA (some 27) ?_
      refine pureA HT_ (i := 25) (N := some 30) (bA 42 67108863) ?_
      refine pureA HT_ (i := 26) (N := some 31) (bA 42 134217727) ?_
      refine pureA HT_ (i := 27) (N := some 32) (bA 42 268435455) ?_
      refine pureU HT_ (i := 28) (N := some 33) (bA 42 536870911) ?_
      refine pureU HT_ (i := 29) (N := some 34) (bA 42 1073741823) ?_
      refine pureU HT_ (i := 30) (N := some 35) (bA 42 2147483647) ?_
      refine pureU HT_ (i := 31) (N := some 36) (bA 42 4294967295) ?_
      refine pureU HT_ (i := 32) (N := some 37) (bA 42 8589934591) ?_
      refine pureA HT_ (i := 33) (N := some 38) (bA 42 17179869183) ?_
      refine pureA HT_ (i := 34) (N := some 39) (bA 42 34359738367) ?_
      refine pureU HT_ (i := 35) (N := some 40) (bA 42 68719476735) ?_
      refine pureU HT_ (i := 36) (N := some 41) (bA 42 137438953471) ?_
      refine pureU HT_ (i := 37) (N := some 42) (bA 42 274877906943) ?_
      refine pureU HT_ (i := 38) (N := some 43) (bA 42 549755813887) ?_
      refine pureU HT_ (i := 39) (N := some 44) (bA 42 1099511627775) ?_
      refine pureA HT_ (i := 40) (N := some 45) (bA 42 2199023255551) ?_
      refine pureA HT_ (i := 41) (N := some 4) (bA 42 4398046511103) ?_
      refine done_ (done_of HT_.out (by kernel_rfl)) ?_
      try go_wp2
      go_ret
      exact ⟨by first | rfl | (simp [errW_none, errW_some] <;> rfl) | (simp [*, errW_none, errW_some] <;> rfl), bsL HB.out⟩
    ·
     rw [if_neg c7] at H
     have c7b0 : decide (a1_1 ≤ t219) = false := decide_eq_false c7
     clear c7
     obtain rfl := Option.some.inj H
     go_enter Try.func74, Try.ntmps74
     try go_wp2_with (first | ((with_reducible refine gate_dst (N := 3) rfl ?_); refine box_event ?hg (N := 3) ?hd (cs := #[.int .u64 a1_0, .int .u64 a1_1, .int .i64 a1_2, .int .i64 a1_3]) (t := 30) ?hr ?_; (case hd => rfl); (case hg => rfl); (case hr => first | (go_simp; done) | (go_simp; rfl)); intro gb218 hg w18 hbox hb; have n0_ := bsB HB.out hb; have n1_ := Aside0.mk (hbox); have n2_ := szB hg HB.out; have n3_ := szB hg HB.out; clear HB; have HB := n0_; have BK218 := n1_; have GW218 := n2_; have GE218 := n3_; clear n0_ n1_ n2_ n3_; clear hb hbox hg))
     have n0_ := Aside0.mk (blk_drew BK218.out)
     have n1_ := Aside0.mk (below_drew1 HB.out)
     clear BK218
     clear HB
     have BK218 := n0_
     have HB := n1_
     clear n0_ n1_
     refine start_ (n := 42) (S := fun w' => w'.cell? ⟨gb218, 0, none⟩ = some (.int .u64 a1_0) ∧ w'.cell? ⟨gb218, 1, none⟩ = some (.int .u64 a1_1) ∧ w'.cell? ⟨gb218, 2, none⟩ = some (.int .i64 a1_2) ∧ w'.cell? ⟨gb218, 3, none⟩ = some (.int .i64 a1_3)) (ds := []) (bA 42 0) (by kernel_rfl) rfl rfl (by repeat' (first | apply And.intro | exact (blk_cell BK218.out _).trans rfl)) (fun hHeld => ?_); refine with_tabW jacquardref13_Valid.tab1 jacquardref13_Valid.bits1 (fun HT_ HW_ => ?_)
     generalize w18.drew = w19 at BK218 HB hHeld ⊢
     refine pureA HT_ (i := 0) (N := some 5) (bA 42 1) ?_
     refine pureA HT_ (i := 1) (N := some 6) (bA 42 3) ?_
     refine pureA HT_ (i := 2) (N := some 7) (bA 42 7) ?_
     refine pureA HT_ (i := 3) (N := some 8) (bA 42 15) ?_
     refine pureA HT_ (i := 4) (N := some 9) (bA 42 31) ?_
     refine pureA HT_ (i := 5) (N := some 10) (bA 42 63) ?_
     refine pureA HT_ (i := 6) (N := some 11) (bA 42 127) ?_
     refine pureA HT_ (i := 7) (N := some 12) (bA 42 255) ?_
     refine pureA HT_ (i := 9) (N := some 14) (bA 42 767) ?_
     refine takeA HT_ HW_ hHeld (i := 8) (N := some 13) (bA 42 1023) ?_ (hy := by rintro w' ⟨s0, s1, s2, s3⟩; go_simp; with_reducible rfl)
     refine takeA HT_ HW_ hHeld (i := 10) (N := some 15) (bA 42 2047) ?_ (hy := by rintro w' ⟨s0, s1, s2, s3⟩; go_simp; with_reducible rfl)
     refine pureA HT_ (i := 11) (N := some 16) (bA 42 4095) ?_
     refine pureA HT_ (i := 12) (N := some 17) (bA 42 8191) ?_
     refine pureA HT_ (i := 13) (N := some 18) (bA 42 16383) ?_
     refine pureA HT_ (i := 14) (N := some 19) (bA 42 32767) ?_
     refine pureA HT_ (i := 16) (N := some 21) (bA 42 98303) ?_
     refine takeA HT_ HW_ hHeld (i := 15) (N := some 20) (bA 42 131071) ?_ (hy := by rintro w' ⟨s0, s1, s2, s3⟩; go_simp; with_reducible rfl)
     refine one_ (i := 17) (N := some 22) (bA 42 262143) rfl rfl (one_of HT_.out (by kernel_rfl)) (by decide) (fun K hK => ?_)
     refine gO Try.func75 #[.int .i64 a0] ?_
     with_reducible refine (jacquardref13_Umax.calls k a0 t219 _ A6.out).mono ?_
     rintro e w' ⟨rfl, ⟨nd, rfl⟩⟩
     refine ⟨_, rfl, ?_⟩
     refine hK.out _ _ (by repeat' (first | apply And.intro | exact (blk_cell BK218.out _).trans rfl)) (fun hHeld => ?_)
     clear hK K
     refine normA (some 22) ?_
     refine pureA HT_ (i := 18) (N := some 23) (bA 42 524287) ?_
     refine pureA HT_ (i := 19) (N := some 24) (bA 42 1048575) ?_
     refine pureA HT_ (i := 20) (N := some 25) (bA 42 2097151) ?_
     refine pureU HT_ (i := 21) (N := some 26) (bA 42 4194303) ?_
     refine pureU HT_ (i := 22) (N := some 27) (bA 42 8388607) ?_
     refine pureU HT_ (i := 23) (N := some 28) (bA 42 16777215) ?_
     refine pureU HT_ (i := 24) (N := some 29) (bA 42 33554431) ?_
     refine pureU HT_ (i := 25) (N := some 30) (bA 42 67108863) ?_
     refine pureA HT_ (i := 26) (N := some 31) (bA 42 134217727) ?_
     refine pureA HT_ (i := 27) (N := some 32) (bA 42 268435455) ?_
     refine pureU HT_ (i := 28) (N := some 33) (bA 42 536870911) ?_
     refine pureU HT_ (i := 29) (N := some 34) (bA 42 1073741823) ?_
     refine pureU HT_ (i := 30) (N := some 35) (bA 42 2147483647) ?_
     refine pureU HT_ (i := 31) (N := some 36) (bA 42 4294967295) ?_
     refine pureU HT_ (i := 32) (N := some 37) (bA 42 8589934591) ?_
     refine pureA HT_ (i := 33) (N := some 38) (bA 42 17179869183) ?_
     refine pureA HT_ (i := 34) (N := some 39) (bA 42 34359738367) ?_
     refine pureU HT_ (i := 35) (N := some 40) (bA 42 68719476735) ?_
     refine pureU HT_ (i := 36) (N := some 41) (bA 42 137438953471) ?_
     refine pureU HT_ (i := 37) (N := some 42) (bA 42 274877906943) ?_
     refine pureU HT_ (i := 38) (N := some 43) (bA 42 549755813887) ?_
     refine pureU HT_ (i := 39) (N := some 44) (bA 42 1099511627775) ?_
     refine pureA HT_ (i := 40) (N := some 45) (bA 42 2199023255551) ?_
     refine pureA HT_ (i := 41) (N := some 4) (bA 42 4398046511103) ?_
     refine done_ (done_of HT_.out (by kernel_rfl)) ?_
     try go_wp2
     go_ret
     exact ⟨by first | rfl | (simp [errW_none, errW_some] <;> rfl) | (simp [*, errW_none, errW_some] <;> rfl), bsL HB.out⟩
   ·
    rw [if_neg c5] at H
    have c5b0 : decide (a1_0 ≤ a1_1) = false := decide_eq_false c5
    clear c5
    obtain rfl := Option.some.inj H
    go_enter Try.func74, Try.ntmps74
    try go_wp2_with (first | ((with_reducible refine gate_dst (N := 3) rfl ?_); refine box_event ?hg (N := 3) ?hd (cs := #[.int .u64 a1_0, .int .u64 a1_1, .int .i64 a1_2, .int .i64 a1_3]) (t := 30) ?hr ?_; (case hd => rfl); (case hg => rfl); (case hr => first | (go_simp; done) | (go_simp; rfl)); intro gb218 hg w20 hbox hb; have n0_ := bsB HB.out hb; have n1_ := Aside0.mk (hbox); have n2_ := szB hg HB.out; have n3_ := szB hg HB.out; clear HB; have HB := n0_; have BK218 := n1_; have GW218 := n2_; have GE218 := n3_; clear n0_ n1_ n2_ n3_; clear hb hbox hg))
    have n0_ := Aside0.mk (blk_drew BK218.out)
    have n1_ := Aside0.mk (below_drew1 HB.out)
    clear BK218
    clear HB
    have BK218 := n0_
    have HB := n1_
    clear n0_ n1_
    refine start_ (n := 42) (S := fun w' => w'.cell? ⟨gb218, 0, none⟩ = some (.int .u64 a1_0) ∧ w'.cell? ⟨gb218, 1, none⟩ = some (.int .u64 a1_1) ∧ w'.cell? ⟨gb218, 2, none⟩ = some (.int .i64 a1_2) ∧ w'.cell? ⟨gb218, 3, none⟩ = some (.int .i64 a1_3)) (ds := []) (bA 42 0) (by kernel_rfl) rfl rfl (by repeat' (first | apply And.intro | exact (blk_cell BK218.out _).trans rfl)) (fun hHeld => ?_); refine with_tabW jacquardref13_Valid.tab1 jacquardref13_Valid.bits1 (fun HT_ HW_ => ?_)
    generalize w20.drew = w21 at BK218 HB hHeld ⊢
    refine pureA HT_ (i := 0) (N := some 5) (bA 42 1) ?_
    refine pureA HT_ (i := 1) (N := some 6) (bA 42 3) ?_
    refine pureA HT_ (i := 2) (N := some 7) (bA 42 7) ?_
    refine pureA HT_ (i := 3) (N := some 8) (bA 42 15) ?_
    refine pureA HT_ (i := 4) (N := some 9) (bA 42 31) ?_
    refine pureA HT_ (i := 5) (N := some 10) (bA 42 63) ?_
    refine pureA HT_ (i := 6) (N := some 11) (bA 42 127) ?_
    refine pureA HT_ (i := 7) (N := some 12) (bA 42 255) ?_
    refine pureA HT_ (i := 9) (N := some 14) (bA 42 767) ?_
    refine takeA HT_ HW_ hHeld (i := 8) (N := some 13) (bA 42 1023) ?_ (hy := by rintro w' ⟨s0, s1, s2, s3⟩; go_simp; with_reducible rfl)
    refine takeA HT_ HW_ hHeld (i := 10) (N := some 15) (bA 42 2047) ?_ (hy := by rintro w' ⟨s0, s1, s2, s3⟩; go_simp; with_reducible rfl)
    refine pureA HT_ (i := 11) (N := some 16) (bA 42 4095) ?_
    refine pureA HT_ (i := 12) (N := some 17) (bA 42 8191) ?_
    refine pureA HT_ (i := 13) (N := some 18) (bA 42 16383) ?_
    refine pureU HT_ (i := 14) (N := some 19) (bA 42 32767) ?_
    refine pureU HT_ (i := 15) (N := some 20) (bA 42 65535) ?_
    refine pureU HT_ (i := 16) (N := some 21) (bA 42 131071) ?_
    refine pureU HT_ (i := 17) (N := some 22) (bA 42 262143) ?_
    refine pureU HT_ (i := 18) (N := some 23) (bA 42 524287) ?_
    refine pureA HT_ (i := 19) (N := some 24) (bA 42 1048575) ?_
    refine pureA HT_ (i := 20) (N := some 25) (bA 42 2097151) ?_
    refine pureU HT_ (i := 21) (N := some 26) (bA 42 4194303) ?_
    refine pureU HT_ (i := 22) (N := some 27) (bA 42 8388607) ?_
    refine pureU HT_ (i := 23) (N := some 28) (bA 42 16777215) ?_
    refine pureU HT_ (i := 24) (N := some 29) (bA 42 33554431) ?_
    refine pureU HT_ (i := 25) (N := some 30) (bA 42 67108863) ?_
    refine pureA HT_ (i := 26) (N := some 31) (bA 42 134217727) ?_
    refine pureA HT_ (i := 27) (N := some 32) (bA 42 268435455) ?_
    refine pureU HT_ (i := 28) (N := some 33) (bA 42 536870911) ?_
    refine pureU HT_ (i := 29) (N := some 34) (bA 42 1073741823) ?_
    refine pureU HT_ (i := 30) (N := some 35) (bA 42 2147483647) ?_
    refine pureU HT_ (i := 31) (N := some 36) (bA 42 4294967295) ?_
    refine pureU HT_ (i := 32) (N := some 37) (bA 42 8589934591) ?_
    refine pureA HT_ (i := 33) (N := some 38) (bA 42 17179869183) ?_
    refine pureA HT_ (i := 34) (N := some 39) (bA 42 34359738367) ?_
    refine pureU HT_ (i := 35) (N := some 40) (bA 42 68719476735) ?_
    refine pureU HT_ (i := 36) (N := some 41) (bA 42 137438953471) ?_
    refine pureU HT_ (i := 37) (N := some 42) (bA 42 274877906943) ?_
    refine pureU HT_ (i := 38) (N := some 43) (bA 42 549755813887) ?_
    refine pureU HT_ (i := 39) (N := some 44) (bA 42 1099511627775) ?_
    refine pureA HT_ (i := 40) (N := some 45) (bA 42 2199023255551) ?_
    refine pureA HT_ (i := 41) (N := some 4) (bA 42 4398046511103) ?_
    refine done_ (done_of HT_.out (by kernel_rfl)) ?_
    try go_wp2
    go_ret
    exact ⟨by first | rfl | (simp [errW_none, errW_some] <;> rfl) | (simp [*, errW_none, errW_some] <;> rfl), bsL HB.out⟩
  ·
   rw [if_neg c4] at H
   have c4b0 : decide (a0 ≤ 64) = false := decide_eq_false c4
   clear c4
   obtain rfl := Option.some.inj H
   go_enter Try.func74, Try.ntmps74
   try go_wp2_with (first | ((with_reducible refine gate_dst (N := 3) rfl ?_); refine box_event ?hg (N := 3) ?hd (cs := #[.int .u64 a1_0, .int .u64 a1_1, .int .i64 a1_2, .int .i64 a1_3]) (t := 30) ?hr ?_; (case hd => rfl); (case hg => rfl); (case hr => first | (go_simp; done) | (go_simp; rfl)); intro gb218 hg w22 hbox hb; have n0_ := bsB HB.out hb; have n1_ := Aside0.mk (hbox); have n2_ := szB hg HB.out; have n3_ := szB hg HB.out; clear HB; have HB := n0_; have BK218 := n1_; have GW218 := n2_; have GE218 := n3_; clear n0_ n1_ n2_ n3_; clear hb hbox hg))
   have n0_ := Aside0.mk (blk_drew BK218.out)
   have n1_ := Aside0.mk (below_drew1 HB.out)
   clear BK218
   clear HB
   have BK218 := n0_
   have HB := n1_
   clear n0_ n1_
   refine start_ (n := 42) (S := fun w' => True) (ds := []) (bA 42 0) (by kernel_rfl) rfl rfl trivial (fun hHeld => ?_); refine with_tabW jacquardref13_Valid.tab1 jacquardref13_Valid.bits1 (fun HT_ HW_ => ?_)
   generalize w22.drew = w23 at BK218 HB hHeld ⊢
   refine pureA HT_ (i := 0) (N := some 5) (bA 42 1) ?_
   refine pureA HT_ (i := 1) (N := some 6) (bA 42 3) ?_
   refine pureA HT_ (i := 2) (N := some 7) (bA 42 7) ?_
   refine pureA HT_ (i := 3) (N := some 8) (bA 42 15) ?_
   refine pureA HT_ (i := 4) (N := some 9) (bA 42 31) ?_
   refine pureA HT_ (i := 5) (N := some 10) (bA 42 63) ?_
   refine pureA HT_ (i := 6) (N := some 11) (bA 42 127) ?_
   refine pureU HT_ (i := 7) (N := some 12) (bA 42 255) ?_
   refine pureU HT_ (i := 8) (N := some 13) (bA 42 511) ?_
   refine pureU HT_ (i := 9) (N := some 14) (bA 42 1023) ?_
   refine pureU HT_ (i := 10) (N := some 15) (bA 42 2047) ?_
   refine pureU HT_ (i := 11) (N := some 16) (bA 42 4095) ?_
   refine pureA HT_ (i := 12) (N := some 17) (bA 42 8191) ?_
   refine pureA HT_ (i := 13) (N := some 18) (bA 42 16383) ?_
   refine pureU HT_ (i := 14) (N := some 19) (bA 42 32767) ?_
   refine pureU HT_ (i := 15) (N := some 20) (bA 42 65535) ?_
   refine pureU HT_ (i := 16) (N := some 21) (bA 42 131071) ?_
   refine pureU HT_ (i := 17) (N := some 22) (bA 42 262143) ?_
   refine pureU HT_ (i := 18) (N := some 23) (bA 42 524287) ?_
   refine pureA HT_ (i := 19) (N := some 24) (bA 42 1048575) ?_
   refine pureA HT_ (i := 20) (N := some 25) (bA 42 2097151) ?_
   refine pureU HT_ (i := 21) (N := some 26) (bA 42 4194303) ?_
   refine pureU HT_ (i := 22) (N := some 27) (bA 42 8388607) ?_
   refine pureU HT_ (i := 23) (N := some 28) (bA 42 16777215) ?_
   refine pureU HT_ (i := 24) (N := some 29) (bA 42 33554431) ?_
   refine pureU HT_ (i := 25) (N := some 30) (bA 42 67108863) ?_
   refine pureA HT_ (i := 26) (N := some 31) (bA 42 134217727) ?_
   refine pureA HT_ (i := 27) (N := some 32) (bA 42 268435455) ?_
   refine pureU HT_ (i := 28) (N := some 33) (bA 42 536870911) ?_
   refine pureU HT_ (i := 29) (N := some 34) (bA 42 1073741823) ?_
   refine pureU HT_ (i := 30) (N := some 35) (bA 42 2147483647) ?_
   refine pureU HT_ (i := 31) (N := some 36) (bA 42 4294967295) ?_
   refine pureU HT_ (i := 32) (N := some 37) (bA 42 8589934591) ?_
   refine pureA HT_ (i := 33) (N := some 38) (bA 42 17179869183) ?_
   refine pureA HT_ (i := 34) (N := some 39) (bA 42 34359738367) ?_
   refine pureU HT_ (i := 35) (N := some 40) (bA 42 68719476735) ?_
   refine pureU HT_ (i := 36) (N := some 41) (bA 42 137438953471) ?_
   refine pureU HT_ (i := 37) (N := some 42) (bA 42 274877906943) ?_
   refine pureU HT_ (i := 38) (N := some 43) (bA 42 549755813887) ?_
   refine pureU HT_ (i := 39) (N := some 44) (bA 42 1099511627775) ?_
   refine pureA HT_ (i := 40) (N := some 45) (bA 42 2199023255551) ?_
   refine pureA HT_ (i := 41) (N := some 4) (bA 42 4398046511103) ?_
   refine done_ (done_of HT_.out (by kernel_rfl)) ?_
   try go_wp2
   go_ret
   exact ⟨by first | rfl | (simp [errW_none, errW_some] <;> rfl) | (simp [*, errW_none, errW_some] <;> rfl), bsL HB.out⟩
 ·
  rw [if_neg c3] at H
  have c3b0 : decide (1 ≤ a0) = false := decide_eq_false c3
  clear c3
  obtain rfl := Option.some.inj H
  go_enter Try.func74, Try.ntmps74
  try go_wp2_with (first | ((with_reducible refine gate_dst (N := 3) rfl ?_); refine box_event ?hg (N := 3) ?hd (cs := #[.int .u64 a1_0, .int .u64 a1_1, .int .i64 a1_2, .int .i64 a1_3]) (t := 30) ?hr ?_; (case hd => rfl); (case hg => rfl); (case hr => first | (go_simp; done) | (go_simp; rfl)); intro gb218 hg w24 hbox hb; have n0_ := bsB HB.out hb; have n1_ := Aside0.mk (hbox); have n2_ := szB hg HB.out; have n3_ := szB hg HB.out; clear HB; have HB := n0_; have BK218 := n1_; have GW218 := n2_; have GE218 := n3_; clear n0_ n1_ n2_ n3_; clear hb hbox hg))
  have n0_ := Aside0.mk (blk_drew BK218.out)
  have n1_ := Aside0.mk (below_drew1 HB.out)
  clear BK218
  clear HB
  have BK218 := n0_
  have HB := n1_
  clear n0_ n1_
  refine start_ (n := 42) (S := fun w' => True) (ds := []) (bA 42 0) (by kernel_rfl) rfl rfl trivial (fun hHeld => ?_); refine with_tabW jacquardref13_Valid.tab1 jacquardref13_Valid.bits1 (fun HT_ HW_ => ?_)
  generalize w24.drew = w25 at BK218 HB hHeld ⊢
  refine pureA HT_ (i := 0) (N := some 5) (bA 42 1) ?_
  refine pureA HT_ (i := 1) (N := some 6) (bA 42 3) ?_
  refine pureA HT_ (i := 2) (N := some 7) (bA 42 7) ?_
  refine pureU HT_ (i := 3) (N := some 8) (bA 42 15) ?_
  refine pureU HT_ (i := 4) (N := some 9) (bA 42 31) ?_
  refine pureA HT_ (i := 5) (N := some 10) (bA 42 63) ?_
  refine pureA HT_ (i := 6) (N := some 11) (bA 42 127) ?_
  refine pureU HT_ (i := 7) (N := some 12) (bA 42 255) ?_
  refine pureU HT_ (i := 8) (N := some 13) (bA 42 511) ?_
  refine pureU HT_ (i := 9) (N := some 14) (bA 42 1023) ?_
  refine pureU HT_ (i := 10) (N := some 15) (bA 42 2047) ?_
  refine pureU HT_ (i := 11) (N := some 16) (bA 42 4095) ?_
  refine pureA HT_ (i := 12) (N := some 17) (bA 42 8191) ?_
  refine pureA HT_ (i := 13) (N := some 18) (bA 42 16383) ?_
  refine pureU HT_ (i := 14) (N := some 19) (bA 42 32767) ?_
  refine pureU HT_ (i := 15) (N := some 20) (bA 42 65535) ?_
  refine pureU HT_ (i := 16) (N := some 21) (bA 42 131071) ?_
  refine pureU HT_ (i := 17) (N := some 22) (bA 42 262143) ?_
  refine pureU HT_ (i := 18) (N := some 23) (bA 42 524287) ?_
  refine pureA HT_ (i := 19) (N := some 24) (bA 42 1048575) ?_
  refine pureA HT_ (i := 20) (N := some 25) (bA 42 2097151) ?_
  refine pureU HT_ (i := 21) (N := some 26) (bA 42 4194303) ?_
  refine pureU HT_ (i := 22) (N := some 27) (bA 42 8388607) ?_
  refine pureU HT_ (i := 23) (N := some 28) (bA 42 16777215) ?_
  refine pureU HT_ (i := 24) (N := some 29) (bA 42 33554431) ?_
  refine pureU HT_ (i := 25) (N := some 30) (bA 42 67108863) ?_
  refine pureA HT_ (i := 26) (N := some 31) (bA 42 134217727) ?_
  refine pureA HT_ (i := 27) (N := some 32) (bA 42 268435455) ?_
  refine pureU HT_ (i := 28) (N := some 33) (bA 42 536870911) ?_
  refine pureU HT_ (i := 29) (N := some 34) (bA 42 1073741823) ?_
  refine pureU HT_ (i := 30) (N := some 35) (bA 42 2147483647) ?_
  refine pureU HT_ (i := 31) (N := some 36) (bA 42 4294967295) ?_
  refine pureU HT_ (i := 32) (N := some 37) (bA 42 8589934591) ?_
  refine pureA HT_ (i := 33) (N := some 38) (bA 42 17179869183) ?_
  refine pureA HT_ (i := 34) (N := some 39) (bA 42 34359738367) ?_
  refine pureU HT_ (i := 35) (N := some 40) (bA 42 68719476735) ?_
  refine pureU HT_ (i := 36) (N := some 41) (bA 42 137438953471) ?_
  refine pureU HT_ (i := 37) (N := some 42) (bA 42 274877906943) ?_
  refine pureU HT_ (i := 38) (N := some 43) (bA 42 549755813887) ?_
  refine pureU HT_ (i := 39) (N := some 44) (bA 42 1099511627775) ?_
  refine pureA HT_ (i := 40) (N := some 45) (bA 42 2199023255551) ?_
  refine pureA HT_ (i := 41) (N := some 4) (bA 42 4398046511103) ?_
  refine done_ (done_of HT_.out (by kernel_rfl)) ?_
  try go_wp2
  go_ret
  exact ⟨by first | rfl | (simp [errW_none, errW_some] <;> rfl) | (simp [*, errW_none, errW_some] <;> rfl), bsL HB.out⟩

end Go.Proofs.Ytbiohdgeclokmaa.P
