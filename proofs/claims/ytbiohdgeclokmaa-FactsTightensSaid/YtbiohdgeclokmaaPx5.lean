-- made by a program of this work (wip/mkprint.py, wip/mp.sh) out of the translation
import Derived.Test.YtbiohdgeclokmaaPx0
import Derived.Test.YtbiohdgeclokmaaPx1
import Derived.Test.YtbiohdgeclokmaaPx2
import Derived.Test.YtbiohdgeclokmaaPx3
import Derived.Test.YtbiohdgeclokmaaPx4
namespace Go.Proofs.Ytbiohdgeclokmaa.P
open Go.RowKit Go.Proofs.YtbiohdgeclokmaaW.PrintWords Go.Proofs.YtbiohdgeclokmaaW.PrintLast Go.Proofs.YtbiohdgeclokmaaW.PrintMore
attribute [local go_sem] max2_int min2_int max_two min_two max_three min_three max_four min_four   -- for this text's walks alone
set_option linter.unusedVariables false
set_option linter.unusedSimpArgs false

attribute [local go_sem high] eqA50
/-! ### knownbits_Valid: function 91 -/
def knownbits_Valid.f (a0 : Int) (a1_0 : Int) (a1_1 : Int) : Option (Bool) := (knownbits_good.f a0).bind fun t156 => (if t156 = true then ((knownbits_mask.f a0).bind fun t157 => (if (Go.bits .andNot .u64 (Go.bits .or .u64 a1_0 a1_1) t157) = 0 then (some ((Go.bits .and .u64 a1_0 a1_1) == 0)) else (some false))) else (some false))
def knownbits_Valid.T1 : Bool × List (List Nat × List Nat) := (true, [([], []), ([0], [0]), ([1, 1], [1]), ([2], [2]), ([3, 2], [2, 3]), ([2], [2]), ([5, 2], [2, 5]), ([4, 6, 2], [2, 4, 6]), ([2], [2]), ([8, 2, 2], [2, 8]), ([7, 9, 2], [2, 7, 9]), ([10, 2], [2, 10]), ([2, 11], [2, 11]), ([12, 9], [12]), ([13], [13]), ([14, 13], [13, 14]), ([13], [13]), ([16, 13], [13, 16]), ([15, 17, 13], [13, 15, 17]), ([18, 13], [13, 18]), ([13, 19], [13, 19]), ([20, 13, 0, 1, 2, 3, 4, 5, 6, 7, 8, 9, 10, 11, 12, 13, 14, 15, 16, 17, 18, 19, 20], [20])])
def knownbits_Valid.B1 : List Nat := [0, 1, 3, 7, 15, 7, 39, 127, 7, 263, 1023, 2047, 4095, 8191, 16383, 32767, 16383, 81919, 262143, 524287, 1048575, 2097151]
theorem knownbits_Valid.tab1 : rtab .any (opsOf Try.f91 1) = knownbits_Valid.T1 := by kernel_rfl
theorem knownbits_Valid.bits1 : waitsOk knownbits_Valid.T1.2 knownbits_Valid.B1 = true := by kernel_rfl
set_option maxHeartbeats 8000000 in
set_option maxRecDepth 100000 in
theorem knownbits_Valid.calls (a0 : Int) (a1_0 : Int) (a1_1 : Int) (r : Bool) (w : World) (h : knownbits_Valid.f a0 a1_0 a1_1 = some r) :
  Calls Try.prog 91 #[.int .i64 a0, .agg #[.int .u64 a1_0, .int .u64 a1_1]] w fun e w' => e = .returned (.bool r) ∧ Below w.heap.size w w' := by
 have hu110 := Try.underlying110
 have HB := Aside0.mk (Below.refl w.heap.size w)
 have H : ((knownbits_good.f a0).bind fun t156 => (if t156 = true then ((knownbits_mask.f a0).bind fun t157 => (if (Go.bits .andNot .u64 (Go.bits .or .u64 a1_0 a1_1) t157) = 0 then (some ((Go.bits .and .u64 a1_0 a1_1) == 0)) else (some false))) else (some false))) = some r := h
 clear h
 replace H := Option.bind_eq_some_iff.mp H
 obtain ⟨t156, A30, H⟩ := H
 replace H : (if t156 = true then ((knownbits_mask.f a0).bind fun t157 => (if (Go.bits .andNot .u64 (Go.bits .or .u64 a1_0 a1_1) t157) = 0 then (some ((Go.bits .and .u64 a1_0 a1_1) == 0)) else (some false))) else (some false)) = some r := H
 have A3 := Aside0.mk A30
 clear A30
 by_cases c4 : t156 = true
 ·
  subst c4
  have H1 : ((knownbits_mask.f a0).bind fun t157 => (if (Go.bits .andNot .u64 (Go.bits .or .u64 a1_0 a1_1) t157) = 0 then (some ((Go.bits .and .u64 a1_0 a1_1) == 0)) else (some false))) = some r := by rw [if_pos rfl] at H; exact H
  clear H
  have H := H1
  clear H1
  replace H := Option.bind_eq_some_iff.mp H
  obtain ⟨t157, A50, H⟩ := H
  replace H : (if (Go.bits .andNot .u64 (Go.bits .or .u64 a1_0 a1_1) t157) = 0 then (some ((Go.bits .and .u64 a1_0 a1_1) == 0)) else (some false)) = some r := H
  have A5 := Aside0.mk A50
  clear A50
  by_cases c6 : (Go.bits .andNot .u64 (Go.bits .or .u64 a1_0 a1_1) t157) = 0
  ·
   rw [if_pos c6] at H
   have c6b0 : ((Go.bits .andNot .u64 (Go.bits .or .u64 a1_0 a1_1) t157) == 0) = true := beq_iff_eq.mpr c6
   have c6b1 : ((Go.bits .andNot .u64 (Go.bits .or .u64 a1_0 a1_1) t157) != 0) = false := bne_eq_false_iff_eq.mpr c6
   clear c6
   obtain rfl := Option.some.inj H
   go_enter Try.func91, Try.ntmps91
   try go_wp2_with (first | ((with_reducible refine gate_dst (N := 3) rfl ?_); refine box_event ?hg (N := 3) ?hd (cs := #[.int .u64 a1_0, .int .u64 a1_1]) (t := 110) ?hr ?_; (case hd => rfl); (case hg => rfl); (case hr => first | (go_simp; done) | (go_simp; rfl)); intro gb155 hg w7 hbox hb; have n0_ := bsB HB.out hb; have n1_ := Aside0.mk (hbox); have n2_ := szB hg HB.out; have n3_ := szB hg HB.out; clear HB; have HB := n0_; have BK155 := n1_; have GW155 := n2_; have GE155 := n3_; clear n0_ n1_ n2_ n3_; clear hb hbox hg))
   have n0_ := Aside0.mk (blk_drew BK155.out)
   have n1_ := Aside0.mk (below_drew1 HB.out)
   clear BK155
   clear HB
   have BK155 := n0_
   have HB := n1_
   clear n0_ n1_
   refine start_ (n := 22) (S := fun w' => w'.cell? ⟨gb155, 0, none⟩ = some (.int .u64 a1_0) ∧ w'.cell? ⟨gb155, 1, none⟩ = some (.int .u64 a1_1)) (ds := []) (bA 22 0) (by kernel_rfl) rfl rfl ⟨(blk_cell BK155.out 0).trans rfl, (blk_cell BK155.out 1).trans rfl⟩ (fun hHeld => ?_); refine with_tabW knownbits_Valid.tab1 knownbits_Valid.bits1 (fun HT_ HW_ => ?_)
   generalize w7.drew = w8 at BK155 HB hHeld ⊢
   refine pureA HT_ (i := 0) (N := some 5) (bA 22 1) ?_
   refine one_ (i := 1) (N := some 6) (bA 22 3) rfl rfl (one_of HT_.out (by kernel_rfl)) (by decide) (fun K hK => ?_)
   refine gO Try.func146 #[.int .i64 a0] ?_
   with_reducible refine (knownbits_good.calls a0 true _ A3.out).mono ?_
   rintro e w' ⟨rfl, ⟨nd, rfl⟩⟩
   refine ⟨_, rfl, ?_⟩
   refine hK.out _ _ ⟨(blk_cell BK155.out 0).trans rfl, (blk_cell BK155.out 1).trans rfl⟩ (fun hHeld => ?_)
   clear hK K
   refine normA (some 6) ?_
   refine pureA HT_ (i := 2) (N := some 7) (bA 22 7) ?_
   refine pureA HT_ (i := 3) (N := some 8) (bA 22 15) ?_
   refine pureA HT_ (i := 5) (N := some 10) (bA 22 47) ?_
   refine pureA HT_ (i := 8) (N := some 13) (bA 22 303) ?_
   refine takeA HT_ HW_ hHeld (i := 4) (N := some 9) (bA 22 319) ?_ (hy := by rintro w' ⟨s0, s1⟩; go_simp; with_reducible rfl)
   refine takeA HT_ HW_ hHeld (i := 6) (N := some 11) (bA 22 383) ?_ (hy := by rintro w' ⟨s0, s1⟩; go_simp; with_reducible rfl)
   refine pureA HT_ (i := 7) (N := some 12) (bA 22 511) ?_
   refine one_ (i := 9) (N := some 14) (bA 22 1023) rfl rfl (one_of HT_.out (by kernel_rfl)) (by decide) (fun K hK => ?_)
   refine gO Try.func147 #[.int .i64 a0] ?_
   with_reducible refine (knownbits_mask.calls a0 t157 _ A5.out).mono ?_
   rintro e w9 ⟨rfl, hb⟩
   refine ⟨_, rfl, ?_⟩
   replace BK155 := bkB BK155.out hb
   replace HB := bsB HB.out hb
   (try clear hb)
   refine hK.out _ _ ⟨(blk_cell BK155.out 0).trans rfl, (blk_cell BK155.out 1).trans rfl⟩ (fun hHeld => ?_)
   clear hK K
   refine normA (some 14) ?_
   refine pureA HT_ (i := 10) (N := some 15) (bA 22 2047) ?_
   refine pureA HT_ (i := 11) (N := some 16) (bA 22 4095) ?_
   refine pureA HT_ (i := 12) (N := some 17) (bA 22 8191) ?_
   refine pureA HT_ (i := 13) (N := some 18) (bA 22 16383) ?_
   refine pureA HT_ (i := 14) (N := some 19) (bA 22 32767) ?_
   refine pureA HT_ (i := 16) (N := some 21) (bA 22 98303) ?_
   refine takeA HT_ HW_ hHeld (i := 15) (N := some 20) (bA 22 131071) ?_ (hy := by rintro w' ⟨s0, s1⟩; go_simp; with_reducible rfl)
   refine takeA HT_ HW_ hHeld (i := 17) (N := some 22) (bA 22 262143) ?_ (hy := by rintro w' ⟨s0, s1⟩; go_simp; with_reducible rfl)
   refine pureA HT_ (i := 18) (N := some 23) (bA 22 524287) ?_
   refine pureA HT_ (i := 19) (N := some 24) (bA 22 1048575) ?_
   refine pureA HT_ (i := 20) (N := some 25) (bA 22 2097151) ?_
   refine pureA HT_ (i := 21) (N := some 4) (bA 22 4194303) ?_
   refine done_ (done_of HT_.out (by kernel_rfl)) ?_
   try go_wp2
   go_ret
   exact ⟨by first | rfl | (simp [errW_none, errW_some] <;> rfl) | (simp [*, errW_none, errW_some] <;> rfl), bsL HB.out⟩
  ·
   rw [if_neg c6] at H
   have c6b0 : ((Go.bits .andNot .u64 (Go.bits .or .u64 a1_0 a1_1) t157) == 0) = false := beq_eq_false_iff_ne.mpr c6
   have c6b1 : ((Go.bits .andNot .u64 (Go.bits .or .u64 a1_0 a1_1) t157) != 0) = true := bne_iff_ne.mpr c6
   obtain rfl := Option.some.inj H
   go_enter Try.func91, Try.ntmps91
   try go_wp2_with (first | ((with_reducible refine gate_dst (N := 3) rfl ?_); refine box_event ?hg (N := 3) ?hd (cs := #[.int .u64 a1_0, .int .u64 a1_1]) (t := 110) ?hr ?_; (case hd => rfl); (case hg => rfl); (case hr => first | (go_simp; done) | (go_simp; rfl)); intro gb155 hg w10 hbox hb; have n0_ := bsB HB.out hb; have n1_ := Aside0.mk (hbox); have n2_ := szB hg HB.out; have n3_ := szB hg HB.out; clear HB; have HB := n0_; have BK155 := n1_; have GW155 := n2_; have GE155 := n3_; clear n0_ n1_ n2_ n3_; clear hb hbox hg))
   have n0_ := Aside0.mk (blk_drew BK155.out)
   have n1_ := Aside0.mk (below_drew1 HB.out)
   clear BK155
   clear HB
   have BK155 := n0_
   have HB := n1_
   clear n0_ n1_
   refine start_ (n := 22) (S := fun w' => w'.cell? ⟨gb155, 0, none⟩ = some (.int .u64 a1_0) ∧ w'.cell? ⟨gb155, 1, none⟩ = some (.int .u64 a1_1)) (ds := []) (bA 22 0) (by kernel_rfl) rfl rfl ⟨(blk_cell BK155.out 0).trans rfl, (blk_cell BK155.out 1).trans rfl⟩ (fun hHeld => ?_); refine with_tabW knownbits_Valid.tab1 knownbits_Valid.bits1 (fun HT_ HW_ => ?_)
   generalize w10.drew = w11 at BK155 HB hHeld ⊢
   refine pureA HT_ (i := 0) (N := some 5) (bA 22 1) ?_
   refine one_ (i := 1) (N := some 6) (bA 22 3) rfl rfl (one_of HT_.out (by kernel_rfl)) (by decide) (fun K hK => ?_)
   refine gO Try.func146 #[.int .i64 a0] ?_
   with_reducible refine (knownbits_good.calls a0 true _ A3.out).mono ?_
   rintro e w' ⟨rfl, ⟨nd, rfl⟩⟩
   refine ⟨_, rfl, ?_⟩
   refine hK.out _ _ ⟨(blk_cell BK155.out 0).trans rfl, (blk_cell BK155.out 1).trans rfl⟩ (fun hHeld => ?_)
   clear hK K
   refine normA (some 6) ?_
   refine pureA HT_ (i := 2) (N := some 7) (bA 22 7) ?_
   refine pureA HT_ (i := 3) (N := some 8) (bA 22 15) ?_
   refine pureA HT_ (i := 5) (N := some 10) (bA 22 47) ?_
   refine pureA HT_ (i := 8) (N := some 13) (bA 22 303) ?_
   refine takeA HT_ HW_ hHeld (i := 4) (N := some 9) (bA 22 319) ?_ (hy := by rintro w' ⟨s0, s1⟩; go_simp; with_reducible rfl)
   refine takeA HT_ HW_ hHeld (i := 6) (N := some 11) (bA 22 383) ?_ (hy := by rintro w' ⟨s0, s1⟩; go_simp; with_reducible rfl)
   refine pureA HT_ (i := 7) (N := some 12) (bA 22 511) ?_
   refine one_ (i := 9) (N := some 14) (bA 22 1023) rfl rfl (one_of HT_.out (by kernel_rfl)) (by decide) (fun K hK => ?_)
   refine gO Try.func147 #[.int .i64 a0] ?_
   with_reducible refine (knownbits_mask.calls a0 t157 _ A5.out).mono ?_
   rintro e w12 ⟨rfl, hb⟩
   refine ⟨_, rfl, ?_⟩
   replace BK155 := bkB BK155.out hb
   replace HB := bsB HB.out hb
   (try clear hb)
   refine hK.out _ _ ⟨(blk_cell BK155.out 0).trans rfl, (blk_cell BK155.out 1).trans rfl⟩ (fun hHeld => ?_)
   clear hK K
   refine normA (some 14) ?_
   refine pureA HT_ (i := 10) (N := some 15) (bA 22 2047) ?_
   refine pureA HT_ (i := 11) (N := some 16) (bA 22 4095) ?_
   refine pureA HT_ (i := 12) (N := some 17) (bA 22 8191) ?_
   refine pureA HT_ (i := 13) (N := some 18) (bA 22 16383) ?_
   refine pureU HT_ (i := 14) (N := some 19) (bA 22 32767) ?_
   refine pureU HT_ (i := 15) (N := some 20) (bA 22 65535) ?_
   refine pureU HT_ (i := 16) (N := some 21) (bA 22 131071) ?_
   refine pureU HT_ (i := 17) (N := some 22) (bA 22 262143) ?_
   refine pureU HT_ (i := 18) (N := some 23) (bA 22 524287) ?_
   refine pureU HT_ (i := 19) (N := some 24) (bA 22 1048575) ?_
   refine pureA HT_ (i := 20) (N := some 25) (bA 22 2097151) ?_
   refine pureA HT_ (i := 21) (N := some 4) (bA 22 4194303) ?_
   refine done_ (done_of HT_.out (by kernel_rfl)) ?_
   try go_wp2
   go_ret
   exact ⟨by first | rfl | (simp [errW_none, errW_some] <;> rfl) | (simp [*, errW_none, errW_some] <;> rfl), bsL HB.out⟩
 ·
  replace c4 := Bool.eq_false_iff.mpr c4
  subst c4
  have H1 : (some false) = some r := by rw [if_neg (show ¬ (false = true) by decide)] at H; exact H
  clear H
  have H := H1
  clear H1
  obtain rfl := Option.some.inj H
  go_enter Try.func91, Try.ntmps91
  try go_wp2_with (first | ((with_reducible refine gate_dst (N := 3) rfl ?_); refine box_event ?hg (N := 3) ?hd (cs := #[.int .u64 a1_0, .int .u64 a1_1]) (t := 110) ?hr ?_; (case hd => rfl); (case hg => rfl); (case hr => first | (go_simp; done) | (go_simp; rfl)); intro gb155 hg w13 hbox hb; have n0_ := bsB HB.out hb; have n1_ := Aside0.mk (hbox); have n2_ := szB hg HB.out; have n3_ := szB hg HB.out; clear HB; have HB := n0_; have BK155 := n1_; have GW155 := n2_; have GE155 := n3_; clear n0_ n1_ n2_ n3_; clear hb hbox hg))
  have n0_ := Aside0.mk (blk_drew BK155.out)
  have n1_ := Aside0.mk (below_drew1 HB.out)
  clear BK155
  clear HB
  have BK155 := n0_
  have HB := n1_
  clear n0_ n1_
  refine start_ (n := 22) (S := fun w' => True) (ds := []) (bA 22 0) (by kernel_rfl) rfl rfl trivial (fun hHeld => ?_); refine with_tabW knownbits_Valid.tab1 knownbits_Valid.bits1 (fun HT_ HW_ => ?_)
  generalize w13.drew = w14 at BK155 HB hHeld ⊢
  refine pureA HT_ (i := 0) (N := some 5) (bA 22 1) ?_
  refine one_ (i := 1) (N := some 6) (bA 22 3) rfl rfl (one_of HT_.out (by kernel_rfl)) (by decide) (fun K hK => ?_)
  refine gO Try.func146 #[.int .i64 a0] ?_
  with_reducible refine (knownbits_good.calls a0 false _ A3.out).mono ?_
  rintro e w' ⟨rfl, ⟨nd, rfl⟩⟩
  refine ⟨_, rfl, ?_⟩
  refine hK.out _ _ trivial (fun hHeld => ?_)
  clear hK K
  refine normA (some 6) ?_
  refine pureA HT_ (i := 2) (N := some 7) (bA 22 7) ?_
  refine pureU HT_ (i := 3) (N := some 8) (bA 22 15) ?_
  refine pureU HT_ (i := 4) (N := some 9) (bA 22 31) ?_
  refine pureU HT_ (i := 5) (N := some 10) (bA 22 63) ?_
  refine pureU HT_ (i := 6) (N := some 11) (bA 22 127) ?_
  refine pureU HT_ (i := 7) (N := some 12) (bA 22 255) ?_
  refine pureU HT_ (i := 8) (N := some 13) (bA 22 511) ?_
  refine pureU HT_ (i := 9) (N := some 14) (bA 22 1023) ?_
  refine pureU HT_ (i := 10) (N := some 15) (bA 22 2047) ?_
  refine pureU HT_ (i := 11) (N := some 16) (bA 22 4095) ?_
  refine pureA HT_ (i := 12) (N := some 17) (bA 22 8191) ?_
  refine pureA HT_ (i := 13) (N := some 18) (bA 22 16383) ?_
  refine pureU HT_ (i := 14) (N := some 19) (bA 22 32767) ?_
  refine pureU HT_ (i := 15) (N := some 20) (bA 22 65535) ?_
  refine pureU HT_ (i := 16) (N := some 21) (bA 22 131071) ?_
  refine pureU HT_ (i := 17) (N := some 22) (bA 22 262143) ?_
  refine pureU HT_ (i := 18) (N := some 23) (bA 22 524287) ?_
  refine pureU HT_ (i := 19) (N := some 24) (bA 22 1048575) ?_
  refine pureA HT_ (i := 20) (N := some 25) (bA 22 2097151) ?_
  refine pureA HT_ (i := 21) (N := some 4) (bA 22 4194303) ?_
  refine done_ (done_of HT_.out (by kernel_rfl)) ?_
  try go_wp2
  go_ret
  exact ⟨by first | rfl | (simp [errW_none, errW_some] <;> rfl) | (simp [*, errW_none, errW_some] <;> rfl), bsL HB.out⟩

/-! ### facts_Valid: function 34 -/
def facts_Valid.f (a0 : Int) (a1_0 : Int) (a1_1 : Int) (a1_2 : Int) (a1_3 : Int) (a1_4 : Int) (a1_5 : Int) : Option (Bool) := (facts_known.f a1_0 a1_1 a1_2 a1_3 a1_4 a1_5).bind fun bt159 => ((knownbits_Valid.f a0 bt159.1 bt159.2).bind fun t161 => (if t161 = true then ((facts_span.f a1_0 a1_1 a1_2 a1_3 a1_4 a1_5).bind fun bt162 => ((interval_Valid.f a0 bt162.1 bt162.2.1 bt162.2.2.1 bt162.2.2.2).bind fun t166 => (some t166))) else (some false)))
set_option maxHeartbeats 8000000 in
set_option maxRecDepth 100000 in
theorem facts_Valid.calls (a0 : Int) (a1_0 : Int) (a1_1 : Int) (a1_2 : Int) (a1_3 : Int) (a1_4 : Int) (a1_5 : Int) (r : Bool) (w : World) (h : facts_Valid.f a0 a1_0 a1_1 a1_2 a1_3 a1_4 a1_5 = some r) :
  Calls Try.prog 34 #[.int .i64 a0, .agg #[.int .u64 a1_0, .int .u64 a1_1, .int .u64 a1_2, .int .u64 a1_3, .int .i64 a1_4, .int .i64 a1_5]] w fun e w' => e = .returned (.bool r) ∧ Below w.heap.size w w' := by
 have hu50 := Try.underlying50
 have HB := Aside0.mk (Below.refl w.heap.size w)
 have H : ((facts_known.f a1_0 a1_1 a1_2 a1_3 a1_4 a1_5).bind fun bt159 => ((knownbits_Valid.f a0 bt159.1 bt159.2).bind fun t161 => (if t161 = true then ((facts_span.f a1_0 a1_1 a1_2 a1_3 a1_4 a1_5).bind fun bt162 => ((interval_Valid.f a0 bt162.1 bt162.2.1 bt162.2.2.1 bt162.2.2.2).bind fun t166 => (some t166))) else (some false)))) = some r := h
 clear h
 replace H := Option.bind_eq_some_iff.mp H
 obtain ⟨⟨t159, t160⟩, A30, H⟩ := H
 replace H : ((knownbits_Valid.f a0 t159 t160).bind fun t161 => (if t161 = true then ((facts_span.f a1_0 a1_1 a1_2 a1_3 a1_4 a1_5).bind fun bt162 => ((interval_Valid.f a0 bt162.1 bt162.2.1 bt162.2.2.1 bt162.2.2.2).bind fun t166 => (some t166))) else (some false))) = some r := H
 have A3 := Aside0.mk A30
 clear A30
 replace H := Option.bind_eq_some_iff.mp H
 obtain ⟨t161, A40, H⟩ := H
 replace H : (if t161 = true then ((facts_span.f a1_0 a1_1 a1_2 a1_3 a1_4 a1_5).bind fun bt162 => ((interval_Valid.f a0 bt162.1 bt162.2.1 bt162.2.2.1 bt162.2.2.2).bind fun t166 => (some t166))) else (some false)) = some r := H
 have A4 := Aside0.mk A40
 clear A40
 by_cases c5 : t161 = true
 ·
  subst c5
  have H1 : ((facts_span.f a1_0 a1_1 a1_2 a1_3 a1_4 a1_5).bind fun bt162 => ((interval_Valid.f a0 bt162.1 bt162.2.1 bt162.2.2.1 bt162.2.2.2).bind fun t166 => (some t166))) = some r := by rw [if_pos rfl] at H; exact H
  clear H
  have H := H1
  clear H1
  replace H := Option.bind_eq_some_iff.mp H
  obtain ⟨⟨t162, t163, t164, t165⟩, A60, H⟩ := H
  replace H : ((interval_Valid.f a0 t162 t163 t164 t165).bind fun t166 => (some t166)) = some r := H
  have A6 := Aside0.mk A60
  clear A60
  replace H := Option.bind_eq_some_iff.mp H
  obtain ⟨t166, A70, H⟩ := H
  replace H : (some t166) = some r := H
  have A7 := Aside0.mk A70
  clear A70
  obtain rfl := Option.some.inj H
  go_enter Try.func34, Try.ntmps34
  go_wp2_with (first | ((with_reducible refine gate_dst (N := 3) rfl ?_); refine box_event ?hg (N := 3) ?hd (cs := #[.int .u64 a1_0, .int .u64 a1_1, .int .u64 a1_2, .int .u64 a1_3, .int .i64 a1_4, .int .i64 a1_5]) (t := 50) ?hr ?_; (case hd => rfl); (case hg => rfl); (case hr => first | (go_simp; done) | (go_simp; rfl)); intro gb158 hg w8 hbox hb; have n0_ := bsB HB.out hb; have n1_ := Aside0.mk (hbox); have n2_ := szB hg HB.out; have n3_ := szB hg HB.out; clear HB; have HB := n0_; have BK158 := n1_; have GW158 := n2_; have GE158 := n3_; clear n0_ n1_ n2_ n3_; clear hb hbox hg; have hcz9_0 : w8.cell? ⟨gb158, 0, none⟩ = some (.int .u64 a1_0) := (blk_cell BK158.out 0).trans rfl; have hcz9_1 : w8.cell? ⟨gb158, 1, none⟩ = some (.int .u64 a1_1) := (blk_cell BK158.out 1).trans rfl; have hcz9_2 : w8.cell? ⟨gb158, 2, none⟩ = some (.int .u64 a1_2) := (blk_cell BK158.out 2).trans rfl; have hcz9_3 : w8.cell? ⟨gb158, 3, none⟩ = some (.int .u64 a1_3) := (blk_cell BK158.out 3).trans rfl; have hcz9_4 : w8.cell? ⟨gb158, 4, none⟩ = some (.int .i64 a1_4) := (blk_cell BK158.out 4).trans rfl; have hcz9_5 : w8.cell? ⟨gb158, 5, none⟩ = some (.int .i64 a1_5) := (blk_cell BK158.out 5).trans rfl; have hfz9_0 := blk_frozen BK158.out 0; have hfz9_1 := blk_frozen BK158.out 1; have hfz9_2 := blk_frozen BK158.out 2; have hfz9_3 := blk_frozen BK158.out 3; have hfz9_4 := blk_frozen BK158.out 4; have hfz9_5 := blk_frozen BK158.out 5) | ((with_reducible refine gate_callee (f := 86) rfl ?_); refine gL (some 7) Try.func86 #[.agg #[.int .u64 a1_0, .int .u64 a1_1, .int .u64 a1_2, .int .u64 a1_3, .int .i64 a1_4, .int .i64 a1_5]] ?_; (with_reducible refine (facts_known.calls a1_0 a1_1 a1_2 a1_3 a1_4 a1_5 t159 t160 _ A3.out).mono ?_); rintro e w10 ⟨rfl, hb⟩; refine ⟨_, rfl, ?_⟩; have n0_ := bkB BK158.out hb; have n1_ := bsB HB.out hb; clear BK158; clear HB; have BK158 := n0_; have HB := n1_; clear n0_ n1_; (try clear hb); (try clear hb2); (try clear hk); (try clear hi)) | ((with_reducible refine gate_callee (f := 91) rfl ?_); refine gL (some 8) Try.func91 #[.int .i64 a0, .agg #[.int .u64 t159, .int .u64 t160]] ?_; (with_reducible refine (knownbits_Valid.calls a0 t159 t160 true _ A4.out).mono ?_); rintro e w11 ⟨rfl, hb⟩; refine ⟨_, rfl, ?_⟩; have n0_ := bkB BK158.out hb; have n1_ := bsB HB.out hb; clear BK158; clear HB; have BK158 := n0_; have HB := n1_; clear n0_ n1_; (try clear hb); (try clear hb2); (try clear hk); (try clear hi); have hcz12_0 : w11.cell? ⟨gb158, 0, none⟩ = some (.int .u64 a1_0) := (blk_cell BK158.out 0).trans rfl; have hcz12_1 : w11.cell? ⟨gb158, 1, none⟩ = some (.int .u64 a1_1) := (blk_cell BK158.out 1).trans rfl; have hcz12_2 : w11.cell? ⟨gb158, 2, none⟩ = some (.int .u64 a1_2) := (blk_cell BK158.out 2).trans rfl; have hcz12_3 : w11.cell? ⟨gb158, 3, none⟩ = some (.int .u64 a1_3) := (blk_cell BK158.out 3).trans rfl; have hcz12_4 : w11.cell? ⟨gb158, 4, none⟩ = some (.int .i64 a1_4) := (blk_cell BK158.out 4).trans rfl; have hcz12_5 : w11.cell? ⟨gb158, 5, none⟩ = some (.int .i64 a1_5) := (blk_cell BK158.out 5).trans rfl; have hfz12_0 := blk_frozen BK158.out 0; have hfz12_1 := blk_frozen BK158.out 1; have hfz12_2 := blk_frozen BK158.out 2; have hfz12_3 := blk_frozen BK158.out 3; have hfz12_4 := blk_frozen BK158.out 4; have hfz12_5 := blk_frozen BK158.out 5) | (go_at_call 76; (with_reducible refine (facts_span.calls a1_0 a1_1 a1_2 a1_3 a1_4 a1_5 t162 t163 t164 t165 _ A6.out).mono ?_); rintro e w13 ⟨rfl, hb⟩; have n0_ := bkB BK158.out hb; have n1_ := bsB HB.out hb; clear BK158; clear HB; have BK158 := n0_; have HB := n1_; clear n0_ n1_; (try clear hb); (try clear hb2); (try clear hk); (try clear hi)) | (go_at_call 21; (with_reducible refine (interval_Valid.calls a0 t162 t163 t164 t165 t166 _ A7.out).mono ?_); rintro e w14 ⟨rfl, hb⟩; have n0_ := bkB BK158.out hb; have n1_ := bsB HB.out hb; clear BK158; clear HB; have BK158 := n0_; have HB := n1_; clear n0_ n1_; (try clear hb); (try clear hb2); (try clear hk); (try clear hi)))
  go_ret
  exact ⟨by first | rfl | (simp [errW_none, errW_some] <;> rfl) | (simp [*, errW_none, errW_some] <;> rfl), bsL HB.out⟩
 ·
  replace c5 := Bool.eq_false_iff.mpr c5
  subst c5
  have H1 : (some false) = some r := by rw [if_neg (show ¬ (false = true) by decide)] at H; exact H
  clear H
  have H := H1
  clear H1
  obtain rfl := Option.some.inj H
  go_enter Try.func34, Try.ntmps34
  go_wp2_with (first | ((with_reducible refine gate_dst (N := 3) rfl ?_); refine box_event ?hg (N := 3) ?hd (cs := #[.int .u64 a1_0, .int .u64 a1_1, .int .u64 a1_2, .int .u64 a1_3, .int .i64 a1_4, .int .i64 a1_5]) (t := 50) ?hr ?_; (case hd => rfl); (case hg => rfl); (case hr => first | (go_simp; done) | (go_simp; rfl)); intro gb158 hg w15 hbox hb; have n0_ := bsB HB.out hb; have n1_ := Aside0.mk (hbox); have n2_ := szB hg HB.out; have n3_ := szB hg HB.out; clear HB; have HB := n0_; have BK158 := n1_; have GW158 := n2_; have GE158 := n3_; clear n0_ n1_ n2_ n3_; clear hb hbox hg; have hcz16_0 : w15.cell? ⟨gb158, 0, none⟩ = some (.int .u64 a1_0) := (blk_cell BK158.out 0).trans rfl; have hcz16_1 : w15.cell? ⟨gb158, 1, none⟩ = some (.int .u64 a1_1) := (blk_cell BK158.out 1).trans rfl; have hcz16_2 : w15.cell? ⟨gb158, 2, none⟩ = some (.int .u64 a1_2) := (blk_cell BK158.out 2).trans rfl; have hcz16_3 : w15.cell? ⟨gb158, 3, none⟩ = some (.int .u64 a1_3) := (blk_cell BK158.out 3).trans rfl; have hcz16_4 : w15.cell? ⟨gb158, 4, none⟩ = some (.int .i64 a1_4) := (blk_cell BK158.out 4).trans rfl; have hcz16_5 : w15.cell? ⟨gb158, 5, none⟩ = some (.int .i64 a1_5) := (blk_cell BK158.out 5).trans rfl; have hfz16_0 := blk_frozen BK158.out 0; have hfz16_1 := blk_frozen BK158.out 1; have hfz16_2 := blk_frozen BK158.out 2; have hfz16_3 := blk_frozen BK158.out 3; have hfz16_4 := blk_frozen BK158.out 4; have hfz16_5 := blk_frozen BK158.out 5) | ((with_reducible refine gate_callee (f := 86) rfl ?_); refine gL (some 7) Try.func86 #[.agg #[.int .u64 a1_0, .int .u64 a1_1, .int .u64 a1_2, .int .u64 a1_3, .int .i64 a1_4, .int .i64 a1_5]] ?_; (with_reducible refine (facts_known.calls a1_0 a1_1 a1_2 a1_3 a1_4 a1_5 t159 t160 _ A3.out).mono ?_); rintro e w17 ⟨rfl, hb⟩; refine ⟨_, rfl, ?_⟩; have n0_ := bkB BK158.out hb; have n1_ := bsB HB.out hb; clear BK158; clear HB; have BK158 := n0_; have HB := n1_; clear n0_ n1_; (try clear hb); (try clear hb2); (try clear hk); (try clear hi)) | ((with_reducible refine gate_callee (f := 91) rfl ?_); refine gL (some 8) Try.func91 #[.int .i64 a0, .agg #[.int .u64 t159, .int .u64 t160]] ?_; (with_reducible refine (knownbits_Valid.calls a0 t159 t160 false _ A4.out).mono ?_); rintro e w18 ⟨rfl, hb⟩; refine ⟨_, rfl, ?_⟩; have n0_ := bkB BK158.out hb; have n1_ := bsB HB.out hb; clear BK158; clear HB; have BK158 := n0_; have HB := n1_; clear n0_ n1_; (try clear hb); (try clear hb2); (try clear hk); (try clear hi)))
  go_ret
  exact ⟨by first | rfl | (simp [errW_none, errW_some] <;> rfl) | (simp [*, errW_none, errW_some] <;> rfl), bsL HB.out⟩

/-! ### jacquardlaw14_awake: function 24 -/
def jacquardlaw14_awake.f  : Option (Bool) := (facts_Of.f 4 9).bind fun bt167 => (if (bt167.1 == 6 && (bt167.2.1 == 9 && (bt167.2.2.1 == 9 && (bt167.2.2.2.1 == 9 && (bt167.2.2.2.2.1 == (-7) && (bt167.2.2.2.2.2 == (-7))))))) = true then ((facts_Top.f 4).bind fun bt173 => ((facts_Valid.f 4 bt173.1 bt173.2.1 bt173.2.2.1 bt173.2.2.2.1 bt173.2.2.2.2.1 bt173.2.2.2.2.2).bind fun t179 => (some t179))) else (some false))
set_option maxHeartbeats 8000000 in
set_option maxRecDepth 100000 in
theorem jacquardlaw14_awake.calls  (r : Bool) (w : World) (h : jacquardlaw14_awake.f  = some r) :
  Calls Try.prog 24 #[] w fun e w' => e = .returned (.bool r) ∧ Below w.heap.size w w' := by
 have hu50 := Try.underlying50
 have HB := Aside0.mk (Below.refl w.heap.size w)
 have H : ((facts_Of.f 4 9).bind fun bt167 => (if (bt167.1 == 6 && (bt167.2.1 == 9 && (bt167.2.2.1 == 9 && (bt167.2.2.2.1 == 9 && (bt167.2.2.2.2.1 == (-7) && (bt167.2.2.2.2.2 == (-7))))))) = true then ((facts_Top.f 4).bind fun bt173 => ((facts_Valid.f 4 bt173.1 bt173.2.1 bt173.2.2.1 bt173.2.2.2.1 bt173.2.2.2.2.1 bt173.2.2.2.2.2).bind fun t179 => (some t179))) else (some false))) = some r := h
 clear h
 replace H := Option.bind_eq_some_iff.mp H
 obtain ⟨⟨t167, t168, t169, t170, t171, t172⟩, A10, H⟩ := H
 replace H : (if (t167 == 6 && (t168 == 9 && (t169 == 9 && (t170 == 9 && (t171 == (-7) && (t172 == (-7))))))) = true then ((facts_Top.f 4).bind fun bt173 => ((facts_Valid.f 4 bt173.1 bt173.2.1 bt173.2.2.1 bt173.2.2.2.1 bt173.2.2.2.2.1 bt173.2.2.2.2.2).bind fun t179 => (some t179))) else (some false)) = some r := H
 have A1 := Aside0.mk A10
 clear A10
 by_cases c2 : (t167 == 6 && (t168 == 9 && (t169 == 9 && (t170 == 9 && (t171 == (-7) && (t172 == (-7))))))) = true
 ·
  rw [if_pos c2] at H
  have c2b0 : (t167 == 6 && (t168 == 9 && (t169 == 9 && (t170 == 9 && (t171 == (-7) && (t172 == (-7))))))) = true := c2
  (try (have c2b1 : decide (t167 = 6 && (t168 == 9 && (t169 == 9 && (t170 == 9 && (t171 == (-7) && (t172 == (-7))))))) = true := by simpa using c2))
  (try (have c2b2 : (t167 == 6 && (t168 == 9 && (t169 == 9 && (t170 == 9 && (t171 == (-7) && (t172 == (-7))))))) = true := by simpa using c2))
  clear c2
  replace H := Option.bind_eq_some_iff.mp H
  obtain ⟨⟨t173, t174, t175, t176, t177, t178⟩, A30, H⟩ := H
  replace H : ((facts_Valid.f 4 t173 t174 t175 t176 t177 t178).bind fun t179 => (some t179)) = some r := H
  have A3 := Aside0.mk A30
  clear A30
  replace H := Option.bind_eq_some_iff.mp H
  obtain ⟨t179, A40, H⟩ := H
  replace H : (some t179) = some r := H
  have A4 := Aside0.mk A40
  clear A40
  obtain rfl := Option.some.inj H
  go_enter Try.func24, Try.ntmps24
  go_wp2_with (first | ((with_reducible refine gate_callee (f := 32) rfl ?_); refine gL (some 1) Try.func32 #[.int .i64 4, .int .u64 9] ?_; (with_reducible refine (facts_Of.calls 4 9 t167 t168 t169 t170 t171 t172 _ A1.out).mono ?_); rintro e w5 ⟨rfl, hb⟩; refine ⟨_, rfl, ?_⟩; replace HB := bsB HB.out hb; (try clear hb)) | (go_at_call 30; (with_reducible refine (facts_Top.calls 4 t173 t174 t175 t176 t177 t178 _ A3.out).mono ?_); rintro e w6 ⟨rfl, hb⟩; have n0_ := bsB HB.out hb; clear HB; have HB := n0_; clear n0_; (try clear hb); (try clear hb2); (try clear hk); (try clear hi)) | (go_at_call 34; (with_reducible refine (facts_Valid.calls 4 t173 t174 t175 t176 t177 t178 t179 _ A4.out).mono ?_); rintro e w7 ⟨rfl, hb⟩; have n0_ := bsB HB.out hb; clear HB; have HB := n0_; clear n0_; (try clear hb); (try clear hb2); (try clear hk); (try clear hi)))
  go_ret
  exact ⟨by first | rfl | (simp [errW_none, errW_some] <;> rfl) | (simp [*, errW_none, errW_some] <;> rfl), bsL HB.out⟩
 ·
  rw [if_neg c2] at H
  have c2b0 : (t167 == 6 && (t168 == 9 && (t169 == 9 && (t170 == 9 && (t171 == (-7) && (t172 == (-7))))))) = false := by simpa using c2
  (try (have c2b1 : decide (t167 = 6 && (t168 == 9 && (t169 == 9 && (t170 == 9 && (t171 == (-7) && (t172 == (-7))))))) = false := by simpa using c2))
  (try (have c2b2 : (t167 == 6 && (t168 == 9 && (t169 == 9 && (t170 == 9 && (t171 == (-7) && (t172 == (-7))))))) = false := by simpa using c2))
  (try (have c2b3 : ¬ (t167 = 6 && (t168 == 9 && (t169 == 9 && (t170 == 9 && (t171 == (-7) && (t172 == (-7))))))) := by simpa using c2))
  clear c2
  obtain rfl := Option.some.inj H
  go_enter Try.func24, Try.ntmps24
  go_wp2_with (first | ((with_reducible refine gate_callee (f := 32) rfl ?_); refine gL (some 1) Try.func32 #[.int .i64 4, .int .u64 9] ?_; (with_reducible refine (facts_Of.calls 4 9 t167 t168 t169 t170 t171 t172 _ A1.out).mono ?_); rintro e w8 ⟨rfl, hb⟩; refine ⟨_, rfl, ?_⟩; replace HB := bsB HB.out hb; (try clear hb)))
  go_ret
  exact ⟨by first | rfl | (simp [errW_none, errW_some] <;> rfl) | (simp [*, errW_none, errW_some] <;> rfl), bsL HB.out⟩

/-! ### bits_From: function 121 -/
def bits_From.f (a0 : Int) (a1 : Int) : Option (Int) := (bits_Fit.f a0 (IntKind.u64.wrap (a1))).bind fun t180 => (some t180)
set_option maxHeartbeats 8000000 in
set_option maxRecDepth 100000 in
theorem bits_From.calls (a0 : Int) (a1 : Int) (r : Int) (w : World) (h : bits_From.f a0 a1 = some r) :
  Calls Try.prog 121 #[.int .i64 a0, .int .i64 a1] w fun e w' => e = .returned (.int .u64 r) ∧ Below w.heap.size w w' := by
 have HB := Aside0.mk (Below.refl w.heap.size w)
 have H : ((bits_Fit.f a0 (IntKind.u64.wrap (a1))).bind fun t180 => (some t180)) = some r := h
 clear h
 replace H := Option.bind_eq_some_iff.mp H
 obtain ⟨t180, A30, H⟩ := H
 replace H : (some t180) = some r := H
 have A3 := Aside0.mk A30
 clear A30
 obtain rfl := Option.some.inj H
 go_enter Try.func121, Try.ntmps121
 go_wp2_with (first | ((with_reducible refine gate_callee (f := 67) rfl ?_); refine gL (some 8) Try.func67 #[.int .i64 a0, .int .u64 (IntKind.u64.wrap (a1))] ?_; (with_reducible refine (bits_Fit.calls a0 (IntKind.u64.wrap (a1)) t180 _ A3.out).mono ?_); rintro e w4 ⟨rfl, hb⟩; refine ⟨_, rfl, ?_⟩; replace HB := bsB HB.out hb; (try clear hb)))
 go_ret
 exact ⟨by first | rfl | (simp [errW_none, errW_some] <;> rfl) | (simp [*, errW_none, errW_some] <;> rfl), bsL HB.out⟩

end Go.Proofs.Ytbiohdgeclokmaa.P
