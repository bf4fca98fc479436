-- made by a program of this work (wip/mkprint.py, wip/mp.sh) out of the translation
import Derived.Test.YtbiohdgeclokmaaPx0
import Derived.Test.YtbiohdgeclokmaaPx1
namespace Go.Proofs.Ytbiohdgeclokmaa.P
open Go.RowKit Go.Proofs.YtbiohdgeclokmaaW.PrintWords Go.Proofs.YtbiohdgeclokmaaW.PrintLast Go.Proofs.YtbiohdgeclokmaaW.PrintMore
attribute [local go_sem] max2_int min2_int max_two min_two max_three min_three max_four min_four   -- for this text's walks alone
set_option linter.unusedVariables false
set_option linter.unusedSimpArgs false

attribute [local go_sem high] eqA50
/-! ### interval_ends: function 55 -/
def interval_ends.f (a0 : Int) : Option (Int × Int) := if 0 ≤ (wrap64 (a0 - 1)) then (some (shl .i64 (-1) (wrap64 (a0 - 1)), wrap64 ((shl .i64 1 (wrap64 (a0 - 1))) - 1))) else (none)
set_option maxHeartbeats 8000000 in
set_option maxRecDepth 100000 in
theorem interval_ends.calls (a0 : Int) (r1 : Int) (r2 : Int) (w : World) (h : interval_ends.f a0 = some (r1, r2)) :
  Calls Try.prog 55 #[.int .i64 a0] w fun e w' => e = .returned (.tuple #[.int .i64 r1, .int .i64 r2]) ∧ Drawn0 w w' := by
 have H : (if 0 ≤ (wrap64 (a0 - 1)) then (some (shl .i64 (-1) (wrap64 (a0 - 1)), wrap64 ((shl .i64 1 (wrap64 (a0 - 1))) - 1))) else (none)) = some (r1, r2) := h
 clear h
 obtain ⟨ji2, hji2⟩ : ∃ j_ : Int, (wrap64 (a0 - 1)) = j_ := ⟨_, rfl⟩
 replace H : (if 0 ≤ (ji2) then (some (shl .i64 (-1) (ji2), wrap64 ((shl .i64 1 (ji2)) - 1))) else (none)) = some (r1, r2) := by first | (rw [hji2] at H; exact H) | (simp only [hji2] at H ⊢; exact H)
 have hji2w : (IntKind.i64.wrap (a0 - 1)) = ji2 := (i64_w _).trans hji2
 by_cases c3 : 0 ≤ (ji2)
 ·
  rw [if_pos c3] at H
  have c3b0 := eq_true c3
  have c3b1 : decide (0 ≤ (ji2)) = true := decide_eq_true c3
  clear c3
  obtain ⟨ji4, hji4⟩ : ∃ j_ : Int, (shl .i64 (-1) (ji2)) = j_ := ⟨_, rfl⟩
  replace H : (some (ji4, wrap64 ((shl .i64 1 (ji2)) - 1))) = some (r1, r2) := by first | (rw [hji4] at H; exact H) | (simp only [hji4] at H ⊢; exact H)
  have hji4_ : (IntKind.i64.wrap ((-1) * 2 ^ min (ji2).toNat 64)) = ji4 := hji4
  have hji4z : (ji2) ≤ 64 → (IntKind.i64.wrap ((-1) * 2 ^ (ji2).toNat)) = ji4 := shl_small hji4
  have hji4u : (IntKind.i64.wrap (-2 ^ min (ji2).toNat 64)) = ji4 := by have h_ := hji4_; rw [Int.neg_one_mul] at h_; exact h_
  have hji4v : (ji2) ≤ 64 → (IntKind.i64.wrap (-2 ^ (ji2).toNat)) = ji4 := fun hle_ => by have h_ := hji4z hle_; rw [Int.neg_one_mul] at h_; exact h_
  have hji4uw : (wrap64 (-2 ^ min (ji2).toNat 64)) = ji4 := by have h_ := ((i64_w _).symm.trans hji4_); rw [Int.neg_one_mul] at h_; exact h_
  have hji4vw : (ji2) ≤ 64 → (wrap64 (-2 ^ (ji2).toNat)) = ji4 := fun hle_ => by have h_ := (i64_w _).symm.trans (hji4z hle_); rw [Int.neg_one_mul] at h_; exact h_
  have hji4y : (wrap64 ((-1) * 2 ^ min (ji2).toNat 64)) = ji4 := (i64_w _).symm.trans hji4_
  have hji4x : (ji2) ≤ 64 → (wrap64 ((-1) * 2 ^ (ji2).toNat)) = ji4 := fun h_ => (i64_w _).symm.trans (hji4z h_)
  have c5b0 := eq_true (of_decide_eq_true (by first | (with_reducible assumption) | assumption) : 0 ≤ (ji2))
  obtain ⟨ji6, hji6⟩ : ∃ j_ : Int, (shl .i64 1 (ji2)) = j_ := ⟨_, rfl⟩
  replace H : (some (ji4, wrap64 ((ji6) - 1))) = some (r1, r2) := by first | (rw [hji6] at H; exact H) | (simp only [hji6] at H ⊢; exact H)
  have hji6_ : (IntKind.i64.wrap (1 * 2 ^ min (ji2).toNat 64)) = ji6 := hji6
  have hji6z : (ji2) ≤ 64 → (IntKind.i64.wrap (1 * 2 ^ (ji2).toNat)) = ji6 := shl_small hji6
  have hji6u : (IntKind.i64.wrap (2 ^ min (ji2).toNat 64)) = ji6 := by have h_ := hji6_; rw [Int.one_mul] at h_; exact h_
  have hji6v : (ji2) ≤ 64 → (IntKind.i64.wrap (2 ^ (ji2).toNat)) = ji6 := fun hle_ => by have h_ := hji6z hle_; rw [Int.one_mul] at h_; exact h_
  have hji6y : (wrap64 (1 * 2 ^ min (ji2).toNat 64)) = ji6 := (i64_w _).symm.trans hji6_
  have hji6x : (ji2) ≤ 64 → (wrap64 (1 * 2 ^ (ji2).toNat)) = ji6 := fun h_ => (i64_w _).symm.trans (hji6z h_)
  simp only [Option.some.injEq, Prod.mk.injEq] at H
  obtain ⟨rfl, rfl⟩ := H
  go_enter Try.func55, Try.ntmps55
  go_wp2
  repeat (go_quiet (fail); try go_wp2)
  go_ret2
  exact ⟨by first | rfl | (simp; done) | (simp only [← hji2, ← hji4, ← hji6] <;> (first | rfl | simp)) | (simp [*]; done), by repeat (first | exact Drawn0.refl _ | apply Drawn0.step)⟩
 ·
  rw [if_neg c3] at H
  exact absurd H (by simp)

/-! ### bits_limit: function 124 -/
def bits_limit.f (a0 : Int) : Option (Int) := some (mn (mx a0 0) 64)
set_option maxHeartbeats 8000000 in
set_option maxRecDepth 100000 in
theorem bits_limit.calls (a0 : Int) (r : Int) (w : World) (h : bits_limit.f a0 = some r) :
  Calls Try.prog 124 #[.int .i64 a0] w fun e w' => e = .returned (.int .i64 r) ∧ Below w.heap.size w w' := by
 have HB := Aside0.mk (Below.refl w.heap.size w)
 have H : (some (mn (mx a0 0) 64)) = some r := h
 clear h
 obtain ⟨ji2, hji2⟩ : ∃ j_ : Int, (mx a0 0) = j_ := ⟨_, rfl⟩
 replace H : (some (mn (ji2) 64)) = some r := by first | (rw [hji2] at H; exact H) | (simp only [hji2] at H ⊢; exact H)
 (try (have hji2l : 0 ≤ ji2 := by (rw [← hji2]; unfold mx; (repeat' split) <;> omega)))
 (try (have hji2m : 0 ≤ ji2 := by omega))
 have hji2_ : (if a0 < 0 then 0 else a0) = ji2 := hji2
 obtain ⟨ji3, hji3⟩ : ∃ j_ : Int, (mn (ji2) 64) = j_ := ⟨_, rfl⟩
 replace H : (some ji3) = some r := by first | (rw [hji3] at H; exact H) | (simp only [hji3] at H ⊢; exact H)
 have hji3_ : (if 64 < (ji2) then 64 else (ji2)) = ji3 := hji3
 obtain rfl := Option.some.inj H
 go_enter Try.func124, Try.ntmps124
 go_wp2
 go_ret
 exact ⟨by first | rfl | (simp [errW_none, errW_some] <;> rfl) | (simp only [← hji2, ← hji3]; first | rfl | (simp [errW_none, errW_some] <;> rfl)) | (simp [*, errW_none, errW_some] <;> rfl), bsL HB.out⟩

/-! ### bits_Mask: function 56 -/
def bits_Mask.f (a0 : Int) : Option (Int) := (bits_limit.f a0).bind fun t101 => (if t101 = 0 then (some 0) else (if 0 ≤ (wrap64 (64 - t101)) then (some (shr .u64 18446744073709551615 (wrap64 (64 - t101)))) else (none)))
set_option maxHeartbeats 8000000 in
set_option maxRecDepth 100000 in
theorem bits_Mask.calls (a0 : Int) (r : Int) (w : World) (h : bits_Mask.f a0 = some r) :
  Calls Try.prog 56 #[.int .i64 a0] w fun e w' => e = .returned (.int .u64 r) ∧ Below w.heap.size w w' := by
 have HB := Aside0.mk (Below.refl w.heap.size w)
 have H : ((bits_limit.f a0).bind fun t101 => (if t101 = 0 then (some 0) else (if 0 ≤ (wrap64 (64 - t101)) then (some (shr .u64 18446744073709551615 (wrap64 (64 - t101)))) else (none)))) = some r := h
 clear h
 replace H := Option.bind_eq_some_iff.mp H
 obtain ⟨t101, A20, H⟩ := H
 replace H : (if t101 = 0 then (some 0) else (if 0 ≤ (wrap64 (64 - t101)) then (some (shr .u64 18446744073709551615 (wrap64 (64 - t101)))) else (none))) = some r := H
 have A2 := Aside0.mk A20
 clear A20
 by_cases c3 : t101 = 0
 ·
  rw [if_pos c3] at H
  have c3b0 : (t101 == 0) = true := beq_iff_eq.mpr c3
  have c3b1 : (t101 != 0) = false := bne_eq_false_iff_eq.mpr c3
  clear c3
  obtain rfl := Option.some.inj H
  go_enter Try.func56, Try.ntmps56
  go_wp2_with (first | ((with_reducible refine gate_callee (f := 124) rfl ?_); refine gL (some 4) Try.func124 #[.int .i64 a0] ?_; (with_reducible refine (bits_limit.calls a0 t101 _ A2.out).mono ?_); rintro e w4 ⟨rfl, hb⟩; refine ⟨_, rfl, ?_⟩; replace HB := bsB HB.out hb; (try clear hb)))
  go_ret
  exact ⟨by first | rfl | (simp [errW_none, errW_some] <;> rfl) | (simp [*, errW_none, errW_some] <;> rfl), bsL HB.out⟩
 ·
  rw [if_neg c3] at H
  have c3b0 : (t101 == 0) = false := beq_eq_false_iff_ne.mpr c3
  have c3b1 : (t101 != 0) = true := bne_iff_ne.mpr c3
  obtain ⟨ji5, hji5⟩ : ∃ j_ : Int, (wrap64 (64 - t101)) = j_ := ⟨_, rfl⟩
  replace H : (if 0 ≤ (ji5) then (some (shr .u64 18446744073709551615 (ji5))) else (none)) = some r := by first | (rw [hji5] at H; exact H) | (simp only [hji5] at H ⊢; exact H)
  (try rw [hji5] at A2)
  have hji5w : (IntKind.i64.wrap (64 - t101)) = ji5 := (i64_w _).trans hji5
  by_cases c6 : 0 ≤ (ji5)
  ·
   rw [if_pos c6] at H
   have c6b0 := eq_true c6
   have c6b1 : decide (0 ≤ (ji5)) = true := decide_eq_true c6
   clear c6
   obtain ⟨ji7, hji7⟩ : ∃ j_ : Int, (shr .u64 18446744073709551615 (ji5)) = j_ := ⟨_, rfl⟩
   replace H : (some ji7) = some r := by first | (rw [hji7] at H; exact H) | (simp only [hji7] at H ⊢; exact H)
   (try rw [hji7] at A2)
   have hji7_ : (18446744073709551615 / 2 ^ min (ji5).toNat 64) = ji7 := hji7
   have hji7z : (ji5) ≤ 64 → (18446744073709551615 / 2 ^ (ji5).toNat) = ji7 := shr_small hji7
   obtain rfl := Option.some.inj H
   go_enter Try.func56, Try.ntmps56
   go_wp2_with (first | ((with_reducible refine gate_callee (f := 124) rfl ?_); refine gL (some 4) Try.func124 #[.int .i64 a0] ?_; (with_reducible refine (bits_limit.calls a0 t101 _ A2.out).mono ?_); rintro e w8 ⟨rfl, hb⟩; refine ⟨_, rfl, ?_⟩; replace HB := bsB HB.out hb; (try clear hb)))
   go_ret
   exact ⟨by first | rfl | (simp [errW_none, errW_some] <;> rfl) | (simp only [← hji5, ← hji7]; first | rfl | (simp [errW_none, errW_some] <;> rfl)) | (simp [*, errW_none, errW_some] <;> rfl), bsL HB.out⟩
  ·
   rw [if_neg c6] at H
   exact absurd H (by simp)

/-! ### interval_good: function 66 -/
def interval_good.f (a0 : Int) : Option (Bool) := if a0 ≥ 1 then (some (decide (a0 ≤ 64))) else (some false)
set_option maxHeartbeats 8000000 in
set_option maxRecDepth 100000 in
theorem interval_good.calls (a0 : Int) (r : Bool) (w : World) (h : interval_good.f a0 = some r) :
  Calls Try.prog 66 #[.int .i64 a0] w fun e w' => e = .returned (.bool r) ∧ Drawn0 w w' := by
 have H : (if a0 ≥ 1 then (some (decide (a0 ≤ 64))) else (some false)) = some r := h
 clear h
 by_cases c2 : a0 ≥ 1
 ·
  rw [if_pos c2] at H
  have c2b0 : decide (1 ≤ a0) = true := decide_eq_true c2
  clear c2
  obtain rfl := Option.some.inj H
  go_enter Try.func66, Try.ntmps66
  go_wp2
  go_ret
  exact ⟨by first | rfl | (simp; done) | (simp [*]; done), by repeat (first | exact Drawn0.refl _ | apply Drawn0.step)⟩
 ·
  rw [if_neg c2] at H
  have c2b0 : decide (1 ≤ a0) = false := decide_eq_false c2
  clear c2
  obtain rfl := Option.some.inj H
  go_enter Try.func66, Try.ntmps66
  go_wp2
  go_ret
  exact ⟨by first | rfl | (simp; done) | (simp [*]; done), by repeat (first | exact Drawn0.refl _ | apply Drawn0.step)⟩

/-! ### interval_Top: function 51 -/
def interval_Top.f (a0 : Int) : Option (Int × Int × Int × Int) := (interval_good.f a0).bind fun t103 => (if t103 = true then ((interval_ends.f a0).bind fun bt104 => ((bits_Mask.f a0).bind fun t106 => (some (0, t106, bt104.1, bt104.2)))) else (some (0, 0, 0, 0)))
set_option maxHeartbeats 8000000 in
set_option maxRecDepth 100000 in
theorem interval_Top.calls (a0 : Int) (r1 : Int) (r2 : Int) (r3 : Int) (r4 : Int) (w : World) (h : interval_Top.f a0 = some (r1, r2, r3, r4)) :
  Calls Try.prog 51 #[.int .i64 a0] w fun e w' => e = .returned (.agg #[.int .u64 r1, .int .u64 r2, .int .i64 r3, .int .i64 r4]) ∧ Below w.heap.size w w' := by
 have hu30 := Try.underlying30
 have HB := Aside0.mk (Below.refl w.heap.size w)
 have H : ((interval_good.f a0).bind fun t103 => (if t103 = true then ((interval_ends.f a0).bind fun bt104 => ((bits_Mask.f a0).bind fun t106 => (some (0, t106, bt104.1, bt104.2)))) else (some (0, 0, 0, 0)))) = some (r1, r2, r3, r4) := h
 clear h
 replace H := Option.bind_eq_some_iff.mp H
 obtain ⟨t103, A20, H⟩ := H
 replace H : (if t103 = true then ((interval_ends.f a0).bind fun bt104 => ((bits_Mask.f a0).bind fun t106 => (some (0, t106, bt104.1, bt104.2)))) else (some (0, 0, 0, 0))) = some (r1, r2, r3, r4) := H
 have A2 := Aside0.mk A20
 clear A20
 by_cases c3 : t103 = true
 ·
  subst c3
  have H1 : ((interval_ends.f a0).bind fun bt104 => ((bits_Mask.f a0).bind fun t106 => (some (0, t106, bt104.1, bt104.2)))) = some (r1, r2, r3, r4) := by rw [if_pos rfl] at H; exact H
  clear H
  have H := H1
  clear H1
  replace H := Option.bind_eq_some_iff.mp H
  obtain ⟨⟨t104, t105⟩, A40, H⟩ := H
  replace H : ((bits_Mask.f a0).bind fun t106 => (some (0, t106, t104, t105))) = some (r1, r2, r3, r4) := H
  have A4 := Aside0.mk A40
  clear A40
  replace H := Option.bind_eq_some_iff.mp H
  obtain ⟨t106, A50, H⟩ := H
  replace H : (some (0, t106, t104, t105)) = some (r1, r2, r3, r4) := H
  have A5 := Aside0.mk A50
  clear A50
  simp only [Option.some.injEq, Prod.mk.injEq] at H
  obtain ⟨rfl, rfl, rfl, rfl⟩ := H
  go_enter Try.func51, Try.ntmps51
  go_wp2_with (first | ((with_reducible refine gate_dst (N := 2) rfl ?_); refine boxE (N := 2) (cs := #[.int .u64 0, .int .u64 0, .int .i64 0, .int .i64 0]) (t := 30) ?_; intro gb102 hg w6 hbox hb; have BK102 := Aside0.mk (hbox); have GW102 := szB hg HB.out; have GE102 := szB hg HB.out; replace HB := bsB HB.out hb; clear hb hbox hg) | ((with_reducible refine gate_callee (f := 66) rfl ?_); refine gL (some 6) Try.func66 #[.int .i64 a0] ?_; (with_reducible refine (interval_good.calls a0 true _ A2.out).mono ?_); rintro e w' ⟨rfl, ⟨nd, rfl⟩⟩; refine ⟨_, rfl, ?_⟩; (try (rw [drewN_self w6]; generalize hq_ : World.drewN w6 _ = w6; have n0_ : Aside0 (w6.heap[gb102]? = some (.cells #[.int .u64 0, .int .u64 0, .int .i64 0, .int .i64 0] 30 (0, 0))) := ⟨by rw [← hq_]; exact (by exact bfL BK102.out)⟩; have n1_ : Aside0 (Below w.heap.size w w6) := ⟨by rw [← hq_]; exact (by repeat (first | (with_reducible first | exact HB.out | apply below_alloc | apply pw_below_drewN | apply below_drew1 | refine below_set ?_ GE102.out) | exact HB.out))⟩; clear BK102 HB hq_; have BK102 := n0_; have HB := n1_; clear n0_ n1_))) | ((with_reducible refine gate_callee (f := 55) rfl ?_); refine gL (some 11) Try.func55 #[.int .i64 a0] ?_; (with_reducible refine (interval_ends.calls a0 t104 t105 _ A4.out).mono ?_); rintro e w' ⟨rfl, ⟨nd, rfl⟩⟩; refine ⟨_, rfl, ?_⟩; (try (rw [drewN_self w6]; generalize hq_ : World.drewN w6 _ = w6; have n0_ : Aside0 (w6.heap[gb102]? = some (.cells #[.int .u64 0, .int .u64 0, .int .i64 0, .int .i64 0] 30 (0, 0))) := ⟨by rw [← hq_]; exact (by exact bfL BK102.out)⟩; have n1_ : Aside0 (Below w.heap.size w w6) := ⟨by rw [← hq_]; exact (by repeat (first | (with_reducible first | exact HB.out | apply below_alloc | apply pw_below_drewN | apply below_drew1 | refine below_set ?_ GE102.out) | exact HB.out))⟩; clear BK102 HB hq_; have BK102 := n0_; have HB := n1_; clear n0_ n1_))) | ((with_reducible refine gate_callee (f := 56) rfl ?_); refine gL (some 15) Try.func56 #[.int .i64 a0] ?_; (with_reducible refine (bits_Mask.calls a0 t106 _ A5.out).mono ?_); rintro e w7 ⟨rfl, hb⟩; refine ⟨_, rfl, ?_⟩; replace BK102 := bkB BK102.out hb; replace HB := bsB HB.out hb; (try clear hb); (try clear hb2); (try clear hk); (try clear hi); obtain ⟨hcz8_0, hcz8_1, hcz8_2, hcz8_3, hfz8_0, hfz8_1, hfz8_2, hfz8_3⟩ := own4 BK102.out))
  refine bodyPost_ret (results_cell_row rfl _ _ gb102 30 #[.int .u64 0, .int .u64 t106, .int .i64 t104, .int .i64 t105] (0, 0) _ rfl (by (with_reducible repeat (first | refine blk_drewN ?_ _ | refine blk_drew ?_ | refine blk_alloc ?_ _)); refine blk_put (cs := #[.int .u64 0, .int .u64 t106, .int .i64 t104, .int .i64 0]) ?_ 3 _ rfl; (with_reducible repeat (first | refine blk_drewN ?_ _ | refine blk_drew ?_ | refine blk_alloc ?_ _)); refine blk_put (cs := #[.int .u64 0, .int .u64 t106, .int .i64 0, .int .i64 0]) ?_ 2 _ rfl; (with_reducible repeat (first | refine blk_drewN ?_ _ | refine blk_drew ?_ | refine blk_alloc ?_ _)); refine blk_put (cs := #[.int .u64 0, .int .u64 0, .int .i64 0, .int .i64 0]) ?_ 1 _ rfl; (with_reducible repeat (first | refine blk_drewN ?_ _ | refine blk_drew ?_ | refine blk_alloc ?_ _)); refine blk_put (cs := #[.int .u64 0, .int .u64 0, .int .i64 0, .int .i64 0]) ?_ 0 _ rfl; exact bfL BK102.out) Try.underlying30 rfl (by kernel_rfl)) rfl ?_
  exact ⟨by first | rfl | (simp [errW_none, errW_some] <;> rfl) | (simp [*, errW_none, errW_some] <;> rfl), bsL HB.out⟩
 ·
  replace c3 := Bool.eq_false_iff.mpr c3
  subst c3
  have H1 : (some (0, 0, 0, 0)) = some (r1, r2, r3, r4) := by rw [if_neg (show ¬ (false = true) by decide)] at H; exact H
  clear H
  have H := H1
  clear H1
  simp only [Option.some.injEq, Prod.mk.injEq] at H
  obtain ⟨rfl, rfl, rfl, rfl⟩ := H
  go_enter Try.func51, Try.ntmps51
  go_wp2_with (first | ((with_reducible refine gate_dst (N := 2) rfl ?_); refine boxE (N := 2) (cs := #[.int .u64 0, .int .u64 0, .int .i64 0, .int .i64 0]) (t := 30) ?_; intro gb102 hg w9 hbox hb; have BK102 := Aside0.mk (hbox); have GW102 := szB hg HB.out; have GE102 := szB hg HB.out; replace HB := bsB HB.out hb; clear hb hbox hg) | ((with_reducible refine gate_callee (f := 66) rfl ?_); refine gL (some 6) Try.func66 #[.int .i64 a0] ?_; (with_reducible refine (interval_good.calls a0 false _ A2.out).mono ?_); rintro e w' ⟨rfl, ⟨nd, rfl⟩⟩; refine ⟨_, rfl, ?_⟩; (try (rw [drewN_self w9]; generalize hq_ : World.drewN w9 _ = w9; have n0_ : Aside0 (w9.heap[gb102]? = some (.cells #[.int .u64 0, .int .u64 0, .int .i64 0, .int .i64 0] 30 (0, 0))) := ⟨by rw [← hq_]; exact (by exact bfL BK102.out)⟩; have n1_ : Aside0 (Below w.heap.size w w9) := ⟨by rw [← hq_]; exact (by repeat (first | (with_reducible first | exact HB.out | apply below_alloc | apply pw_below_drewN | apply below_drew1 | refine below_set ?_ GE102.out) | exact HB.out))⟩; clear BK102 HB hq_; have BK102 := n0_; have HB := n1_; clear n0_ n1_)); obtain ⟨hcz10_0, hcz10_1, hcz10_2, hcz10_3, hfz10_0, hfz10_1, hfz10_2, hfz10_3⟩ := own4 BK102.out))
  refine bodyPost_ret (results_cell_row rfl _ _ gb102 30 #[.int .u64 0, .int .u64 0, .int .i64 0, .int .i64 0] (0, 0) _ rfl (by (with_reducible repeat (first | refine blk_drewN ?_ _ | refine blk_drew ?_ | refine blk_alloc ?_ _)); refine blk_put (cs := #[.int .u64 0, .int .u64 0, .int .i64 0, .int .i64 0]) ?_ 3 _ rfl; (with_reducible repeat (first | refine blk_drewN ?_ _ | refine blk_drew ?_ | refine blk_alloc ?_ _)); refine blk_put (cs := #[.int .u64 0, .int .u64 0, .int .i64 0, .int .i64 0]) ?_ 2 _ rfl; (with_reducible repeat (first | refine blk_drewN ?_ _ | refine blk_drew ?_ | refine blk_alloc ?_ _)); refine blk_put (cs := #[.int .u64 0, .int .u64 0, .int .i64 0, .int .i64 0]) ?_ 1 _ rfl; (with_reducible repeat (first | refine blk_drewN ?_ _ | refine blk_drew ?_ | refine blk_alloc ?_ _)); refine blk_put (cs := #[.int .u64 0, .int .u64 0, .int .i64 0, .int .i64 0]) ?_ 0 _ rfl; exact bfL BK102.out) Try.underlying30 rfl (by kernel_rfl)) rfl ?_
  exact ⟨by first | rfl | (simp [errW_none, errW_some] <;> rfl) | (simp [*, errW_none, errW_some] <;> rfl), bsL HB.out⟩

/-! ### facts_fact: function 78 -/
def facts_fact.f (a0_0 : Int) (a0_1 : Int) (a1_0 : Int) (a1_1 : Int) (a1_2 : Int) (a1_3 : Int) : Option (Int × Int × Int × Int × Int × Int) := some (a0_0, a0_1, a1_0, a1_1, a1_2, a1_3)
set_option maxHeartbeats 8000000 in
set_option maxRecDepth 100000 in
theorem facts_fact.calls (a0_0 : Int) (a0_1 : Int) (a1_0 : Int) (a1_1 : Int) (a1_2 : Int) (a1_3 : Int) (r1 : Int) (r2 : Int) (r3 : Int) (r4 : Int) (r5 : Int) (r6 : Int) (w : World) (h : facts_fact.f a0_0 a0_1 a1_0 a1_1 a1_2 a1_3 = some (r1, r2, r3, r4, r5, r6)) :
  Calls Try.prog 78 #[.agg #[.int .u64 a0_0, .int .u64 a0_1], .agg #[.int .u64 a1_0, .int .u64 a1_1, .int .i64 a1_2, .int .i64 a1_3]] w fun e w' => e = .returned (.agg #[.int .u64 r1, .int .u64 r2, .int .u64 r3, .int .u64 r4, .int .i64 r5, .int .i64 r6]) ∧ Below w.heap.size w w' := by
 have hu110 := Try.underlying110
 have hu30 := Try.underlying30
 have hu50 := Try.underlying50
 have HB := Aside0.mk (Below.refl w.heap.size w)
 have H : (some (a0_0, a0_1, a1_0, a1_1, a1_2, a1_3)) = some (r1, r2, r3, r4, r5, r6) := h
 clear h
 simp only [Option.some.injEq, Prod.mk.injEq] at H
 obtain ⟨rfl, rfl, rfl, rfl, rfl, rfl⟩ := H
 go_enter Try.func78, Try.ntmps78
 go_wp2_with (first | ((with_reducible refine gate_dst (N := 2) rfl ?_); refine boxE (N := 2) (cs := #[.int .u64 a0_0, .int .u64 a0_1]) (t := 110) ?_; intro gb107 hg w3 hbox hb; have BK107 := Aside0.mk (hbox); have GW107 := szB hg HB.out; have GE107 := szB hg HB.out; replace HB := bsB HB.out hb; clear hb hbox hg) | ((with_reducible refine gate_dst (N := 3) rfl ?_); refine boxE (N := 3) (cs := #[.int .u64 a1_0, .int .u64 a1_1, .int .i64 a1_2, .int .i64 a1_3]) (t := 30) ?_; intro gb108 hg w4 hbox hb; have BK108 := Aside0.mk (hbox); have GW108 := szB hg HB.out; have GE108 := szB hg HB.out; have NB107_108 := neL hg BK107.out; have NB108_107 := neG hg BK107.out; replace BK107 := bkB BK107.out hb; replace HB := bsB HB.out hb; clear hb hbox hg) | ((with_reducible refine gate_dst (N := 4) rfl ?_); refine boxE (N := 4) (cs := #[.int .u64 0, .int .u64 0, .int .u64 0, .int .u64 0, .int .i64 0, .int .i64 0]) (t := 50) ?_; intro gb109 hg w5 hbox hb; have BK109 := Aside0.mk (hbox); have GW109 := szB hg HB.out; have GE109 := szB hg HB.out; have NB107_109 := neL hg BK107.out; have NB109_107 := neG hg BK107.out; have NB108_109 := neL hg BK108.out; have NB109_108 := neG hg BK108.out; replace BK107 := bkB BK107.out hb; replace BK108 := bkB BK108.out hb; replace HB := bsB HB.out hb; clear hb hbox hg; have hnb6 := NB107_108.out; have hnc6 := NB108_107.out; have hnb7 := NB107_109.out; have hnc7 := NB109_107.out; obtain ⟨hcz8_0, hcz8_1, hfz8_0, hfz8_1⟩ := own2 BK107.out; have hnb9 := NB108_109.out; have hnc9 := NB109_108.out; obtain ⟨hcz10_0, hcz10_1, hcz10_2, hcz10_3, hfz10_0, hfz10_1, hfz10_2, hfz10_3⟩ := own4 BK108.out; obtain ⟨hcz11_0, hcz11_1, hcz11_2, hcz11_3, hcz11_4, hcz11_5, hfz11_0, hfz11_1, hfz11_2, hfz11_3, hfz11_4, hfz11_5⟩ := own6 BK109.out))
 refine bodyPost_ret (results_cell_row rfl _ _ gb109 50 #[.int .u64 a0_0, .int .u64 a0_1, .int .u64 a1_0, .int .u64 a1_1, .int .i64 a1_2, .int .i64 a1_3] (0, 0) _ rfl (by (with_reducible repeat (first | refine blk_drewN ?_ _ | refine blk_drew ?_ | refine blk_alloc ?_ _)); refine blk_put (cs := #[.int .u64 a0_0, .int .u64 a0_1, .int .u64 a1_0, .int .u64 a1_1, .int .i64 a1_2, .int .i64 0]) ?_ 5 _ rfl; (with_reducible repeat (first | refine blk_drewN ?_ _ | refine blk_drew ?_ | refine blk_alloc ?_ _)); refine blk_put (cs := #[.int .u64 a0_0, .int .u64 a0_1, .int .u64 a1_0, .int .u64 a1_1, .int .i64 0, .int .i64 0]) ?_ 4 _ rfl; (with_reducible repeat (first | refine blk_drewN ?_ _ | refine blk_drew ?_ | refine blk_alloc ?_ _)); refine blk_put (cs := #[.int .u64 a0_0, .int .u64 a0_1, .int .u64 a1_0, .int .u64 0, .int .i64 0, .int .i64 0]) ?_ 3 _ rfl; (with_reducible repeat (first | refine blk_drewN ?_ _ | refine blk_drew ?_ | refine blk_alloc ?_ _)); refine blk_put (cs := #[.int .u64 a0_0, .int .u64 a0_1, .int .u64 0, .int .u64 0, .int .i64 0, .int .i64 0]) ?_ 2 _ rfl; (with_reducible repeat (first | refine blk_drewN ?_ _ | refine blk_drew ?_ | refine blk_alloc ?_ _)); refine blk_put (cs := #[.int .u64 a0_0, .int .u64 0, .int .u64 0, .int .u64 0, .int .i64 0, .int .i64 0]) ?_ 1 _ rfl; (with_reducible repeat (first | refine blk_drewN ?_ _ | refine blk_drew ?_ | refine blk_alloc ?_ _)); refine blk_put (cs := #[.int .u64 0, .int .u64 0, .int .u64 0, .int .u64 0, .int .i64 0, .int .i64 0]) ?_ 0 _ rfl; exact bfL BK109.out) Try.underlying50 rfl (by kernel_rfl)) rfl ?_
 exact ⟨by first | rfl | (simp [errW_none, errW_some] <;> rfl) | (simp [*, errW_none, errW_some] <;> rfl), bsL HB.out⟩

/-! ### facts_Top: function 30 -/
def facts_Top.f (a0 : Int) : Option (Int × Int × Int × Int × Int × Int) := (interval_Top.f a0).bind fun bt111 => ((facts_fact.f 0 0 bt111.1 bt111.2.1 bt111.2.2.1 bt111.2.2.2).bind fun bt115 => (some (bt115.1, bt115.2.1, bt115.2.2.1, bt115.2.2.2.1, bt115.2.2.2.2.1, bt115.2.2.2.2.2)))
set_option maxHeartbeats 8000000 in
set_option maxRecDepth 100000 in
theorem facts_Top.calls (a0 : Int) (r1 : Int) (r2 : Int) (r3 : Int) (r4 : Int) (r5 : Int) (r6 : Int) (w : World) (h : facts_Top.f a0 = some (r1, r2, r3, r4, r5, r6)) :
  Calls Try.prog 30 #[.int .i64 a0] w fun e w' => e = .returned (.agg #[.int .u64 r1, .int .u64 r2, .int .u64 r3, .int .u64 r4, .int .i64 r5, .int .i64 r6]) ∧ Below w.heap.size w w' := by
 have hu50 := Try.underlying50
 have hu110 := Try.underlying110
 have HB := Aside0.mk (Below.refl w.heap.size w)
 have H : ((interval_Top.f a0).bind fun bt111 => ((facts_fact.f 0 0 bt111.1 bt111.2.1 bt111.2.2.1 bt111.2.2.2).bind fun bt115 => (some (bt115.1, bt115.2.1, bt115.2.2.1, bt115.2.2.2.1, bt115.2.2.2.2.1, bt115.2.2.2.2.2)))) = some (r1, r2, r3, r4, r5, r6) := h
 clear h
 replace H := Option.bind_eq_some_iff.mp H
 obtain ⟨⟨t111, t112, t113, t114⟩, A20, H⟩ := H
 replace H : ((facts_fact.f 0 0 t111 t112 t113 t114).bind fun bt115 => (some (bt115.1, bt115.2.1, bt115.2.2.1, bt115.2.2.2.1, bt115.2.2.2.2.1, bt115.2.2.2.2.2))) = some (r1, r2, r3, r4, r5, r6) := H
 have A2 := Aside0.mk A20
 clear A20
 replace H := Option.bind_eq_some_iff.mp H
 obtain ⟨⟨t115, t116, t117, t118, t119, t120⟩, A30, H⟩ := H
 replace H : (some (t115, t116, t117, t118, t119, t120)) = some (r1, r2, r3, r4, r5, r6) := H
 have A3 := Aside0.mk A30
 clear A30
 simp only [Option.some.injEq, Prod.mk.injEq] at H
 obtain ⟨rfl, rfl, rfl, rfl, rfl, rfl⟩ := H
 go_enter Try.func30, Try.ntmps30
 go_wp2_with (first | ((with_reducible refine gate_dst (N := 2) rfl ?_); refine boxE (N := 2) (cs := #[.int .u64 0, .int .u64 0, .int .u64 0, .int .u64 0, .int .i64 0, .int .i64 0]) (t := 50) ?_; intro gb110 hg w4 hbox hb; have BK110 := Aside0.mk (hbox); have GW110 := szB hg HB.out; have GE110 := szB hg HB.out; replace HB := bsB HB.out hb; clear hb hbox hg) | ((with_reducible refine gate_callee (f := 51) rfl ?_); refine gL (some 5) Try.func51 #[.int .i64 a0] ?_; (with_reducible refine (interval_Top.calls a0 t111 t112 t113 t114 _ A2.out).mono ?_); rintro e w5 ⟨rfl, hb⟩; refine ⟨_, rfl, ?_⟩; replace BK110 := bkB BK110.out hb; replace HB := bsB HB.out hb; (try clear hb); (try clear hb2); (try clear hk); (try clear hi)) | ((with_reducible refine gate_callee (f := 78) rfl ?_); refine gL (some 6) Try.func78 #[.agg #[.int .u64 0, .int .u64 0], .agg #[.int .u64 t111, .int .u64 t112, .int .i64 t113, .int .i64 t114]] ?_; (with_reducible refine (facts_fact.calls 0 0 t111 t112 t113 t114 t115 t116 t117 t118 t119 t120 _ A3.out).mono ?_); rintro e w6 ⟨rfl, hb⟩; refine ⟨_, rfl, ?_⟩; replace BK110 := bkB BK110.out hb; replace HB := bsB HB.out hb; (try clear hb); (try clear hb2); (try clear hk); (try clear hi); obtain ⟨hcz7_0, hcz7_1, hcz7_2, hcz7_3, hcz7_4, hcz7_5, hfz7_0, hfz7_1, hfz7_2, hfz7_3, hfz7_4, hfz7_5⟩ := own6 BK110.out))
 refine bodyPost_ret (results_cell_row rfl _ _ gb110 50 #[.int .u64 t115, .int .u64 t116, .int .u64 t117, .int .u64 t118, .int .i64 t119, .int .i64 t120] (0, 0) _ rfl (by (with_reducible repeat (first | refine blk_drewN ?_ _ | refine blk_drew ?_ | refine blk_alloc ?_ _)); refine blk_put (cs := #[.int .u64 t115, .int .u64 t116, .int .u64 t117, .int .u64 t118, .int .i64 t119, .int .i64 0]) ?_ 5 _ rfl; (with_reducible repeat (first | refine blk_drewN ?_ _ | refine blk_drew ?_ | refine blk_alloc ?_ _)); refine blk_put (cs := #[.int .u64 t115, .int .u64 t116, .int .u64 t117, .int .u64 t118, .int .i64 0, .int .i64 0]) ?_ 4 _ rfl; (with_reducible repeat (first | refine blk_drewN ?_ _ | refine blk_drew ?_ | refine blk_alloc ?_ _)); refine blk_put (cs := #[.int .u64 t115, .int .u64 t116, .int .u64 t117, .int .u64 0, .int .i64 0, .int .i64 0]) ?_ 3 _ rfl; (with_reducible repeat (first | refine blk_drewN ?_ _ | refine blk_drew ?_ | refine blk_alloc ?_ _)); refine blk_put (cs := #[.int .u64 t115, .int .u64 t116, .int .u64 0, .int .u64 0, .int .i64 0, .int .i64 0]) ?_ 2 _ rfl; (with_reducible repeat (first | refine blk_drewN ?_ _ | refine blk_drew ?_ | refine blk_alloc ?_ _)); refine blk_put (cs := #[.int .u64 t115, .int .u64 0, .int .u64 0, .int .u64 0, .int .i64 0, .int .i64 0]) ?_ 1 _ rfl; (with_reducible repeat (first | refine blk_drewN ?_ _ | refine blk_drew ?_ | refine blk_alloc ?_ _)); refine blk_put (cs := #[.int .u64 0, .int .u64 0, .int .u64 0, .int .u64 0, .int .i64 0, .int .i64 0]) ?_ 0 _ rfl; exact bfL BK110.out) Try.underlying50 rfl (by kernel_rfl)) rfl ?_
 exact ⟨by first | rfl | (simp [errW_none, errW_some] <;> rfl) | (simp [*, errW_none, errW_some] <;> rfl), bsL HB.out⟩

/-! ### bits_Fit: function 67 -/
def bits_Fit.f (a0 : Int) (a1 : Int) : Option (Int) := (bits_Mask.f a0).bind fun t121 => (some (Go.bits .and .u64 a1 t121))
set_option maxHeartbeats 8000000 in
set_option maxRecDepth 100000 in
theorem bits_Fit.calls (a0 : Int) (a1 : Int) (r : Int) (w : World) (h : bits_Fit.f a0 a1 = some r) :
  Calls Try.prog 67 #[.int .i64 a0, .int .u64 a1] w fun e w' => e = .returned (.int .u64 r) ∧ Below w.heap.size w w' := by
 have HB := Aside0.mk (Below.refl w.heap.size w)
 have H : ((bits_Mask.f a0).bind fun t121 => (some (Go.bits .and .u64 a1 t121))) = some r := h
 clear h
 replace H := Option.bind_eq_some_iff.mp H
 obtain ⟨t121, A30, H⟩ := H
 replace H : (some (Go.bits .and .u64 a1 t121)) = some r := H
 have A3 := Aside0.mk A30
 clear A30
 obtain rfl := Option.some.inj H
 go_enter Try.func67, Try.ntmps67
 go_wp2_with (first | ((with_reducible refine gate_callee (f := 56) rfl ?_); refine gL (some 7) Try.func56 #[.int .i64 a0] ?_; (with_reducible refine (bits_Mask.calls a0 t121 _ A3.out).mono ?_); rintro e w4 ⟨rfl, hb⟩; refine ⟨_, rfl, ?_⟩; replace HB := bsB HB.out hb; (try clear hb)))
 go_ret
 exact ⟨by first | rfl | (simp [errW_none, errW_some] <;> rfl) | (simp [*, errW_none, errW_some] <;> rfl), bsL HB.out⟩

/-! ### bits_negative: function 144 -/
def bits_negative.f (a0 : Int) (a1 : Int) : Option (Bool) := (bits_limit.f a0).bind fun t122 => (if t122 > 0 then (if 0 ≤ (wrap64 (t122 - 1)) then (some ((Go.bits .and .u64 (shr .u64 a1 (wrap64 (t122 - 1))) 1) == 1)) else (none)) else (some false))
set_option maxHeartbeats 8000000 in
set_option maxRecDepth 100000 in
theorem bits_negative.calls (a0 : Int) (a1 : Int) (r : Bool) (w : World) (h : bits_negative.f a0 a1 = some r) :
  Calls Try.prog 144 #[.int .i64 a0, .int .u64 a1] w fun e w' => e = .returned (.bool r) ∧ Below w.heap.size w w' := by
 have HB := Aside0.mk (Below.refl w.heap.size w)
 have H : ((bits_limit.f a0).bind fun t122 => (if t122 > 0 then (if 0 ≤ (wrap64 (t122 - 1)) then (some ((Go.bits .and .u64 (shr .u64 a1 (wrap64 (t122 - 1))) 1) == 1)) else (none)) else (some false))) = some r := h
 clear h
 replace H := Option.bind_eq_some_iff.mp H
 obtain ⟨t122, A30, H⟩ := H
 replace H : (if t122 > 0 then (if 0 ≤ (wrap64 (t122 - 1)) then (some ((Go.bits .and .u64 (shr .u64 a1 (wrap64 (t122 - 1))) 1) == 1)) else (none)) else (some false)) = some r := H
 have A3 := Aside0.mk A30
 clear A30
 by_cases c4 : t122 > 0
 ·
  rw [if_pos c4] at H
  have c4b0 : decide (0 < t122) = true := decide_eq_true c4
  clear c4
  obtain ⟨ji5, hji5⟩ : ∃ j_ : Int, (wrap64 (t122 - 1)) = j_ := ⟨_, rfl⟩
  replace H : (if 0 ≤ (ji5) then (some ((Go.bits .and .u64 (shr .u64 a1 (ji5)) 1) == 1)) else (none)) = some r := by first | (rw [hji5] at H; exact H) | (simp only [hji5] at H ⊢; exact H)
  (try rw [hji5] at A3)
  have hji5w : (IntKind.i64.wrap (t122 - 1)) = ji5 := (i64_w _).trans hji5
  by_cases c6 : 0 ≤ (ji5)
  ·
   rw [if_pos c6] at H
   have c6b0 := eq_true c6
   have c6b1 : decide (0 ≤ (ji5)) = true := decide_eq_true c6
   clear c6
   obtain ⟨ji7, hji7⟩ : ∃ j_ : Int, (shr .u64 a1 (ji5)) = j_ := ⟨_, rfl⟩
   replace H : (some ((Go.bits .and .u64 (ji7) 1) == 1)) = some r := by first | (rw [hji7] at H; exact H) | (simp only [hji7] at H ⊢; exact H)
   (try rw [hji7] at A3)
   have hji7_ : (a1 / 2 ^ min (ji5).toNat 64) = ji7 := hji7
   have hji7z : (ji5) ≤ 64 → (a1 / 2 ^ (ji5).toNat) = ji7 := shr_small hji7
   obtain rfl := Option.some.inj H
   go_enter Try.func144, Try.ntmps144
   go_wp2_with (first | ((with_reducible refine gate_callee (f := 124) rfl ?_); refine gL (some 6) Try.func124 #[.int .i64 a0] ?_; (with_reducible refine (bits_limit.calls a0 t122 _ A3.out).mono ?_); rintro e w8 ⟨rfl, hb⟩; refine ⟨_, rfl, ?_⟩; replace HB := bsB HB.out hb; (try clear hb)))
   go_ret
   exact ⟨by first | rfl | (simp [errW_none, errW_some] <;> rfl) | (simp only [← hji5, ← hji7]; first | rfl | (simp [errW_none, errW_some] <;> rfl)) | (simp [*, errW_none, errW_some] <;> rfl), bsL HB.out⟩
  ·
   rw [if_neg c6] at H
   exact absurd H (by simp)
 ·
  rw [if_neg c4] at H
  have c4b0 : decide (0 < t122) = false := decide_eq_false c4
  clear c4
  obtain rfl := Option.some.inj H
  go_enter Try.func144, Try.ntmps144
  go_wp2_with (first | ((with_reducible refine gate_callee (f := 124) rfl ?_); refine gL (some 6) Try.func124 #[.int .i64 a0] ?_; (with_reducible refine (bits_limit.calls a0 t122 _ A3.out).mono ?_); rintro e w9 ⟨rfl, hb⟩; refine ⟨_, rfl, ?_⟩; replace HB := bsB HB.out hb; (try clear hb)))
  go_ret
  exact ⟨by first | rfl | (simp [errW_none, errW_some] <;> rfl) | (simp [*, errW_none, errW_some] <;> rfl), bsL HB.out⟩

/-! ### bits_Signed: function 68 -/
def bits_Signed.f (a0 : Int) (a1 : Int) : Option (Int) := (bits_Fit.f a0 a1).bind fun t123 => ((bits_negative.f a0 t123).bind fun t124 => (if t124 = true then ((bits_Mask.f a0).bind fun t125 => (some (wrap64 (Go.bits .or .u64 t123 (Go.bits .xor .u64 18446744073709551615 t125))))) else (some (wrap64 (t123)))))
set_option maxHeartbeats 8000000 in
set_option maxRecDepth 100000 in
theorem bits_Signed.calls (a0 : Int) (a1 : Int) (r : Int) (w : World) (h : bits_Signed.f a0 a1 = some r) :
  Calls Try.prog 68 #[.int .i64 a0, .int .u64 a1] w fun e w' => e = .returned (.int .i64 r) ∧ Below w.heap.size w w' := by
 have HB := Aside0.mk (Below.refl w.heap.size w)
 have H : ((bits_Fit.f a0 a1).bind fun t123 => ((bits_negative.f a0 t123).bind fun t124 => (if t124 = true then ((bits_Mask.f a0).bind fun t125 => (some (wrap64 (Go.bits .or .u64 t123 (Go.bits .xor .u64 18446744073709551615 t125))))) else (some (wrap64 (t123)))))) = some r := h
 clear h
 replace H := Option.bind_eq_some_iff.mp H
 obtain ⟨t123, A30, H⟩ := H
 replace H : ((bits_negative.f a0 t123).bind fun t124 => (if t124 = true then ((bits_Mask.f a0).bind fun t125 => (some (wrap64 (Go.bits .or .u64 t123 (Go.bits .xor .u64 18446744073709551615 t125))))) else (some (wrap64 (t123))))) = some r := H
 have A3 := Aside0.mk A30
 clear A30
 replace H := Option.bind_eq_some_iff.mp H
 obtain ⟨t124, A40, H⟩ := H
 replace H : (if t124 = true then ((bits_Mask.f a0).bind fun t125 => (some (wrap64 (Go.bits .or .u64 t123 (Go.bits .xor .u64 18446744073709551615 t125))))) else (some (wrap64 (t123)))) = some r := H
 have A4 := Aside0.mk A40
 clear A40
 by_cases c5 : t124 = true
 ·
  subst c5
  have H1 : ((bits_Mask.f a0).bind fun t125 => (some (wrap64 (Go.bits .or .u64 t123 (Go.bits .xor .u64 18446744073709551615 t125))))) = some r := by rw [if_pos rfl] at H; exact H
  clear H
  have H := H1
  clear H1
  replace H := Option.bind_eq_some_iff.mp H
  obtain ⟨t125, A60, H⟩ := H
  replace H : (some (wrap64 (Go.bits .or .u64 t123 (Go.bits .xor .u64 18446744073709551615 t125)))) = some r := H
  have A6 := Aside0.mk A60
  clear A60
  obtain rfl := Option.some.inj H
  go_enter Try.func68, Try.ntmps68
  go_wp2_with (first | ((with_reducible refine gate_callee (f := 67) rfl ?_); refine gL (some 7) Try.func67 #[.int .i64 a0, .int .u64 a1] ?_; (with_reducible refine (bits_Fit.calls a0 a1 t123 _ A3.out).mono ?_); rintro e w7 ⟨rfl, hb⟩; refine ⟨_, rfl, ?_⟩; replace HB := bsB HB.out hb; (try clear hb)) | ((with_reducible refine gate_callee (f := 144) rfl ?_); refine gL (some 10) Try.func144 #[.int .i64 a0, .int .u64 t123] ?_; (with_reducible refine (bits_negative.calls a0 t123 true _ A4.out).mono ?_); rintro e w8 ⟨rfl, hb⟩; refine ⟨_, rfl, ?_⟩; replace HB := bsB HB.out hb; (try clear hb); (try clear hb2); (try clear hk); (try clear hi)) | ((with_reducible refine gate_callee (f := 56) rfl ?_); refine gL (some 13) Try.func56 #[.int .i64 a0] ?_; (with_reducible refine (bits_Mask.calls a0 t125 _ A6.out).mono ?_); rintro e w9 ⟨rfl, hb⟩; refine ⟨_, rfl, ?_⟩; replace HB := bsB HB.out hb; (try clear hb); (try clear hb2); (try clear hk); (try clear hi)))
  go_ret
  exact ⟨by first | rfl | (simp [errW_none, errW_some] <;> rfl) | (simp [*, errW_none, errW_some] <;> rfl), bsL HB.out⟩
 ·
  replace c5 := Bool.eq_false_iff.mpr c5
  subst c5
  have H1 : (some (wrap64 (t123))) = some r := by rw [if_neg (show ¬ (false = true) by decide)] at H; exact H
  clear H
  have H := H1
  clear H1
  obtain rfl := Option.some.inj H
  go_enter Try.func68, Try.ntmps68
  go_wp2_with (first | ((with_reducible refine gate_callee (f := 67) rfl ?_); refine gL (some 7) Try.func67 #[.int .i64 a0, .int .u64 a1] ?_; (with_reducible refine (bits_Fit.calls a0 a1 t123 _ A3.out).mono ?_); rintro e w10 ⟨rfl, hb⟩; refine ⟨_, rfl, ?_⟩; replace HB := bsB HB.out hb; (try clear hb)) | ((with_reducible refine gate_callee (f := 144) rfl ?_); refine gL (some 10) Try.func144 #[.int .i64 a0, .int .u64 t123] ?_; (with_reducible refine (bits_negative.calls a0 t123 false _ A4.out).mono ?_); rintro e w11 ⟨rfl, hb⟩; refine ⟨_, rfl, ?_⟩; replace HB := bsB HB.out hb; (try clear hb); (try clear hb2); (try clear hk); (try clear hi)))
  go_ret
  exact ⟨by first | rfl | (simp [errW_none, errW_some] <;> rfl) | (simp [*, errW_none, errW_some] <;> rfl), bsL HB.out⟩

/-! ### interval_Of: function 17 -/
def interval_Of.f (a0 : Int) (a1 : Int) : Option (Int × Int × Int × Int) := (interval_good.f a0).bind fun t127 => (if t127 = true then ((bits_Fit.f a0 a1).bind fun t128 => ((bits_Signed.f a0 a1).bind fun t129 => (some (t128, t128, t129, t129)))) else (some (0, 0, 0, 0)))
set_option maxHeartbeats 8000000 in
set_option maxRecDepth 100000 in
theorem interval_Of.calls (a0 : Int) (a1 : Int) (r1 : Int) (r2 : Int) (r3 : Int) (r4 : Int) (w : World) (h : interval_Of.f a0 a1 = some (r1, r2, r3, r4)) :
  Calls Try.prog 17 #[.int .i64 a0, .int .u64 a1] w fun e w' => e = .returned (.agg #[.int .u64 r1, .int .u64 r2, .int .i64 r3, .int .i64 r4]) ∧ Below w.heap.size w w' := by
 have hu30 := Try.underlying30
 have HB := Aside0.mk (Below.refl w.heap.size w)
 have H : ((interval_good.f a0).bind fun t127 => (if t127 = true then ((bits_Fit.f a0 a1).bind fun t128 => ((bits_Signed.f a0 a1).bind fun t129 => (some (t128, t128, t129, t129)))) else (some (0, 0, 0, 0)))) = some (r1, r2, r3, r4) := h
 clear h
 replace H := Option.bind_eq_some_iff.mp H
 obtain ⟨t127, A30, H⟩ := H
 replace H : (if t127 = true then ((bits_Fit.f a0 a1).bind fun t128 => ((bits_Signed.f a0 a1).bind fun t129 => (some (t128, t128, t129, t129)))) else (some (0, 0, 0, 0))) = some (r1, r2, r3, r4) := H
 have A3 := Aside0.mk A30
 clear A30
 by_cases c4 : t127 = true
 ·
  subst c4
  have H1 : ((bits_Fit.f a0 a1).bind fun t128 => ((bits_Signed.f a0 a1).bind fun t129 => (some (t128, t128, t129, t129)))) = some (r1, r2, r3, r4) := by rw [if_pos rfl] at H; exact H
  clear H
  have H := H1
  clear H1
  replace H := Option.bind_eq_some_iff.mp H
  obtain ⟨t128, A50, H⟩ := H
  replace H : ((bits_Signed.f a0 a1).bind fun t129 => (some (t128, t128, t129, t129))) = some (r1, r2, r3, r4) := H
  have A5 := Aside0.mk A50
  clear A50
  replace H := Option.bind_eq_some_iff.mp H
  obtain ⟨t129, A60, H⟩ := H
  replace H : (some (t128, t128, t129, t129)) = some (r1, r2, r3, r4) := H
  have A6 := Aside0.mk A60
  clear A60
  simp only [Option.some.injEq, Prod.mk.injEq] at H
  obtain ⟨rfl, rfl, rfl, rfl⟩ := H
  go_enter Try.func17, Try.ntmps17
  go_wp2_with (first | ((with_reducible refine gate_dst (N := 4) rfl ?_); refine boxE (N := 4) (cs := #[.int .u64 0, .int .u64 0, .int .i64 0, .int .i64 0]) (t := 30) ?_; intro gb126 hg w7 hbox hb; have BK126 := Aside0.mk (hbox); have GW126 := szB hg HB.out; have GE126 := szB hg HB.out; replace HB := bsB HB.out hb; clear hb hbox hg) | ((with_reducible refine gate_callee (f := 66) rfl ?_); refine gL (some 8) Try.func66 #[.int .i64 a0] ?_; (with_reducible refine (interval_good.calls a0 true _ A3.out).mono ?_); rintro e w' ⟨rfl, ⟨nd, rfl⟩⟩; refine ⟨_, rfl, ?_⟩; (try (rw [drewN_self w7]; generalize hq_ : World.drewN w7 _ = w7; have n0_ : Aside0 (w7.heap[gb126]? = some (.cells #[.int .u64 0, .int .u64 0, .int .i64 0, .int .i64 0] 30 (0, 0))) := ⟨by rw [← hq_]; exact (by exact bfL BK126.out)⟩; have n1_ : Aside0 (Below w.heap.size w w7) := ⟨by rw [← hq_]; exact (by repeat (first | (with_reducible first | exact HB.out | apply below_alloc | apply pw_below_drewN | apply below_drew1 | refine below_set ?_ GE126.out) | exact HB.out))⟩; clear BK126 HB hq_; have BK126 := n0_; have HB := n1_; clear n0_ n1_))) | ((with_reducible refine gate_callee (f := 67) rfl ?_); refine gL (some 13) Try.func67 #[.int .i64 a0, .int .u64 a1] ?_; (with_reducible refine (bits_Fit.calls a0 a1 t128 _ A5.out).mono ?_); rintro e w8 ⟨rfl, hb⟩; refine ⟨_, rfl, ?_⟩; replace BK126 := bkB BK126.out hb; replace HB := bsB HB.out hb; (try clear hb); (try clear hb2); (try clear hk); (try clear hi)) | ((with_reducible refine gate_callee (f := 68) rfl ?_); refine gL (some 16) Try.func68 #[.int .i64 a0, .int .u64 a1] ?_; (with_reducible refine (bits_Signed.calls a0 a1 t129 _ A6.out).mono ?_); rintro e w9 ⟨rfl, hb⟩; refine ⟨_, rfl, ?_⟩; replace BK126 := bkB BK126.out hb; replace HB := bsB HB.out hb; (try clear hb); (try clear hb2); (try clear hk); (try clear hi); obtain ⟨hcz10_0, hcz10_1, hcz10_2, hcz10_3, hfz10_0, hfz10_1, hfz10_2, hfz10_3⟩ := own4 BK126.out))
  refine bodyPost_ret (results_cell_row rfl _ _ gb126 30 #[.int .u64 t128, .int .u64 t128, .int .i64 t129, .int .i64 t129] (0, 0) _ rfl (by (with_reducible repeat (first | refine blk_drewN ?_ _ | refine blk_drew ?_ | refine blk_alloc ?_ _)); refine blk_put (cs := #[.int .u64 t128, .int .u64 t128, .int .i64 t129, .int .i64 0]) ?_ 3 _ rfl; (with_reducible repeat (first | refine blk_drewN ?_ _ | refine blk_drew ?_ | refine blk_alloc ?_ _)); refine blk_put (cs := #[.int .u64 t128, .int .u64 t128, .int .i64 0, .int .i64 0]) ?_ 2 _ rfl; (with_reducible repeat (first | refine blk_drewN ?_ _ | refine blk_drew ?_ | refine blk_alloc ?_ _)); refine blk_put (cs := #[.int .u64 t128, .int .u64 0, .int .i64 0, .int .i64 0]) ?_ 1 _ rfl; (with_reducible repeat (first | refine blk_drewN ?_ _ | refine blk_drew ?_ | refine blk_alloc ?_ _)); refine blk_put (cs := #[.int .u64 0, .int .u64 0, .int .i64 0, .int .i64 0]) ?_ 0 _ rfl; exact bfL BK126.out) Try.underlying30 rfl (by kernel_rfl)) rfl ?_
  exact ⟨by first | rfl | (simp [errW_none, errW_some] <;> rfl) | (simp [*, errW_none, errW_some] <;> rfl), bsL HB.out⟩
 ·
  replace c4 := Bool.eq_false_iff.mpr c4
  subst c4
  have H1 : (some (0, 0, 0, 0)) = some (r1, r2, r3, r4) := by rw [if_neg (show ¬ (false = true) by decide)] at H; exact H
  clear H
  have H := H1
  clear H1
  simp only [Option.some.injEq, Prod.mk.injEq] at H
  obtain ⟨rfl, rfl, rfl, rfl⟩ := H
  go_enter Try.func17, Try.ntmps17
  go_wp2_with (first | ((with_reducible refine gate_dst (N := 4) rfl ?_); refine boxE (N := 4) (cs := #[.int .u64 0, .int .u64 0, .int .i64 0, .int .i64 0]) (t := 30) ?_; intro gb126 hg w11 hbox hb; have BK126 := Aside0.mk (hbox); have GW126 := szB hg HB.out; have GE126 := szB hg HB.out; replace HB := bsB HB.out hb; clear hb hbox hg) | ((with_reducible refine gate_callee (f := 66) rfl ?_); refine gL (some 8) Try.func66 #[.int .i64 a0] ?_; (with_reducible refine (interval_good.calls a0 false _ A3.out).mono ?_); rintro e w' ⟨rfl, ⟨nd, rfl⟩⟩; refine ⟨_, rfl, ?_⟩; (try (rw [drewN_self w11]; generalize hq_ : World.drewN w11 _ = w11; have n0_ : Aside0 (w11.heap[gb126]? = some (.cells #[.int .u64 0, .int .u64 0, .int .i64 0, .int .i64 0] 30 (0, 0))) := ⟨by rw [← hq_]; exact (by exact bfL BK126.out)⟩; have n1_ : Aside0 (Below w.heap.size w w11) := ⟨by rw [← hq_]; exact (by repeat (first | (with_reducible first | exact HB.out | apply below_alloc | apply pw_below_drewN | apply below_drew1 | refine below_set ?_ GE126.out) | exact HB.out))⟩; clear BK126 HB hq_; have BK126 := n0_; have HB := n1_; clear n0_ n1_)); obtain ⟨hcz12_0, hcz12_1, hcz12_2, hcz12_3, hfz12_0, hfz12_1, hfz12_2, hfz12_3⟩ := own4 BK126.out))
  refine bodyPost_ret (results_cell_row rfl _ _ gb126 30 #[.int .u64 0, .int .u64 0, .int .i64 0, .int .i64 0] (0, 0) _ rfl (by (with_reducible repeat (first | refine blk_drewN ?_ _ | refine blk_drew ?_ | refine blk_alloc ?_ _)); refine blk_put (cs := #[.int .u64 0, .int .u64 0, .int .i64 0, .int .i64 0]) ?_ 3 _ rfl; (with_reducible repeat (first | refine blk_drewN ?_ _ | refine blk_drew ?_ | refine blk_alloc ?_ _)); refine blk_put (cs := #[.int .u64 0, .int .u64 0, .int .i64 0, .int .i64 0]) ?_ 2 _ rfl; (with_reducible repeat (first | refine blk_drewN ?_ _ | refine blk_drew ?_ | refine blk_alloc ?_ _)); refine blk_put (cs := #[.int .u64 0, .int .u64 0, .int .i64 0, .int .i64 0]) ?_ 1 _ rfl; (with_reducible repeat (first | refine blk_drewN ?_ _ | refine blk_drew ?_ | refine blk_alloc ?_ _)); refine blk_put (cs := #[.int .u64 0, .int .u64 0, .int .i64 0, .int .i64 0]) ?_ 0 _ rfl; exact bfL BK126.out) Try.underlying30 rfl (by kernel_rfl)) rfl ?_
  exact ⟨by first | rfl | (simp [errW_none, errW_some] <;> rfl) | (simp [*, errW_none, errW_some] <;> rfl), bsL HB.out⟩

/-! ### knownbits_good: function 146 -/
def knownbits_good.f (a0 : Int) : Option (Bool) := if a0 ≥ 1 then (some (decide (a0 ≤ 64))) else (some false)
set_option maxHeartbeats 8000000 in
set_option maxRecDepth 100000 in
theorem knownbits_good.calls (a0 : Int) (r : Bool) (w : World) (h : knownbits_good.f a0 = some r) :
  Calls Try.prog 146 #[.int .i64 a0] w fun e w' => e = .returned (.bool r) ∧ Drawn0 w w' := by
 have H : (if a0 ≥ 1 then (some (decide (a0 ≤ 64))) else (some false)) = some r := h
 clear h
 by_cases c2 : a0 ≥ 1
 ·
  rw [if_pos c2] at H
  have c2b0 : decide (1 ≤ a0) = true := decide_eq_true c2
  clear c2
  obtain rfl := Option.some.inj H
  go_enter Try.func146, Try.ntmps146
  go_wp2
  go_ret
  exact ⟨by first | rfl | (simp; done) | (simp [*]; done), by repeat (first | exact Drawn0.refl _ | apply Drawn0.step)⟩
 ·
  rw [if_neg c2] at H
  have c2b0 : decide (1 ≤ a0) = false := decide_eq_false c2
  clear c2
  obtain rfl := Option.some.inj H
  go_enter Try.func146, Try.ntmps146
  go_wp2
  go_ret
  exact ⟨by first | rfl | (simp; done) | (simp [*]; done), by repeat (first | exact Drawn0.refl _ | apply Drawn0.step)⟩

/-! ### knownbits_mask: function 147 -/
def knownbits_mask.f (a0 : Int) : Option (Int) := if a0 ≥ 64 then (some 18446744073709551615) else (some (IntKind.u64.wrap ((shl .u64 1 (mx a0 0)) - 1)))
set_option maxHeartbeats 8000000 in
set_option maxRecDepth 100000 in
theorem knownbits_mask.calls (a0 : Int) (r : Int) (w : World) (h : knownbits_mask.f a0 = some r) :
  Calls Try.prog 147 #[.int .i64 a0] w fun e w' => e = .returned (.int .u64 r) ∧ Below w.heap.size w w' := by
 have HB := Aside0.mk (Below.refl w.heap.size w)
 have H : (if a0 ≥ 64 then (some 18446744073709551615) else (some (IntKind.u64.wrap ((shl .u64 1 (mx a0 0)) - 1)))) = some r := h
 clear h
 by_cases c2 : a0 ≥ 64
 ·
  rw [if_pos c2] at H
  have c2b0 : decide (64 ≤ a0) = true := decide_eq_true c2
  clear c2
  obtain rfl := Option.some.inj H
  go_enter Try.func147, Try.ntmps147
  go_wp2
  go_ret
  exact ⟨by first | rfl | (simp [errW_none, errW_some] <;> rfl) | (simp [*, errW_none, errW_some] <;> rfl), bsL HB.out⟩
 ·
  rw [if_neg c2] at H
  have c2b0 : decide (64 ≤ a0) = false := decide_eq_false c2
  clear c2
  obtain ⟨ji3, hji3⟩ : ∃ j_ : Int, (mx a0 0) = j_ := ⟨_, rfl⟩
  replace H : (some (IntKind.u64.wrap ((shl .u64 1 (ji3)) - 1))) = some r := by first | (rw [hji3] at H; exact H) | (simp only [hji3] at H ⊢; exact H)
  (try (have hji3l : 0 ≤ ji3 := by (rw [← hji3]; unfold mx; (repeat' split) <;> omega)))
  (try (have hji3m : 0 ≤ ji3 := by omega))
  have hji3_ : (if a0 < 0 then 0 else a0) = ji3 := hji3
  obtain ⟨ji4, hji4⟩ : ∃ j_ : Int, (shl .u64 1 (ji3)) = j_ := ⟨_, rfl⟩
  replace H : (some (IntKind.u64.wrap ((ji4) - 1))) = some r := by first | (rw [hji4] at H; exact H) | (simp only [hji4] at H ⊢; exact H)
  have hji4_ : (IntKind.u64.wrap (1 * 2 ^ min (ji3).toNat 64)) = ji4 := hji4
  have hji4z : (ji3) ≤ 64 → (IntKind.u64.wrap (1 * 2 ^ (ji3).toNat)) = ji4 := shl_small hji4
  have hji4u : (IntKind.u64.wrap (2 ^ min (ji3).toNat 64)) = ji4 := by have h_ := hji4_; rw [Int.one_mul] at h_; exact h_
  have hji4v : (ji3) ≤ 64 → (IntKind.u64.wrap (2 ^ (ji3).toNat)) = ji4 := fun hle_ => by have h_ := hji4z hle_; rw [Int.one_mul] at h_; exact h_
  obtain rfl := Option.some.inj H
  go_enter Try.func147, Try.ntmps147
  go_wp2
  go_ret
  exact ⟨by first | rfl | (simp [errW_none, errW_some] <;> rfl) | (simp only [← hji3, ← hji4]; first | rfl | (simp [errW_none, errW_some] <;> rfl)) | (simp [*, errW_none, errW_some] <;> rfl), bsL HB.out⟩

/-! ### knownbits_Of: function 89 -/
def knownbits_Of.f (a0 : Int) (a1 : Int) : Option (Int × Int) := (knownbits_good.f a0).bind fun t131 => (if t131 = true then ((knownbits_mask.f a0).bind fun t132 => (some (Go.bits .and .u64 (Go.bits .xor .u64 18446744073709551615 a1) t132, Go.bits .and .u64 a1 t132))) else (some (0, 0)))
set_option maxHeartbeats 8000000 in
set_option maxRecDepth 100000 in
theorem knownbits_Of.calls (a0 : Int) (a1 : Int) (r1 : Int) (r2 : Int) (w : World) (h : knownbits_Of.f a0 a1 = some (r1, r2)) :
  Calls Try.prog 89 #[.int .i64 a0, .int .u64 a1] w fun e w' => e = .returned (.agg #[.int .u64 r1, .int .u64 r2]) ∧ Below w.heap.size w w' := by
 have hu110 := Try.underlying110
 have HB := Aside0.mk (Below.refl w.heap.size w)
 have H : ((knownbits_good.f a0).bind fun t131 => (if t131 = true then ((knownbits_mask.f a0).bind fun t132 => (some (Go.bits .and .u64 (Go.bits .xor .u64 18446744073709551615 a1) t132, Go.bits .and .u64 a1 t132))) else (some (0, 0)))) = some (r1, r2) := h
 clear h
 replace H := Option.bind_eq_some_iff.mp H
 obtain ⟨t131, A30, H⟩ := H
 replace H : (if t131 = true then ((knownbits_mask.f a0).bind fun t132 => (some (Go.bits .and .u64 (Go.bits .xor .u64 18446744073709551615 a1) t132, Go.bits .and .u64 a1 t132))) else (some (0, 0))) = some (r1, r2) := H
 have A3 := Aside0.mk A30
 clear A30
 by_cases c4 : t131 = true
 ·
  subst c4
  have H1 : ((knownbits_mask.f a0).bind fun t132 => (some (Go.bits .and .u64 (Go.bits .xor .u64 18446744073709551615 a1) t132, Go.bits .and .u64 a1 t132))) = some (r1, r2) := by rw [if_pos rfl] at H; exact H
  clear H
  have H := H1
  clear H1
  replace H := Option.bind_eq_some_iff.mp H
  obtain ⟨t132, A50, H⟩ := H
  replace H : (some (Go.bits .and .u64 (Go.bits .xor .u64 18446744073709551615 a1) t132, Go.bits .and .u64 a1 t132)) = some (r1, r2) := H
  have A5 := Aside0.mk A50
  clear A50
  simp only [Option.some.injEq, Prod.mk.injEq] at H
  obtain ⟨rfl, rfl⟩ := H
  go_enter Try.func89, Try.ntmps89
  go_wp2_with (first | ((with_reducible refine gate_dst (N := 4) rfl ?_); refine boxE (N := 4) (cs := #[.int .u64 0, .int .u64 0]) (t := 110) ?_; intro gb130 hg w6 hbox hb; have BK130 := Aside0.mk (hbox); have GW130 := szB hg HB.out; have GE130 := szB hg HB.out; replace HB := bsB HB.out hb; clear hb hbox hg) | ((with_reducible refine gate_callee (f := 146) rfl ?_); refine gL (some 6) Try.func146 #[.int .i64 a0] ?_; (with_reducible refine (knownbits_good.calls a0 true _ A3.out).mono ?_); rintro e w' ⟨rfl, ⟨nd, rfl⟩⟩; refine ⟨_, rfl, ?_⟩; (try (rw [drewN_self w6]; generalize hq_ : World.drewN w6 _ = w6; have n0_ : Aside0 (w6.heap[gb130]? = some (.cells #[.int .u64 0, .int .u64 0] 110 (0, 0))) := ⟨by rw [← hq_]; exact (by exact bfL BK130.out)⟩; have n1_ : Aside0 (Below w.heap.size w w6) := ⟨by rw [← hq_]; exact (by repeat (first | (with_reducible first | exact HB.out | apply below_alloc | apply pw_below_drewN | apply below_drew1 | refine below_set ?_ GE130.out) | exact HB.out))⟩; clear BK130 HB hq_; have BK130 := n0_; have HB := n1_; clear n0_ n1_))) | ((with_reducible refine gate_callee (f := 147) rfl ?_); refine gL (some 12) Try.func147 #[.int .i64 a0] ?_; (with_reducible refine (knownbits_mask.calls a0 t132 _ A5.out).mono ?_); rintro e w7 ⟨rfl, hb⟩; refine ⟨_, rfl, ?_⟩; replace BK130 := bkB BK130.out hb; replace HB := bsB HB.out hb; (try clear hb); (try clear hb2); (try clear hk); (try clear hi)) | ((with_reducible refine gate_callee (f := 147) rfl ?_); refine gL (some 16) Try.func147 #[.int .i64 a0] ?_; (with_reducible refine (knownbits_mask.calls a0 t132 _ A5.out).mono ?_); rintro e w8 ⟨rfl, hb⟩; refine ⟨_, rfl, ?_⟩; replace BK130 := bkB BK130.out hb; replace HB := bsB HB.out hb; (try clear hb); (try clear hb2); (try clear hk); (try clear hi); obtain ⟨hcz9_0, hcz9_1, hfz9_0, hfz9_1⟩ := own2 BK130.out))
  refine bodyPost_ret (results_cell_row rfl _ _ gb130 110 #[.int .u64 (Go.bits .and .u64 (Go.bits .xor .u64 18446744073709551615 a1) t132), .int .u64 (Go.bits .and .u64 a1 t132)] (0, 0) _ rfl (by (with_reducible repeat (first | refine blk_drewN ?_ _ | refine blk_drew ?_ | refine blk_alloc ?_ _)); refine blk_put (cs := #[.int .u64 (Go.bits .and .u64 (Go.bits .xor .u64 18446744073709551615 a1) t132), .int .u64 0]) ?_ 1 _ rfl; (with_reducible repeat (first | refine blk_drewN ?_ _ | refine blk_drew ?_ | refine blk_alloc ?_ _)); refine blk_put (cs := #[.int .u64 0, .int .u64 0]) ?_ 0 _ rfl; exact bfL BK130.out) Try.underlying110 rfl (by kernel_rfl)) rfl ?_
  exact ⟨by first | rfl | (simp [errW_none, errW_some] <;> rfl) | (simp [*, errW_none, errW_some] <;> rfl), bsL HB.out⟩
 ·
  replace c4 := Bool.eq_false_iff.mpr c4
  subst c4
  have H1 : (some (0, 0)) = some (r1, r2) := by rw [if_neg (show ¬ (false = true) by decide)] at H; exact H
  clear H
  have H := H1
  clear H1
  simp only [Option.some.injEq, Prod.mk.injEq] at H
  obtain ⟨rfl, rfl⟩ := H
  go_enter Try.func89, Try.ntmps89
  go_wp2_with (first | ((with_reducible refine gate_dst (N := 4) rfl ?_); refine boxE (N := 4) (cs := #[.int .u64 0, .int .u64 0]) (t := 110) ?_; intro gb130 hg w10 hbox hb; have BK130 := Aside0.mk (hbox); have GW130 := szB hg HB.out; have GE130 := szB hg HB.out; replace HB := bsB HB.out hb; clear hb hbox hg) | ((with_reducible refine gate_callee (f := 146) rfl ?_); refine gL (some 6) Try.func146 #[.int .i64 a0] ?_; (with_reducible refine (knownbits_good.calls a0 false _ A3.out).mono ?_); rintro e w' ⟨rfl, ⟨nd, rfl⟩⟩; refine ⟨_, rfl, ?_⟩; (try (rw [drewN_self w10]; generalize hq_ : World.drewN w10 _ = w10; have n0_ : Aside0 (w10.heap[gb130]? = some (.cells #[.int .u64 0, .int .u64 0] 110 (0, 0))) := ⟨by rw [← hq_]; exact (by exact bfL BK130.out)⟩; have n1_ : Aside0 (Below w.heap.size w w10) := ⟨by rw [← hq_]; exact (by repeat (first | (with_reducible first | exact HB.out | apply below_alloc | apply pw_below_drewN | apply below_drew1 | refine below_set ?_ GE130.out) | exact HB.out))⟩; clear BK130 HB hq_; have BK130 := n0_; have HB := n1_; clear n0_ n1_)); obtain ⟨hcz11_0, hcz11_1, hfz11_0, hfz11_1⟩ := own2 BK130.out))
  refine bodyPost_ret (results_cell_row rfl _ _ gb130 110 #[.int .u64 0, .int .u64 0] (0, 0) _ rfl (by (with_reducible repeat (first | refine blk_drewN ?_ _ | refine blk_drew ?_ | refine blk_alloc ?_ _)); refine blk_put (cs := #[.int .u64 0, .int .u64 0]) ?_ 1 _ rfl; (with_reducible repeat (first | refine blk_drewN ?_ _ | refine blk_drew ?_ | refine blk_alloc ?_ _)); refine blk_put (cs := #[.int .u64 0, .int .u64 0]) ?_ 0 _ rfl; exact bfL BK130.out) Try.underlying110 rfl (by kernel_rfl)) rfl ?_
  exact ⟨by first | rfl | (simp [errW_none, errW_some] <;> rfl) | (simp [*, errW_none, errW_some] <;> rfl), bsL HB.out⟩

/-! ### facts_Of: function 32 -/
def facts_Of.f (a0 : Int) (a1 : Int) : Option (Int × Int × Int × Int × Int × Int) := (knownbits_Of.f a0 a1).bind fun bt134 => ((interval_Of.f a0 a1).bind fun bt136 => ((facts_fact.f bt134.1 bt134.2 bt136.1 bt136.2.1 bt136.2.2.1 bt136.2.2.2).bind fun bt140 => (some (bt140.1, bt140.2.1, bt140.2.2.1, bt140.2.2.2.1, bt140.2.2.2.2.1, bt140.2.2.2.2.2))))
set_option maxHeartbeats 8000000 in
set_option maxRecDepth 100000 in
theorem facts_Of.calls (a0 : Int) (a1 : Int) (r1 : Int) (r2 : Int) (r3 : Int) (r4 : Int) (r5 : Int) (r6 : Int) (w : World) (h : facts_Of.f a0 a1 = some (r1, r2, r3, r4, r5, r6)) :
  Calls Try.prog 32 #[.int .i64 a0, .int .u64 a1] w fun e w' => e = .returned (.agg #[.int .u64 r1, .int .u64 r2, .int .u64 r3, .int .u64 r4, .int .i64 r5, .int .i64 r6]) ∧ Below w.heap.size w w' := by
 have hu50 := Try.underlying50
 have HB := Aside0.mk (Below.refl w.heap.size w)
 have H : ((knownbits_Of.f a0 a1).bind fun bt134 => ((interval_Of.f a0 a1).bind fun bt136 => ((facts_fact.f bt134.1 bt134.2 bt136.1 bt136.2.1 bt136.2.2.1 bt136.2.2.2).bind fun bt140 => (some (bt140.1, bt140.2.1, bt140.2.2.1, bt140.2.2.2.1, bt140.2.2.2.2.1, bt140.2.2.2.2.2))))) = some (r1, r2, r3, r4, r5, r6) := h
 clear h
 replace H := Option.bind_eq_some_iff.mp H
 obtain ⟨⟨t134, t135⟩, A30, H⟩ := H
 replace H : ((interval_Of.f a0 a1).bind fun bt136 => ((facts_fact.f t134 t135 bt136.1 bt136.2.1 bt136.2.2.1 bt136.2.2.2).bind fun bt140 => (some (bt140.1, bt140.2.1, bt140.2.2.1, bt140.2.2.2.1, bt140.2.2.2.2.1, bt140.2.2.2.2.2)))) = some (r1, r2, r3, r4, r5, r6) := H
 have A3 := Aside0.mk A30
 clear A30
 replace H := Option.bind_eq_some_iff.mp H
 obtain ⟨⟨t136, t137, t138, t139⟩, A40, H⟩ := H
 replace H : ((facts_fact.f t134 t135 t136 t137 t138 t139).bind fun bt140 => (some (bt140.1, bt140.2.1, bt140.2.2.1, bt140.2.2.2.1, bt140.2.2.2.2.1, bt140.2.2.2.2.2))) = some (r1, r2, r3, r4, r5, r6) := H
 have A4 := Aside0.mk A40
 clear A40
 replace H := Option.bind_eq_some_iff.mp H
 obtain ⟨⟨t140, t141, t142, t143, t144, t145⟩, A50, H⟩ := H
 replace H : (some (t140, t141, t142, t143, t144, t145)) = some (r1, r2, r3, r4, r5, r6) := H
 have A5 := Aside0.mk A50
 clear A50
 simp only [Option.some.injEq, Prod.mk.injEq] at H
 obtain ⟨rfl, rfl, rfl, rfl, rfl, rfl⟩ := H
 go_enter Try.func32, Try.ntmps32
 go_wp2_with (first | ((with_reducible refine gate_dst (N := 4) rfl ?_); refine boxE (N := 4) (cs := #[.int .u64 0, .int .u64 0, .int .u64 0, .int .u64 0, .int .i64 0, .int .i64 0]) (t := 50) ?_; intro gb133 hg w6 hbox hb; have BK133 := Aside0.mk (hbox); have GW133 := szB hg HB.out; have GE133 := szB hg HB.out; replace HB := bsB HB.out hb; clear hb hbox hg) | ((with_reducible refine gate_callee (f := 89) rfl ?_); refine gL (some 7) Try.func89 #[.int .i64 a0, .int .u64 a1] ?_; (with_reducible refine (knownbits_Of.calls a0 a1 t134 t135 _ A3.out).mono ?_); rintro e w7 ⟨rfl, hb⟩; refine ⟨_, rfl, ?_⟩; replace BK133 := bkB BK133.out hb; replace HB := bsB HB.out hb; (try clear hb); (try clear hb2); (try clear hk); (try clear hi)) | ((with_reducible refine gate_callee (f := 17) rfl ?_); refine gL (some 10) Try.func17 #[.int .i64 a0, .int .u64 a1] ?_; (with_reducible refine (interval_Of.calls a0 a1 t136 t137 t138 t139 _ A4.out).mono ?_); rintro e w8 ⟨rfl, hb⟩; refine ⟨_, rfl, ?_⟩; replace BK133 := bkB BK133.out hb; replace HB := bsB HB.out hb; (try clear hb); (try clear hb2); (try clear hk); (try clear hi)) | ((with_reducible refine gate_callee (f := 78) rfl ?_); refine gL (some 11) Try.func78 #[.agg #[.int .u64 t134, .int .u64 t135], .agg #[.int .u64 t136, .int .u64 t137, .int .i64 t138, .int .i64 t139]] ?_; (with_reducible refine (facts_fact.calls t134 t135 t136 t137 t138 t139 t140 t141 t142 t143 t144 t145 _ A5.out).mono ?_); rintro e w9 ⟨rfl, hb⟩; refine ⟨_, rfl, ?_⟩; replace BK133 := bkB BK133.out hb; replace HB := bsB HB.out hb; (try clear hb); (try clear hb2); (try clear hk); (try clear hi); obtain ⟨hcz10_0, hcz10_1, hcz10_2, hcz10_3, hcz10_4, hcz10_5, hfz10_0, hfz10_1, hfz10_2, hfz10_3, hfz10_4, hfz10_5⟩ := own6 BK133.out))
 refine bodyPost_ret (results_cell_row rfl _ _ gb133 50 #[.int .u64 t140, .int .u64 t141, .int .u64 t142, .int .u64 t143, .int .i64 t144, .int .i64 t145] (0, 0) _ rfl (by (with_reducible repeat (first | refine blk_drewN ?_ _ | refine blk_drew ?_ | refine blk_alloc ?_ _)); refine blk_put (cs := #[.int .u64 t140, .int .u64 t141, .int .u64 t142, .int .u64 t143, .int .i64 t144, .int .i64 0]) ?_ 5 _ rfl; (with_reducible repeat (first | refine blk_drewN ?_ _ | refine blk_drew ?_ | refine blk_alloc ?_ _)); refine blk_put (cs := #[.int .u64 t140, .int .u64 t141, .int .u64 t142, .int .u64 t143, .int .i64 0, .int .i64 0]) ?_ 4 _ rfl; (with_reducible repeat (first | refine blk_drewN ?_ _ | refine blk_drew ?_ | refine blk_alloc ?_ _)); refine blk_put (cs := #[.int .u64 t140, .int .u64 t141, .int .u64 t142, .int .u64 0, .int .i64 0, .int .i64 0]) ?_ 3 _ rfl; (with_reducible repeat (first | refine blk_drewN ?_ _ | refine blk_drew ?_ | refine blk_alloc ?_ _)); refine blk_put (cs := #[.int .u64 t140, .int .u64 t141, .int .u64 0, .int .u64 0, .int .i64 0, .int .i64 0]) ?_ 2 _ rfl; (with_reducible repeat (first | refine blk_drewN ?_ _ | refine blk_drew ?_ | refine blk_alloc ?_ _)); refine blk_put (cs := #[.int .u64 t140, .int .u64 0, .int .u64 0, .int .u64 0, .int .i64 0, .int .i64 0]) ?_ 1 _ rfl; (with_reducible repeat (first | refine blk_drewN ?_ _ | refine blk_drew ?_ | refine blk_alloc ?_ _)); refine blk_put (cs := #[.int .u64 0, .int .u64 0, .int .u64 0, .int .u64 0, .int .i64 0, .int .i64 0]) ?_ 0 _ rfl; exact bfL BK133.out) Try.underlying50 rfl (by kernel_rfl)) rfl ?_
 exact ⟨by first | rfl | (simp [errW_none, errW_some] <;> rfl) | (simp [*, errW_none, errW_some] <;> rfl), bsL HB.out⟩

/-! ### interval_Valid: function 21 -/
def interval_Valid.f (a0 : Int) (a1_0 : Int) (a1_1 : Int) (a1_2 : Int) (a1_3 : Int) : Option (Bool) := (interval_good.f a0).bind fun t147 => (if t147 = true then ((interval_ends.f a0).bind fun bt148 => (if a1_0 ≤ a1_1 then ((bits_Mask.f a0).bind fun t150 => (if a1_1 ≤ t150 then (if bt148.1 ≤ a1_2 then (if a1_2 ≤ a1_3 then (some (decide (a1_3 ≤ bt148.2))) else (some false)) else (some false)) else (some false))) else (some false))) else (some false))
def interval_Valid.T4 : Bool × List (List Nat × List Nat) := (true, [([], []), ([0], [0]), ([], []), ([2], [2]), ([1, 3], [1, 3]), ([4], [4]), ([5], [5]), ([6, 5], [5, 6]), ([5], [5]), ([8, 5, 5], [5, 8]), ([7, 9, 5], [5, 7, 9]), ([5, 10], [5, 10]), ([11, 9], [11]), ([12], [12]), ([12], [12]), ([14, 12], [12, 14]), ([13, 15, 12], [12, 13, 15]), ([12, 16], [12, 16]), ([17, 12], [17]), ([18], [18]), ([19, 18], [18, 19]), ([18], [18]), ([21, 18], [18, 21]), ([20, 22, 18], [18, 20, 22]), ([18, 23], [18, 23]), ([24, 18], [24]), ([25], [25]), ([26, 25], [25, 26]), ([25], [25]), ([27, 28, 25], [25, 27, 28]), ([25, 29], [25, 29]), ([30, 25, 0, 1, 2, 3, 4, 5, 6, 7, 8, 9, 10, 11, 12, 13, 14, 15, 16, 17, 18, 19, 20, 21, 22, 23, 24, 25, 26, 27, 28, 29, 30], [30])])
def interval_Valid.B4 : List Nat := [0, 1, 0, 4, 15, 31, 63, 127, 63, 319, 1023, 2047, 4095, 8191, 8191, 24575, 65535, 131071, 262143, 524287, 1048575, 524287, 2621439, 8388607, 16777215, 33554431, 67108863, 134217727, 67108863, 536870911, 1073741823, 2147483647]
theorem interval_Valid.tab4 : rtab .any (opsOf Try.f21 4) = interval_Valid.T4 := by kernel_rfl
theorem interval_Valid.bits4 : waitsOk interval_Valid.T4.2 interval_Valid.B4 = true := by kernel_rfl
set_option maxHeartbeats 8000000 in
set_option maxRecDepth 100000 in
theorem interval_Valid.calls (a0 : Int) (a1_0 : Int) (a1_1 : Int) (a1_2 : Int) (a1_3 : Int) (r : Bool) (w : World) (h : interval_Valid.f a0 a1_0 a1_1 a1_2 a1_3 = some r) :
  Calls Try.prog 21 #[.int .i64 a0, .agg #[.int .u64 a1_0, .int .u64 a1_1, .int .i64 a1_2, .int .i64 a1_3]] w fun e w' => e = .returned (.bool r) ∧ Below w.heap.size w w' := by
 have hu30 := Try.underlying30
 have HB := Aside0.mk (Below.refl w.heap.size w)
 have H : ((interval_good.f a0).bind fun t147 => (if t147 = true then ((interval_ends.f a0).bind fun bt148 => (if a1_0 ≤ a1_1 then ((bits_Mask.f a0).bind fun t150 => (if a1_1 ≤ t150 then (if bt148.1 ≤ a1_2 then (if a1_2 ≤ a1_3 then (some (decide (a1_3 ≤ bt148.2))) else (some false)) else (some false)) else (some false))) else (some false))) else (some false))) = some r := h
 clear h
 replace H := Option.bind_eq_some_iff.mp H
 obtain ⟨t147, A30, H⟩ := H
 replace H : (if t147 = true then ((interval_ends.f a0).bind fun bt148 => (if a1_0 ≤ a1_1 then ((bits_Mask.f a0).bind fun t150 => (if a1_1 ≤ t150 then (if bt148.1 ≤ a1_2 then (if a1_2 ≤ a1_3 then (some (decide (a1_3 ≤ bt148.2))) else (some false)) else (some false)) else (some false))) else (some false))) else (some false)) = some r := H
 have A3 := Aside0.mk A30
 clear A30
 by_cases c4 : t147 = true
 ·
  subst c4
  have H1 : ((interval_ends.f a0).bind fun bt148 => (if a1_0 ≤ a1_1 then ((bits_Mask.f a0).bind fun t150 => (if a1_1 ≤ t150 then (if bt148.1 ≤ a1_2 then (if a1_2 ≤ a1_3 then (some (decide (a1_3 ≤ bt148.2))) else (some false)) else (some false)) else (some false))) else (some false))) = some r := by rw [if_pos rfl] at H; exact H
  clear H
  have H := H1
  clear H1
  replace H := Option.bind_eq_some_iff.mp H
  obtain ⟨⟨t148, t149⟩, A50, H⟩ := H
  replace H : (if a1_0 ≤ a1_1 then ((bits_Mask.f a0).bind fun t150 => (if a1_1 ≤ t150 then (if t148 ≤ a1_2 then (if a1_2 ≤ a1_3 then (some (decide (a1_3 ≤ t149))) else (some false)) else (some false)) else (some false))) else (some false)) = some r := H
  have A5 := Aside0.mk A50
  clear A50
  by_cases c6 : a1_0 ≤ a1_1
  ·
   rw [if_pos c6] at H
   have c6b0 : decide (a1_0 ≤ a1_1) = true := decide_eq_true c6
   clear c6
   replace H := Option.bind_eq_some_iff.mp H
   obtain ⟨t150, A70, H⟩ := H
   replace H : (if a1_1 ≤ t150 then (if t148 ≤ a1_2 then (if a1_2 ≤ a1_3 then (some (decide (a1_3 ≤ t149))) else (some false)) else (some false)) else (some false)) = some r := H
   have A7 := Aside0.mk A70
   clear A70
   by_cases c8 : a1_1 ≤ t150
   ·
    rw [if_pos c8] at H
    have c8b0 : decide (a1_1 ≤ t150) = true := decide_eq_true c8
    clear c8
    by_cases c9 : t148 ≤ a1_2
    ·
     rw [if_pos c9] at H
     have c9b0 : decide (t148 ≤ a1_2) = true := decide_eq_true c9
     clear c9
     by_cases c10 : a1_2 ≤ a1_3
     ·
      rw [if_pos c10] at H
      have c10b0 : decide (a1_2 ≤ a1_3) = true := decide_eq_true c10
      clear c10
      obtain rfl := Option.some.inj H
      go_enter Try.func21, Try.ntmps21
      try go_wp2_with (first | ((with_reducible refine gate_dst (N := 3) rfl ?_); refine boxE (N := 3) (cs := #[.int .u64 a1_0, .int .u64 a1_1, .int .i64 a1_2, .int .i64 a1_3]) (t := 30) ?_; intro gb146 hg w11 hbox hb; have BK146 := Aside0.mk (hbox); have GW146 := szB hg HB.out; have GE146 := szB hg HB.out; replace HB := bsB HB.out hb; clear hb hbox hg) | ((with_reducible refine gate_callee (f := 66) rfl ?_); refine gL (some 8) Try.func66 #[.int .i64 a0] ?_; (with_reducible refine (interval_good.calls a0 true _ A3.out).mono ?_); rintro e w' ⟨rfl, ⟨nd, rfl⟩⟩; refine ⟨_, rfl, ?_⟩) | ((with_reducible refine gate_callee (f := 55) rfl ?_); refine gL (some 12) Try.func55 #[.int .i64 a0] ?_; (with_reducible refine (interval_ends.calls a0 t148 t149 _ A5.out).mono ?_); rintro e w' ⟨rfl, ⟨nd, rfl⟩⟩; refine ⟨_, rfl, ?_⟩))
      (try (rw [drewN_self w11]; generalize hq_ : World.drewN w11 _ = w11; have n0_ : Aside0 (w11.heap[gb146]? = some (.cells #[.int .u64 a1_0, .int .u64 a1_1, .int .i64 a1_2, .int .i64 a1_3] 30 (0, 0))) := ⟨by rw [← hq_]; exact (by exact bfL BK146.out)⟩; have n1_ : Aside0 (Below w.heap.size w w11) := ⟨by rw [← hq_]; exact (by repeat (first | (with_reducible first | exact HB.out | apply below_alloc | apply pw_below_drewN | apply below_drew1 | refine below_set ?_ GE146.out) | exact HB.out))⟩; clear BK146 HB hq_; have BK146 := n0_; have HB := n1_; clear n0_ n1_))
      replace BK146 := Aside0.mk (blk_drew BK146.out)
      replace HB := Aside0.mk (below_drew1 HB.out)
      refine start_ (n := 32) (S := fun w' => w'.cell? ⟨gb146, 0, none⟩ = some (.int .u64 a1_0) ∧ w'.cell? ⟨gb146, 1, none⟩ = some (.int .u64 a1_1) ∧ w'.cell? ⟨gb146, 2, none⟩ = some (.int .i64 a1_2) ∧ w'.cell? ⟨gb146, 3, none⟩ = some (.int .i64 a1_3)) (ds := []) (bA 32 0) (by kernel_rfl) rfl rfl (by repeat' (first | apply And.intro | exact (blk_cell BK146.out _).trans rfl)) (fun hHeld => ?_); refine with_tabW interval_Valid.tab4 interval_Valid.bits4 (fun HT_ HW_ => ?_)
      generalize w11.drew = w12 at BK146 HB hHeld ⊢
      refine pureA HT_ (i := 0) (N := some 15) (bA 32 1) ?_
      refine pureA HT_ (i := 2) (N := some 17) (bA 32 5) ?_
      refine takeA HT_ HW_ hHeld (i := 1) (N := some 16) (bA 32 7) ?_ (hy := by rintro w' ⟨s0, s1, s2, s3⟩; go_simp; with_reducible rfl)
      refine takeA HT_ HW_ hHeld (i := 3) (N := some 18) (bA 32 15) ?_ (hy := by rintro w' ⟨s0, s1, s2, s3⟩; go_simp; with_reducible rfl)
      refine pureA HT_ (i := 4) (N := some 19) (bA 32 31) ?_
      refine pureA HT_ (i := 5) (N := some 20) (bA 32 63) ?_
      refine pureA HT_ (i := 6) (N := some 21) (bA 32 127) ?_
      refine pureA HT_ (i := 8) (N := some 23) (bA 32 383) ?_
      refine takeA HT_ HW_ hHeld (i := 7) (N := some 22) (bA 32 511) ?_ (hy := by rintro w' ⟨s0, s1, s2, s3⟩; go_simp; with_reducible rfl)
      refine one_ (i := 9) (N := some 24) (bA 32 1023) rfl rfl (one_of HT_.out (by kernel_rfl)) (by decide) (fun K hK => ?_)
      refine gO Try.func56 #[.int .i64 a0] ?_
      with_reducible refine (bits_Mask.calls a0 t150 _ A7.out).mono ?_
      rintro e w13 ⟨rfl, hb⟩
      refine ⟨_, rfl, ?_⟩
      replace BK146 := bkB BK146.out hb
      replace HB := bsB HB.out hb
      (try clear hb)
      refine hK.out _ _ (by repeat' (first | apply And.intro | exact (blk_cell BK146.out _).trans rfl)) (fun hHeld => ?_)
      clear hK K
      refine normA (some 24) ?_
      refine pureA HT_ (i := 10) (N := some 25) (bA 32 2047) ?_
      refine pureA HT_ (i := 11) (N := some 26) (bA 32 4095) ?_
      refine pureA HT_ (i := 12) (N := some 27) (bA 32 8191) ?_
      refine pureA HT_ (i := 13) (N := some 28) (bA 32 16383) ?_
      refine pureA HT_ (i := 14) (N := some 29) (bA 32 32767) ?_
      refine takeA HT_ HW_ hHeld (i := 15) (N := some 30) (bA 32 65535) ?_ (hy := by rintro w' ⟨s0, s1, s2, s3⟩; go_simp; with_reducible rfl)
      refine pureA HT_ (i := 16) (N := some 31) (bA 32 131071) ?_
      refine pureA HT_ (i := 17) (N := some 32) (bA 32 262143) ?_
      refine pureA HT_ (i := 18) (N := some 33) (bA 32 524287) ?_
      refine pureA HT_ (i := 19) (N := some 34) (bA 32 1048575) ?_
      refine pureA HT_ (i := 21) (N := some 36) (bA 32 3145727) ?_
      refine takeA HT_ HW_ hHeld (i := 20) (N := some 35) (bA 32 4194303) ?_ (hy := by rintro w' ⟨s0, s1, s2, s3⟩; go_simp; with_reducible rfl)
      refine takeA HT_ HW_ hHeld (i := 22) (N := some 37) (bA 32 8388607) ?_ (hy := by rintro w' ⟨s0, s1, s2, s3⟩; go_simp; with_reducible rfl)
      refine pureA HT_ (i := 23) (N := some 38) (bA 32 16777215) ?_
      refine pureA HT_ (i := 24) (N := some 39) (bA 32 33554431) ?_
      refine pureA HT_ (i := 25) (N := some 40) (bA 32 67108863) ?_
      refine pureA HT_ (i := 26) (N := some 41) (bA 32 134217727) ?_
      refine pureA HT_ (i := 28) (N := some 43) (bA 32 402653183) ?_
      refine takeA HT_ HW_ hHeld (i := 27) (N := some 42) (bA 32 536870911) ?_ (hy := by rintro w' ⟨s0, s1, s2, s3⟩; go_simp; with_reducible rfl)
      refine pureA HT_ (i := 29) (N := some 44) (bA 32 1073741823) ?_
      refine pureA HT_ (i := 30) (N := some 45) (bA 32 2147483647) ?_
      refine pureA HT_ (i := 31) (N := some 4) (bA 32 4294967295) ?_
      refine done_ (done_of HT_.out (by kernel_rfl)) ?_
      try go_wp2
      go_ret
      exact ⟨by first | rfl | (simp [errW_none, errW_some] <;> rfl) | (simp [*, errW_none, errW_some] <;> rfl), bsL HB.out⟩
     ·
      rw [if_neg c10] at H
      have c10b0 : decide (a1_2 ≤ a1_3) = false := decide_eq_false c10
      clear c10
      obtain rfl := Option.some.inj H
      go_enter Try.func21, Try.ntmps21
      try go_wp2_with (first | ((with_reducible refine gate_dst (N := 3) rfl ?_); refine boxE (N := 3) (cs := #[.int .u64 a1_0, .int .u64 a1_1, .int .i64 a1_2, .int .i64 a1_3]) (t := 30) ?_; intro gb146 hg w14 hbox hb; have BK146 := Aside0.mk (hbox); have GW146 := szB hg HB.out; have GE146 := szB hg HB.out; replace HB := bsB HB.out hb; clear hb hbox hg) | ((with_reducible refine gate_callee (f := 66) rfl ?_); refine gL (some 8) Try.func66 #[.int .i64 a0] ?_; (with_reducible refine (interval_good.calls a0 true _ A3.out).mono ?_); rintro e w' ⟨rfl, ⟨nd, rfl⟩⟩; refine ⟨_, rfl, ?_⟩) | ((with_reducible refine gate_callee (f := 55) rfl ?_); refine gL (some 12) Try.func55 #[.int .i64 a0] ?_; (with_reducible refine (interval_ends.calls a0 t148 t149 _ A5.out).mono ?_); rintro e w' ⟨rfl, ⟨nd, rfl⟩⟩; refine ⟨_, rfl, ?_⟩))
      (try (rw [drewN_self w14]; generalize hq_ : World.drewN w14 _ = w14; have n0_ : Aside0 (w14.heap[gb146]? = some (.cells #[.int .u64 a1_0, .int .u64 a1_1, .int .i64 a1_2, .int .i64 a1_3] 30 (0, 0))) := ⟨by rw [← hq_]; exact (by exact bfL BK146.out)⟩; have n1_ : Aside0 (Below w.heap.size w w14) := ⟨by rw [← hq_]; exact (by repeat (first | (with_reducible first | exact HB.out | apply below_alloc | apply pw_below_drewN | apply below_drew1 | refine below_set ?_ GE146.out) | exact HB.out))⟩; clear BK146 HB hq_; have BK146 := n0_; have HB := n1_; clear n0_ n1_))
      replace BK146 := Aside0.mk (blk_drew BK146.out)
      replace HB := Aside0.mk (below_drew1 HB.out)
      refine start_ (n := 32) (S := fun w' => w'.cell? ⟨gb146, 0, none⟩ = some (.int .u64 a1_0) ∧ w'.cell? ⟨gb146, 1, none⟩ = some (.int .u64 a1_1) ∧ w'.cell? ⟨gb146, 2, none⟩ = some (.int .i64 a1_2) ∧ w'.cell? ⟨gb146, 3, none⟩ = some (.int .i64 a1_3)) (ds := []) (bA 32 0) (by kernel_rfl) rfl rfl (by repeat' (first | apply And.intro | exact (blk_cell BK146.out _).trans rfl)) (fun hHeld => ?_); refine with_tabW interval_Valid.tab4 interval_Valid.bits4 (fun HT_ HW_ => ?_)
      generalize w14.drew = w15 at BK146 HB hHeld ⊢
      refine pureA HT_ (i := 0) (N := some 15) (bA 32 1) ?_
      refine pureA HT_ (i := 2) (N := some 17) (bA 32 5) ?_
      refine takeA HT_ HW_ hHeld (i := 1) (N := some 16) (bA 32 7) ?_ (hy := by rintro w' ⟨s0, s1, s2, s3⟩; go_simp; with_reducible rfl)
      refine takeA HT_ HW_ hHeld (i := 3) (N := some 18) (bA 32 15) ?_ (hy := by rintro w' ⟨s0, s1, s2, s3⟩; go_simp; with_reducible rfl)
      refine pureA HT_ (i := 4) (N := some 19) (bA 32 31) ?_
      refine pureA HT_ (i := 5) (N := some 20) (bA 32 63) ?_
      refine pureA HT_ (i := 6) (N := some 21) (bA 32 127) ?_
      refine pureA HT_ (i := 8) (N := some 23) (bA 32 383) ?_
      refine takeA HT_ HW_ hHeld (i := 7) (N := some 22) (bA 32 511) ?_ (hy := by rintro w' ⟨s0, s1, s2, s3⟩; go_simp; with_reducible rfl)
      refine one_ (i := 9) (N := some 24) (bA 32 1023) rfl rfl (one_of HT_.out (by kernel_rfl)) (by decide) (fun K hK => ?_)
      refine gO Try.func56 #[.int .i64 a0] ?_
      with_reducible refine (bits_Mask.calls a0 t150 _ A7.out).mono ?_
      rintro e w16 ⟨rfl, hb⟩
      refine ⟨_, rfl, ?_⟩
      replace BK146 := bkB BK146.out hb
      replace HB := bsB HB.out hb
      (try clear hb)
      refine hK.out _ _ (by repeat' (first | apply And.intro | exact (blk_cell BK146.out _).trans rfl)) (fun hHeld => ?_)
      clear hK K
      refine normA (some 24) ?_
      refine pureA HT_ (i := 10) (N := some 25) (bA 32 2047) ?_
      refine pureA HT_ (i := 11) (N := some 26) (bA 32 4095) ?_
      refine pureA HT_ (i := 12) (N := some 27) (bA 32 8191) ?_
      refine pureA HT_ (i := 13) (N := some 28) (bA 32 16383) ?_
      refine pureA HT_ (i := 14) (N := some 29) (bA 32 32767) ?_
      refine takeA HT_ HW_ hHeld (i := 15) (N := some 30) (bA 32 65535) ?_ (hy := by rintro w' ⟨s0, s1, s2, s3⟩; go_simp; with_reducible rfl)
      refine pureA HT_ (i := 16) (N := some 31) (bA 32 131071) ?_
      refine pureA HT_ (i := 17) (N := some 32) (bA 32 262143) ?_
      refine pureA HT_ (i := 18) (N := some 33) (bA 32 524287) ?_
      refine pureA HT_ (i := 19) (N := some 34) (bA 32 1048575) ?_
      refine pureA HT_ (i := 21) (N := some 36) (bA 32 3145727) ?_
      refine takeA HT_ HW_ hHeld (i := 20) (N := some 35) (bA 32 4194303) ?_ (hy := by rintro w' ⟨s0, s1, s2, s3⟩; go_simp; with_reducible rfl)
      refine takeA HT_ HW_ hHeld (i := 22) (N := some 37) (bA 32 8388607) ?_ (hy := by rintro w' ⟨s0, s1, s2, s3⟩; go_simp; with_reducible rfl)
      refine pureA HT_ (i := 23) (N := some 38) (bA 32 16777215) ?_
      refine pureA HT_ (i := 24) (N := some 39) (bA 32 33554431) ?_
      refine pureA HT_ (i := 25) (N := some 40) (bA 32 67108863) ?_
      refine pureU HT_ (i := 26) (N := some 41) (bA 32 134217727) ?_
      refine pureU HT_ (i := 27) (N := some 42) (bA 32 268435455) ?_
      refine pureU HT_ (i := 28) (N := some 43) (bA 32 536870911) ?_
      refine pureU HT_ (i := 29) (N := some 44) (bA 32 1073741823) ?_
      refine pureA HT_ (i := 30) (N := some 45) (bA 32 2147483647) ?_
      refine pureA HT_ (i := 31) (N := some 4) (bA 32 4294967295) ?_
      refine done_ (done_of HT_.out (by kernel_rfl)) ?_
      try go_wp2
      go_ret
      exact ⟨by first | rfl | (simp [errW_none, errW_some] <;> rfl) | (simp [*, errW_none, errW_some] <;> rfl), bsL HB.out⟩
    ·
     rw [if_neg c9] at H
     have c9b0 : decide (t148 ≤ a1_2) = false := decide_eq_false c9
     clear c9
     obtain rfl := Option.some.inj H
     go_enter Try.func21, Try.ntmps21
     try go_wp2_with (first | ((with_reducible refine gate_dst (N := 3) rfl ?_); refine boxE (N := 3) (cs := #[.int .u64 a1_0, .int .u64 a1_1, .int .i64 a1_2, .int .i64 a1_3]) (t := 30) ?_; intro gb146 hg w17 hbox hb; have BK146 := Aside0.mk (hbox); have GW146 := szB hg HB.out; have GE146 := szB hg HB.out; replace HB := bsB HB.out hb; clear hb hbox hg) | ((with_reducible refine gate_callee (f := 66) rfl ?_); refine gL (some 8) Try.func66 #[.int .i64 a0] ?_; (with_reducible refine (interval_good.calls a0 true _ A3.out).mono ?_); rintro e w' ⟨rfl, ⟨nd, rfl⟩⟩; refine ⟨_, rfl, ?_⟩) | ((with_reducible refine gate_callee (f := 55) rfl ?_); refine gL (some 12) Try.func55 #[.int .i64 a0] ?_; (with_reducible refine (interval_ends.calls a0 t148 t149 _ A5.out).mono ?_); rintro e w' ⟨rfl, ⟨nd, rfl⟩⟩; refine ⟨_, rfl, ?_⟩))
     (try (rw [drewN_self w17]; generalize hq_ : World.drewN w17 _ = w17; have n0_ : Aside0 (w17.heap[gb146]? = some (.cells #[.int .u64 a1_0, .int .u64 a1_1, .int .i64 a1_2, .int .i64 a1_3] 30 (0, 0))) := ⟨by rw [← hq_]; exact (by exact bfL BK146.out)⟩; have n1_ : Aside0 (Below w.heap.size w w17) := ⟨by rw [← hq_]; exact (by repeat (first | (with_reducible first | exact HB.out | apply below_alloc | apply pw_below_drewN | apply below_drew1 | refine below_set ?_ GE146.out) | exact HB.out))⟩; clear BK146 HB hq_; have BK146 := n0_; have HB := n1_; clear n0_ n1_))
     replace BK146 := Aside0.mk (blk_drew BK146.out)
     replace HB := Aside0.mk (below_drew1 HB.out)
     refine start_ (n := 32) (S := fun w' => w'.cell? ⟨gb146, 0, none⟩ = some (.int .u64 a1_0) ∧ w'.cell? ⟨gb146, 1, none⟩ = some (.int .u64 a1_1) ∧ w'.cell? ⟨gb146, 2, none⟩ = some (.int .i64 a1_2) ∧ w'.cell? ⟨gb146, 3, none⟩ = some (.int .i64 a1_3)) (ds := []) (bA 32 0) (by kernel_rfl) rfl rfl (by repeat' (first | apply And.intro | exact (blk_cell BK146.out _).trans rfl)) (fun hHeld => ?_); refine with_tabW interval_Valid.tab4 interval_Valid.bits4 (fun HT_ HW_ => ?_)
     generalize w17.drew = w18 at BK146 HB hHeld ⊢
     refine pureA HT_ (i := 0) (N := some 15) (bA 32 1) ?_
     refine pureA HT_ (i := 2) (N := some 17) (bA 32 5) ?_
     refine takeA HT_ HW_ hHeld (i := 1) (N := some 16) (bA 32 7) ?_ (hy := by rintro w' ⟨s0, s1, s2, s3⟩; go_simp; with_reducible rfl)
     refine takeA HT_ HW_ hHeld (i := 3) (N := some 18) (bA 32 15) ?_ (hy := by rintro w' ⟨s0, s1, s2, s3⟩; go_simp; with_reducible rfl)
     refine pureA HT_ (i := 4) (N := some 19) (bA 32 31) ?_
     refine pureA HT_ (i := 5) (N := some 20) (bA 32 63) ?_
     refine pureA HT_ (i := 6) (N := some 21) (bA 32 127) ?_
     refine pureA HT_ (i := 8) (N := some 23) (bA 32 383) ?_
     refine takeA HT_ HW_ hHeld (i := 7) (N := some 22) (bA 32 511) ?_ (hy := by rintro w' ⟨s0, s1, s2, s3⟩; go_simp; with_reducible rfl)
     refine one_ (i := 9) (N := some 24) (bA 32 1023) rfl rfl (one_of HT_.out (by kernel_rfl)) (by decide) (fun K hK => ?_)
     refine gO Try.func56 #[.int .i64 a0] ?_
     with_reducible refine (bits_Mask.calls a0 t150 _ A7.out).mono ?_
     rintro e w19 ⟨rfl, hb⟩
     refine ⟨_, rfl, ?_⟩
     replace BK146 := bkB BK146.out hb
     replace HB := bsB HB.out hb
     (try clear hb)
     refine hK.out _ _ (by repeat' (first | apply And.intro | exact (blk_cell BK146.out _).trans rfl)) (fun hHeld => ?_)
     clear hK K
     refine normA (some 24) ?_
     refine pureA HT_ (i := 10) (N := some 25) (bA 32 2047) ?_
     refine pureA HT_ (i := 11) (N := some 26) (bA 32 4095) ?_
     refine pureA HT_ (i := 12) (N := some 27) (bA 32 8191) ?_
     refine pureA HT_ (i := 13) (N := some 28) (bA 32 16383) ?_
     refine pureA HT_ (i := 14) (N := some 29) (bA 32 32767) ?_
     refine takeA HT_ HW_ hHeld (i := 15) (N := some 30) (bA 32 65535) ?_ (hy := by rintro w' ⟨s0, s1, s2, s3⟩; go_simp; with_reducible rfl)
     refine pureA HT_ (i := 16) (N := some 31) (bA 32 131071) ?_
     refine pureA HT_ (i := 17) (N := some 32) (bA 32 262143) ?_
     refine pureA HT_ (i := 18) (N := some 33) (bA 32 524287) ?_
     refine pureU HT_ (i := 19) (N := some 34) (bA 32 1048575) ?_
     refine pureU HT_ (i := 20) (N := some 35) (bA 32 2097151) ?_
     refine pureU HT_ (i := 21) (N := some 36) (bA 32 4194303) ?_
     refine pureU HT_ (i := 22) (N := some 37) (bA 32 8388607) ?_
     refine pureU HT_ (i := 23) (N := some 38) (bA 32 16777215) ?_
     refine pureA HT_ (i := 24) (N := some 39) (bA 32 33554431) ?_
     refine pureA HT_ (i := 25) (N := some 40) (bA 32 67108863) ?_
     refine pureU HT_ (i := 26) (N := some 41) (bA 32 134217727) ?_
     refine pureU HT_ (i := 27) (N := some 42) (bA 32 268435455) ?_
     refine pureU HT_ (i := 28) (N := some 43) (bA 32 536870911) ?_
     refine pureU HT_ (i := 29) (N := some 44) (bA 32 1073741823) ?_
     refine pureA HT_ (i := 30) (N := some 45) (bA 32 2147483647) ?_
     refine pureA HT_ (i := 31) (N := some 4) (bA 32 4294967295) ?_
     refine done_ (done_of HT_.out (by kernel_rfl)) ?_
     try go_wp2
     go_ret
     exact ⟨by first | rfl | (simp [errW_none, errW_some] <;> rfl) | (simp [*, errW_none, errW_some] <;> rfl), bsL HB.out⟩
   ·
    rw [if_neg c8] at H
    have c8b0 : decide (a1_1 ≤ t150) = false := decide_eq_false c8
    clear c8
    obtain rfl := Option.some.inj H
    go_enter Try.func21, Try.ntmps21
    try go_wp2_with (first | ((with_reducible refine gate_dst (N := 3) rfl ?_); refine boxE (N := 3) (cs := #[.int .u64 a1_0, .int .u64 a1_1, .int .i64 a1_2, .int .i64 a1_3]) (t := 30) ?_; intro gb146 hg w20 hbox hb; have BK146 := Aside0.mk (hbox); have GW146 := szB hg HB.out; have GE146 := szB hg HB.out; replace HB := bsB HB.out hb; clear hb hbox hg) | ((with_reducible refine gate_callee (f := 66) rfl ?_); refine gL (some 8) Try.func66 #[.int .i64 a0] ?_; (with_reducible refine (interval_good.calls a0 true _ A3.out).mono ?_); rintro e w' ⟨rfl, ⟨nd, rfl⟩⟩; refine ⟨_, rfl, ?_⟩) | ((with_reducible refine gate_callee (f := 55) rfl ?_); refine gL (some 12) Try.func55 #[.int .i64 a0] ?_; (with_reducible refine (interval_ends.calls a0 t148 t149 _ A5.out).mono ?_); rintro e w' ⟨rfl, ⟨nd, rfl⟩⟩; refine ⟨_, rfl, ?_⟩))
    (try (rw [drewN_self w20]; generalize hq_ : World.drewN w20 _ = w20; have n0_ : Aside0 (w20.heap[gb146]? = some (.cells #[.int .u64 a1_0, .int .u64 a1_1, .int .i64 a1_2, .int .i64 a1_3] 30 (0, 0))) := ⟨by rw [← hq_]; exact (by exact bfL BK146.out)⟩; have n1_ : Aside0 (Below w.heap.size w w20) := ⟨by rw [← hq_]; exact (by repeat (first | (with_reducible first | exact HB.out | apply below_alloc | apply pw_below_drewN | apply below_drew1 | refine below_set ?_ GE146.out) | exact HB.out))⟩; clear BK146 HB hq_; have BK146 := n0_; have HB := n1_; clear n0_ n1_))
    replace BK146 := Aside0.mk (blk_drew BK146.out)
    replace HB := Aside0.mk (below_drew1 HB.out)
    refine start_ (n := 32) (S := fun w' => w'.cell? ⟨gb146, 0, none⟩ = some (.int .u64 a1_0) ∧ w'.cell? ⟨gb146, 1, none⟩ = some (.int .u64 a1_1) ∧ w'.cell? ⟨gb146, 2, none⟩ = some (.int .i64 a1_2) ∧ w'.cell? ⟨gb146, 3, none⟩ = some (.int .i64 a1_3)) (ds := []) (bA 32 0) (by kernel_rfl) rfl rfl (by repeat' (first | apply And.intro | exact (blk_cell BK146.out _).trans rfl)) (fun hHeld => ?_); refine with_tabW interval_Valid.tab4 interval_Valid.bits4 (fun HT_ HW_ => ?_)
    generalize w20.drew = w21 at BK146 HB hHeld ⊢
    refine pureA HT_ (i := 0) (N := some 15) (bA 32 1) ?_
    refine pureA HT_ (i := 2) (N := some 17) (bA 32 5) ?_
    refine takeA HT_ HW_ hHeld (i := 1) (N := some 16) (bA 32 7) ?_ (hy := by rintro w' ⟨s0, s1, s2, s3⟩; go_simp; with_reducible rfl)
    refine takeA HT_ HW_ hHeld (i := 3) (N := some 18) (bA 32 15) ?_ (hy := by rintro w' ⟨s0, s1, s2, s3⟩; go_simp; with_reducible rfl)
    refine pureA HT_ (i := 4) (N := some 19) (bA 32 31) ?_
    refine pureA HT_ (i := 5) (N := some 20) (bA 32 63) ?_
    refine pureA HT_ (i := 6) (N := some 21) (bA 32 127) ?_
    refine pureA HT_ (i := 8) (N := some 23) (bA 32 383) ?_
    refine takeA HT_ HW_ hHeld (i := 7) (N := some 22) (bA 32 511) ?_ (hy := by rintro w' ⟨s0, s1, s2, s3⟩; go_simp; with_reducible rfl)
    refine one_ (i := 9) (N := some 24) (bA 32 1023) rfl rfl (one_of HT_.out (by kernel_rfl)) (by decide) (fun K hK => ?_)
    refine gO Try.func56 #[.int .i64 a0] ?_
    with_reducible refine (bits_Mask.calls a0 t150 _ A7.out).mono ?_
    rintro e w22 ⟨rfl, hb⟩
    refine ⟨_, rfl, ?_⟩
    replace BK146 := bkB BK146.out hb
    replace HB := bsB HB.out hb
    (try clear hb)
    refine hK.out _ _ (by repeat' (first | apply And.intro | exact (blk_cell BK146.out _).trans rfl)) (fun hHeld => ?_)
    clear hK K
    refine normA (some 24) ?_
    refine pureA HT_ (i := 10) (N := some 25) (bA 32 2047) ?_
    refine pureA HT_ (i := 11) (N := some 26) (bA 32 4095) ?_
    refine pureA HT_ (i := 12) (N := some 27) (bA 32 8191) ?_
    refine pureU HT_ (i := 13) (N := some 28) (bA 32 16383) ?_
    refine pureU HT_ (i := 14) (N := some 29) (bA 32 32767) ?_
    refine pureU HT_ (i := 15) (N := some 30) (bA 32 65535) ?_
    refine pureU HT_ (i := 16) (N := some 31) (bA 32 131071) ?_
    refine pureA HT_ (i := 17) (N := some 32) (bA 32 262143) ?_
    refine pureA HT_ (i := 18) (N := some 33) (bA 32 524287) ?_
    refine pureU HT_ (i := 19) (N := some 34) (bA 32 1048575) ?_
    refine pureU HT_ (i := 20) (N := some 35) (bA 32 2097151) ?_
    refine pureU HT_ (i := 21) (N := some 36) (bA 32 4194303) ?_
    refine pureU HT_ (i := 22) (N := some 37) (bA 32 8388607) ?_
    refine pureU HT_ (i := 23) (N := some 38) (bA 32 16777215) ?_
    refine pureA HT_ (i := 24) (N := some 39) (bA 32 33554431) ?_
    refine pureA HT_ (i := 25) (N := some 40) (bA 32 67108863) ?_
    refine pureU HT_ (i := 26) (N := some 41) (bA 32 134217727) ?_
    refine pureU HT_ (i := 27) (N := some 42) (bA 32 268435455) ?_
    refine pureU HT_ (i := 28) (N := some 43) (bA 32 536870911) ?_
    refine pureU HT_ (i := 29) (N := some 44) (bA 32 1073741823) ?_
    refine pureA HT_ (i := 30) (N := some 45) (bA 32 2147483647) ?_
    refine pureA HT_ (i := 31) (N := some 4) (bA 32 4294967295) ?_
    refine done_ (done_of HT_.out (by kernel_rfl)) ?_
    try go_wp2
    go_ret
    exact ⟨by first | rfl | (simp [errW_none, errW_some] <;> rfl) | (simp [*, errW_none, errW_some] <;> rfl), bsL HB.out⟩
  ·
   rw [if_neg c6] at H
   have c6b0 : decide (a1_0 ≤ a1_1) = false := decide_eq_false c6
   clear c6
   obtain rfl := Option.some.inj H
   go_enter Try.func21, Try.ntmps21
   try go_wp2_with (first | ((with_reducible refine gate_dst (N := 3) rfl ?_); refine boxE (N := 3) (cs := #[.int .u64 a1_0, .int .u64 a1_1, .int .i64 a1_2, .int .i64 a1_3]) (t := 30) ?_; intro gb146 hg w23 hbox hb; have BK146 := Aside0.mk (hbox); have GW146 := szB hg HB.out; have GE146 := szB hg HB.out; replace HB := bsB HB.out hb; clear hb hbox hg) | ((with_reducible refine gate_callee (f := 66) rfl ?_); refine gL (some 8) Try.func66 #[.int .i64 a0] ?_; (with_reducible refine (interval_good.calls a0 true _ A3.out).mono ?_); rintro e w' ⟨rfl, ⟨nd, rfl⟩⟩; refine ⟨_, rfl, ?_⟩) | ((with_reducible refine gate_callee (f := 55) rfl ?_); refine gL (some 12) Try.func55 #[.int .i64 a0] ?_; (with_reducible refine (interval_ends.calls a0 t148 t149 _ A5.out).mono ?_); rintro e w' ⟨rfl, ⟨nd, rfl⟩⟩; refine ⟨_, rfl, ?_⟩))
   (try (rw [drewN_self w23]; generalize hq_ : World.drewN w23 _ = w23; have n0_ : Aside0 (w23.heap[gb146]? = some (.cells #[.int .u64 a1_0, .int .u64 a1_1, .int .i64 a1_2, .int .i64 a1_3] 30 (0, 0))) := ⟨by rw [← hq_]; exact (by exact bfL BK146.out)⟩; have n1_ : Aside0 (Below w.heap.size w w23) := ⟨by rw [← hq_]; exact (by repeat (first | (with_reducible first | exact HB.out | apply below_alloc | apply pw_below_drewN | apply below_drew1 | refine below_set ?_ GE146.out) | exact HB.out))⟩; clear BK146 HB hq_; have BK146 := n0_; have HB := n1_; clear n0_ n1_))
   replace BK146 := Aside0.mk (blk_drew BK146.out)
   replace HB := Aside0.mk (below_drew1 HB.out)
   refine start_ (n := 32) (S := fun w' => w'.cell? ⟨gb146, 0, none⟩ = some (.int .u64 a1_0) ∧ w'.cell? ⟨gb146, 1, none⟩ = some (.int .u64 a1_1) ∧ w'.cell? ⟨gb146, 2, none⟩ = some (.int .i64 a1_2) ∧ w'.cell? ⟨gb146, 3, none⟩ = some (.int .i64 a1_3)) (ds := []) (bA 32 0) (by kernel_rfl) rfl rfl (by repeat' (first | apply And.intro | exact (blk_cell BK146.out _).trans rfl)) (fun hHeld => ?_); refine with_tabW interval_Valid.tab4 interval_Valid.bits4 (fun HT_ HW_ => ?_)
   generalize w23.drew = w24 at BK146 HB hHeld ⊢
   refine pureA HT_ (i := 0) (N := some 15) (bA 32 1) ?_
   refine pureA HT_ (i := 2) (N := some 17) (bA 32 5) ?_
   refine takeA HT_ HW_ hHeld (i := 1) (N := some 16) (bA 32 7) ?_ (hy := by rintro w' ⟨s0, s1, s2, s3⟩; go_simp; with_reducible rfl)
   refine takeA HT_ HW_ hHeld (i := 3) (N := some 18) (bA 32 15) ?_ (hy := by rintro w' ⟨s0, s1, s2, s3⟩; go_simp; with_reducible rfl)
   refine pureA HT_ (i := 4) (N := some 19) (bA 32 31) ?_
   refine pureA HT_ (i := 5) (N := some 20) (bA 32 63) ?_
   refine pureU HT_ (i := 6) (N := some 21) (bA 32 127) ?_
   refine pureU HT_ (i := 7) (N := some 22) (bA 32 255) ?_
   refine pureU HT_ (i := 8) (N := some 23) (bA 32 511) ?_
   refine pureU HT_ (i := 9) (N := some 24) (bA 32 1023) ?_
   refine pureU HT_ (i := 10) (N := some 25) (bA 32 2047) ?_
   refine pureA HT_ (i := 11) (N := some 26) (bA 32 4095) ?_
   refine pureA HT_ (i := 12) (N := some 27) (bA 32 8191) ?_
   refine pureU HT_ (i := 13) (N := some 28) (bA 32 16383) ?_
   refine pureU HT_ (i := 14) (N := some 29) (bA 32 32767) ?_
   refine pureU HT_ (i := 15) (N := some 30) (bA 32 65535) ?_
   refine pureU HT_ (i := 16) (N := some 31) (bA 32 131071) ?_
   refine pureA HT_ (i := 17) (N := some 32) (bA 32 262143) ?_
   refine pureA HT_ (i := 18) (N := some 33) (bA 32 524287) ?_
   refine pureU HT_ (i := 19) (N := some 34) (bA 32 1048575) ?_
   refine pureU HT_ (i := 20) (N := some 35) (bA 32 2097151) ?_
   refine pureU HT_ (i := 21) (N := some 36) (bA 32 4194303) ?_
   refine pureU HT_ (i := 22) (N := some 37) (bA 32 8388607) ?_
   refine pureU HT_ (i := 23) (N := some 38) (bA 32 16777215) ?_
   refine pureA HT_ (i := 24) (N := some 39) (bA 32 33554431) ?_
   refine pureA HT_ (i := 25) (N := some 40) (bA 32 67108863) ?_
   refine pureU HT_ (i := 26) (N := some 41) (bA 32 134217727) ?_
   refine pureU HT_ (i := 27) (N := some 42) (bA 32 268435455) ?_
   refine pureU HT_ (i := 28) (N := some 43) (bA 32 536870911) ?_
   refine pureU HT_ (i := 29) (N := some 44) (bA 32 1073741823) ?_
   refine pureA HT_ (i := 30) (N := some 45) (bA 32 2147483647) ?_
   refine pureA HT_ (i := 31) (N := some 4) (bA 32 4294967295) ?_
   refine done_ (done_of HT_.out (by kernel_rfl)) ?_
   try go_wp2
   go_ret
   exact ⟨by first | rfl | (simp [errW_none, errW_some] <;> rfl) | (simp [*, errW_none, errW_some] <;> rfl), bsL HB.out⟩
 ·
  replace c4 := Bool.eq_false_iff.mpr c4
  subst c4
  have H1 : (some false) = some r := by rw [if_neg (show ¬ (false = true) by decide)] at H; exact H
  clear H
  have H := H1
  clear H1
  obtain rfl := Option.some.inj H
  go_enter Try.func21, Try.ntmps21
  go_wp2_with (first | ((with_reducible refine gate_dst (N := 3) rfl ?_); refine boxE (N := 3) (cs := #[.int .u64 a1_0, .int .u64 a1_1, .int .i64 a1_2, .int .i64 a1_3]) (t := 30) ?_; intro gb146 hg w25 hbox hb; have BK146 := Aside0.mk (hbox); have GW146 := szB hg HB.out; have GE146 := szB hg HB.out; replace HB := bsB HB.out hb; clear hb hbox hg) | ((with_reducible refine gate_callee (f := 66) rfl ?_); refine gL (some 8) Try.func66 #[.int .i64 a0] ?_; (with_reducible refine (interval_good.calls a0 false _ A3.out).mono ?_); rintro e w' ⟨rfl, ⟨nd, rfl⟩⟩; refine ⟨_, rfl, ?_⟩))
  go_ret
  exact ⟨by first | rfl | (simp [errW_none, errW_some] <;> rfl) | (simp [*, errW_none, errW_some] <;> rfl), bsL HB.out⟩

/-! ### facts_span: function 76 -/
def facts_span.f (a0_0 : Int) (a0_1 : Int) (a0_2 : Int) (a0_3 : Int) (a0_4 : Int) (a0_5 : Int) : Option (Int × Int × Int × Int) := some (a0_2, a0_3, a0_4, a0_5)
set_option maxHeartbeats 8000000 in
set_option maxRecDepth 100000 in
theorem facts_span.calls (a0_0 : Int) (a0_1 : Int) (a0_2 : Int) (a0_3 : Int) (a0_4 : Int) (a0_5 : Int) (r1 : Int) (r2 : Int) (r3 : Int) (r4 : Int) (w : World) (h : facts_span.f a0_0 a0_1 a0_2 a0_3 a0_4 a0_5 = some (r1, r2, r3, r4)) :
  Calls Try.prog 76 #[.agg #[.int .u64 a0_0, .int .u64 a0_1, .int .u64 a0_2, .int .u64 a0_3, .int .i64 a0_4, .int .i64 a0_5]] w fun e w' => e = .returned (.agg #[.int .u64 r1, .int .u64 r2, .int .i64 r3, .int .i64 r4]) ∧ Below w.heap.size w w' := by
 have hu50 := Try.underlying50
 have hu30 := Try.underlying30
 have HB := Aside0.mk (Below.refl w.heap.size w)
 have H : (some (a0_2, a0_3, a0_4, a0_5)) = some (r1, r2, r3, r4) := h
 clear h
 simp only [Option.some.injEq, Prod.mk.injEq] at H
 obtain ⟨rfl, rfl, rfl, rfl⟩ := H
 go_enter Try.func76, Try.ntmps76
 go_wp2_with (first | ((with_reducible refine gate_dst (N := 1) rfl ?_); refine boxE (N := 1) (cs := #[.int .u64 a0_0, .int .u64 a0_1, .int .u64 a0_2, .int .u64 a0_3, .int .i64 a0_4, .int .i64 a0_5]) (t := 50) ?_; intro gb151 hg w2 hbox hb; have BK151 := Aside0.mk (hbox); have GW151 := szB hg HB.out; have GE151 := szB hg HB.out; replace HB := bsB HB.out hb; clear hb hbox hg) | ((with_reducible refine gate_dst (N := 2) rfl ?_); refine boxE (N := 2) (cs := #[.int .u64 0, .int .u64 0, .int .i64 0, .int .i64 0]) (t := 30) ?_; intro gb152 hg w3 hbox hb; have BK152 := Aside0.mk (hbox); have GW152 := szB hg HB.out; have GE152 := szB hg HB.out; have NB151_152 := neL hg BK151.out; have NB152_151 := neG hg BK151.out; replace BK151 := bkB BK151.out hb; replace HB := bsB HB.out hb; clear hb hbox hg; have hnb4 := NB151_152.out; have hnc4 := NB152_151.out; obtain ⟨hcz5_0, hcz5_1, hcz5_2, hcz5_3, hcz5_4, hcz5_5, hfz5_0, hfz5_1, hfz5_2, hfz5_3, hfz5_4, hfz5_5⟩ := own6 BK151.out; obtain ⟨hcz6_0, hcz6_1, hcz6_2, hcz6_3, hfz6_0, hfz6_1, hfz6_2, hfz6_3⟩ := own4 BK152.out))
 refine bodyPost_ret (results_cell_row rfl _ _ gb152 30 #[.int .u64 a0_2, .int .u64 a0_3, .int .i64 a0_4, .int .i64 a0_5] (0, 0) _ rfl (by (with_reducible repeat (first | refine blk_drewN ?_ _ | refine blk_drew ?_ | refine blk_alloc ?_ _)); refine blk_put (cs := #[.int .u64 a0_2, .int .u64 a0_3, .int .i64 a0_4, .int .i64 0]) ?_ 3 _ rfl; (with_reducible repeat (first | refine blk_drewN ?_ _ | refine blk_drew ?_ | refine blk_alloc ?_ _)); refine blk_put (cs := #[.int .u64 a0_2, .int .u64 a0_3, .int .i64 0, .int .i64 0]) ?_ 2 _ rfl; (with_reducible repeat (first | refine blk_drewN ?_ _ | refine blk_drew ?_ | refine blk_alloc ?_ _)); refine blk_put (cs := #[.int .u64 a0_2, .int .u64 0, .int .i64 0, .int .i64 0]) ?_ 1 _ rfl; (with_reducible repeat (first | refine blk_drewN ?_ _ | refine blk_drew ?_ | refine blk_alloc ?_ _)); refine blk_put (cs := #[.int .u64 0, .int .u64 0, .int .i64 0, .int .i64 0]) ?_ 0 _ rfl; exact bfL BK152.out) Try.underlying30 rfl (by kernel_rfl)) rfl ?_
 exact ⟨by first | rfl | (simp [errW_none, errW_some] <;> rfl) | (simp [*, errW_none, errW_some] <;> rfl), bsL HB.out⟩

/-! ### facts_known: function 86 -/
def facts_known.f (a0_0 : Int) (a0_1 : Int) (a0_2 : Int) (a0_3 : Int) (a0_4 : Int) (a0_5 : Int) : Option (Int × Int) := some (a0_0, a0_1)
set_option maxHeartbeats 8000000 in
set_option maxRecDepth 100000 in
theorem facts_known.calls (a0_0 : Int) (a0_1 : Int) (a0_2 : Int) (a0_3 : Int) (a0_4 : Int) (a0_5 : Int) (r1 : Int) (r2 : Int) (w : World) (h : facts_known.f a0_0 a0_1 a0_2 a0_3 a0_4 a0_5 = some (r1, r2)) :
  Calls Try.prog 86 #[.agg #[.int .u64 a0_0, .int .u64 a0_1, .int .u64 a0_2, .int .u64 a0_3, .int .i64 a0_4, .int .i64 a0_5]] w fun e w' => e = .returned (.agg #[.int .u64 r1, .int .u64 r2]) ∧ Below w.heap.size w w' := by
 have hu50 := Try.underlying50
 have hu110 := Try.underlying110
 have HB := Aside0.mk (Below.refl w.heap.size w)
 have H : (some (a0_0, a0_1)) = some (r1, r2) := h
 clear h
 simp only [Option.some.injEq, Prod.mk.injEq] at H
 obtain ⟨rfl, rfl⟩ := H
 go_enter Try.func86, Try.ntmps86
 go_wp2_with (first | ((with_reducible refine gate_dst (N := 1) rfl ?_); refine boxE (N := 1) (cs := #[.int .u64 a0_0, .int .u64 a0_1, .int .u64 a0_2, .int .u64 a0_3, .int .i64 a0_4, .int .i64 a0_5]) (t := 50) ?_; intro gb153 hg w2 hbox hb; have BK153 := Aside0.mk (hbox); have GW153 := szB hg HB.out; have GE153 := szB hg HB.out; replace HB := bsB HB.out hb; clear hb hbox hg) | ((with_reducible refine gate_dst (N := 2) rfl ?_); refine boxE (N := 2) (cs := #[.int .u64 0, .int .u64 0]) (t := 110) ?_; intro gb154 hg w3 hbox hb; have BK154 := Aside0.mk (hbox); have GW154 := szB hg HB.out; have GE154 := szB hg HB.out; have NB153_154 := neL hg BK153.out; have NB154_153 := neG hg BK153.out; replace BK153 := bkB BK153.out hb; replace HB := bsB HB.out hb; clear hb hbox hg; have hnb4 := NB153_154.out; have hnc4 := NB154_153.out; obtain ⟨hcz5_0, hcz5_1, hcz5_2, hcz5_3, hcz5_4, hcz5_5, hfz5_0, hfz5_1, hfz5_2, hfz5_3, hfz5_4, hfz5_5⟩ := own6 BK153.out; obtain ⟨hcz6_0, hcz6_1, hfz6_0, hfz6_1⟩ := own2 BK154.out))
 refine bodyPost_ret (results_cell_row rfl _ _ gb154 110 #[.int .u64 a0_0, .int .u64 a0_1] (0, 0) _ rfl (by (with_reducible repeat (first | refine blk_drewN ?_ _ | refine blk_drew ?_ | refine blk_alloc ?_ _)); refine blk_put (cs := #[.int .u64 a0_0, .int .u64 0]) ?_ 1 _ rfl; (with_reducible repeat (first | refine blk_drewN ?_ _ | refine blk_drew ?_ | refine blk_alloc ?_ _)); refine blk_put (cs := #[.int .u64 0, .int .u64 0]) ?_ 0 _ rfl; exact bfL BK154.out) Try.underlying110 rfl (by kernel_rfl)) rfl ?_
 exact ⟨by first | rfl | (simp [errW_none, errW_some] <;> rfl) | (simp [*, errW_none, errW_some] <;> rfl), bsL HB.out⟩

/-! ### knownbits_Valid: function 91 -/
def knownbits_Valid.f (a0 : Int) (a1_0 : Int) (a1_1 : Int) : Option (Bool) := (knownbits_good.f a0).bind fun t156 => (if t156 = true then ((knownbits_mask.f a0).bind fun t157 => (if (Go.bits .andNot .u64 (Go.bits .or .u64 a1_0 a1_1) t157) = 0 then (some ((Go.bits .and .u64 a1_0 a1_1) == 0)) else (some false))) else (some false))
def knownbits_Valid.T1 : Bool × List (List Nat × List Nat) := (true, [([], []), ([0], [0]), ([1, 1], [1]), ([2], [2]), ([3, 2], [2, 3]), ([2], [2]), ([5, 2], [2, 5]), ([4, 6, 2], [2, 4, 6]), ([2], [2]), ([8, 2, 2], [2, 8]), ([7, 9, 2], [2, 7, 9]), ([10, 2], [2, 10]), ([2, 11], [2, 11]), ([12, 9], [12]), ([13], [13]), ([14, 13], [13, 14]), ([13], [13]), ([16, 13], [13, 16]), ([15, 17, 13], [13, 15, 17]), ([18, 13], [13, 18]), ([13, 19], [13, 19]), ([20, 13, 0, 1, 2, 3, 4, 5, 6, 7, 8, 9, 10, 11, 12, 13, 14, 15, 16, 17, 18, 19, 20], [20])])
def knownbits_Valid.B1 : List Nat := [0, 1, 3, 7, 15, 7, 39, 127, 7, 263, 1023, 2047, 4095, 8191, 16383, 32767, 16383, 81919, 262143, 524287, 1048575, 2097151]
theorem knownbits_Valid.tab1 : rtab .any (opsOf Try.f91 1) = knownbits_Valid.T1 := by kernel_rfl
theorem knownbits_Valid.bits1 : waitsOk knownbits_Valid.T1.2 knownbits_Valid.B1 = true := by kernel_rfl
set_option maxHeartbeats 8000000 in
set_option maxRecDepth 100000 in
theorem knownbits_Valid.calls (a0 : Int) (a1_0 : Int) (a1_1 : Int) (r : Bool) (w : World) (h : knownbits_Valid.f a0 a1_0 a1_1 = some r) :
  Calls Try.prog 91 #[.int .i64 a0, .agg #[.int .u64 a1_0, .int .u64 a1_1]] w fun e w' => e = .returned (.bool r) ∧ Below w.heap.size w w' := by
 have hu110 := Try.underlying110
 have HB := Aside0.mk (Below.refl w.heap.size w)
 have H : ((knownbits_good.f a0).bind fun t156 => (if t156 = true then ((knownbits_mask.f a0).bind fun t157 => (if (Go.bits .andNot .u64 (Go.bits .or .u64 a1_0 a1_1) t157) = 0 then (some ((Go.bits .and .u64 a1_0 a1_1) == 0)) else (some false))) else (some false))) = some r := h
 clear h
 replace H := Option.bind_eq_some_iff.mp H
 obtain ⟨t156, A30, H⟩ := H
 replace H : (if t156 = true then ((knownbits_mask.f a0).bind fun t157 => (if (Go.bits .andNot .u64 (Go.bits .or .u64 a1_0 a1_1) t157) = 0 then (some ((Go.bits .and .u64 a1_0 a1_1) == 0)) else (some false))) else (some false)) = some r := H
 have A3 := Aside0.mk A30
 clear A30
 by_cases c4 : t156 = true
 ·
  subst c4
  have H1 : ((knownbits_mask.f a0).bind fun t157 => (if (Go.bits .andNot .u64 (Go.bits .or .u64 a1_0 a1_1) t157) = 0 then (some ((Go.bits .and .u64 a1_0 a1_1) == 0)) else (some false))) = some r := by rw [if_pos rfl] at H; exact H
  clear H
  have H := H1
  clear H1
  replace H := Option.bind_eq_some_iff.mp H
  obtain ⟨t157, A50, H⟩ := H
  replace H : (if (Go.bits .andNot .u64 (Go.bits .or .u64 a1_0 a1_1) t157) = 0 then (some ((Go.bits .and .u64 a1_0 a1_1) == 0)) else (some false)) = some r := H
  have A5 := Aside0.mk A50
  clear A50
  by_cases c6 : (Go.bits .andNot .u64 (Go.bits .or .u64 a1_0 a1_1) t157) = 0
  ·
   rw [if_pos c6] at H
   have c6b0 : ((Go.bits .andNot .u64 (Go.bits .or .u64 a1_0 a1_1) t157) == 0) = true := beq_iff_eq.mpr c6
   have c6b1 : ((Go.bits .andNot .u64 (Go.bits .or .u64 a1_0 a1_1) t157) != 0) = false := bne_eq_false_iff_eq.mpr c6
   clear c6
   obtain rfl := Option.some.inj H
   go_enter Try.func91, Try.ntmps91
   try go_wp2_with (first | ((with_reducible refine gate_dst (N := 3) rfl ?_); refine boxE (N := 3) (cs := #[.int .u64 a1_0, .int .u64 a1_1]) (t := 110) ?_; intro gb155 hg w7 hbox hb; have BK155 := Aside0.mk (hbox); have GW155 := szB hg HB.out; have GE155 := szB hg HB.out; replace HB := bsB HB.out hb; clear hb hbox hg))
   replace BK155 := Aside0.mk (blk_drew BK155.out)
   replace HB := Aside0.mk (below_drew1 HB.out)
   refine start_ (n := 22) (S := fun w' => w'.cell? ⟨gb155, 0, none⟩ = some (.int .u64 a1_0) ∧ w'.cell? ⟨gb155, 1, none⟩ = some (.int .u64 a1_1)) (ds := []) (bA 22 0) (by kernel_rfl) rfl rfl ⟨(blk_cell BK155.out 0).trans rfl, (blk_cell BK155.out 1).trans rfl⟩ (fun hHeld => ?_); refine with_tabW knownbits_Valid.tab1 knownbits_Valid.bits1 (fun HT_ HW_ => ?_)
   generalize w7.drew = w8 at BK155 HB hHeld ⊢
   refine pureA HT_ (i := 0) (N := some 5) (bA 22 1) ?_
   refine one_ (i := 1) (N := some 6) (bA 22 3) rfl rfl (one_of HT_.out (by kernel_rfl)) (by decide) (fun K hK => ?_)
   refine gO Try.func146 #[.int .i64 a0] ?_
   with_reducible refine (knownbits_good.calls a0 true _ A3.out).mono ?_
   rintro e w' ⟨rfl, ⟨nd, rfl⟩⟩
   refine ⟨_, rfl, ?_⟩
   refine hK.out _ _ ⟨(blk_cell BK155.out 0).trans rfl, (blk_cell BK155.out 1).trans rfl⟩ (fun hHeld => ?_)
   clear hK K
   refine normA (some 6) ?_
   refine pureA HT_ (i := 2) (N := some 7) (bA 22 7) ?_
   refine pureA HT_ (i := 3) (N := some 8) (bA 22 15) ?_
   refine pureA HT_ (i := 5) (N := some 10) (bA 22 47) ?_
   refine pureA HT_ (i := 8) (N := some 13) (bA 22 303) ?_
   refine takeA HT_ HW_ hHeld (i := 4) (N := some 9) (bA 22 319) ?_ (hy := by rintro w' ⟨s0, s1⟩; go_simp; with_reducible rfl)
   refine takeA HT_ HW_ hHeld (i := 6) (N := some 11) (bA 22 383) ?_ (hy := by rintro w' ⟨s0, s1⟩; go_simp; with_reducible rfl)
   refine pureA HT_ (i := 7) (N := some 12) (bA 22 511) ?_
   refine one_ (i := 9) (N := some 14) (bA 22 1023) rfl rfl (one_of HT_.out (by kernel_rfl)) (by decide) (fun K hK => ?_)
   refine gO Try.func147 #[.int .i64 a0] ?_
   with_reducible refine (knownbits_mask.calls a0 t157 _ A5.out).mono ?_
   rintro e w9 ⟨rfl, hb⟩
   refine ⟨_, rfl, ?_⟩
   replace BK155 := bkB BK155.out hb
   replace HB := bsB HB.out hb
   (try clear hb)
   refine hK.out _ _ ⟨(blk_cell BK155.out 0).trans rfl, (blk_cell BK155.out 1).trans rfl⟩ (fun hHeld => ?_)
   clear hK K
   refine normA (some 14) ?_
   refine pureA HT_ (i := 10) (N := some 15) (bA 22 2047) ?_
   refine pureA HT_ (i := 11) (N := some 16) (bA 22 4095) ?_
   refine pureA HT_ (i := 12) (N := some 17) (bA 22 8191) ?_
   refine pureA HT_ (i := 13) (N := some 18) (bA 22 16383) ?_
   refine pureA HT_ (i := 14) (N := some 19) (bA 22 32767) ?_
   refine pureA HT_ (i := 16) (N := some 21) (bA 22 98303) ?_
   refine takeA HT_ HW_ hHeld (i := 15) (N := some 20) (bA 22 131071) ?_ (hy := by rintro w' ⟨s0, s1⟩; go_simp; with_reducible rfl)
   refine takeA HT_ HW_ hHeld (i := 17) (N := some 22) (bA 22 262143) ?_ (hy := by rintro w' ⟨s0, s1⟩; go_simp; with_reducible rfl)
   refine pureA HT_ (i := 18) (N := some 23) (bA 22 524287) ?_
   refine pureA HT_ (i := 19) (N := some 24) (bA 22 1048575) ?_
   refine pureA HT_ (i := 20) (N := some 25) (bA 22 2097151) ?_
   refine pureA HT_ (i := 21) (N := some 4) (bA 22 4194303) ?_
   refine done_ (done_of HT_.out (by kernel_rfl)) ?_
   try go_wp2
   go_ret
   exact ⟨by first | rfl | (simp [errW_none, errW_some] <;> rfl) | (simp [*, errW_none, errW_some] <;> rfl), bsL HB.out⟩
  ·
   rw [if_neg c6] at H
   have c6b0 : ((Go.bits .andNot .u64 (Go.bits .or .u64 a1_0 a1_1) t157) == 0) = false := beq_eq_false_iff_ne.mpr c6
   have c6b1 : ((Go.bits .andNot .u64 (Go.bits .or .u64 a1_0 a1_1) t157) != 0) = true := bne_iff_ne.mpr c6
   obtain rfl := Option.some.inj H
   go_enter Try.func91, Try.ntmps91
   try go_wp2_with (first | ((with_reducible refine gate_dst (N := 3) rfl ?_); refine boxE (N := 3) (cs := #[.int .u64 a1_0, .int .u64 a1_1]) (t := 110) ?_; intro gb155 hg w10 hbox hb; have BK155 := Aside0.mk (hbox); have GW155 := szB hg HB.out; have GE155 := szB hg HB.out; replace HB := bsB HB.out hb; clear hb hbox hg))
   replace BK155 := Aside0.mk (blk_drew BK155.out)
   replace HB := Aside0.mk (below_drew1 HB.out)
   refine start_ (n := 22) (S := fun w' => w'.cell? ⟨gb155, 0, none⟩ = some (.int .u64 a1_0) ∧ w'.cell? ⟨gb155, 1, none⟩ = some (.int .u64 a1_1)) (ds := []) (bA 22 0) (by kernel_rfl) rfl rfl ⟨(blk_cell BK155.out 0).trans rfl, (blk_cell BK155.out 1).trans rfl⟩ (fun hHeld => ?_); refine with_tabW knownbits_Valid.tab1 knownbits_Valid.bits1 (fun HT_ HW_ => ?_)
   generalize w10.drew = w11 at BK155 HB hHeld ⊢
   refine pureA HT_ (i := 0) (N := some 5) (bA 22 1) ?_
   refine one_ (i := 1) (N := some 6) (bA 22 3) rfl rfl (one_of HT_.out (by kernel_rfl)) (by decide) (fun K hK => ?_)
   refine gO Try.func146 #[.int .i64 a0] ?_
   with_reducible refine (knownbits_good.calls a0 true _ A3.out).mono ?_
   rintro e w' ⟨rfl, ⟨nd, rfl⟩⟩
   refine ⟨_, rfl, ?_⟩
   refine hK.out _ _ ⟨(blk_cell BK155.out 0).trans rfl, (blk_cell BK155.out 1).trans rfl⟩ (fun hHeld => ?_)
   clear hK K
   refine normA (some 6) ?_
   refine pureA HT_ (i := 2) (N := some 7) (bA 22 7) ?_
   refine pureA HT_ (i := 3) (N := some 8) (bA 22 15) ?_
   refine pureA HT_ (i := 5) (N := some 10) (bA 22 47) ?_
   refine pureA HT_ (i := 8) (N := some 13) (bA 22 303) ?_
   refine takeA HT_ HW_ hHeld (i := 4) (N := some 9) (bA 22 319) ?_ (hy := by rintro w' ⟨s0, s1⟩; go_simp; with_reducible rfl)
   refine takeA HT_ HW_ hHeld (i := 6) (N := some 11) (bA 22 383) ?_ (hy := by rintro w' ⟨s0, s1⟩; go_simp; with_reducible rfl)
   refine pureA HT_ (i := 7) (N := some 12) (bA 22 511) ?_
   refine one_ (i := 9) (N := some 14) (bA 22 1023) rfl rfl (one_of HT_.out (by kernel_rfl)) (by decide) (fun K hK => ?_)
   refine gO Try.func147 #[.int .i64 a0] ?_
   with_reducible refine (knownbits_mask.calls a0 t157 _ A5.out).mono ?_
   rintro e w12 ⟨rfl, hb⟩
   refine ⟨_, rfl, ?_⟩
   replace BK155 := bkB BK155.out hb
   replace HB := bsB HB.out hb
   (try clear hb)
   refine hK.out _ _ ⟨(blk_cell BK155.out 0).trans rfl, (blk_cell BK155.out 1).trans rfl⟩ (fun hHeld => ?_)
   clear hK K
   refine normA (some 14) ?_
   refine pureA HT_ (i := 10) (N := some 15) (bA 22 2047) ?_
   refine pureA HT_ (i := 11) (N := some 16) (bA 22 4095) ?_
   refine pureA HT_ (i := 12) (N := some 17) (bA 22 8191) ?_
   refine pureA HT_ (i := 13) (N := some 18) (bA 22 16383) ?_
   refine pureU HT_ (i := 14) (N := some 19) (bA 22 32767) ?_
   refine pureU HT_ (i := 15) (N := some 20) (bA 22 65535) ?_
   refine pureU HT_ (i := 16) (N := some 21) (bA 22 131071) ?_
   refine pureU HT_ (i := 17) (N := some 22) (bA 22 262143) ?_
   refine pureU HT_ (i := 18) (N := some 23) (bA 22 524287) ?_
   refine pureU HT_ (i := 19) (N := some 24) (bA 22 1048575) ?_
   refine pureA HT_ (i := 20) (N := some 25) (bA 22 2097151) ?_
   refine pureA HT_ (i := 21) (N := some 4) (bA 22 4194303) ?_
   refine done_ (done_of HT_.out (by kernel_rfl)) ?_
   try go_wp2
   go_ret
   exact ⟨by first | rfl | (simp [errW_none, errW_some] <;> rfl) | (simp [*, errW_none, errW_some] <;> rfl), bsL HB.out⟩
 ·
  replace c4 := Bool.eq_false_iff.mpr c4
  subst c4
  have H1 : (some false) = some r := by rw [if_neg (show ¬ (false = true) by decide)] at H; exact H
  clear H
  have H := H1
  clear H1
  obtain rfl := Option.some.inj H
  go_enter Try.func91, Try.ntmps91
  try go_wp2_with (first | ((with_reducible refine gate_dst (N := 3) rfl ?_); refine boxE (N := 3) (cs := #[.int .u64 a1_0, .int .u64 a1_1]) (t := 110) ?_; intro gb155 hg w13 hbox hb; have BK155 := Aside0.mk (hbox); have GW155 := szB hg HB.out; have GE155 := szB hg HB.out; replace HB := bsB HB.out hb; clear hb hbox hg))
  replace BK155 := Aside0.mk (blk_drew BK155.out)
  replace HB := Aside0.mk (below_drew1 HB.out)
  refine start_ (n := 22) (S := fun w' => True) (ds := []) (bA 22 0) (by kernel_rfl) rfl rfl trivial (fun hHeld => ?_); refine with_tabW knownbits_Valid.tab1 knownbits_Valid.bits1 (fun HT_ HW_ => ?_)
  generalize w13.drew = w14 at BK155 HB hHeld ⊢
  refine pureA HT_ (i := 0) (N := some 5) (bA 22 1) ?_
  refine one_ (i := 1) (N := some 6) (bA 22 3) rfl rfl (one_of HT_.out (by kernel_rfl)) (by decide) (fun K hK => ?_)
  refine gO Try.func146 #[.int .i64 a0] ?_
  with_reducible refine (knownbits_good.calls a0 false _ A3.out).mono ?_
  rintro e w' ⟨rfl, ⟨nd, rfl⟩⟩
  refine ⟨_, rfl, ?_⟩
  refine hK.out _ _ trivial (fun hHeld => ?_)
  clear hK K
  refine normA (some 6) ?_
  refine pureA HT_ (i := 2) (N := some 7) (bA 22 7) ?_
  refine pureU HT_ (i := 3) (N := some 8) (bA 22 15) ?_
  refine pureU HT_ (i := 4) (N := some 9) (bA 22 31) ?_
  refine pureU HT_ (i := 5) (N := some 10) (bA 22 63) ?_
  refine pureU HT_ (i := 6) (N := some 11) (bA 22 127) ?_
  refine pureU HT_ (i := 7) (N := some 12) (bA 22 255) ?_
  refine pureU HT_ (i := 8) (N := some 13) (bA 22 511) ?_
  refine pureU HT_ (i := 9) (N := some 14) (bA 22 1023) ?_
  refine pureU HT_ (i := 10) (N := some 15) (bA 22 2047) ?_
  refine pureU HT_ (i := 11) (N := some 16) (bA 22 4095) ?_
  refine pureA HT_ (i := 12) (N := some 17) (bA 22 8191) ?_
  refine pureA HT_ (i := 13) (N := some 18) (bA 22 16383) ?_
  refine pureU HT_ (i := 14) (N := some 19) (bA 22 32767) ?_
  refine pureU HT_ (i := 15) (N := some 20) (bA 22 65535) ?_
  refine pureU HT_ (i := 16) (N := some 21) (bA 22 131071) ?_
  refine pureU HT_ (i := 17) (N := some 22) (bA 22 262143) ?_
  refine pureU HT_ (i := 18) (N := some 23) (bA 22 524287) ?_
  refine pureU HT_ (i := 19) (N := some 24) (bA 22 1048575) ?_
  refine pureA HT_ (i := 20) (N := some 25) (bA 22 2097151) ?_
  refine pureA HT_ (i := 21) (N := some 4) (bA 22 4194303) ?_
  refine done_ (done_of HT_.out (by kernel_rfl)) ?_
  try go_wp2
  go_ret
  exact ⟨by first | rfl | (simp [errW_none, errW_some] <;> rfl) | (simp [*, errW_none, errW_some] <;> rfl), bsL HB.out⟩

/-! ### facts_Valid: function 34 -/
def facts_Valid.f (a0 : Int) (a1_0 : Int) (a1_1 : Int) (a1_2 : Int) (a1_3 : Int) (a1_4 : Int) (a1_5 : Int) : Option (Bool) := (facts_known.f a1_0 a1_1 a1_2 a1_3 a1_4 a1_5).bind fun bt159 => ((knownbits_Valid.f a0 bt159.1 bt159.2).bind fun t161 => (if t161 = true then ((facts_span.f a1_0 a1_1 a1_2 a1_3 a1_4 a1_5).bind fun bt162 => ((interval_Valid.f a0 bt162.1 bt162.2.1 bt162.2.2.1 bt162.2.2.2).bind fun t166 => (some t166))) else (some false)))
set_option maxHeartbeats 8000000 in
set_option maxRecDepth 100000 in
theorem facts_Valid.calls (a0 : Int) (a1_0 : Int) (a1_1 : Int) (a1_2 : Int) (a1_3 : Int) (a1_4 : Int) (a1_5 : Int) (r : Bool) (w : World) (h : facts_Valid.f a0 a1_0 a1_1 a1_2 a1_3 a1_4 a1_5 = some r) :
  Calls Try.prog 34 #[.int .i64 a0, .agg #[.int .u64 a1_0, .int .u64 a1_1, .int .u64 a1_2, .int .u64 a1_3, .int .i64 a1_4, .int .i64 a1_5]] w fun e w' => e = .returned (.bool r) ∧ Below w.heap.size w w' := by
 have hu50 := Try.underlying50
 have HB := Aside0.mk (Below.refl w.heap.size w)
 have H : ((facts_known.f a1_0 a1_1 a1_2 a1_3 a1_4 a1_5).bind fun bt159 => ((knownbits_Valid.f a0 bt159.1 bt159.2).bind fun t161 => (if t161 = true then ((facts_span.f a1_0 a1_1 a1_2 a1_3 a1_4 a1_5).bind fun bt162 => ((interval_Valid.f a0 bt162.1 bt162.2.1 bt162.2.2.1 bt162.2.2.2).bind fun t166 => (some t166))) else (some false)))) = some r := h
 clear h
 replace H := Option.bind_eq_some_iff.mp H
 obtain ⟨⟨t159, t160⟩, A30, H⟩ := H
 replace H : ((knownbits_Valid.f a0 t159 t160).bind fun t161 => (if t161 = true then ((facts_span.f a1_0 a1_1 a1_2 a1_3 a1_4 a1_5).bind fun bt162 => ((interval_Valid.f a0 bt162.1 bt162.2.1 bt162.2.2.1 bt162.2.2.2).bind fun t166 => (some t166))) else (some false))) = some r := H
 have A3 := Aside0.mk A30
 clear A30
 replace H := Option.bind_eq_some_iff.mp H
 obtain ⟨t161, A40, H⟩ := H
 replace H : (if t161 = true then ((facts_span.f a1_0 a1_1 a1_2 a1_3 a1_4 a1_5).bind fun bt162 => ((interval_Valid.f a0 bt162.1 bt162.2.1 bt162.2.2.1 bt162.2.2.2).bind fun t166 => (some t166))) else (some false)) = some r := H
 have A4 := Aside0.mk A40
 clear A40
 by_cases c5 : t161 = true
 ·
  subst c5
  have H1 : ((facts_span.f a1_0 a1_1 a1_2 a1_3 a1_4 a1_5).bind fun bt162 => ((interval_Valid.f a0 bt162.1 bt162.2.1 bt162.2.2.1 bt162.2.2.2).bind fun t166 => (some t166))) = some r := by rw [if_pos rfl] at H; exact H
  clear H
  have H := H1
  clear H1
  replace H := Option.bind_eq_some_iff.mp H
  obtain ⟨⟨t162, t163, t164, t165⟩, A60, H⟩ := H
  replace H : ((interval_Valid.f a0 t162 t163 t164 t165).bind fun t166 => (some t166)) = some r := H
  have A6 := Aside0.mk A60
  clear A60
  replace H := Option.bind_eq_some_iff.mp H
  obtain ⟨t166, A70, H⟩ := H
  replace H : (some t166) = some r := H
  have A7 := Aside0.mk A70
  clear A70
  obtain rfl := Option.some.inj H
  go_enter Try.func34, Try.ntmps34
  go_wp2_with (first | ((with_reducible refine gate_dst (N := 3) rfl ?_); refine boxE (N := 3) (cs := #[.int .u64 a1_0, .int .u64 a1_1, .int .u64 a1_2, .int .u64 a1_3, .int .i64 a1_4, .int .i64 a1_5]) (t := 50) ?_; intro gb158 hg w8 hbox hb; have BK158 := Aside0.mk (hbox); have GW158 := szB hg HB.out; have GE158 := szB hg HB.out; replace HB := bsB HB.out hb; clear hb hbox hg; obtain ⟨hcz9_0, hcz9_1, hcz9_2, hcz9_3, hcz9_4, hcz9_5, hfz9_0, hfz9_1, hfz9_2, hfz9_3, hfz9_4, hfz9_5⟩ := own6 BK158.out) | ((with_reducible refine gate_callee (f := 86) rfl ?_); refine gL (some 7) Try.func86 #[.agg #[.int .u64 a1_0, .int .u64 a1_1, .int .u64 a1_2, .int .u64 a1_3, .int .i64 a1_4, .int .i64 a1_5]] ?_; (with_reducible refine (facts_known.calls a1_0 a1_1 a1_2 a1_3 a1_4 a1_5 t159 t160 _ A3.out).mono ?_); rintro e w10 ⟨rfl, hb⟩; refine ⟨_, rfl, ?_⟩; replace BK158 := bkB BK158.out hb; replace HB := bsB HB.out hb; (try clear hb); (try clear hb2); (try clear hk); (try clear hi)) | ((with_reducible refine gate_callee (f := 91) rfl ?_); refine gL (some 8) Try.func91 #[.int .i64 a0, .agg #[.int .u64 t159, .int .u64 t160]] ?_; (with_reducible refine (knownbits_Valid.calls a0 t159 t160 true _ A4.out).mono ?_); rintro e w11 ⟨rfl, hb⟩; refine ⟨_, rfl, ?_⟩; replace BK158 := bkB BK158.out hb; replace HB := bsB HB.out hb; (try clear hb); (try clear hb2); (try clear hk); (try clear hi); obtain ⟨hcz12_0, hcz12_1, hcz12_2, hcz12_3, hcz12_4, hcz12_5, hfz12_0, hfz12_1, hfz12_2, hfz12_3, hfz12_4, hfz12_5⟩ := own6 BK158.out) | (go_at_call 76; (with_reducible refine (facts_span.calls a1_0 a1_1 a1_2 a1_3 a1_4 a1_5 t162 t163 t164 t165 _ A6.out).mono ?_); rintro e w13 ⟨rfl, hb⟩; replace BK158 := bkB BK158.out hb; replace HB := bsB HB.out hb; (try clear hb); (try clear hb2); (try clear hk); (try clear hi)) | (go_at_call 21; (with_reducible refine (interval_Valid.calls a0 t162 t163 t164 t165 t166 _ A7.out).mono ?_); rintro e w14 ⟨rfl, hb⟩; replace BK158 := bkB BK158.out hb; replace HB := bsB HB.out hb; (try clear hb); (try clear hb2); (try clear hk); (try clear hi)))
  go_ret
  exact ⟨by first | rfl | (simp [errW_none, errW_some] <;> rfl) | (simp [*, errW_none, errW_some] <;> rfl), bsL HB.out⟩
 ·
  replace c5 := Bool.eq_false_iff.mpr c5
  subst c5
  have H1 : (some false) = some r := by rw [if_neg (show ¬ (false = true) by decide)] at H; exact H
  clear H
  have H := H1
  clear H1
  obtain rfl := Option.some.inj H
  go_enter Try.func34, Try.ntmps34
  go_wp2_with (first | ((with_reducible refine gate_dst (N := 3) rfl ?_); refine boxE (N := 3) (cs := #[.int .u64 a1_0, .int .u64 a1_1, .int .u64 a1_2, .int .u64 a1_3, .int .i64 a1_4, .int .i64 a1_5]) (t := 50) ?_; intro gb158 hg w15 hbox hb; have BK158 := Aside0.mk (hbox); have GW158 := szB hg HB.out; have GE158 := szB hg HB.out; replace HB := bsB HB.out hb; clear hb hbox hg; obtain ⟨hcz16_0, hcz16_1, hcz16_2, hcz16_3, hcz16_4, hcz16_5, hfz16_0, hfz16_1, hfz16_2, hfz16_3, hfz16_4, hfz16_5⟩ := own6 BK158.out) | ((with_reducible refine gate_callee (f := 86) rfl ?_); refine gL (some 7) Try.func86 #[.agg #[.int .u64 a1_0, .int .u64 a1_1, .int .u64 a1_2, .int .u64 a1_3, .int .i64 a1_4, .int .i64 a1_5]] ?_; (with_reducible refine (facts_known.calls a1_0 a1_1 a1_2 a1_3 a1_4 a1_5 t159 t160 _ A3.out).mono ?_); rintro e w17 ⟨rfl, hb⟩; refine ⟨_, rfl, ?_⟩; replace BK158 := bkB BK158.out hb; replace HB := bsB HB.out hb; (try clear hb); (try clear hb2); (try clear hk); (try clear hi)) | ((with_reducible refine gate_callee (f := 91) rfl ?_); refine gL (some 8) Try.func91 #[.int .i64 a0, .agg #[.int .u64 t159, .int .u64 t160]] ?_; (with_reducible refine (knownbits_Valid.calls a0 t159 t160 false _ A4.out).mono ?_); rintro e w18 ⟨rfl, hb⟩; refine ⟨_, rfl, ?_⟩; replace BK158 := bkB BK158.out hb; replace HB := bsB HB.out hb; (try clear hb); (try clear hb2); (try clear hk); (try clear hi)))
  go_ret
  exact ⟨by first | rfl | (simp [errW_none, errW_some] <;> rfl) | (simp [*, errW_none, errW_some] <;> rfl), bsL HB.out⟩

/-! ### jacquardlaw14_awake: function 24 -/
def jacquardlaw14_awake.f  : Option (Bool) := (facts_Of.f 4 9).bind fun bt167 => (if (bt167.1 == 6 && (bt167.2.1 == 9 && (bt167.2.2.1 == 9 && (bt167.2.2.2.1 == 9 && (bt167.2.2.2.2.1 == (-7) && (bt167.2.2.2.2.2 == (-7))))))) = true then ((facts_Top.f 4).bind fun bt173 => ((facts_Valid.f 4 bt173.1 bt173.2.1 bt173.2.2.1 bt173.2.2.2.1 bt173.2.2.2.2.1 bt173.2.2.2.2.2).bind fun t179 => (some t179))) else (some false))
set_option maxHeartbeats 8000000 in
set_option maxRecDepth 100000 in
theorem jacquardlaw14_awake.calls  (r : Bool) (w : World) (h : jacquardlaw14_awake.f  = some r) :
  Calls Try.prog 24 #[] w fun e w' => e = .returned (.bool r) ∧ Below w.heap.size w w' := by
 have hu50 := Try.underlying50
 have HB := Aside0.mk (Below.refl w.heap.size w)
 have H : ((facts_Of.f 4 9).bind fun bt167 => (if (bt167.1 == 6 && (bt167.2.1 == 9 && (bt167.2.2.1 == 9 && (bt167.2.2.2.1 == 9 && (bt167.2.2.2.2.1 == (-7) && (bt167.2.2.2.2.2 == (-7))))))) = true then ((facts_Top.f 4).bind fun bt173 => ((facts_Valid.f 4 bt173.1 bt173.2.1 bt173.2.2.1 bt173.2.2.2.1 bt173.2.2.2.2.1 bt173.2.2.2.2.2).bind fun t179 => (some t179))) else (some false))) = some r := h
 clear h
 replace H := Option.bind_eq_some_iff.mp H
 obtain ⟨⟨t167, t168, t169, t170, t171, t172⟩, A10, H⟩ := H
 replace H : (if (t167 == 6 && (t168 == 9 && (t169 == 9 && (t170 == 9 && (t171 == (-7) && (t172 == (-7))))))) = true then ((facts_Top.f 4).bind fun bt173 => ((facts_Valid.f 4 bt173.1 bt173.2.1 bt173.2.2.1 bt173.2.2.2.1 bt173.2.2.2.2.1 bt173.2.2.2.2.2).bind fun t179 => (some t179))) else (some false)) = some r := H
 have A1 := Aside0.mk A10
 clear A10
 by_cases c2 : (t167 == 6 && (t168 == 9 && (t169 == 9 && (t170 == 9 && (t171 == (-7) && (t172 == (-7))))))) = true
 ·
  rw [if_pos c2] at H
  have c2b0 : (t167 == 6 && (t168 == 9 && (t169 == 9 && (t170 == 9 && (t171 == (-7) && (t172 == (-7))))))) = true := c2
  (try (have c2b1 : decide (t167 = 6 && (t168 == 9 && (t169 == 9 && (t170 == 9 && (t171 == (-7) && (t172 == (-7))))))) = true := by simpa using c2))
  (try (have c2b2 : (t167 == 6 && (t168 == 9 && (t169 == 9 && (t170 == 9 && (t171 == (-7) && (t172 == (-7))))))) = true := by simpa using c2))
  clear c2
  replace H := Option.bind_eq_some_iff.mp H
  obtain ⟨⟨t173, t174, t175, t176, t177, t178⟩, A30, H⟩ := H
  replace H : ((facts_Valid.f 4 t173 t174 t175 t176 t177 t178).bind fun t179 => (some t179)) = some r := H
  have A3 := Aside0.mk A30
  clear A30
  replace H := Option.bind_eq_some_iff.mp H
  obtain ⟨t179, A40, H⟩ := H
  replace H : (some t179) = some r := H
  have A4 := Aside0.mk A40
  clear A40
  obtain rfl := Option.some.inj H
  go_enter Try.func24, Try.ntmps24
  go_wp2_with (first | ((with_reducible refine gate_callee (f := 32) rfl ?_); refine gL (some 1) Try.func32 #[.int .i64 4, .int .u64 9] ?_; (with_reducible refine (facts_Of.calls 4 9 t167 t168 t169 t170 t171 t172 _ A1.out).mono ?_); rintro e w5 ⟨rfl, hb⟩; refine ⟨_, rfl, ?_⟩; replace HB := bsB HB.out hb; (try clear hb)) | (go_at_call 30; (with_reducible refine (facts_Top.calls 4 t173 t174 t175 t176 t177 t178 _ A3.out).mono ?_); rintro e w6 ⟨rfl, hb⟩; replace HB := bsB HB.out hb; (try clear hb); (try clear hb2); (try clear hk); (try clear hi)) | (go_at_call 34; (with_reducible refine (facts_Valid.calls 4 t173 t174 t175 t176 t177 t178 t179 _ A4.out).mono ?_); rintro e w7 ⟨rfl, hb⟩; replace HB := bsB HB.out hb; (try clear hb); (try clear hb2); (try clear hk); (try clear hi)))
  go_ret
  exact ⟨by first | rfl | (simp [errW_none, errW_some] <;> rfl) | (simp [*, errW_none, errW_some] <;> rfl), bsL HB.out⟩
 ·
  rw [if_neg c2] at H
  have c2b0 : (t167 == 6 && (t168 == 9 && (t169 == 9 && (t170 == 9 && (t171 == (-7) && (t172 == (-7))))))) = false := by simpa using c2
  (try (have c2b1 : decide (t167 = 6 && (t168 == 9 && (t169 == 9 && (t170 == 9 && (t171 == (-7) && (t172 == (-7))))))) = false := by simpa using c2))
  (try (have c2b2 : (t167 == 6 && (t168 == 9 && (t169 == 9 && (t170 == 9 && (t171 == (-7) && (t172 == (-7))))))) = false := by simpa using c2))
  (try (have c2b3 : ¬ (t167 = 6 && (t168 == 9 && (t169 == 9 && (t170 == 9 && (t171 == (-7) && (t172 == (-7))))))) := by simpa using c2))
  clear c2
  obtain rfl := Option.some.inj H
  go_enter Try.func24, Try.ntmps24
  go_wp2_with (first | ((with_reducible refine gate_callee (f := 32) rfl ?_); refine gL (some 1) Try.func32 #[.int .i64 4, .int .u64 9] ?_; (with_reducible refine (facts_Of.calls 4 9 t167 t168 t169 t170 t171 t172 _ A1.out).mono ?_); rintro e w8 ⟨rfl, hb⟩; refine ⟨_, rfl, ?_⟩; replace HB := bsB HB.out hb; (try clear hb)))
  go_ret
  exact ⟨by first | rfl | (simp [errW_none, errW_some] <;> rfl) | (simp [*, errW_none, errW_some] <;> rfl), bsL HB.out⟩

/-! ### bits_From: function 121 -/
def bits_From.f (a0 : Int) (a1 : Int) : Option (Int) := (bits_Fit.f a0 (IntKind.u64.wrap (a1))).bind fun t180 => (some t180)
set_option maxHeartbeats 8000000 in
set_option maxRecDepth 100000 in
theorem bits_From.calls (a0 : Int) (a1 : Int) (r : Int) (w : World) (h : bits_From.f a0 a1 = some r) :
  Calls Try.prog 121 #[.int .i64 a0, .int .i64 a1] w fun e w' => e = .returned (.int .u64 r) ∧ Below w.heap.size w w' := by
 have HB := Aside0.mk (Below.refl w.heap.size w)
 have H : ((bits_Fit.f a0 (IntKind.u64.wrap (a1))).bind fun t180 => (some t180)) = some r := h
 clear h
 replace H := Option.bind_eq_some_iff.mp H
 obtain ⟨t180, A30, H⟩ := H
 replace H : (some t180) = some r := H
 have A3 := Aside0.mk A30
 clear A30
 obtain rfl := Option.some.inj H
 go_enter Try.func121, Try.ntmps121
 go_wp2_with (first | ((with_reducible refine gate_callee (f := 67) rfl ?_); refine gL (some 8) Try.func67 #[.int .i64 a0, .int .u64 (IntKind.u64.wrap (a1))] ?_; (with_reducible refine (bits_Fit.calls a0 (IntKind.u64.wrap (a1)) t180 _ A3.out).mono ?_); rintro e w4 ⟨rfl, hb⟩; refine ⟨_, rfl, ?_⟩; replace HB := bsB HB.out hb; (try clear hb)))
 go_ret
 exact ⟨by first | rfl | (simp [errW_none, errW_some] <;> rfl) | (simp [*, errW_none, errW_some] <;> rfl), bsL HB.out⟩

end Go.Proofs.Ytbiohdgeclokmaa.P
