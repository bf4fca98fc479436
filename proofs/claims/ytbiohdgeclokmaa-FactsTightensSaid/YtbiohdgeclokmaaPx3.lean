-- made by a program of this work (wip/mkprint.py, wip/mp.sh) out of the translation
import Derived.Test.YtbiohdgeclokmaaPx0
import Derived.Test.YtbiohdgeclokmaaPx2
namespace Go.Proofs.Ytbiohdgeclokmaa.P
open Go.RowKit Go.Proofs.YtbiohdgeclokmaaW.PrintWords Go.Proofs.YtbiohdgeclokmaaW.PrintLast Go.Proofs.YtbiohdgeclokmaaW.PrintMore
attribute [local go_sem] max2_int min2_int max_two min_two max_three min_three max_four min_four   -- for this text's walks alone
set_option linter.unusedVariables false
set_option linter.unusedSimpArgs false

/-! ### knownbits_mask: function 147 -/
def knownbits_mask.f (a0 : Int) : Option (Int) := if a0 ≥ 64 then (some 18446744073709551615) else (some (IntKind.u64.wrap ((shl .u64 1 (mx a0 0)) - 1)))
set_option maxHeartbeats 8000000 in
set_option maxRecDepth 100000 in
theorem knownbits_mask.calls (a0 : Int) (r : Int) (w : World) (h : knownbits_mask.f a0 = some r) :
  Calls Try.prog 147 #[.int .i64 a0] w fun e w' => e = .returned (.int .u64 r) ∧ Below w.heap.size w w' := by
 have HB := Aside0.mk (Below.refl w.heap.size w)
 have H : (if a0 ≥ 64 then (some 18446744073709551615) else (some (IntKind.u64.wrap ((shl .u64 1 (mx a0 0)) - 1)))) = some r := h
 clear h
 by_cases c2 : a0 ≥ 64
 ·
  rw [if_pos c2] at H
  have c2b0 : decide (64 ≤ a0) = true := decide_eq_true c2
  clear c2
  obtain rfl := Option.some.inj H
  go_enter Try.func147, Try.ntmps147
  go_wp2
  go_ret
  exact ⟨by first | rfl | (simp [errW_none, errW_some] <;> rfl) | (simp [*, errW_none, errW_some] <;> rfl), bsL HB.out⟩
 ·
  rw [if_neg c2] at H
  have c2b0 : decide (64 ≤ a0) = false := decide_eq_false c2
  clear c2
  obtain ⟨ji3, hji3⟩ : ∃ j_ : Int, (mx a0 0) = j_ := ⟨_, rfl⟩
  replace H : (some (IntKind.u64.wrap ((shl .u64 1 (ji3)) - 1))) = some r := by first | (rw [hji3] at H; exact H) | (simp only [hji3] at H ⊢; exact H)
  (try (have hji3l : 0 ≤ ji3 := by (rw [← hji3]; unfold mx; (repeat' split) <;> omega)))
  (try (have hji3m : 0 ≤ ji3 := by omega))
  have hji3_ : (if a0 < 0 then 0 else a0) = ji3 := hji3
  obtain ⟨ji4, hji4⟩ : ∃ j_ : Int, (shl .u64 1 (ji3)) = j_ := ⟨_, rfl⟩
  replace H : (some (IntKind.u64.wrap ((ji4) - 1))) = some r := by first | (rw [hji4] at H; exact H) | (simp only [hji4] at H ⊢; exact H)
  have hji4_ : (IntKind.u64.wrap (1 * 2 ^ min (ji3).toNat 64)) = ji4 := hji4
  have hji4z : (ji3) ≤ 64 → (IntKind.u64.wrap (1 * 2 ^ (ji3).toNat)) = ji4 := shl_small hji4
  have hji4u : (IntKind.u64.wrap (2 ^ min (ji3).toNat 64)) = ji4 := by have h_ := hji4_; rw [Int.one_mul] at h_; exact h_
  have hji4v : (ji3) ≤ 64 → (IntKind.u64.wrap (2 ^ (ji3).toNat)) = ji4 := fun hle_ => by have h_ := hji4z hle_; rw [Int.one_mul] at h_; exact h_
  obtain rfl := Option.some.inj H
  go_enter Try.func147, Try.ntmps147
  go_wp2
  go_ret
  exact ⟨by first | rfl | (simp [errW_none, errW_some] <;> rfl) | (simp only [← hji3, ← hji4]; first | rfl | (simp [errW_none, errW_some] <;> rfl)) | (simp [*, errW_none, errW_some] <;> rfl), bsL HB.out⟩

/-! ### knownbits_Of: function 89 -/
def knownbits_Of.f (a0 : Int) (a1 : Int) : Option (Int × Int) := (knownbits_good.f a0).bind fun t131 => (if t131 = true then ((knownbits_mask.f a0).bind fun t132 => (some (Go.bits .and .u64 (Go.bits .xor .u64 18446744073709551615 a1) t132, Go.bits .and .u64 a1 t132))) else (some (0, 0)))
set_option maxHeartbeats 8000000 in
set_option maxRecDepth 100000 in
theorem knownbits_Of.calls (a0 : Int) (a1 : Int) (r1 : Int) (r2 : Int) (w : World) (h : knownbits_Of.f a0 a1 = some (r1, r2)) :
  Calls Try.prog 89 #[.int .i64 a0, .int .u64 a1] w fun e w' => e = .returned (.agg #[.int .u64 r1, .int .u64 r2]) ∧ Below w.heap.size w w' := by
 have hu110 := Try.underlying110
 have HB := Aside0.mk (Below.refl w.heap.size w)
 have H : ((knownbits_good.f a0).bind fun t131 => (if t131 = true then ((knownbits_mask.f a0).bind fun t132 => (some (Go.bits .and .u64 (Go.bits .xor .u64 18446744073709551615 a1) t132, Go.bits .and .u64 a1 t132))) else (some (0, 0)))) = some (r1, r2) := h
 clear h
 replace H := Option.bind_eq_some_iff.mp H
 obtain ⟨t131, A30, H⟩ := H
 replace H : (if t131 = true then ((knownbits_mask.f a0).bind fun t132 => (some (Go.bits .and .u64 (Go.bits .xor .u64 18446744073709551615 a1) t132, Go.bits .and .u64 a1 t132))) else (some (0, 0))) = some (r1, r2) := H
 have A3 := Aside0.mk A30
 clear A30
 by_cases c4 : t131 = true
 ·
  subst c4
  have H1 : ((knownbits_mask.f a0).bind fun t132 => (some (Go.bits .and .u64 (Go.bits .xor .u64 18446744073709551615 a1) t132, Go.bits .and .u64 a1 t132))) = some (r1, r2) := by rw [if_pos rfl] at H; exact H
  clear H
  have H := H1
  clear H1
  replace H := Option.bind_eq_some_iff.mp H
  obtain ⟨t132, A50, H⟩ := H
  replace H : (some (Go.bits .and .u64 (Go.bits .xor .u64 18446744073709551615 a1) t132, Go.bits .and .u64 a1 t132)) = some (r1, r2) := H
  have A5 := Aside0.mk A50
  clear A50
  simp only [Option.some.injEq, Prod.mk.injEq] at H
  obtain ⟨rfl, rfl⟩ := H
  go_enter Try.func89, Try.ntmps89
  go_wp2_with (first | ((with_reducible refine gate_dst (N := 4) rfl ?_); refine box_event ?hg (N := 4) ?hd (cs := #[.int .u64 0, .int .u64 0]) (t := 110) ?hr ?_; (case hd => rfl); (case hg => rfl); (case hr => first | (go_simp; done) | (go_simp; rfl)); intro gb130 hg w6 hbox hb; have n0_ := bsB HB.out hb; have n1_ := Aside0.mk (hbox); have n2_ := szB hg HB.out; have n3_ := szB hg HB.out; clear HB; have HB := n0_; have BK130 := n1_; have GW130 := n2_; have GE130 := n3_; clear n0_ n1_ n2_ n3_; clear hb hbox hg) | ((with_reducible refine gate_callee (f := 146) rfl ?_); refine gL (some 6) Try.func146 #[.int .i64 a0] ?_; (with_reducible refine (knownbits_good.calls a0 true _ A3.out).mono ?_); rintro e w' ⟨rfl, ⟨nd, rfl⟩⟩; refine ⟨_, rfl, ?_⟩; (try (rw [drewN_self w6]; generalize hq_ : World.drewN w6 _ = w6; have n0_ : Aside0 (w6.heap[gb130]? = some (.cells #[.int .u64 0, .int .u64 0] 110 (0, 0))) := ⟨by rw [← hq_]; exact (by exact bfL BK130.out)⟩; have n1_ : Aside0 (Below w.heap.size w w6) := ⟨by rw [← hq_]; exact (by repeat (first | (with_reducible first | exact HB.out | apply below_alloc | apply pw_below_drewN | apply below_drew1 | refine below_set ?_ GE130.out) | exact HB.out))⟩; clear BK130 HB hq_; have BK130 := n0_; have HB := n1_; clear n0_ n1_))) | ((with_reducible refine gate_callee (f := 147) rfl ?_); refine gL (some 12) Try.func147 #[.int .i64 a0] ?_; (with_reducible refine (knownbits_mask.calls a0 t132 _ A5.out).mono ?_); rintro e w7 ⟨rfl, hb⟩; refine ⟨_, rfl, ?_⟩; have n0_ := bkB BK130.out hb; have n1_ := bsB HB.out hb; clear BK130; clear HB; have BK130 := n0_; have HB := n1_; clear n0_ n1_; (try clear hb); (try clear hb2); (try clear hk); (try clear hi)) | ((with_reducible refine gate_callee (f := 147) rfl ?_); refine gL (some 16) Try.func147 #[.int .i64 a0] ?_; (with_reducible refine (knownbits_mask.calls a0 t132 _ A5.out).mono ?_); rintro e w8 ⟨rfl, hb⟩; refine ⟨_, rfl, ?_⟩; have n0_ := bkB BK130.out hb; have n1_ := bsB HB.out hb; clear BK130; clear HB; have BK130 := n0_; have HB := n1_; clear n0_ n1_; (try clear hb); (try clear hb2); (try clear hk); (try clear hi); have hcz9_0 : w8.cell? ⟨gb130, 0, none⟩ = some (.int .u64 0) := (blk_cell BK130.out 0).trans rfl; have hcz9_1 : w8.cell? ⟨gb130, 1, none⟩ = some (.int .u64 0) := (blk_cell BK130.out 1).trans rfl; have hfz9_0 := blk_frozen BK130.out 0; have hfz9_1 := blk_frozen BK130.out 1))
  refine bodyPost_ret (results_cell_row rfl _ _ gb130 110 #[.int .u64 (Go.bits .and .u64 (Go.bits .xor .u64 18446744073709551615 a1) t132), .int .u64 (Go.bits .and .u64 a1 t132)] (0, 0) _ rfl (by (with_reducible repeat (first | refine blk_drewN ?_ _ | refine blk_drew ?_ | refine blk_alloc ?_ _)); refine blk_put (cs := #[.int .u64 (Go.bits .and .u64 (Go.bits .xor .u64 18446744073709551615 a1) t132), .int .u64 0]) ?_ 1 _ rfl; (with_reducible repeat (first | refine blk_drewN ?_ _ | refine blk_drew ?_ | refine blk_alloc ?_ _)); refine blk_put (cs := #[.int .u64 0, .int .u64 0]) ?_ 0 _ rfl; exact bfL BK130.out) Try.underlying110 rfl (by kernel_rfl)) rfl ?_
  exact ⟨by first | rfl | (simp [errW_none, errW_some] <;> rfl) | (simp [*, errW_none, errW_some] <;> rfl), bsL HB.out⟩
 ·
  replace c4 := Bool.eq_false_iff.mpr c4
  subst c4
  have H1 : (some (0, 0)) = some (r1, r2) := by rw [if_neg (show ¬ (false = true) by decide)] at H; exact H
  clear H
  have H := H1
  clear H1
  simp only [Option.some.injEq, Prod.mk.injEq] at H
  obtain ⟨rfl, rfl⟩ := H
  go_enter Try.func89, Try.ntmps89
  go_wp2_with (first | ((with_reducible refine gate_dst (N := 4) rfl ?_); refine box_event ?hg (N := 4) ?hd (cs := #[.int .u64 0, .int .u64 0]) (t := 110) ?hr ?_; (case hd => rfl); (case hg => rfl); (case hr => first | (go_simp; done) | (go_simp; rfl)); intro gb130 hg w10 hbox hb; have n0_ := bsB HB.out hb; have n1_ := Aside0.mk (hbox); have n2_ := szB hg HB.out; have n3_ := szB hg HB.out; clear HB; have HB := n0_; have BK130 := n1_; have GW130 := n2_; have GE130 := n3_; clear n0_ n1_ n2_ n3_; clear hb hbox hg) | ((with_reducible refine gate_callee (f := 146) rfl ?_); refine gL (some 6) Try.func146 #[.int .i64 a0] ?_; (with_reducible refine (knownbits_good.calls a0 false _ A3.out).mono ?_); rintro e w' ⟨rfl, ⟨nd, rfl⟩⟩; refine ⟨_, rfl, ?_⟩; (try (rw [drewN_self w10]; generalize hq_ : World.drewN w10 _ = w10; have n0_ : Aside0 (w10.heap[gb130]? = some (.cells #[.int .u64 0, .int .u64 0] 110 (0, 0))) := ⟨by rw [← hq_]; exact (by exact bfL BK130.out)⟩; have n1_ : Aside0 (Below w.heap.size w w10) := ⟨by rw [← hq_]; exact (by repeat (first | (with_reducible first | exact HB.out | apply below_alloc | apply pw_below_drewN | apply below_drew1 | refine below_set ?_ GE130.out) | exact HB.out))⟩; clear BK130 HB hq_; have BK130 := n0_; have HB := n1_; clear n0_ n1_)); have hcz11_0 : w10.cell? ⟨gb130, 0, none⟩ = some (.int .u64 0) := (blk_cell BK130.out 0).trans rfl; have hcz11_1 : w10.cell? ⟨gb130, 1, none⟩ = some (.int .u64 0) := (blk_cell BK130.out 1).trans rfl; have hfz11_0 := blk_frozen BK130.out 0; have hfz11_1 := blk_frozen BK130.out 1))
  refine bodyPost_ret (results_cell_row rfl _ _ gb130 110 #[.int .u64 0, .int .u64 0] (0, 0) _ rfl (by (with_reducible repeat (first | refine blk_drewN ?_ _ | refine blk_drew ?_ | refine blk_alloc ?_ _)); refine blk_put (cs := #[.int .u64 0, .int .u64 0]) ?_ 1 _ rfl; (with_reducible repeat (first | refine blk_drewN ?_ _ | refine blk_drew ?_ | refine blk_alloc ?_ _)); refine blk_put (cs := #[.int .u64 0, .int .u64 0]) ?_ 0 _ rfl; exact bfL BK130.out) Try.underlying110 rfl (by kernel_rfl)) rfl ?_
  exact ⟨by first | rfl | (simp [errW_none, errW_some] <;> rfl) | (simp [*, errW_none, errW_some] <;> rfl), bsL HB.out⟩

/-! ### facts_Of: function 32 -/
def facts_Of.f (a0 : Int) (a1 : Int) : Option (Int × Int × Int × Int × Int × Int) := (knownbits_Of.f a0 a1).bind fun bt134 => ((interval_Of.f a0 a1).bind fun bt136 => ((facts_fact.f bt134.1 bt134.2 bt136.1 bt136.2.1 bt136.2.2.1 bt136.2.2.2).bind fun bt140 => (some (bt140.1, bt140.2.1, bt140.2.2.1, bt140.2.2.2.1, bt140.2.2.2.2.1, bt140.2.2.2.2.2))))
set_option maxHeartbeats 8000000 in
set_option maxRecDepth 100000 in
theorem facts_Of.calls (a0 : Int) (a1 : Int) (r1 : Int) (r2 : Int) (r3 : Int) (r4 : Int) (r5 : Int) (r6 : Int) (w : World) (h : facts_Of.f a0 a1 = some (r1, r2, r3, r4, r5, r6)) :
  Calls Try.prog 32 #[.int .i64 a0, .int .u64 a1] w fun e w' => e = .returned (.agg #[.int .u64 r1, .int .u64 r2, .int .u64 r3, .int .u64 r4, .int .i64 r5, .int .i64 r6]) ∧ Below w.heap.size w w' := by
 have hu50 := Try.underlying50
 have HB := Aside0.mk (Below.refl w.heap.size w)
 have H : ((knownbits_Of.f a0 a1).bind fun bt134 => ((interval_Of.f a0 a1).bind fun bt136 => ((facts_fact.f bt134.1 bt134.2 bt136.1 bt136.2.1 bt136.2.2.1 bt136.2.2.2).bind fun bt140 => (some (bt140.1, bt140.2.1, bt140.2.2.1, bt140.2.2.2.1, bt140.2.2.2.2.1, bt140.2.2.2.2.2))))) = some (r1, r2, r3, r4, r5, r6) := h
 clear h
 replace H := Option.bind_eq_some_iff.mp H
 obtain ⟨⟨t134, t135⟩, A30, H⟩ := H
 replace H : ((interval_Of.f a0 a1).bind fun bt136 => ((facts_fact.f t134 t135 bt136.1 bt136.2.1 bt136.2.2.1 bt136.2.2.2).bind fun bt140 => (some (bt140.1, bt140.2.1, bt140.2.2.1, bt140.2.2.2.1, bt140.2.2.2.2.1, bt140.2.2.2.2.2)))) = some (r1, r2, r3, r4, r5, r6) := H
 have A3 := Aside0.mk A30
 clear A30
 replace H := Option.bind_eq_some_iff.mp H
 obtain ⟨⟨t136, t137, t138, t139⟩, A40, H⟩ := H
 replace H : ((facts_fact.f t134 t135 t136 t137 t138 t139).bind fun bt140 => (some (bt140.1, bt140.2.1, bt140.2.2.1, bt140.2.2.2.1, bt140.2.2.2.2.1, bt140.2.2.2.2.2))) = some (r1, r2, r3, r4, r5, r6) := H
 have A4 := Aside0.mk A40
 clear A40
 replace H := Option.bind_eq_some_iff.mp H
 obtain ⟨⟨t140, t141, t142, t143, t144, t145⟩, A50, H⟩ := H
 replace H : (some (t140, t141, t142, t143, t144, t145)) = some (r1, r2, r3, r4, r5, r6) := H
 have A5 := Aside0.mk A50
 clear A50
 simp only [Option.some.injEq, Prod.mk.injEq] at H
 obtain ⟨rfl, rfl, rfl, rfl, rfl, rfl⟩ := H
 go_enter Try.func32, Try.ntmps32
 go_wp2_with (first | ((with_reducible refine gate_dst (N := 4) rfl ?_); refine box_event ?hg (N := 4) ?hd (cs := #[.int .u64 0, .int .u64 0, .int .u64 0, .int .u64 0, .int .i64 0, .int .i64 0]) (t := 50) ?hr ?_; (case hd => rfl); (case hg => rfl); (case hr => first | (go_simp; done) | (go_simp; rfl)); intro gb133 hg w6 hbox hb; have n0_ := bsB HB.out hb; have n1_ := Aside0.mk (hbox); have n2_ := szB hg HB.out; have n3_ := szB hg HB.out; clear HB; have HB := n0_; have BK133 := n1_; have GW133 := n2_; have GE133 := n3_; clear n0_ n1_ n2_ n3_; clear hb hbox hg) | ((with_reducible refine gate_callee (f := 89) rfl ?_); refine gL (some 7) Try.func89 #[.int .i64 a0, .int .u64 a1] ?_; (with_reducible refine (knownbits_Of.calls a0 a1 t134 t135 _ A3.out).mono ?_); rintro e w7 ⟨rfl, hb⟩; refine ⟨_, rfl, ?_⟩; have n0_ := bkB BK133.out hb; have n1_ := bsB HB.out hb; clear BK133; clear HB; have BK133 := n0_; have HB := n1_; clear n0_ n1_; (try clear hb); (try clear hb2); (try clear hk); (try clear hi)) | ((with_reducible refine gate_callee (f := 17) rfl ?_); refine gL (some 10) Try.func17 #[.int .i64 a0, .int .u64 a1] ?_; (with_reducible refine (interval_Of.calls a0 a1 t136 t137 t138 t139 _ A4.out).mono ?_); rintro e w8 ⟨rfl, hb⟩; refine ⟨_, rfl, ?_⟩; have n0_ := bkB BK133.out hb; have n1_ := bsB HB.out hb; clear BK133; clear HB; have BK133 := n0_; have HB := n1_; clear n0_ n1_; (try clear hb); (try clear hb2); (try clear hk); (try clear hi)) | ((with_reducible refine gate_callee (f := 78) rfl ?_); refine gL (some 11) Try.func78 #[.agg #[.int .u64 t134, .int .u64 t135], .agg #[.int .u64 t136, .int .u64 t137, .int .i64 t138, .int .i64 t139]] ?_; (with_reducible refine (facts_fact.calls t134 t135 t136 t137 t138 t139 t140 t141 t142 t143 t144 t145 _ A5.out).mono ?_); rintro e w9 ⟨rfl, hb⟩; refine ⟨_, rfl, ?_⟩; have n0_ := bkB BK133.out hb; have n1_ := bsB HB.out hb; clear BK133; clear HB; have BK133 := n0_; have HB := n1_; clear n0_ n1_; (try clear hb); (try clear hb2); (try clear hk); (try clear hi); have hcz10_0 : w9.cell? ⟨gb133, 0, none⟩ = some (.int .u64 0) := (blk_cell BK133.out 0).trans rfl; have hcz10_1 : w9.cell? ⟨gb133, 1, none⟩ = some (.int .u64 0) := (blk_cell BK133.out 1).trans rfl; have hcz10_2 : w9.cell? ⟨gb133, 2, none⟩ = some (.int .u64 0) := (blk_cell BK133.out 2).trans rfl; have hcz10_3 : w9.cell? ⟨gb133, 3, none⟩ = some (.int .u64 0) := (blk_cell BK133.out 3).trans rfl; have hcz10_4 : w9.cell? ⟨gb133, 4, none⟩ = some (.int .i64 0) := (blk_cell BK133.out 4).trans rfl; have hcz10_5 : w9.cell? ⟨gb133, 5, none⟩ = some (.int .i64 0) := (blk_cell BK133.out 5).trans rfl; have hfz10_0 := blk_frozen BK133.out 0; have hfz10_1 := blk_frozen BK133.out 1; have hfz10_2 := blk_frozen BK133.out 2; have hfz10_3 := blk_frozen BK133.out 3; have hfz10_4 := blk_frozen BK133.out 4; have hfz10_5 := blk_frozen BK133.out 5))
 refine bodyPost_ret (results_cell_row rfl _ _ gb133 50 #[.int .u64 t140, .int .u64 t141, .int .u64 t142, .int .u64 t143, .int .i64 t144, .int .i64 t145] (0, 0) _ rfl (by (with_reducible repeat (first | refine blk_drewN ?_ _ | refine blk_drew ?_ | refine blk_alloc ?_ _)); refine blk_put (cs := #[.int .u64 t140, .int .u64 t141, .int .u64 t142, .int .u64 t143, .int .i64 t144, .int .i64 0]) ?_ 5 _ rfl; (with_reducible repeat (first | refine blk_drewN ?_ _ | refine blk_drew ?_ | refine blk_alloc ?_ _)); refine blk_put (cs := #[.int .u64 t140, .int .u64 t141, .int .u64 t142, .int .u64 t143, .int .i64 0, .int .i64 0]) ?_ 4 _ rfl; (with_reducible repeat (first | refine blk_drewN ?_ _ | refine blk_drew ?_ | refine blk_alloc ?_ _)); refine blk_put (cs := #[.int .u64 t140, .int .u64 t141, .int .u64 t142, .int .u64 0, .int .i64 0, .int .i64 0]) ?_ 3 _ rfl; (with_reducible repeat (first | refine blk_drewN ?_ _ | refine blk_drew ?_ | refine blk_alloc ?_ _)); refine blk_put (cs := #[.int .u64 t140, .int .u64 t141, .int .u64 0, .int .u64 0, .int .i64 0, .int .i64 0]) ?_ 2 _ rfl; (with_reducible repeat (first | refine blk_drewN ?_ _ | refine blk_drew ?_ | refine blk_alloc ?_ _)); refine blk_put (cs := #[.int .u64 t140, .int .u64 0, .int .u64 0, .int .u64 0, .int .i64 0, .int .i64 0]) ?_ 1 _ rfl; (with_reducible repeat (first | refine blk_drewN ?_ _ | refine blk_drew ?_ | refine blk_alloc ?_ _)); refine blk_put (cs := #[.int .u64 0, .int .u64 0, .int .u64 0, .int .u64 0, .int .i64 0, .int .i64 0]) ?_ 0 _ rfl; exact bfL BK133.out) Try.underlying50 rfl (by kernel_rfl)) rfl ?_
 exact ⟨by first | rfl | (simp [errW_none, errW_some] <;> rfl) | (simp [*, errW_none, errW_some] <;> rfl), bsL HB.out⟩

end Go.Proofs.Ytbiohdgeclokmaa.P
