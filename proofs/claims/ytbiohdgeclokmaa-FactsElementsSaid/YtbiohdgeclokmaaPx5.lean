-- made by a program of this work (wip/mkprint.py, wip/mp.sh) out of the translation
import Derived.Test.YtbiohdgeclokmaaPx0
import Derived.Test.YtbiohdgeclokmaaPx4
namespace Go.Proofs.Ytbiohdgeclokmaa.P
open Go.RowKit Go.Proofs.YtbiohdgeclokmaaW.PrintWords Go.Proofs.YtbiohdgeclokmaaW.PrintLast Go.Proofs.YtbiohdgeclokmaaW.PrintMore
attribute [local go_sem] max2_int min2_int max_two min_two max_three min_three max_four min_four   -- for this text's walks alone
set_option linter.unusedVariables false
set_option linter.unusedSimpArgs false

/-! ### jacquardref12_Valid: function 83 -/
def jacquardref12_Valid.f (k : Nat) (a0 : Int) (a1_0 : Int) (a1_1 : Int) : Option (Bool) := if a0 ≥ 1 then (if a0 ≤ 64 then ((jacquardref12_Mask.f k a0).bind fun t225 => (if (Go.bits .andNot .u64 (Go.bits .or .u64 a1_0 a1_1) t225) = 0 then (some ((Go.bits .and .u64 a1_0 a1_1) == 0)) else (some false))) else (some false)) else (some false)
theorem jacquardref12_Valid.mono : ∀ a0 a1 a2 k, LeO (jacquardref12_Valid.f k a0 a1 a2) (jacquardref12_Valid.f (k + 1) a0 a1 a2) := by
 intro a0 a1 a2 k
 unfold jacquardref12_Valid.f
 repeat' first
   | (with_reducible exact jacquardref12_Mask.mono _ _)
   | (with_reducible exact LeO.refl _)
   | (with_reducible exact LeO.none _)
   | (with_reducible refine LeO.ite ?_ ?_)
   | (with_reducible refine LeO.bind ?_ (fun _ => ?_))
   | exact jacquardref12_Mask.mono _ _
   | exact LeO.none _
   | refine LeO.ite ?_ ?_
   | refine LeO.bind ?_ (fun _ => ?_)
set_option maxHeartbeats 8000000 in
set_option maxRecDepth 100000 in
theorem jacquardref12_Valid.calls (k : Nat) (a0 : Int) (a1_0 : Int) (a1_1 : Int) (r : Bool) (w : World) (h : jacquardref12_Valid.f k a0 a1_0 a1_1 = some r) :
  Calls Try.prog 83 #[.int .i64 a0, .agg #[.int .u64 a1_0, .int .u64 a1_1]] w fun e w' => e = .returned (.bool r) ∧ Below w.heap.size w w' := by
 have hu110 := Try.underlying110
 have HB := Aside0.mk (Below.refl w.heap.size w)
 have H : (if a0 ≥ 1 then (if a0 ≤ 64 then ((jacquardref12_Mask.f k a0).bind fun t225 => (if (Go.bits .andNot .u64 (Go.bits .or .u64 a1_0 a1_1) t225) = 0 then (some ((Go.bits .and .u64 a1_0 a1_1) == 0)) else (some false))) else (some false)) else (some false)) = some r := h
 clear h
 by_cases c3 : a0 ≥ 1
 ·
  rw [if_pos c3] at H
  have c3b0 : decide (1 ≤ a0) = true := decide_eq_true c3
  clear c3
  by_cases c4 : a0 ≤ 64
  ·
   rw [if_pos c4] at H
   have c4b0 : decide (a0 ≤ 64) = true := decide_eq_true c4
   clear c4
   replace H := Option.bind_eq_some_iff.mp H
   obtain ⟨t225, A50, H⟩ := H
   replace H : (if (Go.bits .andNot .u64 (Go.bits .or .u64 a1_0 a1_1) t225) = 0 then (some ((Go.bits .and .u64 a1_0 a1_1) == 0)) else (some false)) = some r := H
   have A5 := Aside0.mk A50
   clear A50
   by_cases c6 : (Go.bits .andNot .u64 (Go.bits .or .u64 a1_0 a1_1) t225) = 0
   ·
    rw [if_pos c6] at H
    have c6b0 : ((Go.bits .andNot .u64 (Go.bits .or .u64 a1_0 a1_1) t225) == 0) = true := beq_iff_eq.mpr c6
    have c6b1 : ((Go.bits .andNot .u64 (Go.bits .or .u64 a1_0 a1_1) t225) != 0) = false := bne_eq_false_iff_eq.mpr c6
    clear c6
    obtain rfl := Option.some.inj H
    go_enter Try.func83, Try.ntmps83
    go_wp2_with (first | ((with_reducible refine gate_dst (N := 3) rfl ?_); refine boxE (N := 3) (cs := #[.int .u64 a1_0, .int .u64 a1_1]) (t := 110) ?_; intro gb224 hg w7 hbox hb; have BK224 := Aside0.mk (hbox); have GW224 := szB hg HB.out; have GE224 := szB hg HB.out; replace HB := bsB HB.out hb; clear hb hbox hg; obtain ⟨hcz8_0, hcz8_1, hfz8_0, hfz8_1⟩ := own2 BK224.out) | (go_at_call 16; (with_reducible refine (jacquardref12_Mask.calls k a0 t225 _ A5.out).mono ?_); rintro e w' ⟨rfl, ⟨nd, rfl⟩⟩; (try first | exact ⟨rfl, _, World.drewN_drewN _ _ _⟩ | exact ⟨rfl, _, Eq.trans (World.drewN_drewN _ _ _) (congrArg (World.drewN _) (Nat.add_assoc _ _ _))⟩)))
    repeat (go_quiet (first | ((with_reducible refine gate_dst (N := 3) rfl ?_); refine boxE (N := 3) (cs := #[.int .u64 a1_0, .int .u64 a1_1]) (t := 110) ?_; intro gb224 hg w7 hbox hb; have BK224 := Aside0.mk (hbox); have GW224 := szB hg HB.out; have GE224 := szB hg HB.out; replace HB := bsB HB.out hb; clear hb hbox hg; obtain ⟨hcz8_0, hcz8_1, hfz8_0, hfz8_1⟩ := own2 BK224.out) | (go_at_call 16; (with_reducible refine (jacquardref12_Mask.calls k a0 t225 _ A5.out).mono ?_); rintro e w' ⟨rfl, ⟨nd, rfl⟩⟩; (try first | exact ⟨rfl, _, World.drewN_drewN _ _ _⟩ | exact ⟨rfl, _, Eq.trans (World.drewN_drewN _ _ _) (congrArg (World.drewN _) (Nat.add_assoc _ _ _))⟩))); try go_wp2_with (first | ((with_reducible refine gate_dst (N := 3) rfl ?_); refine boxE (N := 3) (cs := #[.int .u64 a1_0, .int .u64 a1_1]) (t := 110) ?_; intro gb224 hg w7 hbox hb; have BK224 := Aside0.mk (hbox); have GW224 := szB hg HB.out; have GE224 := szB hg HB.out; replace HB := bsB HB.out hb; clear hb hbox hg; obtain ⟨hcz8_0, hcz8_1, hfz8_0, hfz8_1⟩ := own2 BK224.out) | (go_at_call 16; (with_reducible refine (jacquardref12_Mask.calls k a0 t225 _ A5.out).mono ?_); rintro e w' ⟨rfl, ⟨nd, rfl⟩⟩; (try first | exact ⟨rfl, _, World.drewN_drewN _ _ _⟩ | exact ⟨rfl, _, Eq.trans (World.drewN_drewN _ _ _) (congrArg (World.drewN _) (Nat.add_assoc _ _ _))⟩))))
    go_ret
    exact ⟨by first | rfl | (simp [errW_none, errW_some] <;> rfl) | (simp [*, errW_none, errW_some] <;> rfl), bsL HB.out⟩
   ·
    rw [if_neg c6] at H
    have c6b0 : ((Go.bits .andNot .u64 (Go.bits .or .u64 a1_0 a1_1) t225) == 0) = false := beq_eq_false_iff_ne.mpr c6
    have c6b1 : ((Go.bits .andNot .u64 (Go.bits .or .u64 a1_0 a1_1) t225) != 0) = true := bne_iff_ne.mpr c6
    obtain rfl := Option.some.inj H
    go_enter Try.func83, Try.ntmps83
    go_wp2_with (first | ((with_reducible refine gate_dst (N := 3) rfl ?_); refine boxE (N := 3) (cs := #[.int .u64 a1_0, .int .u64 a1_1]) (t := 110) ?_; intro gb224 hg w9 hbox hb; have BK224 := Aside0.mk (hbox); have GW224 := szB hg HB.out; have GE224 := szB hg HB.out; replace HB := bsB HB.out hb; clear hb hbox hg; obtain ⟨hcz10_0, hcz10_1, hfz10_0, hfz10_1⟩ := own2 BK224.out) | (go_at_call 16; (with_reducible refine (jacquardref12_Mask.calls k a0 t225 _ A5.out).mono ?_); rintro e w' ⟨rfl, ⟨nd, rfl⟩⟩; (try first | exact ⟨rfl, _, World.drewN_drewN _ _ _⟩ | exact ⟨rfl, _, Eq.trans (World.drewN_drewN _ _ _) (congrArg (World.drewN _) (Nat.add_assoc _ _ _))⟩)))
    repeat (go_quiet (first | ((with_reducible refine gate_dst (N := 3) rfl ?_); refine boxE (N := 3) (cs := #[.int .u64 a1_0, .int .u64 a1_1]) (t := 110) ?_; intro gb224 hg w9 hbox hb; have BK224 := Aside0.mk (hbox); have GW224 := szB hg HB.out; have GE224 := szB hg HB.out; replace HB := bsB HB.out hb; clear hb hbox hg; obtain ⟨hcz10_0, hcz10_1, hfz10_0, hfz10_1⟩ := own2 BK224.out) | (go_at_call 16; (with_reducible refine (jacquardref12_Mask.calls k a0 t225 _ A5.out).mono ?_); rintro e w' ⟨rfl, ⟨nd, rfl⟩⟩; (try first | exact ⟨rfl, _, World.drewN_drewN _ _ _⟩ | exact ⟨rfl, _, Eq.trans (World.drewN_drewN _ _ _) (congrArg (World.drewN _) (Nat.add_assoc _ _ _))⟩))); try go_wp2_with (first | ((with_reducible refine gate_dst (N := 3) rfl ?_); refine boxE (N := 3) (cs := #[.int .u64 a1_0, .int .u64 a1_1]) (t := 110) ?_; intro gb224 hg w9 hbox hb; have BK224 := Aside0.mk (hbox); have GW224 := szB hg HB.out; have GE224 := szB hg HB.out; replace HB := bsB HB.out hb; clear hb hbox hg; obtain ⟨hcz10_0, hcz10_1, hfz10_0, hfz10_1⟩ := own2 BK224.out) | (go_at_call 16; (with_reducible refine (jacquardref12_Mask.calls k a0 t225 _ A5.out).mono ?_); rintro e w' ⟨rfl, ⟨nd, rfl⟩⟩; (try first | exact ⟨rfl, _, World.drewN_drewN _ _ _⟩ | exact ⟨rfl, _, Eq.trans (World.drewN_drewN _ _ _) (congrArg (World.drewN _) (Nat.add_assoc _ _ _))⟩))))
    go_ret
    exact ⟨by first | rfl | (simp [errW_none, errW_some] <;> rfl) | (simp [*, errW_none, errW_some] <;> rfl), bsL HB.out⟩
  ·
   rw [if_neg c4] at H
   have c4b0 : decide (a0 ≤ 64) = false := decide_eq_false c4
   clear c4
   obtain rfl := Option.some.inj H
   go_enter Try.func83, Try.ntmps83
   go_wp2_with (first | ((with_reducible refine gate_dst (N := 3) rfl ?_); refine boxE (N := 3) (cs := #[.int .u64 a1_0, .int .u64 a1_1]) (t := 110) ?_; intro gb224 hg w11 hbox hb; have BK224 := Aside0.mk (hbox); have GW224 := szB hg HB.out; have GE224 := szB hg HB.out; replace HB := bsB HB.out hb; clear hb hbox hg))
   repeat (go_quiet (first | ((with_reducible refine gate_dst (N := 3) rfl ?_); refine boxE (N := 3) (cs := #[.int .u64 a1_0, .int .u64 a1_1]) (t := 110) ?_; intro gb224 hg w11 hbox hb; have BK224 := Aside0.mk (hbox); have GW224 := szB hg HB.out; have GE224 := szB hg HB.out; replace HB := bsB HB.out hb; clear hb hbox hg)); try go_wp2_with (first | ((with_reducible refine gate_dst (N := 3) rfl ?_); refine boxE (N := 3) (cs := #[.int .u64 a1_0, .int .u64 a1_1]) (t := 110) ?_; intro gb224 hg w11 hbox hb; have BK224 := Aside0.mk (hbox); have GW224 := szB hg HB.out; have GE224 := szB hg HB.out; replace HB := bsB HB.out hb; clear hb hbox hg)))
   go_ret
   exact ⟨by first | rfl | (simp [errW_none, errW_some] <;> rfl) | (simp [*, errW_none, errW_some] <;> rfl), bsL HB.out⟩
 ·
  rw [if_neg c3] at H
  have c3b0 : decide (1 ≤ a0) = false := decide_eq_false c3
  clear c3
  obtain rfl := Option.some.inj H
  go_enter Try.func83, Try.ntmps83
  go_wp2_with (first | ((with_reducible refine gate_dst (N := 3) rfl ?_); refine boxE (N := 3) (cs := #[.int .u64 a1_0, .int .u64 a1_1]) (t := 110) ?_; intro gb224 hg w12 hbox hb; have BK224 := Aside0.mk (hbox); have GW224 := szB hg HB.out; have GE224 := szB hg HB.out; replace HB := bsB HB.out hb; clear hb hbox hg))
  repeat (go_quiet (first | ((with_reducible refine gate_dst (N := 3) rfl ?_); refine boxE (N := 3) (cs := #[.int .u64 a1_0, .int .u64 a1_1]) (t := 110) ?_; intro gb224 hg w12 hbox hb; have BK224 := Aside0.mk (hbox); have GW224 := szB hg HB.out; have GE224 := szB hg HB.out; replace HB := bsB HB.out hb; clear hb hbox hg)); try go_wp2_with (first | ((with_reducible refine gate_dst (N := 3) rfl ?_); refine boxE (N := 3) (cs := #[.int .u64 a1_0, .int .u64 a1_1]) (t := 110) ?_; intro gb224 hg w12 hbox hb; have BK224 := Aside0.mk (hbox); have GW224 := szB hg HB.out; have GE224 := szB hg HB.out; replace HB := bsB HB.out hb; clear hb hbox hg)))
  go_ret
  exact ⟨by first | rfl | (simp [errW_none, errW_some] <;> rfl) | (simp [*, errW_none, errW_some] <;> rfl), bsL HB.out⟩

/-! ### jacquardref14_span: function 84 -/
def jacquardref14_span.f (a0_0 : Int) (a0_1 : Int) (a0_2 : Int) (a0_3 : Int) (a0_4 : Int) (a0_5 : Int) : Option (Int × Int × Int × Int) := some (a0_2, a0_3, a0_4, a0_5)
set_option maxHeartbeats 8000000 in
set_option maxRecDepth 100000 in
theorem jacquardref14_span.calls (a0_0 : Int) (a0_1 : Int) (a0_2 : Int) (a0_3 : Int) (a0_4 : Int) (a0_5 : Int) (r1 : Int) (r2 : Int) (r3 : Int) (r4 : Int) (w : World) (h : jacquardref14_span.f a0_0 a0_1 a0_2 a0_3 a0_4 a0_5 = some (r1, r2, r3, r4)) :
  Calls Try.prog 84 #[.agg #[.int .u64 a0_0, .int .u64 a0_1, .int .u64 a0_2, .int .u64 a0_3, .int .i64 a0_4, .int .i64 a0_5]] w fun e w' => e = .returned (.agg #[.int .u64 r1, .int .u64 r2, .int .i64 r3, .int .i64 r4]) ∧ Below w.heap.size w w' := by
 have hu50 := Try.underlying50
 have hu30 := Try.underlying30
 have HB := Aside0.mk (Below.refl w.heap.size w)
 have H : (some (a0_2, a0_3, a0_4, a0_5)) = some (r1, r2, r3, r4) := h
 clear h
 simp only [Option.some.injEq, Prod.mk.injEq] at H
 obtain ⟨rfl, rfl, rfl, rfl⟩ := H
 go_enter Try.func84, Try.ntmps84
 go_wp2_with (first | ((with_reducible refine gate_dst (N := 1) rfl ?_); refine boxE (N := 1) (cs := #[.int .u64 a0_0, .int .u64 a0_1, .int .u64 a0_2, .int .u64 a0_3, .int .i64 a0_4, .int .i64 a0_5]) (t := 50) ?_; intro gb226 hg w2 hbox hb; have BK226 := Aside0.mk (hbox); have GW226 := szB hg HB.out; have GE226 := szB hg HB.out; replace HB := bsB HB.out hb; clear hb hbox hg) | ((with_reducible refine gate_dst (N := 2) rfl ?_); refine boxE (N := 2) (cs := #[.int .u64 0, .int .u64 0, .int .i64 0, .int .i64 0]) (t := 30) ?_; intro gb227 hg w3 hbox hb; have BK227 := Aside0.mk (hbox); have GW227 := szB hg HB.out; have GE227 := szB hg HB.out; have NB226_227 := neL hg BK226.out; have NB227_226 := neG hg BK226.out; replace BK226 := bkB BK226.out hb; replace HB := bsB HB.out hb; clear hb hbox hg; have hnb4 := NB226_227.out; have hnc4 := NB227_226.out; obtain ⟨hcz5_0, hcz5_1, hcz5_2, hcz5_3, hcz5_4, hcz5_5, hfz5_0, hfz5_1, hfz5_2, hfz5_3, hfz5_4, hfz5_5⟩ := own6 BK226.out; obtain ⟨hcz6_0, hcz6_1, hcz6_2, hcz6_3, hfz6_0, hfz6_1, hfz6_2, hfz6_3⟩ := own4 BK227.out))
 refine bodyPost_ret (results_cell_row rfl _ _ gb227 30 #[.int .u64 a0_2, .int .u64 a0_3, .int .i64 a0_4, .int .i64 a0_5] (0, 0) _ rfl (by (with_reducible repeat (first | refine blk_drewN ?_ _ | refine blk_drew ?_ | refine blk_alloc ?_ _)); refine blk_put (cs := #[.int .u64 a0_2, .int .u64 a0_3, .int .i64 a0_4, .int .i64 0]) ?_ 3 _ rfl; (with_reducible repeat (first | refine blk_drewN ?_ _ | refine blk_drew ?_ | refine blk_alloc ?_ _)); refine blk_put (cs := #[.int .u64 a0_2, .int .u64 a0_3, .int .i64 0, .int .i64 0]) ?_ 2 _ rfl; (with_reducible repeat (first | refine blk_drewN ?_ _ | refine blk_drew ?_ | refine blk_alloc ?_ _)); refine blk_put (cs := #[.int .u64 a0_2, .int .u64 0, .int .i64 0, .int .i64 0]) ?_ 1 _ rfl; (with_reducible repeat (first | refine blk_drewN ?_ _ | refine blk_drew ?_ | refine blk_alloc ?_ _)); refine blk_put (cs := #[.int .u64 0, .int .u64 0, .int .i64 0, .int .i64 0]) ?_ 0 _ rfl; exact bfL BK227.out) Try.underlying30 rfl (by kernel_rfl)) rfl ?_
 exact ⟨by first | rfl | (simp [errW_none, errW_some] <;> rfl) | (simp [*, errW_none, errW_some] <;> rfl), bsL HB.out⟩

/-! ### jacquardref14_Valid: function 27 -/
def jacquardref14_Valid.f (k : Nat) (a0 : Int) (a1_0 : Int) (a1_1 : Int) (a1_2 : Int) (a1_3 : Int) (a1_4 : Int) (a1_5 : Int) : Option (Bool) := (jacquardref14_bits.f a1_0 a1_1 a1_2 a1_3 a1_4 a1_5).bind fun bt229 => ((jacquardref12_Valid.f k a0 bt229.1 bt229.2).bind fun t231 => (if t231 = true then ((jacquardref14_span.f a1_0 a1_1 a1_2 a1_3 a1_4 a1_5).bind fun bt232 => ((jacquardref13_Valid.f k a0 bt232.1 bt232.2.1 bt232.2.2.1 bt232.2.2.2).bind fun t236 => (some t236))) else (some false)))
theorem jacquardref14_Valid.mono : ∀ a0 a1 a2 a3 a4 a5 a6 k, LeO (jacquardref14_Valid.f k a0 a1 a2 a3 a4 a5 a6) (jacquardref14_Valid.f (k + 1) a0 a1 a2 a3 a4 a5 a6) := by
 intro a0 a1 a2 a3 a4 a5 a6 k
 unfold jacquardref14_Valid.f
 repeat' first
   | (with_reducible exact jacquardref12_Valid.mono _ _ _ _)
   | (with_reducible exact jacquardref13_Valid.mono _ _ _ _ _ _)
   | (with_reducible exact LeO.refl _)
   | (with_reducible exact LeO.none _)
   | (with_reducible refine LeO.ite ?_ ?_)
   | (with_reducible refine LeO.bind ?_ (fun _ => ?_))
   | exact jacquardref12_Valid.mono _ _ _ _
   | exact jacquardref13_Valid.mono _ _ _ _ _ _
   | exact LeO.none _
   | refine LeO.ite ?_ ?_
   | refine LeO.bind ?_ (fun _ => ?_)
set_option maxHeartbeats 8000000 in
set_option maxRecDepth 100000 in
theorem jacquardref14_Valid.calls (k : Nat) (a0 : Int) (a1_0 : Int) (a1_1 : Int) (a1_2 : Int) (a1_3 : Int) (a1_4 : Int) (a1_5 : Int) (r : Bool) (w : World) (h : jacquardref14_Valid.f k a0 a1_0 a1_1 a1_2 a1_3 a1_4 a1_5 = some r) :
  Calls Try.prog 27 #[.int .i64 a0, .agg #[.int .u64 a1_0, .int .u64 a1_1, .int .u64 a1_2, .int .u64 a1_3, .int .i64 a1_4, .int .i64 a1_5]] w fun e w' => e = .returned (.bool r) ∧ Below w.heap.size w w' := by
 have hu50 := Try.underlying50
 have HB := Aside0.mk (Below.refl w.heap.size w)
 have H : ((jacquardref14_bits.f a1_0 a1_1 a1_2 a1_3 a1_4 a1_5).bind fun bt229 => ((jacquardref12_Valid.f k a0 bt229.1 bt229.2).bind fun t231 => (if t231 = true then ((jacquardref14_span.f a1_0 a1_1 a1_2 a1_3 a1_4 a1_5).bind fun bt232 => ((jacquardref13_Valid.f k a0 bt232.1 bt232.2.1 bt232.2.2.1 bt232.2.2.2).bind fun t236 => (some t236))) else (some false)))) = some r := h
 clear h
 replace H := Option.bind_eq_some_iff.mp H
 obtain ⟨⟨t229, t230⟩, A30, H⟩ := H
 replace H : ((jacquardref12_Valid.f k a0 t229 t230).bind fun t231 => (if t231 = true then ((jacquardref14_span.f a1_0 a1_1 a1_2 a1_3 a1_4 a1_5).bind fun bt232 => ((jacquardref13_Valid.f k a0 bt232.1 bt232.2.1 bt232.2.2.1 bt232.2.2.2).bind fun t236 => (some t236))) else (some false))) = some r := H
 have A3 := Aside0.mk A30
 clear A30
 replace H := Option.bind_eq_some_iff.mp H
 obtain ⟨t231, A40, H⟩ := H
 replace H : (if t231 = true then ((jacquardref14_span.f a1_0 a1_1 a1_2 a1_3 a1_4 a1_5).bind fun bt232 => ((jacquardref13_Valid.f k a0 bt232.1 bt232.2.1 bt232.2.2.1 bt232.2.2.2).bind fun t236 => (some t236))) else (some false)) = some r := H
 have A4 := Aside0.mk A40
 clear A40
 by_cases c5 : t231 = true
 ·
  subst c5
  have H1 : ((jacquardref14_span.f a1_0 a1_1 a1_2 a1_3 a1_4 a1_5).bind fun bt232 => ((jacquardref13_Valid.f k a0 bt232.1 bt232.2.1 bt232.2.2.1 bt232.2.2.2).bind fun t236 => (some t236))) = some r := by rw [if_pos rfl] at H; exact H
  clear H
  have H := H1
  clear H1
  replace H := Option.bind_eq_some_iff.mp H
  obtain ⟨⟨t232, t233, t234, t235⟩, A60, H⟩ := H
  replace H : ((jacquardref13_Valid.f k a0 t232 t233 t234 t235).bind fun t236 => (some t236)) = some r := H
  have A6 := Aside0.mk A60
  clear A60
  replace H := Option.bind_eq_some_iff.mp H
  obtain ⟨t236, A70, H⟩ := H
  replace H : (some t236) = some r := H
  have A7 := Aside0.mk A70
  clear A70
  obtain rfl := Option.some.inj H
  go_enter Try.func27, Try.ntmps27
  go_wp2_with (first | ((with_reducible refine gate_dst (N := 3) rfl ?_); refine boxE (N := 3) (cs := #[.int .u64 a1_0, .int .u64 a1_1, .int .u64 a1_2, .int .u64 a1_3, .int .i64 a1_4, .int .i64 a1_5]) (t := 50) ?_; intro gb228 hg w8 hbox hb; have BK228 := Aside0.mk (hbox); have GW228 := szB hg HB.out; have GE228 := szB hg HB.out; replace HB := bsB HB.out hb; clear hb hbox hg; obtain ⟨hcz9_0, hcz9_1, hcz9_2, hcz9_3, hcz9_4, hcz9_5, hfz9_0, hfz9_1, hfz9_2, hfz9_3, hfz9_4, hfz9_5⟩ := own6 BK228.out) | ((with_reducible refine gate_callee (f := 80) rfl ?_); refine gL (some 7) Try.func80 #[.agg #[.int .u64 a1_0, .int .u64 a1_1, .int .u64 a1_2, .int .u64 a1_3, .int .i64 a1_4, .int .i64 a1_5]] ?_; (with_reducible refine (jacquardref14_bits.calls a1_0 a1_1 a1_2 a1_3 a1_4 a1_5 t229 t230 _ A3.out).mono ?_); rintro e w10 ⟨rfl, hb⟩; refine ⟨_, rfl, ?_⟩; replace BK228 := bkB BK228.out hb; replace HB := bsB HB.out hb; (try clear hb); (try clear hb2); (try clear hk); (try clear hi)) | ((with_reducible refine gate_callee (f := 83) rfl ?_); refine gL (some 8) Try.func83 #[.int .i64 a0, .agg #[.int .u64 t229, .int .u64 t230]] ?_; (with_reducible refine (jacquardref12_Valid.calls k a0 t229 t230 true _ A4.out).mono ?_); rintro e w11 ⟨rfl, hb⟩; refine ⟨_, rfl, ?_⟩; replace BK228 := bkB BK228.out hb; replace HB := bsB HB.out hb; (try clear hb); (try clear hb2); (try clear hk); (try clear hi); obtain ⟨hcz12_0, hcz12_1, hcz12_2, hcz12_3, hcz12_4, hcz12_5, hfz12_0, hfz12_1, hfz12_2, hfz12_3, hfz12_4, hfz12_5⟩ := own6 BK228.out) | (go_at_call 84; (with_reducible refine (jacquardref14_span.calls a1_0 a1_1 a1_2 a1_3 a1_4 a1_5 t232 t233 t234 t235 _ A6.out).mono ?_); rintro e w13 ⟨rfl, hb⟩; replace BK228 := bkB BK228.out hb; replace HB := bsB HB.out hb; (try clear hb); (try clear hb2); (try clear hk); (try clear hi)) | (go_at_call 74; (with_reducible refine (jacquardref13_Valid.calls k a0 t232 t233 t234 t235 t236 _ A7.out).mono ?_); rintro e w14 ⟨rfl, hb⟩; replace BK228 := bkB BK228.out hb; replace HB := bsB HB.out hb; (try clear hb); (try clear hb2); (try clear hk); (try clear hi)))
  go_ret
  exact ⟨by first | rfl | (simp [errW_none, errW_some] <;> rfl) | (simp [*, errW_none, errW_some] <;> rfl), bsL HB.out⟩
 ·
  replace c5 := Bool.eq_false_iff.mpr c5
  subst c5
  have H1 : (some false) = some r := by rw [if_neg (show ¬ (false = true) by decide)] at H; exact H
  clear H
  have H := H1
  clear H1
  obtain rfl := Option.some.inj H
  go_enter Try.func27, Try.ntmps27
  go_wp2_with (first | ((with_reducible refine gate_dst (N := 3) rfl ?_); refine boxE (N := 3) (cs := #[.int .u64 a1_0, .int .u64 a1_1, .int .u64 a1_2, .int .u64 a1_3, .int .i64 a1_4, .int .i64 a1_5]) (t := 50) ?_; intro gb228 hg w15 hbox hb; have BK228 := Aside0.mk (hbox); have GW228 := szB hg HB.out; have GE228 := szB hg HB.out; replace HB := bsB HB.out hb; clear hb hbox hg; obtain ⟨hcz16_0, hcz16_1, hcz16_2, hcz16_3, hcz16_4, hcz16_5, hfz16_0, hfz16_1, hfz16_2, hfz16_3, hfz16_4, hfz16_5⟩ := own6 BK228.out) | ((with_reducible refine gate_callee (f := 80) rfl ?_); refine gL (some 7) Try.func80 #[.agg #[.int .u64 a1_0, .int .u64 a1_1, .int .u64 a1_2, .int .u64 a1_3, .int .i64 a1_4, .int .i64 a1_5]] ?_; (with_reducible refine (jacquardref14_bits.calls a1_0 a1_1 a1_2 a1_3 a1_4 a1_5 t229 t230 _ A3.out).mono ?_); rintro e w17 ⟨rfl, hb⟩; refine ⟨_, rfl, ?_⟩; replace BK228 := bkB BK228.out hb; replace HB := bsB HB.out hb; (try clear hb); (try clear hb2); (try clear hk); (try clear hi)) | ((with_reducible refine gate_callee (f := 83) rfl ?_); refine gL (some 8) Try.func83 #[.int .i64 a0, .agg #[.int .u64 t229, .int .u64 t230]] ?_; (with_reducible refine (jacquardref12_Valid.calls k a0 t229 t230 false _ A4.out).mono ?_); rintro e w18 ⟨rfl, hb⟩; refine ⟨_, rfl, ?_⟩; replace BK228 := bkB BK228.out hb; replace HB := bsB HB.out hb; (try clear hb); (try clear hb2); (try clear hk); (try clear hi)))
  go_ret
  exact ⟨by first | rfl | (simp [errW_none, errW_some] <;> rfl) | (simp [*, errW_none, errW_some] <;> rfl), bsL HB.out⟩

/-! ### jacquardref12_Bit: function 71 -/
def jacquardref12_Bit.f (a0 : Int) (a1 : Int) : Option (Int) := if 0 ≤ a1 then (some (wrap64 (Go.bits .and .u64 (shr .u64 a0 a1) 1))) else (none)
set_option maxHeartbeats 8000000 in
set_option maxRecDepth 100000 in
theorem jacquardref12_Bit.calls (a0 : Int) (a1 : Int) (r : Int) (w : World) (h : jacquardref12_Bit.f a0 a1 = some r) :
  Calls Try.prog 71 #[.int .u64 a0, .int .i64 a1] w fun e w' => e = .returned (.int .i64 r) ∧ Drawn0 w w' := by
 have H : (if 0 ≤ a1 then (some (wrap64 (Go.bits .and .u64 (shr .u64 a0 a1) 1))) else (none)) = some r := h
 clear h
 by_cases c3 : 0 ≤ a1
 ·
  rw [if_pos c3] at H
  have c3b0 := eq_true c3
  have c3b1 : decide (0 ≤ a1) = true := decide_eq_true c3
  clear c3
  obtain ⟨ji4, hji4⟩ : ∃ j_ : Int, (shr .u64 a0 a1) = j_ := ⟨_, rfl⟩
  replace H : (some (wrap64 (Go.bits .and .u64 (ji4) 1))) = some r := by first | (rw [hji4] at H; exact H) | (simp only [hji4] at H ⊢; exact H)
  have hji4_ : (a0 / 2 ^ min a1.toNat 64) = ji4 := hji4
  have hji4z : a1 ≤ 64 → (a0 / 2 ^ a1.toNat) = ji4 := shr_small hji4
  obtain rfl := Option.some.inj H
  go_enter Try.func71, Try.ntmps71
  go_wp2
  go_ret
  exact ⟨by first | rfl | (simp; done) | (simp only [← hji4] <;> (first | rfl | simp)) | (simp [*]; done), by repeat (first | exact Drawn0.refl _ | apply Drawn0.step)⟩
 ·
  rw [if_neg c3] at H
  exact absurd H (by simp)

/-! ### jacquardref12_Signed: function 73 -/
def jacquardref12_Signed.f (k : Nat) (a0 : Int) (a1 : Int) : Option (Int) := (jacquardref12_Bit.f a1 (wrap64 (a0 - 1))).bind fun t237 => (if t237 = 1 then ((jacquardref12_Mask.f k a0).bind fun t238 => (some (wrap64 (Go.bits .or .u64 a1 (Go.bits .xor .u64 18446744073709551615 t238))))) else (some (wrap64 (a1))))
theorem jacquardref12_Signed.mono : ∀ a0 a1 k, LeO (jacquardref12_Signed.f k a0 a1) (jacquardref12_Signed.f (k + 1) a0 a1) := by
 intro a0 a1 k
 unfold jacquardref12_Signed.f
 repeat' first
   | (with_reducible exact jacquardref12_Mask.mono _ _)
   | (with_reducible exact LeO.refl _)
   | (with_reducible exact LeO.none _)
   | (with_reducible refine LeO.ite ?_ ?_)
   | (with_reducible refine LeO.bind ?_ (fun _ => ?_))
   | exact jacquardref12_Mask.mono _ _
   | exact LeO.none _
   | refine LeO.ite ?_ ?_
   | refine LeO.bind ?_ (fun _ => ?_)
set_option maxHeartbeats 8000000 in
set_option maxRecDepth 100000 in
theorem jacquardref12_Signed.calls (k : Nat) (a0 : Int) (a1 : Int) (r : Int) (w : World) (h : jacquardref12_Signed.f k a0 a1 = some r) :
  Calls Try.prog 73 #[.int .i64 a0, .int .u64 a1] w fun e w' => e = .returned (.int .i64 r) ∧ Drawn0 w w' := by
 have H : ((jacquardref12_Bit.f a1 (wrap64 (a0 - 1))).bind fun t237 => (if t237 = 1 then ((jacquardref12_Mask.f k a0).bind fun t238 => (some (wrap64 (Go.bits .or .u64 a1 (Go.bits .xor .u64 18446744073709551615 t238))))) else (some (wrap64 (a1))))) = some r := h
 clear h
 replace H := Option.bind_eq_some_iff.mp H
 obtain ⟨t237, A30, H⟩ := H
 replace H : (if t237 = 1 then ((jacquardref12_Mask.f k a0).bind fun t238 => (some (wrap64 (Go.bits .or .u64 a1 (Go.bits .xor .u64 18446744073709551615 t238))))) else (some (wrap64 (a1)))) = some r := H
 have A3 := Aside0.mk A30
 clear A30
 by_cases c4 : t237 = 1
 ·
  rw [if_pos c4] at H
  have c4b0 : (t237 == 1) = true := beq_iff_eq.mpr c4
  have c4b1 : (t237 != 1) = false := bne_eq_false_iff_eq.mpr c4
  clear c4
  replace H := Option.bind_eq_some_iff.mp H
  obtain ⟨t238, A50, H⟩ := H
  replace H : (some (wrap64 (Go.bits .or .u64 a1 (Go.bits .xor .u64 18446744073709551615 t238)))) = some r := H
  have A5 := Aside0.mk A50
  clear A50
  obtain rfl := Option.some.inj H
  go_enter Try.func73, Try.ntmps73
  go_wp2_with (first | ((with_reducible refine gate_callee (f := 71) rfl ?_); refine gL (some 8) Try.func71 #[.int .u64 a1, .int .i64 (wrap64 (a0 - 1))] ?_; (with_reducible refine (jacquardref12_Bit.calls a1 (wrap64 (a0 - 1)) t237 _ A3.out).mono ?_); rintro e w' ⟨rfl, ⟨nd, rfl⟩⟩; refine ⟨_, rfl, ?_⟩) | ((with_reducible refine gate_callee (f := 16) rfl ?_); refine gL (some 12) Try.func16 #[.int .i64 a0] ?_; (with_reducible refine (jacquardref12_Mask.calls k a0 t238 _ A5.out).mono ?_); rintro e w' ⟨rfl, ⟨nd, rfl⟩⟩; refine ⟨_, rfl, ?_⟩))
  go_ret
  exact ⟨by first | rfl | (simp; done) | (simp [*]; done), by repeat (first | exact Drawn0.refl _ | apply Drawn0.step)⟩
 ·
  rw [if_neg c4] at H
  have c4b0 : (t237 == 1) = false := beq_eq_false_iff_ne.mpr c4
  have c4b1 : (t237 != 1) = true := bne_iff_ne.mpr c4
  obtain rfl := Option.some.inj H
  go_enter Try.func73, Try.ntmps73
  go_wp2_with (first | ((with_reducible refine gate_callee (f := 71) rfl ?_); refine gL (some 8) Try.func71 #[.int .u64 a1, .int .i64 (wrap64 (a0 - 1))] ?_; (with_reducible refine (jacquardref12_Bit.calls a1 (wrap64 (a0 - 1)) t237 _ A3.out).mono ?_); rintro e w' ⟨rfl, ⟨nd, rfl⟩⟩; refine ⟨_, rfl, ?_⟩))
  go_ret
  exact ⟨by first | rfl | (simp; done) | (simp [*]; done), by repeat (first | exact Drawn0.refl _ | apply Drawn0.step)⟩

/-! ### jacquardref13_same: function 135 -/
def jacquardref13_same.f (k : Nat) (a0 : Int) (a1 : Int) (a2 : Int) : Option (Int × Int × Int × Int × Bool) := if a1 > a2 then (some (0, 0, 0, 0, false)) else ((jacquardref12_Signed.f k a0 a1).bind fun t240 => ((jacquardref12_Signed.f k a0 a2).bind fun t241 => (some (a1, a2, t240, t241, true))))
theorem jacquardref13_same.mono : ∀ a0 a1 a2 k, LeO (jacquardref13_same.f k a0 a1 a2) (jacquardref13_same.f (k + 1) a0 a1 a2) := by
 intro a0 a1 a2 k
 unfold jacquardref13_same.f
 repeat' first
   | (with_reducible exact jacquardref12_Signed.mono _ _ _)
   | (with_reducible exact LeO.refl _)
   | (with_reducible exact LeO.none _)
   | (with_reducible refine LeO.ite ?_ ?_)
   | (with_reducible refine LeO.bind ?_ (fun _ => ?_))
   | exact jacquardref12_Signed.mono _ _ _
   | exact LeO.none _
   | refine LeO.ite ?_ ?_
   | refine LeO.bind ?_ (fun _ => ?_)
set_option maxHeartbeats 8000000 in
set_option maxRecDepth 100000 in
theorem jacquardref13_same.calls (k : Nat) (a0 : Int) (a1 : Int) (a2 : Int) (r1 : Int) (r2 : Int) (r3 : Int) (r4 : Int) (r5 : Bool) (w : World) (h : jacquardref13_same.f k a0 a1 a2 = some (r1, r2, r3, r4, r5)) :
  Calls Try.prog 135 #[.int .i64 a0, .int .u64 a1, .int .u64 a2] w fun e w' => e = .returned (.tuple #[.agg #[.int .u64 r1, .int .u64 r2, .int .i64 r3, .int .i64 r4], .bool r5]) ∧ Below w.heap.size w w' := by
 have hu30 := Try.underlying30
 have HB := Aside0.mk (Below.refl w.heap.size w)
 have H : (if a1 > a2 then (some (0, 0, 0, 0, false)) else ((jacquardref12_Signed.f k a0 a1).bind fun t240 => ((jacquardref12_Signed.f k a0 a2).bind fun t241 => (some (a1, a2, t240, t241, true))))) = some (r1, r2, r3, r4, r5) := h
 clear h
 by_cases c4 : a1 > a2
 ·
  rw [if_pos c4] at H
  have c4b0 : decide (a2 < a1) = true := decide_eq_true c4
  clear c4
  simp only [Option.some.injEq, Prod.mk.injEq] at H
  obtain ⟨rfl, rfl, rfl, rfl, rfl⟩ := H
  go_enter Try.func135, Try.ntmps135
  go_wp2_with (first | ((with_reducible refine gate_dst (N := 6) rfl ?_); refine boxE (N := 6) (cs := #[.int .u64 0, .int .u64 0, .int .i64 0, .int .i64 0]) (t := 30) ?_; intro gb239 hg w5 hbox hb; have BK239 := Aside0.mk (hbox); have GW239 := szB hg HB.out; have GE239 := szB hg HB.out; replace HB := bsB HB.out hb; clear hb hbox hg; obtain ⟨hcz6_0, hcz6_1, hcz6_2, hcz6_3, hfz6_0, hfz6_1, hfz6_2, hfz6_3⟩ := own4 BK239.out))
  refine bodyPost_ret (results_ct rfl _ _ gb239 30 #[.int .u64 0, .int .u64 0, .int .i64 0, .int .i64 0] (0, 0) _ rfl (by (with_reducible repeat (first | refine blk_drewN ?_ _ | refine blk_drew ?_ | refine blk_alloc ?_ _)); refine blk_put (cs := #[.int .u64 0, .int .u64 0, .int .i64 0, .int .i64 0]) ?_ 3 _ rfl; (with_reducible repeat (first | refine blk_drewN ?_ _ | refine blk_drew ?_ | refine blk_alloc ?_ _)); refine blk_put (cs := #[.int .u64 0, .int .u64 0, .int .i64 0, .int .i64 0]) ?_ 2 _ rfl; (with_reducible repeat (first | refine blk_drewN ?_ _ | refine blk_drew ?_ | refine blk_alloc ?_ _)); refine blk_put (cs := #[.int .u64 0, .int .u64 0, .int .i64 0, .int .i64 0]) ?_ 1 _ rfl; (with_reducible repeat (first | refine blk_drewN ?_ _ | refine blk_drew ?_ | refine blk_alloc ?_ _)); refine blk_put (cs := #[.int .u64 0, .int .u64 0, .int .i64 0, .int .i64 0]) ?_ 0 _ rfl; exact bfL BK239.out) Try.underlying30 rfl (by kernel_rfl)) rfl ?_
  exact ⟨by first | rfl | (simp [errW_none, errW_some] <;> rfl) | (simp [*, errW_none, errW_some] <;> rfl), bsL HB.out⟩
 ·
  rw [if_neg c4] at H
  have c4b0 : decide (a2 < a1) = false := decide_eq_false c4
  clear c4
  replace H := Option.bind_eq_some_iff.mp H
  obtain ⟨t240, A70, H⟩ := H
  replace H : ((jacquardref12_Signed.f k a0 a2).bind fun t241 => (some (a1, a2, t240, t241, true))) = some (r1, r2, r3, r4, r5) := H
  have A7 := Aside0.mk A70
  clear A70
  replace H := Option.bind_eq_some_iff.mp H
  obtain ⟨t241, A80, H⟩ := H
  replace H : (some (a1, a2, t240, t241, true)) = some (r1, r2, r3, r4, r5) := H
  have A8 := Aside0.mk A80
  clear A80
  simp only [Option.some.injEq, Prod.mk.injEq] at H
  obtain ⟨rfl, rfl, rfl, rfl, rfl⟩ := H
  go_enter Try.func135, Try.ntmps135
  go_wp2_with (first | ((with_reducible refine gate_dst (N := 6) rfl ?_); refine boxE (N := 6) (cs := #[.int .u64 0, .int .u64 0, .int .i64 0, .int .i64 0]) (t := 30) ?_; intro gb239 hg w9 hbox hb; have BK239 := Aside0.mk (hbox); have GW239 := szB hg HB.out; have GE239 := szB hg HB.out; replace HB := bsB HB.out hb; clear hb hbox hg) | ((with_reducible refine gate_callee (f := 73) rfl ?_); refine gL (some 16) Try.func73 #[.int .i64 a0, .int .u64 a1] ?_; (with_reducible refine (jacquardref12_Signed.calls k a0 a1 t240 _ A7.out).mono ?_); rintro e w' ⟨rfl, ⟨nd, rfl⟩⟩; refine ⟨_, rfl, ?_⟩; (try (rw [drewN_self w9]; generalize hq_ : World.drewN w9 _ = w9; have n0_ : Aside0 (w9.heap[gb239]? = some (.cells #[.int .u64 0, .int .u64 0, .int .i64 0, .int .i64 0] 30 (0, 0))) := ⟨by rw [← hq_]; exact (by exact bfL BK239.out)⟩; have n1_ : Aside0 (Below w.heap.size w w9) := ⟨by rw [← hq_]; exact (by repeat (first | (with_reducible first | exact HB.out | apply below_alloc | apply pw_below_drewN | apply below_drew1 | refine below_set ?_ GE239.out) | exact HB.out))⟩; clear BK239 HB hq_; have BK239 := n0_; have HB := n1_; clear n0_ n1_))) | ((with_reducible refine gate_callee (f := 73) rfl ?_); refine gL (some 19) Try.func73 #[.int .i64 a0, .int .u64 a2] ?_; (with_reducible refine (jacquardref12_Signed.calls k a0 a2 t241 _ A8.out).mono ?_); rintro e w' ⟨rfl, ⟨nd, rfl⟩⟩; refine ⟨_, rfl, ?_⟩; (try (rw [drewN_self w9]; generalize hq_ : World.drewN w9 _ = w9; have n0_ : Aside0 (w9.heap[gb239]? = some (.cells #[.int .u64 0, .int .u64 0, .int .i64 0, .int .i64 0] 30 (0, 0))) := ⟨by rw [← hq_]; exact (by exact bfL BK239.out)⟩; have n1_ : Aside0 (Below w.heap.size w w9) := ⟨by rw [← hq_]; exact (by repeat (first | (with_reducible first | exact HB.out | apply below_alloc | apply pw_below_drewN | apply below_drew1 | refine below_set ?_ GE239.out) | exact HB.out))⟩; clear BK239 HB hq_; have BK239 := n0_; have HB := n1_; clear n0_ n1_)); obtain ⟨hcz10_0, hcz10_1, hcz10_2, hcz10_3, hfz10_0, hfz10_1, hfz10_2, hfz10_3⟩ := own4 BK239.out))
  refine bodyPost_ret (results_ct rfl _ _ gb239 30 #[.int .u64 a1, .int .u64 a2, .int .i64 t240, .int .i64 t241] (0, 0) _ rfl (by (with_reducible repeat (first | refine blk_drewN ?_ _ | refine blk_drew ?_ | refine blk_alloc ?_ _)); refine blk_put (cs := #[.int .u64 a1, .int .u64 a2, .int .i64 t240, .int .i64 0]) ?_ 3 _ rfl; (with_reducible repeat (first | refine blk_drewN ?_ _ | refine blk_drew ?_ | refine blk_alloc ?_ _)); refine blk_put (cs := #[.int .u64 a1, .int .u64 a2, .int .i64 0, .int .i64 0]) ?_ 2 _ rfl; (with_reducible repeat (first | refine blk_drewN ?_ _ | refine blk_drew ?_ | refine blk_alloc ?_ _)); refine blk_put (cs := #[.int .u64 a1, .int .u64 0, .int .i64 0, .int .i64 0]) ?_ 1 _ rfl; (with_reducible repeat (first | refine blk_drewN ?_ _ | refine blk_drew ?_ | refine blk_alloc ?_ _)); refine blk_put (cs := #[.int .u64 0, .int .u64 0, .int .i64 0, .int .i64 0]) ?_ 0 _ rfl; exact bfL BK239.out) Try.underlying30 rfl (by kernel_rfl)) rfl ?_
  exact ⟨by first | rfl | (simp [errW_none, errW_some] <;> rfl) | (simp [*, errW_none, errW_some] <;> rfl), bsL HB.out⟩

/-! ### jacquardref13_Tighten: function 59 -/
mutual
def jacquardref13_Tighten.j0 : Nat → Int → Int → Bool → Int → Int → Int → Int → Option (Int × Int × Int × Int × Bool)
 | 0, _, _, _, _, _, _, _ => none
 | k + 1, x0, x6, x26, x243000, x243001, x243002, x243003 => if x26 = true then (if x243003 < 0 then (some (0, 0, 0, 0, false)) else (if x243002 > 0 then ((jacquardref13_same.f k x0 (mx x243000 (IntKind.u64.wrap (x243002))) (mn x243001 (IntKind.u64.wrap (x243003)))).bind fun bt246 => (some (bt246.1, bt246.2.1, bt246.2.2.1, bt246.2.2.2.1, bt246.2.2.2.2))) else ((jacquardref13_same.f k x0 x243000 (mn x243001 (IntKind.u64.wrap (x243003)))).bind fun bt251 => (some (bt251.1, bt251.2.1, bt251.2.2.1, bt251.2.2.2.1, bt251.2.2.2.2))))) else (if x243000 > x6 then (jacquardref13_Tighten.j1 k x0 x6 true x243000 x243001 x243002 x243003) else (jacquardref13_Tighten.j1 k x0 x6 (decide (x243003 < 0)) x243000 x243001 x243002 x243003))
def jacquardref13_Tighten.j1 : Nat → Int → Int → Bool → Int → Int → Int → Int → Option (Int × Int × Int × Int × Bool)
 | 0, _, _, _, _, _, _, _ => none
 | k + 1, x0, x6, x60, x243000, x243001, x243002, x243003 => if x60 = true then ((jacquardref13_Umax.f k x0).bind fun t256 => (if x243003 < 0 then ((jacquardref13_same.f k x0 (mx (mx x243000 (IntKind.u64.wrap (x6 + 1))) (Go.bits .and .u64 (IntKind.u64.wrap (x243002)) t256)) (mn x243001 (Go.bits .and .u64 (IntKind.u64.wrap (x243003)) t256))).bind fun bt257 => (some (bt257.1, bt257.2.1, bt257.2.2.1, bt257.2.2.2.1, bt257.2.2.2.2))) else ((jacquardref13_same.f k x0 (mx (mx x243000 (IntKind.u64.wrap (x6 + 1))) (Go.bits .and .u64 (IntKind.u64.wrap (x243002)) t256)) x243001).bind fun bt262 => (some (bt262.1, bt262.2.1, bt262.2.2.1, bt262.2.2.2.1, bt262.2.2.2.2))))) else (some (x243000, x243001, x243002, x243003, true))
end
def jacquardref13_Tighten.f (k : Nat) (a0 : Int) (a1_0 : Int) (a1_1 : Int) (a1_2 : Int) (a1_3 : Int) : Option (Int × Int × Int × Int × Bool) := (jacquardref13_Valid.f k a0 a1_0 a1_1 a1_2 a1_3).bind fun t244 => (if t244 = true then ((jacquardref13_Smax.f k a0).bind fun t245 => (if a1_1 ≤ (IntKind.u64.wrap (t245)) then (jacquardref13_Tighten.j0 k a0 (IntKind.u64.wrap (t245)) true a1_0 a1_1 a1_2 a1_3) else (jacquardref13_Tighten.j0 k a0 (IntKind.u64.wrap (t245)) (decide (a1_2 ≥ 0)) a1_0 a1_1 a1_2 a1_3))) else (some (0, 0, 0, 0, false)))
theorem jacquardref13_Tighten.mono_l : ∀ k, (∀ y0 y1 y2 y3 y4 y5 y6, LeO (jacquardref13_Tighten.j0 k y0 y1 y2 y3 y4 y5 y6) (jacquardref13_Tighten.j0 (k + 1) y0 y1 y2 y3 y4 y5 y6)) ∧ (∀ y0 y1 y2 y3 y4 y5 y6, LeO (jacquardref13_Tighten.j1 k y0 y1 y2 y3 y4 y5 y6) (jacquardref13_Tighten.j1 (k + 1) y0 y1 y2 y3 y4 y5 y6))
 | 0 => ⟨fun _ _ _ _ _ _ _ r h => by simp [jacquardref13_Tighten.j0] at h, fun _ _ _ _ _ _ _ r h => by simp [jacquardref13_Tighten.j1] at h⟩
 | k + 1 => by
  obtain ⟨ih0, ih1⟩ := jacquardref13_Tighten.mono_l k
  refine ⟨?_, ?_⟩
  ·
   intro y0 y1 y2 y3 y4 y5 y6
   unfold jacquardref13_Tighten.j0
   repeat' first
   | (with_reducible exact ih0 _ _ _ _ _ _ _)
   | (with_reducible exact ih1 _ _ _ _ _ _ _)
   | (with_reducible exact jacquardref13_Smax.mono _ _)
   | (with_reducible exact jacquardref13_Umax.mono _ _)
   | (with_reducible exact jacquardref13_Valid.mono _ _ _ _ _ _)
   | (with_reducible exact jacquardref13_same.mono _ _ _ _)
   | (with_reducible exact LeO.refl _)
   | (with_reducible exact LeO.none _)
   | (with_reducible refine LeO.ite ?_ ?_)
   | (with_reducible refine LeO.bind ?_ (fun _ => ?_))
   | exact ih0 _ _ _ _ _ _ _
   | exact ih1 _ _ _ _ _ _ _
   | exact jacquardref13_Smax.mono _ _
   | exact jacquardref13_Umax.mono _ _
   | exact jacquardref13_Valid.mono _ _ _ _ _ _
   | exact jacquardref13_same.mono _ _ _ _
   | exact LeO.none _
   | refine LeO.ite ?_ ?_
   | refine LeO.bind ?_ (fun _ => ?_)
  ·
   intro y0 y1 y2 y3 y4 y5 y6
   unfold jacquardref13_Tighten.j1
   repeat' first
   | (with_reducible exact ih0 _ _ _ _ _ _ _)
   | (with_reducible exact ih1 _ _ _ _ _ _ _)
   | (with_reducible exact jacquardref13_Smax.mono _ _)
   | (with_reducible exact jacquardref13_Umax.mono _ _)
   | (with_reducible exact jacquardref13_Valid.mono _ _ _ _ _ _)
   | (with_reducible exact jacquardref13_same.mono _ _ _ _)
   | (with_reducible exact LeO.refl _)
   | (with_reducible exact LeO.none _)
   | (with_reducible refine LeO.ite ?_ ?_)
   | (with_reducible refine LeO.bind ?_ (fun _ => ?_))
   | exact ih0 _ _ _ _ _ _ _
   | exact ih1 _ _ _ _ _ _ _
   | exact jacquardref13_Smax.mono _ _
   | exact jacquardref13_Umax.mono _ _
   | exact jacquardref13_Valid.mono _ _ _ _ _ _
   | exact jacquardref13_same.mono _ _ _ _
   | exact LeO.none _
   | refine LeO.ite ?_ ?_
   | refine LeO.bind ?_ (fun _ => ?_)
theorem jacquardref13_Tighten.mono : ∀ a0 a1 a2 a3 a4 k, LeO (jacquardref13_Tighten.f k a0 a1 a2 a3 a4) (jacquardref13_Tighten.f (k + 1) a0 a1 a2 a3 a4) := by
 intro a0 a1 a2 a3 a4 k
 obtain ⟨ih0, ih1⟩ := jacquardref13_Tighten.mono_l k
 unfold jacquardref13_Tighten.f
 repeat' first
   | (with_reducible exact ih0 _ _ _ _ _ _ _)
   | (with_reducible exact ih1 _ _ _ _ _ _ _)
   | (with_reducible exact jacquardref13_Smax.mono _ _)
   | (with_reducible exact jacquardref13_Umax.mono _ _)
   | (with_reducible exact jacquardref13_Valid.mono _ _ _ _ _ _)
   | (with_reducible exact jacquardref13_same.mono _ _ _ _)
   | (with_reducible exact LeO.refl _)
   | (with_reducible exact LeO.none _)
   | (with_reducible refine LeO.ite ?_ ?_)
   | (with_reducible refine LeO.bind ?_ (fun _ => ?_))
   | exact ih0 _ _ _ _ _ _ _
   | exact ih1 _ _ _ _ _ _ _
   | exact jacquardref13_Smax.mono _ _
   | exact jacquardref13_Umax.mono _ _
   | exact jacquardref13_Valid.mono _ _ _ _ _ _
   | exact jacquardref13_same.mono _ _ _ _
   | exact LeO.none _
   | refine LeO.ite ?_ ?_
   | refine LeO.bind ?_ (fun _ => ?_)
set_option maxHeartbeats 8000000 in
set_option maxRecDepth 100000 in
theorem jacquardref13_Tighten.calls (k : Nat) (a0 : Int) (a1_0 : Int) (a1_1 : Int) (a1_2 : Int) (a1_3 : Int) (r1 : Int) (r2 : Int) (r3 : Int) (r4 : Int) (r5 : Bool) (w : World) (h : jacquardref13_Tighten.f k a0 a1_0 a1_1 a1_2 a1_3 = some (r1, r2, r3, r4, r5)) :
  Calls Try.prog 59 #[.int .i64 a0, .agg #[.int .u64 a1_0, .int .u64 a1_1, .int .i64 a1_2, .int .i64 a1_3]] w fun e w' => e = .returned (.tuple #[.agg #[.int .u64 r1, .int .u64 r2, .int .i64 r3, .int .i64 r4], .bool r5]) ∧ Below w.heap.size w w' := by
 have hu30 := Try.underlying30
 have HB := Aside0.mk (Below.refl w.heap.size w)
 have H : ((jacquardref13_Valid.f k a0 a1_0 a1_1 a1_2 a1_3).bind fun t244 => (if t244 = true then ((jacquardref13_Smax.f k a0).bind fun t245 => (if a1_1 ≤ (IntKind.u64.wrap (t245)) then (jacquardref13_Tighten.j0 k a0 (IntKind.u64.wrap (t245)) true a1_0 a1_1 a1_2 a1_3) else (jacquardref13_Tighten.j0 k a0 (IntKind.u64.wrap (t245)) (decide (a1_2 ≥ 0)) a1_0 a1_1 a1_2 a1_3))) else (some (0, 0, 0, 0, false)))) = some (r1, r2, r3, r4, r5) := h
 clear h
 replace H := Option.bind_eq_some_iff.mp H
 obtain ⟨t244, A30, H⟩ := H
 replace H : (if t244 = true then ((jacquardref13_Smax.f k a0).bind fun t245 => (if a1_1 ≤ (IntKind.u64.wrap (t245)) then (jacquardref13_Tighten.j0 k a0 (IntKind.u64.wrap (t245)) true a1_0 a1_1 a1_2 a1_3) else (jacquardref13_Tighten.j0 k a0 (IntKind.u64.wrap (t245)) (decide (a1_2 ≥ 0)) a1_0 a1_1 a1_2 a1_3))) else (some (0, 0, 0, 0, false))) = some (r1, r2, r3, r4, r5) := H
 have A3 := Aside0.mk A30
 clear A30
 by_cases c4 : t244 = true
 ·
  subst c4
  have H1 : ((jacquardref13_Smax.f k a0).bind fun t245 => (if a1_1 ≤ (IntKind.u64.wrap (t245)) then (jacquardref13_Tighten.j0 k a0 (IntKind.u64.wrap (t245)) true a1_0 a1_1 a1_2 a1_3) else (jacquardref13_Tighten.j0 k a0 (IntKind.u64.wrap (t245)) (decide (a1_2 ≥ 0)) a1_0 a1_1 a1_2 a1_3))) = some (r1, r2, r3, r4, r5) := by rw [if_pos rfl] at H; exact H
  clear H
  have H := H1
  clear H1
  replace H := Option.bind_eq_some_iff.mp H
  obtain ⟨t245, A50, H⟩ := H
  replace H : (if a1_1 ≤ (IntKind.u64.wrap (t245)) then (jacquardref13_Tighten.j0 k a0 (IntKind.u64.wrap (t245)) true a1_0 a1_1 a1_2 a1_3) else (jacquardref13_Tighten.j0 k a0 (IntKind.u64.wrap (t245)) (decide (a1_2 ≥ 0)) a1_0 a1_1 a1_2 a1_3)) = some (r1, r2, r3, r4, r5) := H
  have A5 := Aside0.mk A50
  clear A50
  have HC6 := Aside0.mk H
  clear H
  go_enter Try.func59, Try.ntmps59
  go_upto_region 4 with (first | ((with_reducible refine gate_dst (N := 3) rfl ?_); refine boxE (N := 3) (cs := #[.int .u64 a1_0, .int .u64 a1_1, .int .i64 a1_2, .int .i64 a1_3]) (t := 30) ?_; intro gb242 hg w7 hbox hb; have BK242 := Aside0.mk (hbox); have GW242 := szB hg HB.out; have GE242 := szB hg HB.out; replace HB := bsB HB.out hb; clear hb hbox hg) | ((with_reducible refine gate_dst (N := 4) rfl ?_); refine boxE (N := 4) (cs := #[.int .u64 0, .int .u64 0, .int .i64 0, .int .i64 0]) (t := 30) ?_; intro gb243 hg w8 hbox hb; have BK243 := Aside0.mk (hbox); have GW243 := szB hg HB.out; have GE243 := szB hg HB.out; have NB242_243 := neL hg BK242.out; have NB243_242 := neG hg BK242.out; replace BK242 := bkB BK242.out hb; replace HB := bsB HB.out hb; clear hb hbox hg; have hnb9 := NB242_243.out; have hnc9 := NB243_242.out; obtain ⟨hcz10_0, hcz10_1, hcz10_2, hcz10_3, hfz10_0, hfz10_1, hfz10_2, hfz10_3⟩ := own4 BK242.out) | (go_at_call 74; (with_reducible refine (jacquardref13_Valid.calls k a0 a1_0 a1_1 a1_2 a1_3 true _ A3.out).mono ?_); rintro e w11 ⟨rfl, hb⟩; replace BK242 := bkB BK242.out hb; replace BK243 := bkB BK243.out hb; replace HB := bsB HB.out hb; (try clear hb); (try clear hb2); (try clear hk); (try clear hi)) | (go_at_call 134; (with_reducible refine (jacquardref13_Smax.calls k a0 t245 _ A5.out).mono ?_); rintro e w' ⟨rfl, ⟨nd, rfl⟩⟩; (try first | exact ⟨rfl, _, World.drewN_drewN _ _ _⟩ | exact ⟨rfl, _, Eq.trans (World.drewN_drewN _ _ _) (congrArg (World.drewN _) (Nat.add_assoc _ _ _))⟩)))
  repeat (go_quiet (first | ((with_reducible refine gate_dst (N := 3) rfl ?_); refine boxE (N := 3) (cs := #[.int .u64 a1_0, .int .u64 a1_1, .int .i64 a1_2, .int .i64 a1_3]) (t := 30) ?_; intro gb242 hg w7 hbox hb; have BK242 := Aside0.mk (hbox); have GW242 := szB hg HB.out; have GE242 := szB hg HB.out; replace HB := bsB HB.out hb; clear hb hbox hg) | ((with_reducible refine gate_dst (N := 4) rfl ?_); refine boxE (N := 4) (cs := #[.int .u64 0, .int .u64 0, .int .i64 0, .int .i64 0]) (t := 30) ?_; intro gb243 hg w8 hbox hb; have BK243 := Aside0.mk (hbox); have GW243 := szB hg HB.out; have GE243 := szB hg HB.out; have NB242_243 := neL hg BK242.out; have NB243_242 := neG hg BK242.out; replace BK242 := bkB BK242.out hb; replace HB := bsB HB.out hb; clear hb hbox hg; have hnb9 := NB242_243.out; have hnc9 := NB243_242.out; obtain ⟨hcz10_0, hcz10_1, hcz10_2, hcz10_3, hfz10_0, hfz10_1, hfz10_2, hfz10_3⟩ := own4 BK242.out) | (go_at_call 74; (with_reducible refine (jacquardref13_Valid.calls k a0 a1_0 a1_1 a1_2 a1_3 true _ A3.out).mono ?_); rintro e w11 ⟨rfl, hb⟩; replace BK242 := bkB BK242.out hb; replace BK243 := bkB BK243.out hb; replace HB := bsB HB.out hb; (try clear hb); (try clear hb2); (try clear hk); (try clear hi)) | (go_at_call 134; (with_reducible refine (jacquardref13_Smax.calls k a0 t245 _ A5.out).mono ?_); rintro e w' ⟨rfl, ⟨nd, rfl⟩⟩; (try first | exact ⟨rfl, _, World.drewN_drewN _ _ _⟩ | exact ⟨rfl, _, Eq.trans (World.drewN_drewN _ _ _) (congrArg (World.drewN _) (Nat.add_assoc _ _ _))⟩))); go_upto_region 4 with (first | ((with_reducible refine gate_dst (N := 3) rfl ?_); refine boxE (N := 3) (cs := #[.int .u64 a1_0, .int .u64 a1_1, .int .i64 a1_2, .int .i64 a1_3]) (t := 30) ?_; intro gb242 hg w7 hbox hb; have BK242 := Aside0.mk (hbox); have GW242 := szB hg HB.out; have GE242 := szB hg HB.out; replace HB := bsB HB.out hb; clear hb hbox hg) | ((with_reducible refine gate_dst (N := 4) rfl ?_); refine boxE (N := 4) (cs := #[.int .u64 0, .int .u64 0, .int .i64 0, .int .i64 0]) (t := 30) ?_; intro gb243 hg w8 hbox hb; have BK243 := Aside0.mk (hbox); have GW243 := szB hg HB.out; have GE243 := szB hg HB.out; have NB242_243 := neL hg BK242.out; have NB243_242 := neG hg BK242.out; replace BK242 := bkB BK242.out hb; replace HB := bsB HB.out hb; clear hb hbox hg; have hnb9 := NB242_243.out; have hnc9 := NB243_242.out; obtain ⟨hcz10_0, hcz10_1, hcz10_2, hcz10_3, hfz10_0, hfz10_1, hfz10_2, hfz10_3⟩ := own4 BK242.out) | (go_at_call 74; (with_reducible refine (jacquardref13_Valid.calls k a0 a1_0 a1_1 a1_2 a1_3 true _ A3.out).mono ?_); rintro e w11 ⟨rfl, hb⟩; replace BK242 := bkB BK242.out hb; replace BK243 := bkB BK243.out hb; replace HB := bsB HB.out hb; (try clear hb); (try clear hb2); (try clear hk); (try clear hi)) | (go_at_call 134; (with_reducible refine (jacquardref13_Smax.calls k a0 t245 _ A5.out).mono ?_); rintro e w' ⟨rfl, ⟨nd, rfl⟩⟩; (try first | exact ⟨rfl, _, World.drewN_drewN _ _ _⟩ | exact ⟨rfl, _, Eq.trans (World.drewN_drewN _ _ _) (congrArg (World.drewN _) (Nat.add_assoc _ _ _))⟩))))
  (try simp only [Act.put, List.setIfInBounds_toArray, List.set_cons_zero, List.set_cons_succ])
  go_cut [26] (fun v26 wc => ∃ (kq : Nat) (x26_5 : Bool), v26 = .bool x26_5 ∧ Aside0 (jacquardref13_Tighten.j0 kq a0 (IntKind.u64.wrap (t245)) x26_5 a1_0 a1_1 a1_2 a1_3 = some (r1, r2, r3, r4, r5)) ∧ Aside0 (kq ≤ k) ∧ Aside0 (wc.heap[gb242]? = some (.cells #[.int .u64 a1_0, .int .u64 a1_1, .int .i64 a1_2, .int .i64 a1_3] 30 (0, 0))) ∧ Aside0 (wc.heap[gb243]? = some (.cells #[.int .u64 0, .int .u64 0, .int .i64 0, .int .i64 0] 30 (0, 0))) ∧ Aside0 (Below w.heap.size w wc))
  case first =>
   have H := HC6.out
   clear HC6
   by_cases c12 : a1_1 ≤ (IntKind.u64.wrap (t245))
   ·
    rw [if_pos c12] at H
    have c12b0 : decide (a1_1 ≤ (IntKind.u64.wrap (t245))) = true := decide_eq_true c12
    clear c12
    (first | rw [c12b0] | (simp only [i64_w, i32_w]; rw [c12b0]) | skip)
    have H' := Aside0.mk H
    clear H
    have hnb13 := NB242_243.out
    have hnc13 := NB243_242.out
    obtain ⟨hcz14_0, hcz14_1, hcz14_2, hcz14_3, hfz14_0, hfz14_1, hfz14_2, hfz14_3⟩ := own4 BK242.out
    go_wp2
    repeat (go_quiet (fail); try go_wp2)
    go_meet
    case rel => exact ⟨_, (true), (by first | rfl | (simp; done) | (simp [*]; done)), H', ⟨by first | omega | exact Nat.le_refl _⟩, ⟨bkL BK242.out⟩, ⟨bkL BK243.out⟩, ⟨bsL HB.out⟩⟩
   ·
    rw [if_neg c12] at H
    have c12b0 : decide (a1_1 ≤ (IntKind.u64.wrap (t245))) = false := decide_eq_false c12
    clear c12
    (first | rw [c12b0] | (simp only [i64_w, i32_w]; rw [c12b0]) | skip)
    have H' := Aside0.mk H
    clear H
    have hnb15 := NB242_243.out
    have hnc15 := NB243_242.out
    obtain ⟨hcz16_0, hcz16_1, hcz16_2, hcz16_3, hfz16_0, hfz16_1, hfz16_2, hfz16_3⟩ := own4 BK242.out
    go_wp2
    repeat (go_quiet (fail); try go_wp2)
    go_meet
    case rel => exact ⟨_, (decide (a1_2 ≥ 0)), (by first | rfl | (simp; done) | (simp [*]; done)), H', ⟨by first | omega | exact Nat.le_refl _⟩, ⟨bkL BK242.out⟩, ⟨bkL BK243.out⟩, ⟨bsL HB.out⟩⟩
  case rest =>
   clear HC6
   try clear c1
   try clear p2
   try clear c4
   try clear c5
   try clear c9
   try clear c12
   try clear c12b0
   try clear c13
   try clear c15
   try clear hcz10_0
   try clear hcz10_1
   try clear hcz10_2
   try clear hcz10_3
   try clear hcz14_0
   try clear hcz14_1
   try clear hcz14_2
   try clear hcz14_3
   try clear hcz16_0
   try clear hcz16_1
   try clear hcz16_2
   try clear hcz16_3
   try clear hfz10_0
   try clear hfz10_1
   try clear hfz10_2
   try clear hfz10_3
   try clear hfz14_0
   try clear hfz14_1
   try clear hfz14_2
   try clear hfz14_3
   try clear hfz16_0
   try clear hfz16_1
   try clear hfz16_2
   try clear hfz16_3
   obtain ⟨kq, x26_5, rfl, HA, HJ5, BK242, BK243, HB⟩ := hcut
   cases kq with
   | zero => exact absurd HA.out (by simp [jacquardref13_Tighten.j0])
   | succ kj5 =>
    have H := HA.out
    clear HA
    simp only [jacquardref13_Tighten.j0] at H
    by_cases c17 : x26_5 = true
    ·
     subst c17
     have H1 : (if a1_3 < 0 then (some (0, 0, 0, 0, false)) else (if a1_2 > 0 then ((jacquardref13_same.f kj5 a0 (mx a1_0 (IntKind.u64.wrap (a1_2))) (mn a1_1 (IntKind.u64.wrap (a1_3)))).bind fun bt246 => (some (bt246.1, bt246.2.1, bt246.2.2.1, bt246.2.2.2.1, bt246.2.2.2.2))) else ((jacquardref13_same.f kj5 a0 a1_0 (mn a1_1 (IntKind.u64.wrap (a1_3)))).bind fun bt251 => (some (bt251.1, bt251.2.1, bt251.2.2.1, bt251.2.2.2.1, bt251.2.2.2.2))))) = some (r1, r2, r3, r4, r5) := by rw [if_pos rfl] at H; exact H
     clear H
     have H := H1
     clear H1
     by_cases c18 : a1_3 < 0
     ·
      rw [if_pos c18] at H
      have c18b0 : decide (a1_3 < 0) = true := decide_eq_true c18
      clear c18
      simp only [Option.some.injEq, Prod.mk.injEq] at H
      obtain ⟨rfl, rfl, rfl, rfl, rfl⟩ := H
      have hnb19 := NB242_243.out
      have hnc19 := NB243_242.out
      obtain ⟨hcz20_0, hcz20_1, hcz20_2, hcz20_3, hfz20_0, hfz20_1, hfz20_2, hfz20_3⟩ := own4 BK242.out
      obtain ⟨hcz21_0, hcz21_1, hcz21_2, hcz21_3, hfz21_0, hfz21_1, hfz21_2, hfz21_3⟩ := own4 BK243.out
      go_wp2
      repeat (go_quiet (fail); try go_wp2)
      refine bodyPost_ret (results_ct rfl _ _ gb243 30 #[.int .u64 0, .int .u64 0, .int .i64 0, .int .i64 0] (0, 0) _ rfl (by (with_reducible repeat (first | refine blk_drewN ?_ _ | refine blk_drew ?_ | refine blk_alloc ?_ _)); refine blk_put (cs := #[.int .u64 0, .int .u64 0, .int .i64 0, .int .i64 0]) ?_ 3 _ rfl; (with_reducible repeat (first | refine blk_drewN ?_ _ | refine blk_drew ?_ | refine blk_alloc ?_ _)); refine blk_put (cs := #[.int .u64 0, .int .u64 0, .int .i64 0, .int .i64 0]) ?_ 2 _ rfl; (with_reducible repeat (first | refine blk_drewN ?_ _ | refine blk_drew ?_ | refine blk_alloc ?_ _)); refine blk_put (cs := #[.int .u64 0, .int .u64 0, .int .i64 0, .int .i64 0]) ?_ 1 _ rfl; (with_reducible repeat (first | refine blk_drewN ?_ _ | refine blk_drew ?_ | refine blk_alloc ?_ _)); refine blk_put (cs := #[.int .u64 0, .int .u64 0, .int .i64 0, .int .i64 0]) ?_ 0 _ rfl; exact bfL BK243.out) Try.underlying30 rfl (by kernel_rfl)) rfl ?_
      exact ⟨by first | rfl | (simp [errW_none, errW_some] <;> rfl) | (simp [*, errW_none, errW_some] <;> rfl), bsL HB.out⟩
     ·
      rw [if_neg c18] at H
      have c18b0 : decide (a1_3 < 0) = false := decide_eq_false c18
      clear c18
      by_cases c22 : a1_2 > 0
      ·
       rw [if_pos c22] at H
       have c22b0 : decide (0 < a1_2) = true := decide_eq_true c22
       clear c22
       obtain ⟨ji23, hji23⟩ : ∃ j_ : Int, (mx a1_0 (IntKind.u64.wrap (a1_2))) = j_ := ⟨_, rfl⟩
       replace H : ((jacquardref13_same.f kj5 a0 (ji23) (mn a1_1 (IntKind.u64.wrap (a1_3)))).bind fun bt246 => (some (bt246.1, bt246.2.1, bt246.2.2.1, bt246.2.2.2.1, bt246.2.2.2.2))) = some (r1, r2, r3, r4, r5) := by first | (rw [hji23] at H; exact H) | (simp only [hji23] at H ⊢; exact H)
       have hji23_ : (if a1_0 < (IntKind.u64.wrap (a1_2)) then (IntKind.u64.wrap (a1_2)) else a1_0) = ji23 := hji23
       obtain ⟨ji24, hji24⟩ : ∃ j_ : Int, (mn a1_1 (IntKind.u64.wrap (a1_3))) = j_ := ⟨_, rfl⟩
       replace H : ((jacquardref13_same.f kj5 a0 (ji23) (ji24)).bind fun bt246 => (some (bt246.1, bt246.2.1, bt246.2.2.1, bt246.2.2.2.1, bt246.2.2.2.2))) = some (r1, r2, r3, r4, r5) := by first | (rw [hji24] at H; exact H) | (simp only [hji24] at H ⊢; exact H)
       have hji24_ : (if (IntKind.u64.wrap (a1_3)) < a1_1 then (IntKind.u64.wrap (a1_3)) else a1_1) = ji24 := hji24
       replace H := Option.bind_eq_some_iff.mp H
       obtain ⟨⟨t246, t247, t248, t249, t250⟩, A250, H⟩ := H
       replace H : (some (t246, t247, t248, t249, t250)) = some (r1, r2, r3, r4, r5) := H
       have A25 := Aside0.mk A250
       clear A250
       simp only [Option.some.injEq, Prod.mk.injEq] at H
       obtain ⟨rfl, rfl, rfl, rfl, rfl⟩ := H
       have hnb26 := NB242_243.out
       have hnc26 := NB243_242.out
       obtain ⟨hcz27_0, hcz27_1, hcz27_2, hcz27_3, hfz27_0, hfz27_1, hfz27_2, hfz27_3⟩ := own4 BK242.out
       go_wp2_with (first | (go_at_call 135; (with_reducible refine (jacquardref13_same.calls kj5 a0 ji23 ji24 t246 t247 t248 t249 t250 _ A25.out).mono ?_); rintro e w28 ⟨rfl, hb⟩; replace BK242 := bkB BK242.out hb; replace BK243 := bkB BK243.out hb; replace HB := bsB HB.out hb; (try clear hb); obtain ⟨hcz29_0, hcz29_1, hcz29_2, hcz29_3, hfz29_0, hfz29_1, hfz29_2, hfz29_3⟩ := own4 BK243.out))
       repeat (go_quiet (first | (go_at_call 135; (with_reducible refine (jacquardref13_same.calls kj5 a0 ji23 ji24 t246 t247 t248 t249 t250 _ A25.out).mono ?_); rintro e w28 ⟨rfl, hb⟩; replace BK242 := bkB BK242.out hb; replace BK243 := bkB BK243.out hb; replace HB := bsB HB.out hb; (try clear hb); obtain ⟨hcz29_0, hcz29_1, hcz29_2, hcz29_3, hfz29_0, hfz29_1, hfz29_2, hfz29_3⟩ := own4 BK243.out)); try go_wp2_with (first | (go_at_call 135; (with_reducible refine (jacquardref13_same.calls kj5 a0 ji23 ji24 t246 t247 t248 t249 t250 _ A25.out).mono ?_); rintro e w28 ⟨rfl, hb⟩; replace BK242 := bkB BK242.out hb; replace BK243 := bkB BK243.out hb; replace HB := bsB HB.out hb; (try clear hb); (try clear hb2); (try clear hk); (try clear hi); obtain ⟨hcz29_0, hcz29_1, hcz29_2, hcz29_3, hfz29_0, hfz29_1, hfz29_2, hfz29_3⟩ := own4 BK243.out)))
       refine bodyPost_ret (results_ct rfl _ _ gb243 30 #[.int .u64 t246, .int .u64 t247, .int .i64 t248, .int .i64 t249] (0, 0) _ rfl (by (with_reducible repeat (first | refine blk_drewN ?_ _ | refine blk_drew ?_ | refine blk_alloc ?_ _)); refine blk_put (cs := #[.int .u64 t246, .int .u64 t247, .int .i64 t248, .int .i64 0]) ?_ 3 _ rfl; (with_reducible repeat (first | refine blk_drewN ?_ _ | refine blk_drew ?_ | refine blk_alloc ?_ _)); refine blk_put (cs := #[.int .u64 t246, .int .u64 t247, .int .i64 0, .int .i64 0]) ?_ 2 _ rfl; (with_reducible repeat (first | refine blk_drewN ?_ _ | refine blk_drew ?_ | refine blk_alloc ?_ _)); refine blk_put (cs := #[.int .u64 t246, .int .u64 0, .int .i64 0, .int .i64 0]) ?_ 1 _ rfl; (with_reducible repeat (first | refine blk_drewN ?_ _ | refine blk_drew ?_ | refine blk_alloc ?_ _)); refine blk_put (cs := #[.int .u64 0, .int .u64 0, .int .i64 0, .int .i64 0]) ?_ 0 _ rfl; exact bfL BK243.out) Try.underlying30 rfl (by kernel_rfl)) rfl ?_
       exact ⟨by first | rfl | (simp [errW_none, errW_some] <;> rfl) | (simp only [← hji23, ← hji24]; first | rfl | (simp [errW_none, errW_some] <;> rfl)) | (simp [*, errW_none, errW_some] <;> rfl), bsL HB.out⟩
      ·
       rw [if_neg c22] at H
       have c22b0 : decide (0 < a1_2) = false := decide_eq_false c22
       clear c22
       obtain ⟨ji30, hji30⟩ : ∃ j_ : Int, (mn a1_1 (IntKind.u64.wrap (a1_3))) = j_ := ⟨_, rfl⟩
       replace H : ((jacquardref13_same.f kj5 a0 a1_0 (ji30)).bind fun bt251 => (some (bt251.1, bt251.2.1, bt251.2.2.1, bt251.2.2.2.1, bt251.2.2.2.2))) = some (r1, r2, r3, r4, r5) := by first | (rw [hji30] at H; exact H) | (simp only [hji30] at H ⊢; exact H)
       have hji30_ : (if (IntKind.u64.wrap (a1_3)) < a1_1 then (IntKind.u64.wrap (a1_3)) else a1_1) = ji30 := hji30
       replace H := Option.bind_eq_some_iff.mp H
       obtain ⟨⟨t251, t252, t253, t254, t255⟩, A310, H⟩ := H
       replace H : (some (t251, t252, t253, t254, t255)) = some (r1, r2, r3, r4, r5) := H
       have A31 := Aside0.mk A310
       clear A310
       simp only [Option.some.injEq, Prod.mk.injEq] at H
       obtain ⟨rfl, rfl, rfl, rfl, rfl⟩ := H
       have hnb32 := NB242_243.out
       have hnc32 := NB243_242.out
       obtain ⟨hcz33_0, hcz33_1, hcz33_2, hcz33_3, hfz33_0, hfz33_1, hfz33_2, hfz33_3⟩ := own4 BK242.out
       go_wp2_with (first | (go_at_call 135; (with_reducible refine (jacquardref13_same.calls kj5 a0 a1_0 ji30 t251 t252 t253 t254 t255 _ A31.out).mono ?_); rintro e w34 ⟨rfl, hb⟩; replace BK242 := bkB BK242.out hb; replace BK243 := bkB BK243.out hb; replace HB := bsB HB.out hb; (try clear hb); obtain ⟨hcz35_0, hcz35_1, hcz35_2, hcz35_3, hfz35_0, hfz35_1, hfz35_2, hfz35_3⟩ := own4 BK243.out))
       repeat (go_quiet (first | (go_at_call 135; (with_reducible refine (jacquardref13_same.calls kj5 a0 a1_0 ji30 t251 t252 t253 t254 t255 _ A31.out).mono ?_); rintro e w34 ⟨rfl, hb⟩; replace BK242 := bkB BK242.out hb; replace BK243 := bkB BK243.out hb; replace HB := bsB HB.out hb; (try clear hb); obtain ⟨hcz35_0, hcz35_1, hcz35_2, hcz35_3, hfz35_0, hfz35_1, hfz35_2, hfz35_3⟩ := own4 BK243.out)); try go_wp2_with (first | (go_at_call 135; (with_reducible refine (jacquardref13_same.calls kj5 a0 a1_0 ji30 t251 t252 t253 t254 t255 _ A31.out).mono ?_); rintro e w34 ⟨rfl, hb⟩; replace BK242 := bkB BK242.out hb; replace BK243 := bkB BK243.out hb; replace HB := bsB HB.out hb; (try clear hb); (try clear hb2); (try clear hk); (try clear hi); obtain ⟨hcz35_0, hcz35_1, hcz35_2, hcz35_3, hfz35_0, hfz35_1, hfz35_2, hfz35_3⟩ := own4 BK243.out)))
       refine bodyPost_ret (results_ct rfl _ _ gb243 30 #[.int .u64 t251, .int .u64 t252, .int .i64 t253, .int .i64 t254] (0, 0) _ rfl (by (with_reducible repeat (first | refine blk_drewN ?_ _ | refine blk_drew ?_ | refine blk_alloc ?_ _)); refine blk_put (cs := #[.int .u64 t251, .int .u64 t252, .int .i64 t253, .int .i64 0]) ?_ 3 _ rfl; (with_reducible repeat (first | refine blk_drewN ?_ _ | refine blk_drew ?_ | refine blk_alloc ?_ _)); refine blk_put (cs := #[.int .u64 t251, .int .u64 t252, .int .i64 0, .int .i64 0]) ?_ 2 _ rfl; (with_reducible repeat (first | refine blk_drewN ?_ _ | refine blk_drew ?_ | refine blk_alloc ?_ _)); refine blk_put (cs := #[.int .u64 t251, .int .u64 0, .int .i64 0, .int .i64 0]) ?_ 1 _ rfl; (with_reducible repeat (first | refine blk_drewN ?_ _ | refine blk_drew ?_ | refine blk_alloc ?_ _)); refine blk_put (cs := #[.int .u64 0, .int .u64 0, .int .i64 0, .int .i64 0]) ?_ 0 _ rfl; exact bfL BK243.out) Try.underlying30 rfl (by kernel_rfl)) rfl ?_
       exact ⟨by first | rfl | (simp [errW_none, errW_some] <;> rfl) | (simp only [← hji30]; first | rfl | (simp [errW_none, errW_some] <;> rfl)) | (simp [*, errW_none, errW_some] <;> rfl), bsL HB.out⟩
    ·
     replace c17 := Bool.eq_false_iff.mpr c17
     subst c17
     have H1 : (if a1_0 > (IntKind.u64.wrap (t245)) then (jacquardref13_Tighten.j1 kj5 a0 (IntKind.u64.wrap (t245)) true a1_0 a1_1 a1_2 a1_3) else (jacquardref13_Tighten.j1 kj5 a0 (IntKind.u64.wrap (t245)) (decide (a1_3 < 0)) a1_0 a1_1 a1_2 a1_3)) = some (r1, r2, r3, r4, r5) := by rw [if_neg (show ¬ (false = true) by decide)] at H; exact H
     clear H
     have H := H1
     clear H1
     have HC36 := Aside0.mk H
     clear H
     go_upto_region 11 with (fail)
     repeat (go_quiet (fail); go_upto_region 11 with (fail))
     go_cut [60] (fun v60 wc => ∃ (kq : Nat) (x60_35 : Bool), v60 = .bool x60_35 ∧ Aside0 (jacquardref13_Tighten.j1 kq a0 (IntKind.u64.wrap (t245)) x60_35 a1_0 a1_1 a1_2 a1_3 = some (r1, r2, r3, r4, r5)) ∧ Aside0 (kq ≤ kj5) ∧ Aside0 (wc.heap[gb242]? = some (.cells #[.int .u64 a1_0, .int .u64 a1_1, .int .i64 a1_2, .int .i64 a1_3] 30 (0, 0))) ∧ Aside0 (wc.heap[gb243]? = some (.cells #[.int .u64 0, .int .u64 0, .int .i64 0, .int .i64 0] 30 (0, 0))) ∧ Aside0 (Below w.heap.size w wc))
     case first =>
      have H := HC36.out
      clear HC36
      by_cases c37 : a1_0 > (IntKind.u64.wrap (t245))
      ·
       rw [if_pos c37] at H
       have c37b0 : decide ((IntKind.u64.wrap (t245)) < a1_0) = true := decide_eq_true c37
       clear c37
       (first | rw [c37b0] | (simp only [i64_w, i32_w]; rw [c37b0]) | skip)
       have H' := Aside0.mk H
       clear H
       have hnb38 := NB242_243.out
       have hnc38 := NB243_242.out
       obtain ⟨hcz39_0, hcz39_1, hcz39_2, hcz39_3, hfz39_0, hfz39_1, hfz39_2, hfz39_3⟩ := own4 BK242.out
       go_wp2
       repeat (go_quiet (fail); try go_wp2)
       go_meet
       case rel => exact ⟨_, (true), (by first | rfl | (simp; done) | (simp [*]; done)), H', ⟨by have := HJ5.out; first | omega | exact Nat.le_refl _⟩, ⟨bkL BK242.out⟩, ⟨bkL BK243.out⟩, ⟨bsL HB.out⟩⟩
      ·
       rw [if_neg c37] at H
       have c37b0 : decide ((IntKind.u64.wrap (t245)) < a1_0) = false := decide_eq_false c37
       clear c37
       (first | rw [c37b0] | (simp only [i64_w, i32_w]; rw [c37b0]) | skip)
       have H' := Aside0.mk H
       clear H
       have hnb40 := NB242_243.out
       have hnc40 := NB243_242.out
       obtain ⟨hcz41_0, hcz41_1, hcz41_2, hcz41_3, hfz41_0, hfz41_1, hfz41_2, hfz41_3⟩ := own4 BK242.out
       go_wp2
       repeat (go_quiet (fail); try go_wp2)
       go_meet
       case rel => exact ⟨_, (decide (a1_3 < 0)), (by first | rfl | (simp; done) | (simp [*]; done)), H', ⟨by have := HJ5.out; first | omega | exact Nat.le_refl _⟩, ⟨bkL BK242.out⟩, ⟨bkL BK243.out⟩, ⟨bsL HB.out⟩⟩
     case rest =>
      clear HC36
      try clear c1
      try clear c2
      try clear p2
      try clear c3
      try clear c4
      try clear c5
      try clear c9
      try clear c12
      try clear c12b0
      try clear c13
      try clear c15
      try clear c17
      try clear c18
      try clear c18b0
      try clear c19
      try clear c22
      try clear c22b0
      try clear c26
      try clear c32
      try clear c37
      try clear c37b0
      try clear c38
      try clear c40
      try clear hcz10_0
      try clear hcz10_1
      try clear hcz10_2
      try clear hcz10_3
      try clear hcz14_0
      try clear hcz14_1
      try clear hcz14_2
      try clear hcz14_3
      try clear hcz16_0
      try clear hcz16_1
      try clear hcz16_2
      try clear hcz16_3
      try clear hcz20_0
      try clear hcz20_1
      try clear hcz20_2
      try clear hcz20_3
      try clear hcz21_0
      try clear hcz21_1
      try clear hcz21_2
      try clear hcz21_3
      try clear hcz27_0
      try clear hcz27_1
      try clear hcz27_2
      try clear hcz27_3
      try clear hcz29_0
      try clear hcz29_1
      try clear hcz29_2
      try clear hcz29_3
      try clear hcz33_0
      try clear hcz33_1
      try clear hcz33_2
      try clear hcz33_3
      try clear hcz35_0
      try clear hcz35_1
      try clear hcz35_2
      try clear hcz35_3
      try clear hcz39_0
      try clear hcz39_1
      try clear hcz39_2
      try clear hcz39_3
      try clear hcz41_0
      try clear hcz41_1
      try clear hcz41_2
      try clear hcz41_3
      try clear hfz10_0
      try clear hfz10_1
      try clear hfz10_2
      try clear hfz10_3
      try clear hfz14_0
      try clear hfz14_1
      try clear hfz14_2
      try clear hfz14_3
      try clear hfz16_0
      try clear hfz16_1
      try clear hfz16_2
      try clear hfz16_3
      try clear hfz20_0
      try clear hfz20_1
      try clear hfz20_2
      try clear hfz20_3
      try clear hfz21_0
      try clear hfz21_1
      try clear hfz21_2
      try clear hfz21_3
      try clear hfz27_0
      try clear hfz27_1
      try clear hfz27_2
      try clear hfz27_3
      try clear hfz29_0
      try clear hfz29_1
      try clear hfz29_2
      try clear hfz29_3
      try clear hfz33_0
      try clear hfz33_1
      try clear hfz33_2
      try clear hfz33_3
      try clear hfz35_0
      try clear hfz35_1
      try clear hfz35_2
      try clear hfz35_3
      try clear hfz39_0
      try clear hfz39_1
      try clear hfz39_2
      try clear hfz39_3
      try clear hfz41_0
      try clear hfz41_1
      try clear hfz41_2
      try clear hfz41_3
      try clear p2
      obtain ⟨kq, x60_35, rfl, HA, HJ35, BK242, BK243, HB⟩ := hcut
      cases kq with
      | zero => exact absurd HA.out (by simp [jacquardref13_Tighten.j1])
      | succ kj35 =>
       have H := HA.out
       clear HA
       simp only [jacquardref13_Tighten.j1] at H
       by_cases c42 : x60_35 = true
       ·
        subst c42
        have H1 : ((jacquardref13_Umax.f kj35 a0).bind fun t256 => (if a1_3 < 0 then ((jacquardref13_same.f kj35 a0 (mx (mx a1_0 (IntKind.u64.wrap ((IntKind.u64.wrap (t245)) + 1))) (Go.bits .and .u64 (IntKind.u64.wrap (a1_2)) t256)) (mn a1_1 (Go.bits .and .u64 (IntKind.u64.wrap (a1_3)) t256))).bind fun bt257 => (some (bt257.1, bt257.2.1, bt257.2.2.1, bt257.2.2.2.1, bt257.2.2.2.2))) else ((jacquardref13_same.f kj35 a0 (mx (mx a1_0 (IntKind.u64.wrap ((IntKind.u64.wrap (t245)) + 1))) (Go.bits .and .u64 (IntKind.u64.wrap (a1_2)) t256)) a1_1).bind fun bt262 => (some (bt262.1, bt262.2.1, bt262.2.2.1, bt262.2.2.2.1, bt262.2.2.2.2))))) = some (r1, r2, r3, r4, r5) := by rw [if_pos rfl] at H; exact H
        clear H
        have H := H1
        clear H1
        replace H := Option.bind_eq_some_iff.mp H
        obtain ⟨t256, A430, H⟩ := H
        replace H : (if a1_3 < 0 then ((jacquardref13_same.f kj35 a0 (mx (mx a1_0 (IntKind.u64.wrap ((IntKind.u64.wrap (t245)) + 1))) (Go.bits .and .u64 (IntKind.u64.wrap (a1_2)) t256)) (mn a1_1 (Go.bits .and .u64 (IntKind.u64.wrap (a1_3)) t256))).bind fun bt257 => (some (bt257.1, bt257.2.1, bt257.2.2.1, bt257.2.2.2.1, bt257.2.2.2.2))) else ((jacquardref13_same.f kj35 a0 (mx (mx a1_0 (IntKind.u64.wrap ((IntKind.u64.wrap (t245)) + 1))) (Go.bits .and .u64 (IntKind.u64.wrap (a1_2)) t256)) a1_1).bind fun bt262 => (some (bt262.1, bt262.2.1, bt262.2.2.1, bt262.2.2.2.1, bt262.2.2.2.2)))) = some (r1, r2, r3, r4, r5) := H
        have A43 := Aside0.mk A430
        clear A430
        obtain ⟨ji44, hji44⟩ : ∃ j_ : Int, (mx a1_0 (IntKind.u64.wrap ((IntKind.u64.wrap (t245)) + 1))) = j_ := ⟨_, rfl⟩
        replace H : (if a1_3 < 0 then ((jacquardref13_same.f kj35 a0 (mx (ji44) (Go.bits .and .u64 (IntKind.u64.wrap (a1_2)) t256)) (mn a1_1 (Go.bits .and .u64 (IntKind.u64.wrap (a1_3)) t256))).bind fun bt257 => (some (bt257.1, bt257.2.1, bt257.2.2.1, bt257.2.2.2.1, bt257.2.2.2.2))) else ((jacquardref13_same.f kj35 a0 (mx (ji44) (Go.bits .and .u64 (IntKind.u64.wrap (a1_2)) t256)) a1_1).bind fun bt262 => (some (bt262.1, bt262.2.1, bt262.2.2.1, bt262.2.2.2.1, bt262.2.2.2.2)))) = some (r1, r2, r3, r4, r5) := by first | (rw [hji44] at H; exact H) | (simp only [hji44] at H ⊢; exact H)
        (try rw [hji44] at A43)
        have hji44_ : (if a1_0 < (IntKind.u64.wrap ((IntKind.u64.wrap (t245)) + 1)) then (IntKind.u64.wrap ((IntKind.u64.wrap (t245)) + 1)) else a1_0) = ji44 := hji44
        obtain ⟨ji45, hji45⟩ : ∃ j_ : Int, (mx (ji44) (Go.bits .and .u64 (IntKind.u64.wrap (a1_2)) t256)) = j_ := ⟨_, rfl⟩
        replace H : (if a1_3 < 0 then ((jacquardref13_same.f kj35 a0 (ji45) (mn a1_1 (Go.bits .and .u64 (IntKind.u64.wrap (a1_3)) t256))).bind fun bt257 => (some (bt257.1, bt257.2.1, bt257.2.2.1, bt257.2.2.2.1, bt257.2.2.2.2))) else ((jacquardref13_same.f kj35 a0 (ji45) a1_1).bind fun bt262 => (some (bt262.1, bt262.2.1, bt262.2.2.1, bt262.2.2.2.1, bt262.2.2.2.2)))) = some (r1, r2, r3, r4, r5) := by first | (rw [hji45] at H; exact H) | (simp only [hji45] at H ⊢; exact H)
        (try rw [hji45] at A43)
        have hji45_ : (if (ji44) < (Go.bits .and .u64 (IntKind.u64.wrap (a1_2)) t256) then (Go.bits .and .u64 (IntKind.u64.wrap (a1_2)) t256) else (ji44)) = ji45 := hji45
        by_cases c46 : a1_3 < 0
        ·
         rw [if_pos c46] at H
         have c46b0 : decide (a1_3 < 0) = true := decide_eq_true c46
         clear c46
         obtain ⟨ji47, hji47⟩ : ∃ j_ : Int, (mn a1_1 (Go.bits .and .u64 (IntKind.u64.wrap (a1_3)) t256)) = j_ := ⟨_, rfl⟩
         replace H : ((jacquardref13_same.f kj35 a0 (ji45) (ji47)).bind fun bt257 => (some (bt257.1, bt257.2.1, bt257.2.2.1, bt257.2.2.2.1, bt257.2.2.2.2))) = some (r1, r2, r3, r4, r5) := by first | (rw [hji47] at H; exact H) | (simp only [hji47] at H ⊢; exact H)
         (try rw [hji47] at A43)
         (try rw [hji47] at A43)
         have hji47_ : (if (Go.bits .and .u64 (IntKind.u64.wrap (a1_3)) t256) < a1_1 then (Go.bits .and .u64 (IntKind.u64.wrap (a1_3)) t256) else a1_1) = ji47 := hji47
         replace H := Option.bind_eq_some_iff.mp H
         obtain ⟨⟨t257, t258, t259, t260, t261⟩, A480, H⟩ := H
         replace H : (some (t257, t258, t259, t260, t261)) = some (r1, r2, r3, r4, r5) := H
         have A48 := Aside0.mk A480
         clear A480
         simp only [Option.some.injEq, Prod.mk.injEq] at H
         obtain ⟨rfl, rfl, rfl, rfl, rfl⟩ := H
         have hnb49 := NB242_243.out
         have hnc49 := NB243_242.out
         obtain ⟨hcz50_0, hcz50_1, hcz50_2, hcz50_3, hfz50_0, hfz50_1, hfz50_2, hfz50_3⟩ := own4 BK242.out
         go_wp2_with (first | (go_at_call 75; (with_reducible refine (jacquardref13_Umax.calls kj35 a0 t256 _ A43.out).mono ?_); rintro e w' ⟨rfl, ⟨nd, rfl⟩⟩; (try first | exact ⟨rfl, _, World.drewN_drewN _ _ _⟩ | exact ⟨rfl, _, Eq.trans (World.drewN_drewN _ _ _) (congrArg (World.drewN _) (Nat.add_assoc _ _ _))⟩)) | (go_at_call 75; (with_reducible refine (jacquardref13_Umax.calls kj35 a0 t256 _ A43.out).mono ?_); rintro e w' ⟨rfl, ⟨nd, rfl⟩⟩; (try first | exact ⟨rfl, _, World.drewN_drewN _ _ _⟩ | exact ⟨rfl, _, Eq.trans (World.drewN_drewN _ _ _) (congrArg (World.drewN _) (Nat.add_assoc _ _ _))⟩)) | (go_at_call 135; (with_reducible refine (jacquardref13_same.calls kj35 a0 ji45 ji47 t257 t258 t259 t260 t261 _ A48.out).mono ?_); rintro e w51 ⟨rfl, hb⟩; replace BK242 := bkB BK242.out hb; replace BK243 := bkB BK243.out hb; replace HB := bsB HB.out hb; (try clear hb); obtain ⟨hcz52_0, hcz52_1, hcz52_2, hcz52_3, hfz52_0, hfz52_1, hfz52_2, hfz52_3⟩ := own4 BK243.out))
         repeat (go_quiet (first | (go_at_call 75; (with_reducible refine (jacquardref13_Umax.calls kj35 a0 t256 _ A43.out).mono ?_); rintro e w' ⟨rfl, ⟨nd, rfl⟩⟩; (try first | exact ⟨rfl, _, World.drewN_drewN _ _ _⟩ | exact ⟨rfl, _, Eq.trans (World.drewN_drewN _ _ _) (congrArg (World.drewN _) (Nat.add_assoc _ _ _))⟩)) | (go_at_call 75; (with_reducible refine (jacquardref13_Umax.calls kj35 a0 t256 _ A43.out).mono ?_); rintro e w' ⟨rfl, ⟨nd, rfl⟩⟩; (try first | exact ⟨rfl, _, World.drewN_drewN _ _ _⟩ | exact ⟨rfl, _, Eq.trans (World.drewN_drewN _ _ _) (congrArg (World.drewN _) (Nat.add_assoc _ _ _))⟩)) | (go_at_call 135; (with_reducible refine (jacquardref13_same.calls kj35 a0 ji45 ji47 t257 t258 t259 t260 t261 _ A48.out).mono ?_); rintro e w51 ⟨rfl, hb⟩; replace BK242 := bkB BK242.out hb; replace BK243 := bkB BK243.out hb; replace HB := bsB HB.out hb; (try clear hb); obtain ⟨hcz52_0, hcz52_1, hcz52_2, hcz52_3, hfz52_0, hfz52_1, hfz52_2, hfz52_3⟩ := own4 BK243.out)); try go_wp2_with (first | (go_at_call 75; (with_reducible refine (jacquardref13_Umax.calls kj35 a0 t256 _ A43.out).mono ?_); rintro e w' ⟨rfl, ⟨nd, rfl⟩⟩; (try first | exact ⟨rfl, _, World.drewN_drewN _ _ _⟩ | exact ⟨rfl, _, Eq.trans (World.drewN_drewN _ _ _) (congrArg (World.drewN _) (Nat.add_assoc _ _ _))⟩)) | (go_at_call 75; (with_reducible refine (jacquardref13_Umax.calls kj35 a0 t256 _ A43.out).mono ?_); rintro e w' ⟨rfl, ⟨nd, rfl⟩⟩; (try first | exact ⟨rfl, _, World.drewN_drewN _ _ _⟩ | exact ⟨rfl, _, Eq.trans (World.drewN_drewN _ _ _) (congrArg (World.drewN _) (Nat.add_assoc _ _ _))⟩)) | (go_at_call 135; (with_reducible refine (jacquardref13_same.calls kj35 a0 ji45 ji47 t257 t258 t259 t260 t261 _ A48.out).mono ?_); rintro e w51 ⟨rfl, hb⟩; replace BK242 := bkB BK242.out hb; replace BK243 := bkB BK243.out hb; replace HB := bsB HB.out hb; (try clear hb); (try clear hb2); (try clear hk); (try clear hi); obtain ⟨hcz52_0, hcz52_1, hcz52_2, hcz52_3, hfz52_0, hfz52_1, hfz52_2, hfz52_3⟩ := own4 BK243.out)))
         refine bodyPost_ret (results_ct rfl _ _ gb243 30 #[.int .u64 t257, .int .u64 t258, .int .i64 t259, .int .i64 t260] (0, 0) _ rfl (by (with_reducible repeat (first | refine blk_drewN ?_ _ | refine blk_drew ?_ | refine blk_alloc ?_ _)); refine blk_put (cs := #[.int .u64 t257, .int .u64 t258, .int .i64 t259, .int .i64 0]) ?_ 3 _ rfl; (with_reducible repeat (first | refine blk_drewN ?_ _ | refine blk_drew ?_ | refine blk_alloc ?_ _)); refine blk_put (cs := #[.int .u64 t257, .int .u64 t258, .int .i64 0, .int .i64 0]) ?_ 2 _ rfl; (with_reducible repeat (first | refine blk_drewN ?_ _ | refine blk_drew ?_ | refine blk_alloc ?_ _)); refine blk_put (cs := #[.int .u64 t257, .int .u64 0, .int .i64 0, .int .i64 0]) ?_ 1 _ rfl; (with_reducible repeat (first | refine blk_drewN ?_ _ | refine blk_drew ?_ | refine blk_alloc ?_ _)); refine blk_put (cs := #[.int .u64 0, .int .u64 0, .int .i64 0, .int .i64 0]) ?_ 0 _ rfl; exact bfL BK243.out) Try.underlying30 rfl (by kernel_rfl)) rfl ?_
         exact ⟨by first | rfl | (simp [errW_none, errW_some] <;> rfl) | (simp only [← hji44, ← hji45, ← hji47]; first | rfl | (simp [errW_none, errW_some] <;> rfl)) | (simp [*, errW_none, errW_some] <;> rfl), bsL HB.out⟩
        ·
         rw [if_neg c46] at H
         have c46b0 : decide (a1_3 < 0) = false := decide_eq_false c46
         clear c46
         replace H := Option.bind_eq_some_iff.mp H
         obtain ⟨⟨t262, t263, t264, t265, t266⟩, A530, H⟩ := H
         replace H : (some (t262, t263, t264, t265, t266)) = some (r1, r2, r3, r4, r5) := H
         have A53 := Aside0.mk A530
         clear A530
         simp only [Option.some.injEq, Prod.mk.injEq] at H
         obtain ⟨rfl, rfl, rfl, rfl, rfl⟩ := H
         have hnb54 := NB242_243.out
         have hnc54 := NB243_242.out
         obtain ⟨hcz55_0, hcz55_1, hcz55_2, hcz55_3, hfz55_0, hfz55_1, hfz55_2, hfz55_3⟩ := own4 BK242.out
         go_wp2_with (first | (go_at_call 75; (with_reducible refine (jacquardref13_Umax.calls kj35 a0 t256 _ A43.out).mono ?_); rintro e w' ⟨rfl, ⟨nd, rfl⟩⟩; (try first | exact ⟨rfl, _, World.drewN_drewN _ _ _⟩ | exact ⟨rfl, _, Eq.trans (World.drewN_drewN _ _ _) (congrArg (World.drewN _) (Nat.add_assoc _ _ _))⟩)) | (go_at_call 135; (with_reducible refine (jacquardref13_same.calls kj35 a0 ji45 a1_1 t262 t263 t264 t265 t266 _ A53.out).mono ?_); rintro e w56 ⟨rfl, hb⟩; replace BK242 := bkB BK242.out hb; replace BK243 := bkB BK243.out hb; replace HB := bsB HB.out hb; (try clear hb); obtain ⟨hcz57_0, hcz57_1, hcz57_2, hcz57_3, hfz57_0, hfz57_1, hfz57_2, hfz57_3⟩ := own4 BK243.out))
         repeat (go_quiet (first | (go_at_call 75; (with_reducible refine (jacquardref13_Umax.calls kj35 a0 t256 _ A43.out).mono ?_); rintro e w' ⟨rfl, ⟨nd, rfl⟩⟩; (try first | exact ⟨rfl, _, World.drewN_drewN _ _ _⟩ | exact ⟨rfl, _, Eq.trans (World.drewN_drewN _ _ _) (congrArg (World.drewN _) (Nat.add_assoc _ _ _))⟩)) | (go_at_call 135; (with_reducible refine (jacquardref13_same.calls kj35 a0 ji45 a1_1 t262 t263 t264 t265 t266 _ A53.out).mono ?_); rintro e w56 ⟨rfl, hb⟩; replace BK242 := bkB BK242.out hb; replace BK243 := bkB BK243.out hb; replace HB := bsB HB.out hb; (try clear hb); obtain ⟨hcz57_0, hcz57_1, hcz57_2, hcz57_3, hfz57_0, hfz57_1, hfz57_2, hfz57_3⟩ := own4 BK243.out)); try go_wp2_with (first | (go_at_call 75; (with_reducible refine (jacquardref13_Umax.calls kj35 a0 t256 _ A43.out).mono ?_); rintro e w' ⟨rfl, ⟨nd, rfl⟩⟩; (try first | exact ⟨rfl, _, World.drewN_drewN _ _ _⟩ | exact ⟨rfl, _, Eq.trans (World.drewN_drewN _ _ _) (congrArg (World.drewN _) (Nat.add_assoc _ _ _))⟩)) | (go_at_call 135; (with_reducible refine (jacquardref13_same.calls kj35 a0 ji45 a1_1 t262 t263 t264 t265 t266 _ A53.out).mono ?_); rintro e w56 ⟨rfl, hb⟩; replace BK242 := bkB BK242.out hb; replace BK243 := bkB BK243.out hb; replace HB := bsB HB.out hb; (try clear hb); (try clear hb2); (try clear hk); (try clear hi); obtain ⟨hcz57_0, hcz57_1, hcz57_2, hcz57_3, hfz57_0, hfz57_1, hfz57_2, hfz57_3⟩ := own4 BK243.out)))
         refine bodyPost_ret (results_ct rfl _ _ gb243 30 #[.int .u64 t262, .int .u64 t263, .int .i64 t264, .int .i64 t265] (0, 0) _ rfl (by (with_reducible repeat (first | refine blk_drewN ?_ _ | refine blk_drew ?_ | refine blk_alloc ?_ _)); refine blk_put (cs := #[.int .u64 t262, .int .u64 t263, .int .i64 t264, .int .i64 0]) ?_ 3 _ rfl; (with_reducible repeat (first | refine blk_drewN ?_ _ | refine blk_drew ?_ | refine blk_alloc ?_ _)); refine blk_put (cs := #[.int .u64 t262, .int .u64 t263, .int .i64 0, .int .i64 0]) ?_ 2 _ rfl; (with_reducible repeat (first | refine blk_drewN ?_ _ | refine blk_drew ?_ | refine blk_alloc ?_ _)); refine blk_put (cs := #[.int .u64 t262, .int .u64 0, .int .i64 0, .int .i64 0]) ?_ 1 _ rfl; (with_reducible repeat (first | refine blk_drewN ?_ _ | refine blk_drew ?_ | refine blk_alloc ?_ _)); refine blk_put (cs := #[.int .u64 0, .int .u64 0, .int .i64 0, .int .i64 0]) ?_ 0 _ rfl; exact bfL BK243.out) Try.underlying30 rfl (by kernel_rfl)) rfl ?_
         exact ⟨by first | rfl | (simp [errW_none, errW_some] <;> rfl) | (simp only [← hji44, ← hji45]; first | rfl | (simp [errW_none, errW_some] <;> rfl)) | (simp [*, errW_none, errW_some] <;> rfl), bsL HB.out⟩
       ·
        replace c42 := Bool.eq_false_iff.mpr c42
        subst c42
        have H1 : (some (a1_0, a1_1, a1_2, a1_3, true)) = some (r1, r2, r3, r4, r5) := by rw [if_neg (show ¬ (false = true) by decide)] at H; exact H
        clear H
        have H := H1
        clear H1
        simp only [Option.some.injEq, Prod.mk.injEq] at H
        obtain ⟨rfl, rfl, rfl, rfl, rfl⟩ := H
        have hnb58 := NB242_243.out
        have hnc58 := NB243_242.out
        obtain ⟨hcz59_0, hcz59_1, hcz59_2, hcz59_3, hfz59_0, hfz59_1, hfz59_2, hfz59_3⟩ := own4 BK242.out
        obtain ⟨hcz60_0, hcz60_1, hcz60_2, hcz60_3, hfz60_0, hfz60_1, hfz60_2, hfz60_3⟩ := own4 BK243.out
        go_wp2
        repeat (go_quiet (fail); try go_wp2)
        refine bodyPost_ret (results_ct rfl _ _ gb243 30 #[.int .u64 a1_0, .int .u64 a1_1, .int .i64 a1_2, .int .i64 a1_3] (0, 0) _ rfl (by (with_reducible repeat (first | refine blk_drewN ?_ _ | refine blk_drew ?_ | refine blk_alloc ?_ _)); refine blk_put (cs := #[.int .u64 a1_0, .int .u64 a1_1, .int .i64 a1_2, .int .i64 0]) ?_ 3 _ rfl; (with_reducible repeat (first | refine blk_drewN ?_ _ | refine blk_drew ?_ | refine blk_alloc ?_ _)); refine blk_put (cs := #[.int .u64 a1_0, .int .u64 a1_1, .int .i64 0, .int .i64 0]) ?_ 2 _ rfl; (with_reducible repeat (first | refine blk_drewN ?_ _ | refine blk_drew ?_ | refine blk_alloc ?_ _)); refine blk_put (cs := #[.int .u64 a1_0, .int .u64 0, .int .i64 0, .int .i64 0]) ?_ 1 _ rfl; (with_reducible repeat (first | refine blk_drewN ?_ _ | refine blk_drew ?_ | refine blk_alloc ?_ _)); refine blk_put (cs := #[.int .u64 0, .int .u64 0, .int .i64 0, .int .i64 0]) ?_ 0 _ rfl; exact bfL BK243.out) Try.underlying30 rfl (by kernel_rfl)) rfl ?_
        exact ⟨by first | rfl | (simp [errW_none, errW_some] <;> rfl) | (simp [*, errW_none, errW_some] <;> rfl), bsL HB.out⟩
 ·
  replace c4 := Bool.eq_false_iff.mpr c4
  subst c4
  have H1 : (some (0, 0, 0, 0, false)) = some (r1, r2, r3, r4, r5) := by rw [if_neg (show ¬ (false = true) by decide)] at H; exact H
  clear H
  have H := H1
  clear H1
  simp only [Option.some.injEq, Prod.mk.injEq] at H
  obtain ⟨rfl, rfl, rfl, rfl, rfl⟩ := H
  go_enter Try.func59, Try.ntmps59
  go_wp2_with (first | ((with_reducible refine gate_dst (N := 3) rfl ?_); refine boxE (N := 3) (cs := #[.int .u64 a1_0, .int .u64 a1_1, .int .i64 a1_2, .int .i64 a1_3]) (t := 30) ?_; intro gb242 hg w61 hbox hb; have BK242 := Aside0.mk (hbox); have GW242 := szB hg HB.out; have GE242 := szB hg HB.out; replace HB := bsB HB.out hb; clear hb hbox hg) | ((with_reducible refine gate_dst (N := 4) rfl ?_); refine boxE (N := 4) (cs := #[.int .u64 0, .int .u64 0, .int .i64 0, .int .i64 0]) (t := 30) ?_; intro gb243 hg w62 hbox hb; have BK243 := Aside0.mk (hbox); have GW243 := szB hg HB.out; have GE243 := szB hg HB.out; have NB242_243 := neL hg BK242.out; have NB243_242 := neG hg BK242.out; replace BK242 := bkB BK242.out hb; replace HB := bsB HB.out hb; clear hb hbox hg; have hnb63 := NB242_243.out; have hnc63 := NB243_242.out; obtain ⟨hcz64_0, hcz64_1, hcz64_2, hcz64_3, hfz64_0, hfz64_1, hfz64_2, hfz64_3⟩ := own4 BK242.out) | (go_at_call 74; (with_reducible refine (jacquardref13_Valid.calls k a0 a1_0 a1_1 a1_2 a1_3 false _ A3.out).mono ?_); rintro e w65 ⟨rfl, hb⟩; replace BK242 := bkB BK242.out hb; replace BK243 := bkB BK243.out hb; replace HB := bsB HB.out hb; (try clear hb); (try clear hb2); (try clear hk); (try clear hi); obtain ⟨hcz66_0, hcz66_1, hcz66_2, hcz66_3, hfz66_0, hfz66_1, hfz66_2, hfz66_3⟩ := own4 BK243.out))
  repeat (go_quiet (first | ((with_reducible refine gate_dst (N := 3) rfl ?_); refine boxE (N := 3) (cs := #[.int .u64 a1_0, .int .u64 a1_1, .int .i64 a1_2, .int .i64 a1_3]) (t := 30) ?_; intro gb242 hg w61 hbox hb; have BK242 := Aside0.mk (hbox); have GW242 := szB hg HB.out; have GE242 := szB hg HB.out; replace HB := bsB HB.out hb; clear hb hbox hg) | ((with_reducible refine gate_dst (N := 4) rfl ?_); refine boxE (N := 4) (cs := #[.int .u64 0, .int .u64 0, .int .i64 0, .int .i64 0]) (t := 30) ?_; intro gb243 hg w62 hbox hb; have BK243 := Aside0.mk (hbox); have GW243 := szB hg HB.out; have GE243 := szB hg HB.out; have NB242_243 := neL hg BK242.out; have NB243_242 := neG hg BK242.out; replace BK242 := bkB BK242.out hb; replace HB := bsB HB.out hb; clear hb hbox hg; have hnb63 := NB242_243.out; have hnc63 := NB243_242.out; obtain ⟨hcz64_0, hcz64_1, hcz64_2, hcz64_3, hfz64_0, hfz64_1, hfz64_2, hfz64_3⟩ := own4 BK242.out) | (go_at_call 74; (with_reducible refine (jacquardref13_Valid.calls k a0 a1_0 a1_1 a1_2 a1_3 false _ A3.out).mono ?_); rintro e w65 ⟨rfl, hb⟩; replace BK242 := bkB BK242.out hb; replace BK243 := bkB BK243.out hb; replace HB := bsB HB.out hb; (try clear hb); (try clear hb2); (try clear hk); (try clear hi); obtain ⟨hcz66_0, hcz66_1, hcz66_2, hcz66_3, hfz66_0, hfz66_1, hfz66_2, hfz66_3⟩ := own4 BK243.out)); try go_wp2_with (first | ((with_reducible refine gate_dst (N := 3) rfl ?_); refine boxE (N := 3) (cs := #[.int .u64 a1_0, .int .u64 a1_1, .int .i64 a1_2, .int .i64 a1_3]) (t := 30) ?_; intro gb242 hg w61 hbox hb; have BK242 := Aside0.mk (hbox); have GW242 := szB hg HB.out; have GE242 := szB hg HB.out; replace HB := bsB HB.out hb; clear hb hbox hg) | ((with_reducible refine gate_dst (N := 4) rfl ?_); refine boxE (N := 4) (cs := #[.int .u64 0, .int .u64 0, .int .i64 0, .int .i64 0]) (t := 30) ?_; intro gb243 hg w62 hbox hb; have BK243 := Aside0.mk (hbox); have GW243 := szB hg HB.out; have GE243 := szB hg HB.out; have NB242_243 := neL hg BK242.out; have NB243_242 := neG hg BK242.out; replace BK242 := bkB BK242.out hb; replace HB := bsB HB.out hb; clear hb hbox hg; have hnb63 := NB242_243.out; have hnc63 := NB243_242.out; obtain ⟨hcz64_0, hcz64_1, hcz64_2, hcz64_3, hfz64_0, hfz64_1, hfz64_2, hfz64_3⟩ := own4 BK242.out) | (go_at_call 74; (with_reducible refine (jacquardref13_Valid.calls k a0 a1_0 a1_1 a1_2 a1_3 false _ A3.out).mono ?_); rintro e w65 ⟨rfl, hb⟩; replace BK242 := bkB BK242.out hb; replace BK243 := bkB BK243.out hb; replace HB := bsB HB.out hb; (try clear hb); (try clear hb2); (try clear hk); (try clear hi); obtain ⟨hcz66_0, hcz66_1, hcz66_2, hcz66_3, hfz66_0, hfz66_1, hfz66_2, hfz66_3⟩ := own4 BK243.out)))
  refine bodyPost_ret (results_ct rfl _ _ gb243 30 #[.int .u64 0, .int .u64 0, .int .i64 0, .int .i64 0] (0, 0) _ rfl (by (with_reducible repeat (first | refine blk_drewN ?_ _ | refine blk_drew ?_ | refine blk_alloc ?_ _)); refine blk_put (cs := #[.int .u64 0, .int .u64 0, .int .i64 0, .int .i64 0]) ?_ 3 _ rfl; (with_reducible repeat (first | refine blk_drewN ?_ _ | refine blk_drew ?_ | refine blk_alloc ?_ _)); refine blk_put (cs := #[.int .u64 0, .int .u64 0, .int .i64 0, .int .i64 0]) ?_ 2 _ rfl; (with_reducible repeat (first | refine blk_drewN ?_ _ | refine blk_drew ?_ | refine blk_alloc ?_ _)); refine blk_put (cs := #[.int .u64 0, .int .u64 0, .int .i64 0, .int .i64 0]) ?_ 1 _ rfl; (with_reducible repeat (first | refine blk_drewN ?_ _ | refine blk_drew ?_ | refine blk_alloc ?_ _)); refine blk_put (cs := #[.int .u64 0, .int .u64 0, .int .i64 0, .int .i64 0]) ?_ 0 _ rfl; exact bfL BK243.out) Try.underlying30 rfl (by kernel_rfl)) rfl ?_
  exact ⟨by first | rfl | (simp [errW_none, errW_some] <;> rfl) | (simp [*, errW_none, errW_some] <;> rfl), bsL HB.out⟩

/-! ### jacquardref12_Limits: function 79 -/
def jacquardref12_Limits.f (k : Nat) (a0 : Int) (a1_0 : Int) (a1_1 : Int) : Option (Int × Int) := (jacquardref12_Mask.f k a0).bind fun t268 => (some (a1_1, Go.bits .andNot .u64 t268 a1_0))
theorem jacquardref12_Limits.mono : ∀ a0 a1 a2 k, LeO (jacquardref12_Limits.f k a0 a1 a2) (jacquardref12_Limits.f (k + 1) a0 a1 a2) := by
 intro a0 a1 a2 k
 unfold jacquardref12_Limits.f
 repeat' first
   | (with_reducible exact jacquardref12_Mask.mono _ _)
   | (with_reducible exact LeO.refl _)
   | (with_reducible exact LeO.none _)
   | (with_reducible refine LeO.ite ?_ ?_)
   | (with_reducible refine LeO.bind ?_ (fun _ => ?_))
   | exact jacquardref12_Mask.mono _ _
   | exact LeO.none _
   | refine LeO.ite ?_ ?_
   | refine LeO.bind ?_ (fun _ => ?_)
set_option maxHeartbeats 8000000 in
set_option maxRecDepth 100000 in
theorem jacquardref12_Limits.calls (k : Nat) (a0 : Int) (a1_0 : Int) (a1_1 : Int) (r1 : Int) (r2 : Int) (w : World) (h : jacquardref12_Limits.f k a0 a1_0 a1_1 = some (r1, r2)) :
  Calls Try.prog 79 #[.int .i64 a0, .agg #[.int .u64 a1_0, .int .u64 a1_1]] w fun e w' => e = .returned (.tuple #[.int .u64 r1, .int .u64 r2]) ∧ Below w.heap.size w w' := by
 have hu110 := Try.underlying110
 have HB := Aside0.mk (Below.refl w.heap.size w)
 have H : ((jacquardref12_Mask.f k a0).bind fun t268 => (some (a1_1, Go.bits .andNot .u64 t268 a1_0))) = some (r1, r2) := h
 clear h
 replace H := Option.bind_eq_some_iff.mp H
 obtain ⟨t268, A30, H⟩ := H
 replace H : (some (a1_1, Go.bits .andNot .u64 t268 a1_0)) = some (r1, r2) := H
 have A3 := Aside0.mk A30
 clear A30
 simp only [Option.some.injEq, Prod.mk.injEq] at H
 obtain ⟨rfl, rfl⟩ := H
 go_enter Try.func79, Try.ntmps79
 go_wp2_with (first | ((with_reducible refine gate_dst (N := 3) rfl ?_); refine boxE (N := 3) (cs := #[.int .u64 a1_0, .int .u64 a1_1]) (t := 110) ?_; intro gb267 hg w4 hbox hb; have BK267 := Aside0.mk (hbox); have GW267 := szB hg HB.out; have GE267 := szB hg HB.out; replace HB := bsB HB.out hb; clear hb hbox hg; obtain ⟨hcz5_0, hcz5_1, hfz5_0, hfz5_1⟩ := own2 BK267.out) | (go_at_call 16; (with_reducible refine (jacquardref12_Mask.calls k a0 t268 _ A3.out).mono ?_); rintro e w' ⟨rfl, ⟨nd, rfl⟩⟩; (try first | exact ⟨rfl, _, World.drewN_drewN _ _ _⟩ | exact ⟨rfl, _, Eq.trans (World.drewN_drewN _ _ _) (congrArg (World.drewN _) (Nat.add_assoc _ _ _))⟩)))
 repeat (go_quiet (first | ((with_reducible refine gate_dst (N := 3) rfl ?_); refine boxE (N := 3) (cs := #[.int .u64 a1_0, .int .u64 a1_1]) (t := 110) ?_; intro gb267 hg w4 hbox hb; have BK267 := Aside0.mk (hbox); have GW267 := szB hg HB.out; have GE267 := szB hg HB.out; replace HB := bsB HB.out hb; clear hb hbox hg; obtain ⟨hcz5_0, hcz5_1, hfz5_0, hfz5_1⟩ := own2 BK267.out) | (go_at_call 16; (with_reducible refine (jacquardref12_Mask.calls k a0 t268 _ A3.out).mono ?_); rintro e w' ⟨rfl, ⟨nd, rfl⟩⟩; (try first | exact ⟨rfl, _, World.drewN_drewN _ _ _⟩ | exact ⟨rfl, _, Eq.trans (World.drewN_drewN _ _ _) (congrArg (World.drewN _) (Nat.add_assoc _ _ _))⟩))); try go_wp2_with (first | ((with_reducible refine gate_dst (N := 3) rfl ?_); refine boxE (N := 3) (cs := #[.int .u64 a1_0, .int .u64 a1_1]) (t := 110) ?_; intro gb267 hg w4 hbox hb; have BK267 := Aside0.mk (hbox); have GW267 := szB hg HB.out; have GE267 := szB hg HB.out; replace HB := bsB HB.out hb; clear hb hbox hg; obtain ⟨hcz5_0, hcz5_1, hfz5_0, hfz5_1⟩ := own2 BK267.out) | (go_at_call 16; (with_reducible refine (jacquardref12_Mask.calls k a0 t268 _ A3.out).mono ?_); rintro e w' ⟨rfl, ⟨nd, rfl⟩⟩; (try first | exact ⟨rfl, _, World.drewN_drewN _ _ _⟩ | exact ⟨rfl, _, Eq.trans (World.drewN_drewN _ _ _) (congrArg (World.drewN _) (Nat.add_assoc _ _ _))⟩))))
 go_ret2
 exact ⟨by first | rfl | (simp [errW_none, errW_some] <;> rfl) | (simp [*, errW_none, errW_some] <;> rfl), bsL HB.out⟩

/-! ### jacquardref12_Known: function 145 -/
def jacquardref12_Known.f (a0_0 : Int) (a0_1 : Int) (a1 : Int) : Option (Int) := (jacquardref12_Bit.f a0_1 a1).bind fun t270 => (if t270 = 1 then (some 1) else ((jacquardref12_Bit.f a0_0 a1).bind fun t271 => (if t271 = 1 then (some 0) else (some (-1)))))
set_option maxHeartbeats 8000000 in
set_option maxRecDepth 100000 in
theorem jacquardref12_Known.calls (a0_0 : Int) (a0_1 : Int) (a1 : Int) (r : Int) (w : World) (h : jacquardref12_Known.f a0_0 a0_1 a1 = some r) :
  Calls Try.prog 145 #[.agg #[.int .u64 a0_0, .int .u64 a0_1], .int .i64 a1] w fun e w' => e = .returned (.int .i64 r) ∧ Below w.heap.size w w' := by
 have hu110 := Try.underlying110
 have HB := Aside0.mk (Below.refl w.heap.size w)
 have H : ((jacquardref12_Bit.f a0_1 a1).bind fun t270 => (if t270 = 1 then (some 1) else ((jacquardref12_Bit.f a0_0 a1).bind fun t271 => (if t271 = 1 then (some 0) else (some (-1)))))) = some r := h
 clear h
 replace H := Option.bind_eq_some_iff.mp H
 obtain ⟨t270, A30, H⟩ := H
 replace H : (if t270 = 1 then (some 1) else ((jacquardref12_Bit.f a0_0 a1).bind fun t271 => (if t271 = 1 then (some 0) else (some (-1))))) = some r := H
 have A3 := Aside0.mk A30
 clear A30
 by_cases c4 : t270 = 1
 ·
  rw [if_pos c4] at H
  have c4b0 : (t270 == 1) = true := beq_iff_eq.mpr c4
  have c4b1 : (t270 != 1) = false := bne_eq_false_iff_eq.mpr c4
  clear c4
  obtain rfl := Option.some.inj H
  go_enter Try.func145, Try.ntmps145
  go_wp2_with (first | ((with_reducible refine gate_dst (N := 2) rfl ?_); refine boxE (N := 2) (cs := #[.int .u64 a0_0, .int .u64 a0_1]) (t := 110) ?_; intro gb269 hg w5 hbox hb; have BK269 := Aside0.mk (hbox); have GW269 := szB hg HB.out; have GE269 := szB hg HB.out; replace HB := bsB HB.out hb; clear hb hbox hg; obtain ⟨hcz6_0, hcz6_1, hfz6_0, hfz6_1⟩ := own2 BK269.out) | ((with_reducible refine gate_callee (f := 71) rfl ?_); refine gL (some 8) Try.func71 #[.int .u64 a0_1, .int .i64 a1] ?_; (with_reducible refine (jacquardref12_Bit.calls a0_1 a1 t270 _ A3.out).mono ?_); rintro e w' ⟨rfl, ⟨nd, rfl⟩⟩; refine ⟨_, rfl, ?_⟩))
  go_ret
  exact ⟨by first | rfl | (simp [errW_none, errW_some] <;> rfl) | (simp [*, errW_none, errW_some] <;> rfl), bsL HB.out⟩
 ·
  rw [if_neg c4] at H
  have c4b0 : (t270 == 1) = false := beq_eq_false_iff_ne.mpr c4
  have c4b1 : (t270 != 1) = true := bne_iff_ne.mpr c4
  replace H := Option.bind_eq_some_iff.mp H
  obtain ⟨t271, A70, H⟩ := H
  replace H : (if t271 = 1 then (some 0) else (some (-1))) = some r := H
  have A7 := Aside0.mk A70
  clear A70
  by_cases c8 : t271 = 1
  ·
   rw [if_pos c8] at H
   have c8b0 : (t271 == 1) = true := beq_iff_eq.mpr c8
   have c8b1 : (t271 != 1) = false := bne_eq_false_iff_eq.mpr c8
   clear c8
   obtain rfl := Option.some.inj H
   go_enter Try.func145, Try.ntmps145
   go_wp2_with (first | ((with_reducible refine gate_dst (N := 2) rfl ?_); refine boxE (N := 2) (cs := #[.int .u64 a0_0, .int .u64 a0_1]) (t := 110) ?_; intro gb269 hg w9 hbox hb; have BK269 := Aside0.mk (hbox); have GW269 := szB hg HB.out; have GE269 := szB hg HB.out; replace HB := bsB HB.out hb; clear hb hbox hg; obtain ⟨hcz10_0, hcz10_1, hfz10_0, hfz10_1⟩ := own2 BK269.out) | ((with_reducible refine gate_callee (f := 71) rfl ?_); refine gL (some 8) Try.func71 #[.int .u64 a0_1, .int .i64 a1] ?_; (with_reducible refine (jacquardref12_Bit.calls a0_1 a1 t270 _ A3.out).mono ?_); rintro e w' ⟨rfl, ⟨nd, rfl⟩⟩; refine ⟨_, rfl, ?_⟩) | ((with_reducible refine gate_callee (f := 71) rfl ?_); refine gL (some 13) Try.func71 #[.int .u64 a0_0, .int .i64 a1] ?_; (with_reducible refine (jacquardref12_Bit.calls a0_0 a1 t271 _ A7.out).mono ?_); rintro e w' ⟨rfl, ⟨nd, rfl⟩⟩; refine ⟨_, rfl, ?_⟩))
   go_ret
   exact ⟨by first | rfl | (simp [errW_none, errW_some] <;> rfl) | (simp [*, errW_none, errW_some] <;> rfl), bsL HB.out⟩
  ·
   rw [if_neg c8] at H
   have c8b0 : (t271 == 1) = false := beq_eq_false_iff_ne.mpr c8
   have c8b1 : (t271 != 1) = true := bne_iff_ne.mpr c8
   obtain rfl := Option.some.inj H
   go_enter Try.func145, Try.ntmps145
   go_wp2_with (first | ((with_reducible refine gate_dst (N := 2) rfl ?_); refine boxE (N := 2) (cs := #[.int .u64 a0_0, .int .u64 a0_1]) (t := 110) ?_; intro gb269 hg w11 hbox hb; have BK269 := Aside0.mk (hbox); have GW269 := szB hg HB.out; have GE269 := szB hg HB.out; replace HB := bsB HB.out hb; clear hb hbox hg; obtain ⟨hcz12_0, hcz12_1, hfz12_0, hfz12_1⟩ := own2 BK269.out) | ((with_reducible refine gate_callee (f := 71) rfl ?_); refine gL (some 8) Try.func71 #[.int .u64 a0_1, .int .i64 a1] ?_; (with_reducible refine (jacquardref12_Bit.calls a0_1 a1 t270 _ A3.out).mono ?_); rintro e w' ⟨rfl, ⟨nd, rfl⟩⟩; refine ⟨_, rfl, ?_⟩) | ((with_reducible refine gate_callee (f := 71) rfl ?_); refine gL (some 13) Try.func71 #[.int .u64 a0_0, .int .i64 a1] ?_; (with_reducible refine (jacquardref12_Bit.calls a0_0 a1 t271 _ A7.out).mono ?_); rintro e w' ⟨rfl, ⟨nd, rfl⟩⟩; refine ⟨_, rfl, ?_⟩))
   go_ret
   exact ⟨by first | rfl | (simp [errW_none, errW_some] <;> rfl) | (simp [*, errW_none, errW_some] <;> rfl), bsL HB.out⟩

/-! ### jacquardref12_SignedLimits: function 81 -/
def jacquardref12_SignedLimits.f (k : Nat) (a0 : Int) (a1_0 : Int) (a1_1 : Int) : Option (Int × Int) := (jacquardref12_Mask.f k a0).bind fun t273 => ((jacquardref12_Known.f a1_0 a1_1 (wrap64 (a0 - 1))).bind fun t274 => (if t274 < 0 then (if 0 ≤ (wrap64 (a0 - 1)) then ((jacquardref12_Signed.f k a0 (Go.bits .or .u64 a1_1 (shl .u64 1 (wrap64 (a0 - 1))))).bind fun t275 => ((jacquardref12_Signed.f k a0 (Go.bits .andNot .u64 (Go.bits .andNot .u64 t273 a1_0) (shl .u64 1 (wrap64 (a0 - 1))))).bind fun t276 => (some (t275, t276)))) else (none)) else ((jacquardref12_Signed.f k a0 a1_1).bind fun t277 => ((jacquardref12_Signed.f k a0 (Go.bits .andNot .u64 t273 a1_0)).bind fun t278 => (some (t277, t278))))))
theorem jacquardref12_SignedLimits.mono : ∀ a0 a1 a2 k, LeO (jacquardref12_SignedLimits.f k a0 a1 a2) (jacquardref12_SignedLimits.f (k + 1) a0 a1 a2) := by
 intro a0 a1 a2 k
 unfold jacquardref12_SignedLimits.f
 repeat' first
   | (with_reducible exact jacquardref12_Mask.mono _ _)
   | (with_reducible exact jacquardref12_Signed.mono _ _ _)
   | (with_reducible exact LeO.refl _)
   | (with_reducible exact LeO.none _)
   | (with_reducible refine LeO.ite ?_ ?_)
   | (with_reducible refine LeO.bind ?_ (fun _ => ?_))
   | exact jacquardref12_Mask.mono _ _
   | exact jacquardref12_Signed.mono _ _ _
   | exact LeO.none _
   | refine LeO.ite ?_ ?_
   | refine LeO.bind ?_ (fun _ => ?_)
set_option maxHeartbeats 8000000 in
set_option maxRecDepth 100000 in
theorem jacquardref12_SignedLimits.calls (k : Nat) (a0 : Int) (a1_0 : Int) (a1_1 : Int) (r1 : Int) (r2 : Int) (w : World) (h : jacquardref12_SignedLimits.f k a0 a1_0 a1_1 = some (r1, r2)) :
  Calls Try.prog 81 #[.int .i64 a0, .agg #[.int .u64 a1_0, .int .u64 a1_1]] w fun e w' => e = .returned (.tuple #[.int .i64 r1, .int .i64 r2]) ∧ Below w.heap.size w w' := by
 have hu110 := Try.underlying110
 have HB := Aside0.mk (Below.refl w.heap.size w)
 have H : ((jacquardref12_Mask.f k a0).bind fun t273 => ((jacquardref12_Known.f a1_0 a1_1 (wrap64 (a0 - 1))).bind fun t274 => (if t274 < 0 then (if 0 ≤ (wrap64 (a0 - 1)) then ((jacquardref12_Signed.f k a0 (Go.bits .or .u64 a1_1 (shl .u64 1 (wrap64 (a0 - 1))))).bind fun t275 => ((jacquardref12_Signed.f k a0 (Go.bits .andNot .u64 (Go.bits .andNot .u64 t273 a1_0) (shl .u64 1 (wrap64 (a0 - 1))))).bind fun t276 => (some (t275, t276)))) else (none)) else ((jacquardref12_Signed.f k a0 a1_1).bind fun t277 => ((jacquardref12_Signed.f k a0 (Go.bits .andNot .u64 t273 a1_0)).bind fun t278 => (some (t277, t278))))))) = some (r1, r2) := h
 clear h
 replace H := Option.bind_eq_some_iff.mp H
 obtain ⟨t273, A30, H⟩ := H
 replace H : ((jacquardref12_Known.f a1_0 a1_1 (wrap64 (a0 - 1))).bind fun t274 => (if t274 < 0 then (if 0 ≤ (wrap64 (a0 - 1)) then ((jacquardref12_Signed.f k a0 (Go.bits .or .u64 a1_1 (shl .u64 1 (wrap64 (a0 - 1))))).bind fun t275 => ((jacquardref12_Signed.f k a0 (Go.bits .andNot .u64 (Go.bits .andNot .u64 t273 a1_0) (shl .u64 1 (wrap64 (a0 - 1))))).bind fun t276 => (some (t275, t276)))) else (none)) else ((jacquardref12_Signed.f k a0 a1_1).bind fun t277 => ((jacquardref12_Signed.f k a0 (Go.bits .andNot .u64 t273 a1_0)).bind fun t278 => (some (t277, t278)))))) = some (r1, r2) := H
 have A3 := Aside0.mk A30
 clear A30
 replace H := Option.bind_eq_some_iff.mp H
 obtain ⟨t274, A40, H⟩ := H
 replace H : (if t274 < 0 then (if 0 ≤ (wrap64 (a0 - 1)) then ((jacquardref12_Signed.f k a0 (Go.bits .or .u64 a1_1 (shl .u64 1 (wrap64 (a0 - 1))))).bind fun t275 => ((jacquardref12_Signed.f k a0 (Go.bits .andNot .u64 (Go.bits .andNot .u64 t273 a1_0) (shl .u64 1 (wrap64 (a0 - 1))))).bind fun t276 => (some (t275, t276)))) else (none)) else ((jacquardref12_Signed.f k a0 a1_1).bind fun t277 => ((jacquardref12_Signed.f k a0 (Go.bits .andNot .u64 t273 a1_0)).bind fun t278 => (some (t277, t278))))) = some (r1, r2) := H
 have A4 := Aside0.mk A40
 clear A40
 by_cases c5 : t274 < 0
 ·
  rw [if_pos c5] at H
  have c5b0 : decide (t274 < 0) = true := decide_eq_true c5
  clear c5
  obtain ⟨ji6, hji6⟩ : ∃ j_ : Int, (wrap64 (a0 - 1)) = j_ := ⟨_, rfl⟩
  replace H : (if 0 ≤ (ji6) then ((jacquardref12_Signed.f k a0 (Go.bits .or .u64 a1_1 (shl .u64 1 (ji6)))).bind fun t275 => ((jacquardref12_Signed.f k a0 (Go.bits .andNot .u64 (Go.bits .andNot .u64 t273 a1_0) (shl .u64 1 (ji6)))).bind fun t276 => (some (t275, t276)))) else (none)) = some (r1, r2) := by first | (rw [hji6] at H; exact H) | (simp only [hji6] at H ⊢; exact H)
  (try rw [hji6] at A3)
  (try rw [hji6] at A4)
  have hji6w : (IntKind.i64.wrap (a0 - 1)) = ji6 := (i64_w _).trans hji6
  by_cases c7 : 0 ≤ (ji6)
  ·
   rw [if_pos c7] at H
   have c7b0 := eq_true c7
   have c7b1 : decide (0 ≤ (ji6)) = true := decide_eq_true c7
   clear c7
   obtain ⟨ji8, hji8⟩ : ∃ j_ : Int, (shl .u64 1 (ji6)) = j_ := ⟨_, rfl⟩
   replace H : ((jacquardref12_Signed.f k a0 (Go.bits .or .u64 a1_1 (ji8))).bind fun t275 => ((jacquardref12_Signed.f k a0 (Go.bits .andNot .u64 (Go.bits .andNot .u64 t273 a1_0) (ji8))).bind fun t276 => (some (t275, t276)))) = some (r1, r2) := by first | (rw [hji8] at H; exact H) | (simp only [hji8] at H ⊢; exact H)
   (try rw [hji8] at A3)
   (try rw [hji8] at A4)
   have hji8_ : (IntKind.u64.wrap (1 * 2 ^ min (ji6).toNat 64)) = ji8 := hji8
   have hji8z : (ji6) ≤ 64 → (IntKind.u64.wrap (1 * 2 ^ (ji6).toNat)) = ji8 := shl_small hji8
   have hji8u : (IntKind.u64.wrap (2 ^ min (ji6).toNat 64)) = ji8 := by have h_ := hji8_; rw [Int.one_mul] at h_; exact h_
   have hji8v : (ji6) ≤ 64 → (IntKind.u64.wrap (2 ^ (ji6).toNat)) = ji8 := fun hle_ => by have h_ := hji8z hle_; rw [Int.one_mul] at h_; exact h_
   have c9b0 := eq_true (of_decide_eq_true (by first | (with_reducible assumption) | assumption) : 0 ≤ (ji6))
   replace H := Option.bind_eq_some_iff.mp H
   obtain ⟨t275, A100, H⟩ := H
   replace H : ((jacquardref12_Signed.f k a0 (Go.bits .andNot .u64 (Go.bits .andNot .u64 t273 a1_0) (ji8))).bind fun t276 => (some (t275, t276))) = some (r1, r2) := H
   have A10 := Aside0.mk A100
   clear A100
   replace H := Option.bind_eq_some_iff.mp H
   obtain ⟨t276, A110, H⟩ := H
   replace H : (some (t275, t276)) = some (r1, r2) := H
   have A11 := Aside0.mk A110
   clear A110
   simp only [Option.some.injEq, Prod.mk.injEq] at H
   obtain ⟨rfl, rfl⟩ := H
   go_enter Try.func81, Try.ntmps81
   go_wp2_with (first | ((with_reducible refine gate_dst (N := 3) rfl ?_); refine boxE (N := 3) (cs := #[.int .u64 a1_0, .int .u64 a1_1]) (t := 110) ?_; intro gb272 hg w12 hbox hb; have BK272 := Aside0.mk (hbox); have GW272 := szB hg HB.out; have GE272 := szB hg HB.out; replace HB := bsB HB.out hb; clear hb hbox hg; obtain ⟨hcz13_0, hcz13_1, hfz13_0, hfz13_1⟩ := own2 BK272.out) | (go_at_call 16; (with_reducible refine (jacquardref12_Mask.calls k a0 t273 _ A3.out).mono ?_); rintro e w' ⟨rfl, ⟨nd, rfl⟩⟩; (try first | exact ⟨rfl, _, World.drewN_drewN _ _ _⟩ | exact ⟨rfl, _, Eq.trans (World.drewN_drewN _ _ _) (congrArg (World.drewN _) (Nat.add_assoc _ _ _))⟩)) | (go_at_call 145; (with_reducible refine (jacquardref12_Known.calls a1_0 a1_1 ji6 t274 _ A4.out).mono ?_); rintro e w14 ⟨rfl, hb⟩; replace BK272 := bkB BK272.out hb; replace HB := bsB HB.out hb; (try clear hb); (try clear hb2); (try clear hk); (try clear hi)) | (go_at_call 73; (with_reducible refine (jacquardref12_Signed.calls k a0 (Go.bits .or .u64 a1_1 (ji8)) t275 _ A10.out).mono ?_); rintro e w' ⟨rfl, ⟨nd, rfl⟩⟩; (try first | exact ⟨rfl, _, World.drewN_drewN _ _ _⟩ | exact ⟨rfl, _, Eq.trans (World.drewN_drewN _ _ _) (congrArg (World.drewN _) (Nat.add_assoc _ _ _))⟩)) | (go_at_call 73; (with_reducible refine (jacquardref12_Signed.calls k a0 (Go.bits .andNot .u64 (Go.bits .andNot .u64 t273 a1_0) (ji8)) t276 _ A11.out).mono ?_); rintro e w' ⟨rfl, ⟨nd, rfl⟩⟩; (try first | exact ⟨rfl, _, World.drewN_drewN _ _ _⟩ | exact ⟨rfl, _, Eq.trans (World.drewN_drewN _ _ _) (congrArg (World.drewN _) (Nat.add_assoc _ _ _))⟩)))
   repeat (go_quiet (first | ((with_reducible refine gate_dst (N := 3) rfl ?_); refine boxE (N := 3) (cs := #[.int .u64 a1_0, .int .u64 a1_1]) (t := 110) ?_; intro gb272 hg w12 hbox hb; have BK272 := Aside0.mk (hbox); have GW272 := szB hg HB.out; have GE272 := szB hg HB.out; replace HB := bsB HB.out hb; clear hb hbox hg; obtain ⟨hcz13_0, hcz13_1, hfz13_0, hfz13_1⟩ := own2 BK272.out) | (go_at_call 16; (with_reducible refine (jacquardref12_Mask.calls k a0 t273 _ A3.out).mono ?_); rintro e w' ⟨rfl, ⟨nd, rfl⟩⟩; (try first | exact ⟨rfl, _, World.drewN_drewN _ _ _⟩ | exact ⟨rfl, _, Eq.trans (World.drewN_drewN _ _ _) (congrArg (World.drewN _) (Nat.add_assoc _ _ _))⟩)) | (go_at_call 145; (with_reducible refine (jacquardref12_Known.calls a1_0 a1_1 ji6 t274 _ A4.out).mono ?_); rintro e w14 ⟨rfl, hb⟩; replace BK272 := bkB BK272.out hb; replace HB := bsB HB.out hb; (try clear hb); (try clear hb2); (try clear hk); (try clear hi)) | (go_at_call 73; (with_reducible refine (jacquardref12_Signed.calls k a0 (Go.bits .or .u64 a1_1 (ji8)) t275 _ A10.out).mono ?_); rintro e w' ⟨rfl, ⟨nd, rfl⟩⟩; (try first | exact ⟨rfl, _, World.drewN_drewN _ _ _⟩ | exact ⟨rfl, _, Eq.trans (World.drewN_drewN _ _ _) (congrArg (World.drewN _) (Nat.add_assoc _ _ _))⟩)) | (go_at_call 73; (with_reducible refine (jacquardref12_Signed.calls k a0 (Go.bits .andNot .u64 (Go.bits .andNot .u64 t273 a1_0) (ji8)) t276 _ A11.out).mono ?_); rintro e w' ⟨rfl, ⟨nd, rfl⟩⟩; (try first | exact ⟨rfl, _, World.drewN_drewN _ _ _⟩ | exact ⟨rfl, _, Eq.trans (World.drewN_drewN _ _ _) (congrArg (World.drewN _) (Nat.add_assoc _ _ _))⟩))); try go_wp2_with (first | ((with_reducible refine gate_dst (N := 3) rfl ?_); refine boxE (N := 3) (cs := #[.int .u64 a1_0, .int .u64 a1_1]) (t := 110) ?_; intro gb272 hg w12 hbox hb; have BK272 := Aside0.mk (hbox); have GW272 := szB hg HB.out; have GE272 := szB hg HB.out; replace HB := bsB HB.out hb; clear hb hbox hg; obtain ⟨hcz13_0, hcz13_1, hfz13_0, hfz13_1⟩ := own2 BK272.out) | (go_at_call 16; (with_reducible refine (jacquardref12_Mask.calls k a0 t273 _ A3.out).mono ?_); rintro e w' ⟨rfl, ⟨nd, rfl⟩⟩; (try first | exact ⟨rfl, _, World.drewN_drewN _ _ _⟩ | exact ⟨rfl, _, Eq.trans (World.drewN_drewN _ _ _) (congrArg (World.drewN _) (Nat.add_assoc _ _ _))⟩)) | (go_at_call 145; (with_reducible refine (jacquardref12_Known.calls a1_0 a1_1 ji6 t274 _ A4.out).mono ?_); rintro e w14 ⟨rfl, hb⟩; replace BK272 := bkB BK272.out hb; replace HB := bsB HB.out hb; (try clear hb); (try clear hb2); (try clear hk); (try clear hi)) | (go_at_call 73; (with_reducible refine (jacquardref12_Signed.calls k a0 (Go.bits .or .u64 a1_1 (ji8)) t275 _ A10.out).mono ?_); rintro e w' ⟨rfl, ⟨nd, rfl⟩⟩; (try first | exact ⟨rfl, _, World.drewN_drewN _ _ _⟩ | exact ⟨rfl, _, Eq.trans (World.drewN_drewN _ _ _) (congrArg (World.drewN _) (Nat.add_assoc _ _ _))⟩)) | (go_at_call 73; (with_reducible refine (jacquardref12_Signed.calls k a0 (Go.bits .andNot .u64 (Go.bits .andNot .u64 t273 a1_0) (ji8)) t276 _ A11.out).mono ?_); rintro e w' ⟨rfl, ⟨nd, rfl⟩⟩; (try first | exact ⟨rfl, _, World.drewN_drewN _ _ _⟩ | exact ⟨rfl, _, Eq.trans (World.drewN_drewN _ _ _) (congrArg (World.drewN _) (Nat.add_assoc _ _ _))⟩))))
   go_ret2
   exact ⟨by first | rfl | (simp [errW_none, errW_some] <;> rfl) | (simp only [← hji6, ← hji8]; first | rfl | (simp [errW_none, errW_some] <;> rfl)) | (simp [*, errW_none, errW_some] <;> rfl), bsL HB.out⟩
  ·
   rw [if_neg c7] at H
   exact absurd H (by simp)
 ·
  rw [if_neg c5] at H
  have c5b0 : decide (t274 < 0) = false := decide_eq_false c5
  clear c5
  replace H := Option.bind_eq_some_iff.mp H
  obtain ⟨t277, A150, H⟩ := H
  replace H : ((jacquardref12_Signed.f k a0 (Go.bits .andNot .u64 t273 a1_0)).bind fun t278 => (some (t277, t278))) = some (r1, r2) := H
  have A15 := Aside0.mk A150
  clear A150
  replace H := Option.bind_eq_some_iff.mp H
  obtain ⟨t278, A160, H⟩ := H
  replace H : (some (t277, t278)) = some (r1, r2) := H
  have A16 := Aside0.mk A160
  clear A160
  simp only [Option.some.injEq, Prod.mk.injEq] at H
  obtain ⟨rfl, rfl⟩ := H
  go_enter Try.func81, Try.ntmps81
  go_wp2_with (first | ((with_reducible refine gate_dst (N := 3) rfl ?_); refine boxE (N := 3) (cs := #[.int .u64 a1_0, .int .u64 a1_1]) (t := 110) ?_; intro gb272 hg w17 hbox hb; have BK272 := Aside0.mk (hbox); have GW272 := szB hg HB.out; have GE272 := szB hg HB.out; replace HB := bsB HB.out hb; clear hb hbox hg; obtain ⟨hcz18_0, hcz18_1, hfz18_0, hfz18_1⟩ := own2 BK272.out) | (go_at_call 16; (with_reducible refine (jacquardref12_Mask.calls k a0 t273 _ A3.out).mono ?_); rintro e w' ⟨rfl, ⟨nd, rfl⟩⟩; (try first | exact ⟨rfl, _, World.drewN_drewN _ _ _⟩ | exact ⟨rfl, _, Eq.trans (World.drewN_drewN _ _ _) (congrArg (World.drewN _) (Nat.add_assoc _ _ _))⟩)) | (go_at_call 145; (with_reducible refine (jacquardref12_Known.calls a1_0 a1_1 (wrap64 (a0 - 1)) t274 _ A4.out).mono ?_); rintro e w19 ⟨rfl, hb⟩; replace BK272 := bkB BK272.out hb; replace HB := bsB HB.out hb; (try clear hb); (try clear hb2); (try clear hk); (try clear hi)) | (go_at_call 73; (with_reducible refine (jacquardref12_Signed.calls k a0 a1_1 t277 _ A15.out).mono ?_); rintro e w' ⟨rfl, ⟨nd, rfl⟩⟩; (try first | exact ⟨rfl, _, World.drewN_drewN _ _ _⟩ | exact ⟨rfl, _, Eq.trans (World.drewN_drewN _ _ _) (congrArg (World.drewN _) (Nat.add_assoc _ _ _))⟩)) | (go_at_call 73; (with_reducible refine (jacquardref12_Signed.calls k a0 (Go.bits .andNot .u64 t273 a1_0) t278 _ A16.out).mono ?_); rintro e w' ⟨rfl, ⟨nd, rfl⟩⟩; (try first | exact ⟨rfl, _, World.drewN_drewN _ _ _⟩ | exact ⟨rfl, _, Eq.trans (World.drewN_drewN _ _ _) (congrArg (World.drewN _) (Nat.add_assoc _ _ _))⟩)))
  repeat (go_quiet (first | ((with_reducible refine gate_dst (N := 3) rfl ?_); refine boxE (N := 3) (cs := #[.int .u64 a1_0, .int .u64 a1_1]) (t := 110) ?_; intro gb272 hg w17 hbox hb; have BK272 := Aside0.mk (hbox); have GW272 := szB hg HB.out; have GE272 := szB hg HB.out; replace HB := bsB HB.out hb; clear hb hbox hg; obtain ⟨hcz18_0, hcz18_1, hfz18_0, hfz18_1⟩ := own2 BK272.out) | (go_at_call 16; (with_reducible refine (jacquardref12_Mask.calls k a0 t273 _ A3.out).mono ?_); rintro e w' ⟨rfl, ⟨nd, rfl⟩⟩; (try first | exact ⟨rfl, _, World.drewN_drewN _ _ _⟩ | exact ⟨rfl, _, Eq.trans (World.drewN_drewN _ _ _) (congrArg (World.drewN _) (Nat.add_assoc _ _ _))⟩)) | (go_at_call 145; (with_reducible refine (jacquardref12_Known.calls a1_0 a1_1 (wrap64 (a0 - 1)) t274 _ A4.out).mono ?_); rintro e w19 ⟨rfl, hb⟩; replace BK272 := bkB BK272.out hb; replace HB := bsB HB.out hb; (try clear hb); (try clear hb2); (try clear hk); (try clear hi)) | (go_at_call 73; (with_reducible refine (jacquardref12_Signed.calls k a0 a1_1 t277 _ A15.out).mono ?_); rintro e w' ⟨rfl, ⟨nd, rfl⟩⟩; (try first | exact ⟨rfl, _, World.drewN_drewN _ _ _⟩ | exact ⟨rfl, _, Eq.trans (World.drewN_drewN _ _ _) (congrArg (World.drewN _) (Nat.add_assoc _ _ _))⟩)) | (go_at_call 73; (with_reducible refine (jacquardref12_Signed.calls k a0 (Go.bits .andNot .u64 t273 a1_0) t278 _ A16.out).mono ?_); rintro e w' ⟨rfl, ⟨nd, rfl⟩⟩; (try first | exact ⟨rfl, _, World.drewN_drewN _ _ _⟩ | exact ⟨rfl, _, Eq.trans (World.drewN_drewN _ _ _) (congrArg (World.drewN _) (Nat.add_assoc _ _ _))⟩))); try go_wp2_with (first | ((with_reducible refine gate_dst (N := 3) rfl ?_); refine boxE (N := 3) (cs := #[.int .u64 a1_0, .int .u64 a1_1]) (t := 110) ?_; intro gb272 hg w17 hbox hb; have BK272 := Aside0.mk (hbox); have GW272 := szB hg HB.out; have GE272 := szB hg HB.out; replace HB := bsB HB.out hb; clear hb hbox hg; obtain ⟨hcz18_0, hcz18_1, hfz18_0, hfz18_1⟩ := own2 BK272.out) | (go_at_call 16; (with_reducible refine (jacquardref12_Mask.calls k a0 t273 _ A3.out).mono ?_); rintro e w' ⟨rfl, ⟨nd, rfl⟩⟩; (try first | exact ⟨rfl, _, World.drewN_drewN _ _ _⟩ | exact ⟨rfl, _, Eq.trans (World.drewN_drewN _ _ _) (congrArg (World.drewN _) (Nat.add_assoc _ _ _))⟩)) | (go_at_call 145; (with_reducible refine (jacquardref12_Known.calls a1_0 a1_1 (wrap64 (a0 - 1)) t274 _ A4.out).mono ?_); rintro e w19 ⟨rfl, hb⟩; replace BK272 := bkB BK272.out hb; replace HB := bsB HB.out hb; (try clear hb); (try clear hb2); (try clear hk); (try clear hi)) | (go_at_call 73; (with_reducible refine (jacquardref12_Signed.calls k a0 a1_1 t277 _ A15.out).mono ?_); rintro e w' ⟨rfl, ⟨nd, rfl⟩⟩; (try first | exact ⟨rfl, _, World.drewN_drewN _ _ _⟩ | exact ⟨rfl, _, Eq.trans (World.drewN_drewN _ _ _) (congrArg (World.drewN _) (Nat.add_assoc _ _ _))⟩)) | (go_at_call 73; (with_reducible refine (jacquardref12_Signed.calls k a0 (Go.bits .andNot .u64 t273 a1_0) t278 _ A16.out).mono ?_); rintro e w' ⟨rfl, ⟨nd, rfl⟩⟩; (try first | exact ⟨rfl, _, World.drewN_drewN _ _ _⟩ | exact ⟨rfl, _, Eq.trans (World.drewN_drewN _ _ _) (congrArg (World.drewN _) (Nat.add_assoc _ _ _))⟩))))
  go_ret2
  exact ⟨by first | rfl | (simp [errW_none, errW_some] <;> rfl) | (simp [*, errW_none, errW_some] <;> rfl), bsL HB.out⟩

/-! ### jacquardref14_fact: function 82 -/
def jacquardref14_fact.f (a0_0 : Int) (a0_1 : Int) (a1_0 : Int) (a1_1 : Int) (a1_2 : Int) (a1_3 : Int) : Option (Int × Int × Int × Int × Int × Int) := some (a0_0, a0_1, a1_0, a1_1, a1_2, a1_3)
set_option maxHeartbeats 8000000 in
set_option maxRecDepth 100000 in
theorem jacquardref14_fact.calls (a0_0 : Int) (a0_1 : Int) (a1_0 : Int) (a1_1 : Int) (a1_2 : Int) (a1_3 : Int) (r1 : Int) (r2 : Int) (r3 : Int) (r4 : Int) (r5 : Int) (r6 : Int) (w : World) (h : jacquardref14_fact.f a0_0 a0_1 a1_0 a1_1 a1_2 a1_3 = some (r1, r2, r3, r4, r5, r6)) :
  Calls Try.prog 82 #[.agg #[.int .u64 a0_0, .int .u64 a0_1], .agg #[.int .u64 a1_0, .int .u64 a1_1, .int .i64 a1_2, .int .i64 a1_3]] w fun e w' => e = .returned (.agg #[.int .u64 r1, .int .u64 r2, .int .u64 r3, .int .u64 r4, .int .i64 r5, .int .i64 r6]) ∧ Below w.heap.size w w' := by
 have hu110 := Try.underlying110
 have hu30 := Try.underlying30
 have hu50 := Try.underlying50
 have HB := Aside0.mk (Below.refl w.heap.size w)
 have H : (some (a0_0, a0_1, a1_0, a1_1, a1_2, a1_3)) = some (r1, r2, r3, r4, r5, r6) := h
 clear h
 simp only [Option.some.injEq, Prod.mk.injEq] at H
 obtain ⟨rfl, rfl, rfl, rfl, rfl, rfl⟩ := H
 go_enter Try.func82, Try.ntmps82
 go_wp2_with (first | ((with_reducible refine gate_dst (N := 2) rfl ?_); refine boxE (N := 2) (cs := #[.int .u64 a0_0, .int .u64 a0_1]) (t := 110) ?_; intro gb279 hg w3 hbox hb; have BK279 := Aside0.mk (hbox); have GW279 := szB hg HB.out; have GE279 := szB hg HB.out; replace HB := bsB HB.out hb; clear hb hbox hg) | ((with_reducible refine gate_dst (N := 3) rfl ?_); refine boxE (N := 3) (cs := #[.int .u64 a1_0, .int .u64 a1_1, .int .i64 a1_2, .int .i64 a1_3]) (t := 30) ?_; intro gb280 hg w4 hbox hb; have BK280 := Aside0.mk (hbox); have GW280 := szB hg HB.out; have GE280 := szB hg HB.out; have NB279_280 := neL hg BK279.out; have NB280_279 := neG hg BK279.out; replace BK279 := bkB BK279.out hb; replace HB := bsB HB.out hb; clear hb hbox hg) | ((with_reducible refine gate_dst (N := 4) rfl ?_); refine boxE (N := 4) (cs := #[.int .u64 0, .int .u64 0, .int .u64 0, .int .u64 0, .int .i64 0, .int .i64 0]) (t := 50) ?_; intro gb281 hg w5 hbox hb; have BK281 := Aside0.mk (hbox); have GW281 := szB hg HB.out; have GE281 := szB hg HB.out; have NB279_281 := neL hg BK279.out; have NB281_279 := neG hg BK279.out; have NB280_281 := neL hg BK280.out; have NB281_280 := neG hg BK280.out; replace BK279 := bkB BK279.out hb; replace BK280 := bkB BK280.out hb; replace HB := bsB HB.out hb; clear hb hbox hg; have hnb6 := NB279_280.out; have hnc6 := NB280_279.out; have hnb7 := NB279_281.out; have hnc7 := NB281_279.out; obtain ⟨hcz8_0, hcz8_1, hfz8_0, hfz8_1⟩ := own2 BK279.out; have hnb9 := NB280_281.out; have hnc9 := NB281_280.out; obtain ⟨hcz10_0, hcz10_1, hcz10_2, hcz10_3, hfz10_0, hfz10_1, hfz10_2, hfz10_3⟩ := own4 BK280.out; obtain ⟨hcz11_0, hcz11_1, hcz11_2, hcz11_3, hcz11_4, hcz11_5, hfz11_0, hfz11_1, hfz11_2, hfz11_3, hfz11_4, hfz11_5⟩ := own6 BK281.out))
 refine bodyPost_ret (results_cell_row rfl _ _ gb281 50 #[.int .u64 a0_0, .int .u64 a0_1, .int .u64 a1_0, .int .u64 a1_1, .int .i64 a1_2, .int .i64 a1_3] (0, 0) _ rfl (by (with_reducible repeat (first | refine blk_drewN ?_ _ | refine blk_drew ?_ | refine blk_alloc ?_ _)); refine blk_put (cs := #[.int .u64 a0_0, .int .u64 a0_1, .int .u64 a1_0, .int .u64 a1_1, .int .i64 a1_2, .int .i64 0]) ?_ 5 _ rfl; (with_reducible repeat (first | refine blk_drewN ?_ _ | refine blk_drew ?_ | refine blk_alloc ?_ _)); refine blk_put (cs := #[.int .u64 a0_0, .int .u64 a0_1, .int .u64 a1_0, .int .u64 a1_1, .int .i64 0, .int .i64 0]) ?_ 4 _ rfl; (with_reducible repeat (first | refine blk_drewN ?_ _ | refine blk_drew ?_ | refine blk_alloc ?_ _)); refine blk_put (cs := #[.int .u64 a0_0, .int .u64 a0_1, .int .u64 a1_0, .int .u64 0, .int .i64 0, .int .i64 0]) ?_ 3 _ rfl; (with_reducible repeat (first | refine blk_drewN ?_ _ | refine blk_drew ?_ | refine blk_alloc ?_ _)); refine blk_put (cs := #[.int .u64 a0_0, .int .u64 a0_1, .int .u64 0, .int .u64 0, .int .i64 0, .int .i64 0]) ?_ 2 _ rfl; (with_reducible repeat (first | refine blk_drewN ?_ _ | refine blk_drew ?_ | refine blk_alloc ?_ _)); refine blk_put (cs := #[.int .u64 a0_0, .int .u64 0, .int .u64 0, .int .u64 0, .int .i64 0, .int .i64 0]) ?_ 1 _ rfl; (with_reducible repeat (first | refine blk_drewN ?_ _ | refine blk_drew ?_ | refine blk_alloc ?_ _)); refine blk_put (cs := #[.int .u64 0, .int .u64 0, .int .u64 0, .int .u64 0, .int .i64 0, .int .i64 0]) ?_ 0 _ rfl; exact bfL BK281.out) Try.underlying50 rfl (by kernel_rfl)) rfl ?_
 exact ⟨by first | rfl | (simp [errW_none, errW_some] <;> rfl) | (simp [*, errW_none, errW_some] <;> rfl), bsL HB.out⟩

end Go.Proofs.Ytbiohdgeclokmaa.P
