-- made by a program of this work (wip/mkprint.py, wip/mp.sh) out of the translation
import Derived.Test.YtbiohdgeclokmaaPx0
import Derived.Test.YtbiohdgeclokmaaPx9
import Derived.Test.YtbiohdgeclokmaaPx11
namespace Go.Proofs.Ytbiohdgeclokmaa.P
open Go.RowKit Go.Proofs.YtbiohdgeclokmaaW.PrintWords Go.Proofs.YtbiohdgeclokmaaW.PrintLast Go.Proofs.YtbiohdgeclokmaaW.PrintMore
attribute [local go_sem] max2_int min2_int max_two min_two max_three min_three max_four min_four   -- for this text's walks alone
set_option linter.unusedVariables false
set_option linter.unusedSimpArgs false

/-! ### jacquardref12_Limits: function 79 -/
def jacquardref12_Limits.f (k : Nat) (a0 : Int) (a1_0 : Int) (a1_1 : Int) : Option (Int × Int) := (jacquardref12_Mask.f k a0).bind fun t268 => (some (a1_1, Go.bits .andNot .u64 t268 a1_0))
theorem jacquardref12_Limits.mono : ∀ a0 a1 a2 k, LeO (jacquardref12_Limits.f k a0 a1 a2) (jacquardref12_Limits.f (k + 1) a0 a1 a2) := by
 intro a0 a1 a2 k
 unfold jacquardref12_Limits.f
 repeat' first
   | (with_reducible exact jacquardref12_Mask.mono _ _)
   | (with_reducible exact LeO.refl _)
   | (with_reducible exact LeO.none _)
   | (with_reducible refine LeO.ite ?_ ?_)
   | (with_reducible refine LeO.bind ?_ (fun _ => ?_))
   | exact jacquardref12_Mask.mono _ _
   | exact LeO.none _
   | refine LeO.ite ?_ ?_
   | refine LeO.bind ?_ (fun _ => ?_)
set_option maxHeartbeats 8000000 in
set_option maxRecDepth 100000 in
theorem jacquardref12_Limits.calls (k : Nat) (a0 : Int) (a1_0 : Int) (a1_1 : Int) (r1 : Int) (r2 : Int) (w : World) (h : jacquardref12_Limits.f k a0 a1_0 a1_1 = some (r1, r2)) :
  Calls Try.prog 79 #[.int .i64 a0, .agg #[.int .u64 a1_0, .int .u64 a1_1]] w fun e w' => e = .returned (.tuple #[.int .u64 r1, .int .u64 r2]) ∧ Below w.heap.size w w' := by
 have hu110 := Try.underlying110
 have HB := Aside0.mk (Below.refl w.heap.size w)
 have H : ((jacquardref12_Mask.f k a0).bind fun t268 => (some (a1_1, Go.bits .andNot .u64 t268 a1_0))) = some (r1, r2) := h
 clear h
 replace H := Option.bind_eq_some_iff.mp H
 obtain ⟨t268, A30, H⟩ := H
 replace H : (some (a1_1, Go.bits .andNot .u64 t268 a1_0)) = some (r1, r2) := H
 have A3 := Aside0.mk A30
 clear A30
 simp only [Option.some.injEq, Prod.mk.injEq] at H
 obtain ⟨rfl, rfl⟩ := H
 go_enter Try.func79, Try.ntmps79
 go_wp2_with (first | ((with_reducible refine gate_dst (N := 3) rfl ?_); refine box_event ?hg (N := 3) ?hd (cs := #[.int .u64 a1_0, .int .u64 a1_1]) (t := 110) ?hr ?_; (case hd => rfl); (case hg => rfl); (case hr => first | (go_simp; done) | (go_simp; rfl)); intro gb267 hg w4 hbox hb; have n0_ := bsB HB.out hb; have n1_ := Aside0.mk (hbox); have n2_ := szB hg HB.out; have n3_ := szB hg HB.out; clear HB; have HB := n0_; have BK267 := n1_; have GW267 := n2_; have GE267 := n3_; clear n0_ n1_ n2_ n3_; clear hb hbox hg; have hcz5_0 : w4.cell? ⟨gb267, 0, none⟩ = some (.int .u64 a1_0) := (blk_cell BK267.out 0).trans rfl; have hcz5_1 : w4.cell? ⟨gb267, 1, none⟩ = some (.int .u64 a1_1) := (blk_cell BK267.out 1).trans rfl; have hfz5_0 := blk_frozen BK267.out 0; have hfz5_1 := blk_frozen BK267.out 1) | (go_at_call 16; (with_reducible refine (jacquardref12_Mask.calls k a0 t268 _ A3.out).mono ?_); rintro e w' ⟨rfl, ⟨nd, rfl⟩⟩; (try first | exact ⟨rfl, _, World.drewN_drewN _ _ _⟩ | exact ⟨rfl, _, Eq.trans (World.drewN_drewN _ _ _) (congrArg (World.drewN _) (Nat.add_assoc _ _ _))⟩)))
 repeat (go_quiet (first | ((with_reducible refine gate_dst (N := 3) rfl ?_); refine box_event ?hg (N := 3) ?hd (cs := #[.int .u64 a1_0, .int .u64 a1_1]) (t := 110) ?hr ?_; (case hd => rfl); (case hg => rfl); (case hr => first | (go_simp; done) | (go_simp; rfl)); intro gb267 hg w4 hbox hb; have n0_ := bsB HB.out hb; have n1_ := Aside0.mk (hbox); have n2_ := szB hg HB.out; have n3_ := szB hg HB.out; clear HB; have HB := n0_; have BK267 := n1_; have GW267 := n2_; have GE267 := n3_; clear n0_ n1_ n2_ n3_; clear hb hbox hg; have hcz5_0 : w4.cell? ⟨gb267, 0, none⟩ = some (.int .u64 a1_0) := (blk_cell BK267.out 0).trans rfl; have hcz5_1 : w4.cell? ⟨gb267, 1, none⟩ = some (.int .u64 a1_1) := (blk_cell BK267.out 1).trans rfl; have hfz5_0 := blk_frozen BK267.out 0; have hfz5_1 := blk_frozen BK267.out 1) | (go_at_call 16; (with_reducible refine (jacquardref12_Mask.calls k a0 t268 _ A3.out).mono ?_); rintro e w' ⟨rfl, ⟨nd, rfl⟩⟩; (try first | exact ⟨rfl, _, World.drewN_drewN _ _ _⟩ | exact ⟨rfl, _, Eq.trans (World.drewN_drewN _ _ _) (congrArg (World.drewN _) (Nat.add_assoc _ _ _))⟩))); try go_wp2_with (first | ((with_reducible refine gate_dst (N := 3) rfl ?_); refine box_event ?hg (N := 3) ?hd (cs := #[.int .u64 a1_0, .int .u64 a1_1]) (t := 110) ?hr ?_; (case hd => rfl); (case hg => rfl); (case hr => first | (go_simp; done) | (go_simp; rfl)); intro gb267 hg w4 hbox hb; have n0_ := bsB HB.out hb; have n1_ := Aside0.mk (hbox); have n2_ := szB hg HB.out; have n3_ := szB hg HB.out; clear HB; have HB := n0_; have BK267 := n1_; have GW267 := n2_; have GE267 := n3_; clear n0_ n1_ n2_ n3_; clear hb hbox hg; have hcz5_0 : w4.cell? ⟨gb267, 0, none⟩ = some (.int .u64 a1_0) := (blk_cell BK267.out 0).trans rfl; have hcz5_1 : w4.cell? ⟨gb267, 1, none⟩ = some (.int .u64 a1_1) := (blk_cell BK267.out 1).trans rfl; have hfz5_0 := blk_frozen BK267.out 0; have hfz5_1 := blk_frozen BK267.out 1) | (go_at_call 16; (with_reducible refine (jacquardref12_Mask.calls k a0 t268 _ A3.out).mono ?_); rintro e w' ⟨rfl, ⟨nd, rfl⟩⟩; (try first | exact ⟨rfl, _, World.drewN_drewN _ _ _⟩ | exact ⟨rfl, _, Eq.trans (World.drewN_drewN _ _ _) (congrArg (World.drewN _) (Nat.add_assoc _ _ _))⟩))))
 go_ret2
 exact ⟨by first | rfl | (simp [errW_none, errW_some] <;> rfl) | (simp [*, errW_none, errW_some] <;> rfl), bsL HB.out⟩

/-! ### jacquardref12_Known: function 145 -/
def jacquardref12_Known.f (a0_0 : Int) (a0_1 : Int) (a1 : Int) : Option (Int) := (jacquardref12_Bit.f a0_1 a1).bind fun t270 => (if t270 = 1 then (some 1) else ((jacquardref12_Bit.f a0_0 a1).bind fun t271 => (if t271 = 1 then (some 0) else (some (-1)))))
set_option maxHeartbeats 8000000 in
set_option maxRecDepth 100000 in
theorem jacquardref12_Known.calls (a0_0 : Int) (a0_1 : Int) (a1 : Int) (r : Int) (w : World) (h : jacquardref12_Known.f a0_0 a0_1 a1 = some r) :
  Calls Try.prog 145 #[.agg #[.int .u64 a0_0, .int .u64 a0_1], .int .i64 a1] w fun e w' => e = .returned (.int .i64 r) ∧ Below w.heap.size w w' := by
 have hu110 := Try.underlying110
 have HB := Aside0.mk (Below.refl w.heap.size w)
 have H : ((jacquardref12_Bit.f a0_1 a1).bind fun t270 => (if t270 = 1 then (some 1) else ((jacquardref12_Bit.f a0_0 a1).bind fun t271 => (if t271 = 1 then (some 0) else (some (-1)))))) = some r := h
 clear h
 replace H := Option.bind_eq_some_iff.mp H
 obtain ⟨t270, A30, H⟩ := H
 replace H : (if t270 = 1 then (some 1) else ((jacquardref12_Bit.f a0_0 a1).bind fun t271 => (if t271 = 1 then (some 0) else (some (-1))))) = some r := H
 have A3 := Aside0.mk A30
 clear A30
 by_cases c4 : t270 = 1
 ·
  rw [if_pos c4] at H
  have c4b0 : (t270 == 1) = true := beq_iff_eq.mpr c4
  have c4b1 : (t270 != 1) = false := bne_eq_false_iff_eq.mpr c4
  clear c4
  obtain rfl := Option.some.inj H
  go_enter Try.func145, Try.ntmps145
  go_wp2_with (first | ((with_reducible refine gate_dst (N := 2) rfl ?_); refine box_event ?hg (N := 2) ?hd (cs := #[.int .u64 a0_0, .int .u64 a0_1]) (t := 110) ?hr ?_; (case hd => rfl); (case hg => rfl); (case hr => first | (go_simp; done) | (go_simp; rfl)); intro gb269 hg w5 hbox hb; have n0_ := bsB HB.out hb; have n1_ := Aside0.mk (hbox); have n2_ := szB hg HB.out; have n3_ := szB hg HB.out; clear HB; have HB := n0_; have BK269 := n1_; have GW269 := n2_; have GE269 := n3_; clear n0_ n1_ n2_ n3_; clear hb hbox hg; have hcz6_0 : w5.cell? ⟨gb269, 0, none⟩ = some (.int .u64 a0_0) := (blk_cell BK269.out 0).trans rfl; have hcz6_1 : w5.cell? ⟨gb269, 1, none⟩ = some (.int .u64 a0_1) := (blk_cell BK269.out 1).trans rfl; have hfz6_0 := blk_frozen BK269.out 0; have hfz6_1 := blk_frozen BK269.out 1) | ((with_reducible refine gate_callee (f := 71) rfl ?_); refine gL (some 8) Try.func71 #[.int .u64 a0_1, .int .i64 a1] ?_; (with_reducible refine (jacquardref12_Bit.calls a0_1 a1 t270 _ A3.out).mono ?_); rintro e w' ⟨rfl, ⟨nd, rfl⟩⟩; refine ⟨_, rfl, ?_⟩))
  go_ret
  exact ⟨by first | rfl | (simp [errW_none, errW_some] <;> rfl) | (simp [*, errW_none, errW_some] <;> rfl), bsL HB.out⟩
 ·
  rw [if_neg c4] at H
  have c4b0 : (t270 == 1) = false := beq_eq_false_iff_ne.mpr c4
  have c4b1 : (t270 != 1) = true := bne_iff_ne.mpr c4
  replace H := Option.bind_eq_some_iff.mp H
  obtain ⟨t271, A70, H⟩ := H
  replace H : (if t271 = 1 then (some 0) else (some (-1))) = some r := H
  have A7 := Aside0.mk A70
  clear A70
  by_cases c8 : t271 = 1
  ·
   rw [if_pos c8] at H
   have c8b0 : (t271 == 1) = true := beq_iff_eq.mpr c8
   have c8b1 : (t271 != 1) = false := bne_eq_false_iff_eq.mpr c8
   clear c8
   obtain rfl := Option.some.inj H
   go_enter Try.func145, Try.ntmps145
   go_wp2_with (first | ((with_reducible refine gate_dst (N := 2) rfl ?_); refine box_event ?hg (N := 2) ?hd (cs := #[.int .u64 a0_0, .int .u64 a0_1]) (t := 110) ?hr ?_; (case hd => rfl); (case hg => rfl); (case hr => first | (go_simp; done) | (go_simp; rfl)); intro gb269 hg w9 hbox hb; have n0_ := bsB HB.out hb; have n1_ := Aside0.mk (hbox); have n2_ := szB hg HB.out; have n3_ := szB hg HB.out; clear HB; have HB := n0_; have BK269 := n1_; have GW269 := n2_; have GE269 := n3_; clear n0_ n1_ n2_ n3_; clear hb hbox hg; have hcz10_0 : w9.cell? ⟨gb269, 0, none⟩ = some (.int .u64 a0_0) := (blk_cell BK269.out 0).trans rfl; have hcz10_1 : w9.cell? ⟨gb269, 1, none⟩ = some (.int .u64 a0_1) := (blk_cell BK269.out 1).trans rfl; have hfz10_0 := blk_frozen BK269.out 0; have hfz10_1 := blk_frozen BK269.out 1) | ((with_reducible refine gate_callee (f := 71) rfl ?_); refine gL (some 8) Try.func71 #[.int .u64 a0_1, .int .i64 a1] ?_; (with_reducible refine (jacquardref12_Bit.calls a0_1 a1 t270 _ A3.out).mono ?_); rintro e w' ⟨rfl, ⟨nd, rfl⟩⟩; refine ⟨_, rfl, ?_⟩) | ((with_reducible refine gate_callee (f := 71) rfl ?_); refine gL (some 13) Try.func71 #[.int .u64 a0_0, .int .i64 a1] ?_; (with_reducible refine (jacquardref12_Bit.calls a0_0 a1 t271 _ A7.out).mono ?_); rintro e w' ⟨rfl, ⟨nd, rfl⟩⟩; refine ⟨_, rfl, ?_⟩))
   go_ret
   exact ⟨by first | rfl | (simp [errW_none, errW_some] <;> rfl) | (simp [*, errW_none, errW_some] <;> rfl), bsL HB.out⟩
  ·
   rw [if_neg c8] at H
   have c8b0 : (t271 == 1) = false := beq_eq_false_iff_ne.mpr c8
   have c8b1 : (t271 != 1) = true := bne_iff_ne.mpr c8
   obtain rfl := Option.some.inj H
   go_enter Try.func145, Try.ntmps145
   go_wp2_with (first | ((with_reducible refine gate_dst (N := 2) rfl ?_); refine box_event ?hg (N := 2) ?hd (cs := #[.int .u64 a0_0, .int .u64 a0_1]) (t := 110) ?hr ?_; (case hd => rfl); (case hg => rfl); (case hr => first | (go_simp; done) | (go_simp; rfl)); intro gb269 hg w11 hbox hb; have n0_ := bsB HB.out hb; have n1_ := Aside0.mk (hbox); have n2_ := szB hg HB.out; have n3_ := szB hg HB.out; clear HB; have HB := n0_; have BK269 := n1_; have GW269 := n2_; have GE269 := n3_; clear n0_ n1_ n2_ n3_; clear hb hbox hg; have hcz12_0 : w11.cell? ⟨gb269, 0, none⟩ = some (.int .u64 a0_0) := (blk_cell BK269.out 0).trans rfl; have hcz12_1 : w11.cell? ⟨gb269, 1, none⟩ = some (.int .u64 a0_1) := (blk_cell BK269.out 1).trans rfl; have hfz12_0 := blk_frozen BK269.out 0; have hfz12_1 := blk_frozen BK269.out 1) | ((with_reducible refine gate_callee (f := 71) rfl ?_); refine gL (some 8) Try.func71 #[.int .u64 a0_1, .int .i64 a1] ?_; (with_reducible refine (jacquardref12_Bit.calls a0_1 a1 t270 _ A3.out).mono ?_); rintro e w' ⟨rfl, ⟨nd, rfl⟩⟩; refine ⟨_, rfl, ?_⟩) | ((with_reducible refine gate_callee (f := 71) rfl ?_); refine gL (some 13) Try.func71 #[.int .u64 a0_0, .int .i64 a1] ?_; (with_reducible refine (jacquardref12_Bit.calls a0_0 a1 t271 _ A7.out).mono ?_); rintro e w' ⟨rfl, ⟨nd, rfl⟩⟩; refine ⟨_, rfl, ?_⟩))
   go_ret
   exact ⟨by first | rfl | (simp [errW_none, errW_some] <;> rfl) | (simp [*, errW_none, errW_some] <;> rfl), bsL HB.out⟩

/-! ### jacquardref12_SignedLimits: function 81 -/
def jacquardref12_SignedLimits.f (k : Nat) (a0 : Int) (a1_0 : Int) (a1_1 : Int) : Option (Int × Int) := (jacquardref12_Mask.f k a0).bind fun t273 => ((jacquardref12_Known.f a1_0 a1_1 (wrap64 (a0 - 1))).bind fun t274 => (if t274 < 0 then (if 0 ≤ (wrap64 (a0 - 1)) then ((jacquardref12_Signed.f k a0 (Go.bits .or .u64 a1_1 (shl .u64 1 (wrap64 (a0 - 1))))).bind fun t275 => ((jacquardref12_Signed.f k a0 (Go.bits .andNot .u64 (Go.bits .andNot .u64 t273 a1_0) (shl .u64 1 (wrap64 (a0 - 1))))).bind fun t276 => (some (t275, t276)))) else (none)) else ((jacquardref12_Signed.f k a0 a1_1).bind fun t277 => ((jacquardref12_Signed.f k a0 (Go.bits .andNot .u64 t273 a1_0)).bind fun t278 => (some (t277, t278))))))
theorem jacquardref12_SignedLimits.mono : ∀ a0 a1 a2 k, LeO (jacquardref12_SignedLimits.f k a0 a1 a2) (jacquardref12_SignedLimits.f (k + 1) a0 a1 a2) := by
 intro a0 a1 a2 k
 unfold jacquardref12_SignedLimits.f
 repeat' first
   | (with_reducible exact jacquardref12_Mask.mono _ _)
   | (with_reducible exact jacquardref12_Signed.mono _ _ _)
   | (with_reducible exact LeO.refl _)
   | (with_reducible exact LeO.none _)
   | (with_reducible refine LeO.ite ?_ ?_)
   | (with_reducible refine LeO.bind ?_ (fun _ => ?_))
   | exact jacquardref12_Mask.mono _ _
   | exact jacquardref12_Signed.mono _ _ _
   | exact LeO.none _
   | refine LeO.ite ?_ ?_
   | refine LeO.bind ?_ (fun _ => ?_)
set_option maxHeartbeats 8000000 in
set_option maxRecDepth 100000 in
theorem jacquardref12_SignedLimits.calls (k : Nat) (a0 : Int) (a1_0 : Int) (a1_1 : Int) (r1 : Int) (r2 : Int) (w : World) (h : jacquardref12_SignedLimits.f k a0 a1_0 a1_1 = some (r1, r2)) :
  Calls Try.prog 81 #[.int .i64 a0, .agg #[.int .u64 a1_0, .int .u64 a1_1]] w fun e w' => e = .returned (.tuple #[.int .i64 r1, .int .i64 r2]) ∧ Below w.heap.size w w' := by
 have hu110 := Try.underlying110
 have HB := Aside0.mk (Below.refl w.heap.size w)
 have H : ((jacquardref12_Mask.f k a0).bind fun t273 => ((jacquardref12_Known.f a1_0 a1_1 (wrap64 (a0 - 1))).bind fun t274 => (if t274 < 0 then (if 0 ≤ (wrap64 (a0 - 1)) then ((jacquardref12_Signed.f k a0 (Go.bits .or .u64 a1_1 (shl .u64 1 (wrap64 (a0 - 1))))).bind fun t275 => ((jacquardref12_Signed.f k a0 (Go.bits .andNot .u64 (Go.bits .andNot .u64 t273 a1_0) (shl .u64 1 (wrap64 (a0 - 1))))).bind fun t276 => (some (t275, t276)))) else (none)) else ((jacquardref12_Signed.f k a0 a1_1).bind fun t277 => ((jacquardref12_Signed.f k a0 (Go.bits .andNot .u64 t273 a1_0)).bind fun t278 => (some (t277, t278))))))) = some (r1, r2) := h
 clear h
 replace H := Option.bind_eq_some_iff.mp H
 obtain ⟨t273, A30, H⟩ := H
 replace H : ((jacquardref12_Known.f a1_0 a1_1 (wrap64 (a0 - 1))).bind fun t274 => (if t274 < 0 then (if 0 ≤ (wrap64 (a0 - 1)) then ((jacquardref12_Signed.f k a0 (Go.bits .or .u64 a1_1 (shl .u64 1 (wrap64 (a0 - 1))))).bind fun t275 => ((jacquardref12_Signed.f k a0 (Go.bits .andNot .u64 (Go.bits .andNot .u64 t273 a1_0) (shl .u64 1 (wrap64 (a0 - 1))))).bind fun t276 => (some (t275, t276)))) else (none)) else ((jacquardref12_Signed.f k a0 a1_1).bind fun t277 => ((jacquardref12_Signed.f k a0 (Go.bits .andNot .u64 t273 a1_0)).bind fun t278 => (some (t277, t278)))))) = some (r1, r2) := H
 have A3 := Aside0.mk A30
 clear A30
 replace H := Option.bind_eq_some_iff.mp H
 obtain ⟨t274, A40, H⟩ := H
 replace H : (if t274 < 0 then (if 0 ≤ (wrap64 (a0 - 1)) then ((jacquardref12_Signed.f k a0 (Go.bits .or .u64 a1_1 (shl .u64 1 (wrap64 (a0 - 1))))).bind fun t275 => ((jacquardref12_Signed.f k a0 (Go.bits .andNot .u64 (Go.bits .andNot .u64 t273 a1_0) (shl .u64 1 (wrap64 (a0 - 1))))).bind fun t276 => (some (t275, t276)))) else (none)) else ((jacquardref12_Signed.f k a0 a1_1).bind fun t277 => ((jacquardref12_Signed.f k a0 (Go.bits .andNot .u64 t273 a1_0)).bind fun t278 => (some (t277, t278))))) = some (r1, r2) := H
 have A4 := Aside0.mk A40
 clear A40
 by_cases c5 : t274 < 0
 ·
  rw [if_pos c5] at H
  have c5b0 : decide (t274 < 0) = true := decide_eq_true c5
  clear c5
  obtain ⟨ji6, hji6⟩ : ∃ j_ : Int, (wrap64 (a0 - 1)) = j_ := ⟨_, rfl⟩
  replace H : (if 0 ≤ (ji6) then ((jacquardref12_Signed.f k a0 (Go.bits .or .u64 a1_1 (shl .u64 1 (ji6)))).bind fun t275 => ((jacquardref12_Signed.f k a0 (Go.bits .andNot .u64 (Go.bits .andNot .u64 t273 a1_0) (shl .u64 1 (ji6)))).bind fun t276 => (some (t275, t276)))) else (none)) = some (r1, r2) := by first | (rw [hji6] at H; exact H) | (simp only [hji6] at H ⊢; exact H)
  (try rw [hji6] at A3)
  (try rw [hji6] at A4)
  have hji6w : (IntKind.i64.wrap (a0 - 1)) = ji6 := (i64_w _).trans hji6
  by_cases c7 : 0 ≤ (ji6)
  ·
   rw [if_pos c7] at H
   have c7b0 := eq_true c7
   have c7b1 : decide (0 ≤ (ji6)) = true := decide_eq_true c7
   clear c7
   obtain ⟨ji8, hji8⟩ : ∃ j_ : Int, (shl .u64 1 (ji6)) = j_ := ⟨_, rfl⟩
   replace H : ((jacquardref12_Signed.f k a0 (Go.bits .or .u64 a1_1 (ji8))).bind fun t275 => ((jacquardref12_Signed.f k a0 (Go.bits .andNot .u64 (Go.bits .andNot .u64 t273 a1_0) (ji8))).bind fun t276 => (some (t275, t276)))) = some (r1, r2) := by first | (rw [hji8] at H; exact H) | (simp only [hji8] at H ⊢; exact H)
   (try rw [hji8] at A3)
   (try rw [hji8] at A4)
   have hji8_ : (IntKind.u64.wrap (1 * 2 ^ min (ji6).toNat 64)) = ji8 := hji8
   have hji8z : (ji6) ≤ 64 → (IntKind.u64.wrap (1 * 2 ^ (ji6).toNat)) = ji8 := shl_small hji8
   have hji8u : (IntKind.u64.wrap (2 ^ min (ji6).toNat 64)) = ji8 := by have h_ := hji8_; rw [Int.one_mul] at h_; exact h_
   have hji8v : (ji6) ≤ 64 → (IntKind.u64.wrap (2 ^ (ji6).toNat)) = ji8 := fun hle_ => by have h_ := hji8z hle_; rw [Int.one_mul] at h_; exact h_
   have c9b0 := eq_true (of_decide_eq_true (by first | (with_reducible assumption) | assumption) : 0 ≤ (ji6))
   replace H := Option.bind_eq_some_iff.mp H
   obtain ⟨t275, A100, H⟩ := H
   replace H : ((jacquardref12_Signed.f k a0 (Go.bits .andNot .u64 (Go.bits .andNot .u64 t273 a1_0) (ji8))).bind fun t276 => (some (t275, t276))) = some (r1, r2) := H
   have A10 := Aside0.mk A100
   clear A100
   replace H := Option.bind_eq_some_iff.mp H
   obtain ⟨t276, A110, H⟩ := H
   replace H : (some (t275, t276)) = some (r1, r2) := H
   have A11 := Aside0.mk A110
   clear A110
   simp only [Option.some.injEq, Prod.mk.injEq] at H
   obtain ⟨rfl, rfl⟩ := H
   go_enter Try.func81, Try.ntmps81
   go_wp2_with (first | ((with_reducible refine gate_dst (N := 3) rfl ?_); refine box_event ?hg (N := 3) ?hd (cs := #[.int .u64 a1_0, .int .u64 a1_1]) (t := 110) ?hr ?_; (case hd => rfl); (case hg => rfl); (case hr => first | (go_simp; done) | (go_simp; rfl)); intro gb272 hg w12 hbox hb; have n0_ := bsB HB.out hb; have n1_ := Aside0.mk (hbox); have n2_ := szB hg HB.out; have n3_ := szB hg HB.out; clear HB; have HB := n0_; have BK272 := n1_; have GW272 := n2_; have GE272 := n3_; clear n0_ n1_ n2_ n3_; clear hb hbox hg; have hcz13_0 : w12.cell? ⟨gb272, 0, none⟩ = some (.int .u64 a1_0) := (blk_cell BK272.out 0).trans rfl; have hcz13_1 : w12.cell? ⟨gb272, 1, none⟩ = some (.int .u64 a1_1) := (blk_cell BK272.out 1).trans rfl; have hfz13_0 := blk_frozen BK272.out 0; have hfz13_1 := blk_frozen BK272.out 1) | (go_at_call 16; (with_reducible refine (jacquardref12_Mask.calls k a0 t273 _ A3.out).mono ?_); rintro e w' ⟨rfl, ⟨nd, rfl⟩⟩; (try first | exact ⟨rfl, _, World.drewN_drewN _ _ _⟩ | exact ⟨rfl, _, Eq.trans (World.drewN_drewN _ _ _) (congrArg (World.drewN _) (Nat.add_assoc _ _ _))⟩)) | (go_at_call 145; (with_reducible refine (jacquardref12_Known.calls a1_0 a1_1 ji6 t274 _ A4.out).mono ?_); rintro e w14 ⟨rfl, hb⟩; have n0_ := bkB BK272.out hb; have n1_ := bsB HB.out hb; clear BK272; clear HB; have BK272 := n0_; have HB := n1_; clear n0_ n1_; (try clear hb); (try clear hb2); (try clear hk); (try clear hi)) | (go_at_call 73; (with_reducible refine (jacquardref12_Signed.calls k a0 (Go.bits .or .u64 a1_1 (ji8)) t275 _ A10.out).mono ?_); rintro e w' ⟨rfl, ⟨nd, rfl⟩⟩; (try first | exact ⟨rfl, _, World.drewN_drewN _ _ _⟩ | exact ⟨rfl, _, Eq.trans (World.drewN_drewN _ _ _) (congrArg (World.drewN _) (Nat.add_assoc _ _ _))⟩)) | (go_at_call 73; (with_reducible refine (jacquardref12_Signed.calls k a0 (Go.bits .andNot .u64 (Go.bits .andNot .u64 t273 a1_0) (ji8)) t276 _ A11.out).mono ?_); rintro e w' ⟨rfl, ⟨nd, rfl⟩⟩; (try first | exact ⟨rfl, _, World.drewN_drewN _ _ _⟩ | exact ⟨rfl, _, Eq.trans (World.drewN_drewN _ _ _) (congrArg (World.drewN _) (Nat.add_assoc _ _ _))⟩)))
   repeat (go_quiet (first | ((with_reducible refine gate_dst (N := 3) rfl ?_); refine box_event ?hg (N := 3) ?hd (cs := #[.int .u64 a1_0, .int .u64 a1_1]) (t := 110) ?hr ?_; (case hd => rfl); (case hg => rfl); (case hr => first | (go_simp; done) | (go_simp; rfl)); intro gb272 hg w12 hbox hb; have n0_ := bsB HB.out hb; have n1_ := Aside0.mk (hbox); have n2_ := szB hg HB.out; have n3_ := szB hg HB.out; clear HB; have HB := n0_; have BK272 := n1_; have GW272 := n2_; have GE272 := n3_; clear n0_ n1_ n2_ n3_; clear hb hbox hg; have hcz13_0 : w12.cell? ⟨gb272, 0, none⟩ = some (.int .u64 a1_0) := (blk_cell BK272.out 0).trans rfl; have hcz13_1 : w12.cell? ⟨gb272, 1, none⟩ = some (.int .u64 a1_1) := (blk_cell BK272.out 1).trans rfl; have hfz13_0 := blk_frozen BK272.out 0; have hfz13_1 := blk_frozen BK272.out 1) | (go_at_call 16; (with_reducible refine (jacquardref12_Mask.calls k a0 t273 _ A3.out).mono ?_); rintro e w' ⟨rfl, ⟨nd, rfl⟩⟩; (try first | exact ⟨rfl, _, World.drewN_drewN _ _ _⟩ | exact ⟨rfl, _, Eq.trans (World.drewN_drewN _ _ _) (congrArg (World.drewN _) (Nat.add_assoc _ _ _))⟩)) | (go_at_call 145; (with_reducible refine (jacquardref12_Known.calls a1_0 a1_1 ji6 t274 _ A4.out).mono ?_); rintro e w14 ⟨rfl, hb⟩; have n0_ := bkB BK272.out hb; have n1_ := bsB HB.out hb; clear BK272; clear HB; have BK272 := n0_; have HB := n1_; clear n0_ n1_; (try clear hb); (try clear hb2); (try clear hk); (try clear hi)) | (go_at_call 73; (with_reducible refine (jacquardref12_Signed.calls k a0 (Go.bits .or .u64 a1_1 (ji8)) t275 _ A10.out).mono ?_); rintro e w' ⟨rfl, ⟨nd, rfl⟩⟩; (try first | exact ⟨rfl, _, World.drewN_drewN _ _ _⟩ | exact ⟨rfl, _, Eq.trans (World.drewN_drewN _ _ _) (congrArg (World.drewN _) (Nat.add_assoc _ _ _))⟩)) | (go_at_call 73; (with_reducible refine (jacquardref12_Signed.calls k a0 (Go.bits .andNot .u64 (Go.bits .andNot .u64 t273 a1_0) (ji8)) t276 _ A11.out).mono ?_); rintro e w' ⟨rfl, ⟨nd, rfl⟩⟩; (try first | exact ⟨rfl, _, World.drewN_drewN _ _ _⟩ | exact ⟨rfl, _, Eq.trans (World.drewN_drewN _ _ _) (congrArg (World.drewN _) (Nat.add_assoc _ _ _))⟩))); try go_wp2_with (first | ((with_reducible refine gate_dst (N := 3) rfl ?_); refine box_event ?hg (N := 3) ?hd (cs := #[.int .u64 a1_0, .int .u64 a1_1]) (t := 110) ?hr ?_; (case hd => rfl); (case hg => rfl); (case hr => first | (go_simp; done) | (go_simp; rfl)); intro gb272 hg w12 hbox hb; have n0_ := bsB HB.out hb; have n1_ := Aside0.mk (hbox); have n2_ := szB hg HB.out; have n3_ := szB hg HB.out; clear HB; have HB := n0_; have BK272 := n1_; have GW272 := n2_; have GE272 := n3_; clear n0_ n1_ n2_ n3_; clear hb hbox hg; have hcz13_0 : w12.cell? ⟨gb272, 0, none⟩ = some (.int .u64 a1_0) := (blk_cell BK272.out 0).trans rfl; have hcz13_1 : w12.cell? ⟨gb272, 1, none⟩ = some (.int .u64 a1_1) := (blk_cell BK272.out 1).trans rfl; have hfz13_0 := blk_frozen BK272.out 0; have hfz13_1 := blk_frozen BK272.out 1) | (go_at_call 16; (with_reducible refine (jacquardref12_Mask.calls k a0 t273 _ A3.out).mono ?_); rintro e w' ⟨rfl, ⟨nd, rfl⟩⟩; (try first | exact ⟨rfl, _, World.drewN_drewN _ _ _⟩ | exact ⟨rfl, _, Eq.trans (World.drewN_drewN _ _ _) (congrArg (World.drewN _) (Nat.add_assoc _ _ _))⟩)) | (go_at_call 145; (with_reducible refine (jacquardref12_Known.calls a1_0 a1_1 ji6 t274 _ A4.out).mono ?_); rintro e w14 ⟨rfl, hb⟩; have n0_ := bkB BK272.out hb; have n1_ := bsB HB.out hb; clear BK272; clear HB; have BK272 := n0_; have HB := n1_; clear n0_ n1_; (try clear hb); (try clear hb2); (try clear hk); (try clear hi)) | (go_at_call 73; (with_reducible refine (jacquardref12_Signed.calls k a0 (Go.bits .or .u64 a1_1 (ji8)) t275 _ A10.out).mono ?_); rintro e w' ⟨rfl, ⟨nd, rfl⟩⟩; (try first | exact ⟨rfl, _, World.drewN_drewN _ _ _⟩ | exact ⟨rfl, _, Eq.trans (World.drewN_drewN _ _ _) (congrArg (World.drewN _) (Nat.add_assoc _ _ _))⟩)) | (go_at_call 73; (with_reducible refine (jacquardref12_Signed.calls k a0 (Go.bits .andNot .u64 (Go.bits .andNot .u64 t273 a1_0) (ji8)) t276 _ A11.out).mono ?_); rintro e w' ⟨rfl, ⟨nd, rfl⟩⟩; (try first | exact ⟨rfl, _, World.drewN_drewN _ _ _⟩ | exact ⟨rfl, _, Eq.trans (World.drewN_drewN _ _ _) (congrArg (World.drewN _) (Nat.add_assoc _ _ _))⟩))))
   go_ret2
   exact ⟨by first | rfl | (simp [errW_none, errW_some] <;> rfl) | (simp only [← hji6, ← hji8]; first | rfl | (simp [errW_none, errW_some] <;> rfl)) | (simp [*, errW_none, errW_some] <;> rfl), bsL HB.out⟩
  ·
   rw [if_neg c7] at H
   exact absurd H (by simp)
 ·
  rw [if_neg c5] at H
  have c5b0 : decide (t274 < 0) = false := decide_eq_false c5
  clear c5
  replace H := Option.bind_eq_some_iff.mp H
  obtain ⟨t277, A150, H⟩ := H
  replace H : ((jacquardref12_Signed.f k a0 (Go.bits .andNot .u64 t273 a1_0)).bind fun t278 => (some (t277, t278))) = some (r1, r2) := H
  have A15 := Aside0.mk A150
  clear A150
  replace H := Option.bind_eq_some_iff.mp H
  obtain ⟨t278, A160, H⟩ := H
  replace H : (some (t277, t278)) = some (r1, r2) := H
  have A16 := Aside0.mk A160
  clear A160
  simp only [Option.some.injEq, Prod.mk.injEq] at H
  obtain ⟨rfl, rfl⟩ := H
  go_enter Try.func81, Try.ntmps81
  go_wp2_with (first | ((with_reducible refine gate_dst (N := 3) rfl ?_); refine box_event ?hg (N := 3) ?hd (cs := #[.int .u64 a1_0, .int .u64 a1_1]) (t := 110) ?hr ?_; (case hd => rfl); (case hg => rfl); (case hr => first | (go_simp; done) | (go_simp; rfl)); intro gb272 hg w17 hbox hb; have n0_ := bsB HB.out hb; have n1_ := Aside0.mk (hbox); have n2_ := szB hg HB.out; have n3_ := szB hg HB.out; clear HB; have HB := n0_; have BK272 := n1_; have GW272 := n2_; have GE272 := n3_; clear n0_ n1_ n2_ n3_; clear hb hbox hg; have hcz18_0 : w17.cell? ⟨gb272, 0, none⟩ = some (.int .u64 a1_0) := (blk_cell BK272.out 0).trans rfl; have hcz18_1 : w17.cell? ⟨gb272, 1, none⟩ = some (.int .u64 a1_1) := (blk_cell BK272.out 1).trans rfl; have hfz18_0 := blk_frozen BK272.out 0; have hfz18_1 := blk_frozen BK272.out 1) | (go_at_call 16; (with_reducible refine (jacquardref12_Mask.calls k a0 t273 _ A3.out).mono ?_); rintro e w' ⟨rfl, ⟨nd, rfl⟩⟩; (try first | exact ⟨rfl, _, World.drewN_drewN _ _ _⟩ | exact ⟨rfl, _, Eq.trans (World.drewN_drewN _ _ _) (congrArg (World.drewN _) (Nat.add_assoc _ _ _))⟩)) | (go_at_call 145; (with_reducible refine (jacquardref12_Known.calls a1_0 a1_1 (wrap64 (a0 - 1)) t274 _ A4.out).mono ?_); rintro e w19 ⟨rfl, hb⟩; have n0_ := bkB BK272.out hb; have n1_ := bsB HB.out hb; clear BK272; clear HB; have BK272 := n0_; have HB := n1_; clear n0_ n1_; (try clear hb); (try clear hb2); (try clear hk); (try clear hi)) | (go_at_call 73; (with_reducible refine (jacquardref12_Signed.calls k a0 a1_1 t277 _ A15.out).mono ?_); rintro e w' ⟨rfl, ⟨nd, rfl⟩⟩; (try first | exact ⟨rfl, _, World.drewN_drewN _ _ _⟩ | exact ⟨rfl, _, Eq.trans (World.drewN_drewN _ _ _) (congrArg (World.drewN _) (Nat.add_assoc _ _ _))⟩)) | (go_at_call 73; (with_reducible refine (jacquardref12_Signed.calls k a0 (Go.bits .andNot .u64 t273 a1_0) t278 _ A16.out).mono ?_); rintro e w' ⟨rfl, ⟨nd, rfl⟩⟩; (try first | exact ⟨rfl, _, World.drewN_drewN _ _ _⟩ | exact ⟨rfl, _, Eq.trans (World.drewN_drewN _ _ _) (congrArg (World.drewN _) (Nat.add_assoc _ _ _))⟩)))
  repeat (go_quiet (first | ((with_reducible refine gate_dst (N := 3) rfl ?_); refine box_event ?hg (N := 3) ?hd (cs := #[.int .u64 a1_0, .int .u64 a1_1]) (t := 110) ?hr ?_; (case hd => rfl); (case hg => rfl); (case hr => first | (go_simp; done) | (go_simp; rfl)); intro gb272 hg w17 hbox hb; have n0_ := bsB HB.out hb; have n1_ := Aside0.mk (hbox); have n2_ := szB hg HB.out; have n3_ := szB hg HB.out; clear HB; have HB := n0_; have BK272 := n1_; have GW272 := n2_; have GE272 := n3_; clear n0_ n1_ n2_ n3_; clear hb hbox hg; have hcz18_0 : w17.cell? ⟨gb272, 0, none⟩ = some (.int .u64 a1_0) := (blk_cell BK272.out 0).trans rfl; have hcz18_1 : w17.cell? ⟨gb272, 1, none⟩ = some (.int .u64 a1_1) := (blk_cell BK272.out 1).trans rfl; have hfz18_0 := blk_frozen BK272.out 0; have hfz18_1 := blk_frozen BK272.out 1) | (go_at_call 16; (with_reducible refine (jacquardref12_Mask.calls k a0 t273 _ A3.out).mono ?_); rintro e w' ⟨rfl, ⟨nd, rfl⟩⟩; (try first | exact ⟨rfl, _, World.drewN_drewN _ _ _⟩ | exact ⟨rfl, _, Eq.trans (World.drewN_drewN _ _ _) (congrArg (World.drewN _) (Nat.add_assoc _ _ _))⟩)) | (go_at_call 145; (with_reducible refine (jacquardref12_Known.calls a1_0 a1_1 (wrap64 (a0 - 1)) t274 _ A4.out).mono ?_); rintro e w19 ⟨rfl, hb⟩; have n0_ := bkB BK272.out hb; have n1_ := bsB HB.out hb; clear BK272; clear HB; have BK272 := n0_; have HB := n1_; clear n0_ n1_; (try clear hb); (try clear hb2); (try clear hk); (try clear hi)) | (go_at_call 73; (with_reducible refine (jacquardref12_Signed.calls k a0 a1_1 t277 _ A15.out).mono ?_); rintro e w' ⟨rfl, ⟨nd, rfl⟩⟩; (try first | exact ⟨rfl, _, World.drewN_drewN _ _ _⟩ | exact ⟨rfl, _, Eq.trans (World.drewN_drewN _ _ _) (congrArg (World.drewN _) (Nat.add_assoc _ _ _))⟩)) | (go_at_call 73; (with_reducible refine (jacquardref12_Signed.calls k a0 (Go.bits .andNot .u64 t273 a1_0) t278 _ A16.out).mono ?_); rintro e w' ⟨rfl, ⟨nd, rfl⟩⟩; (try first | exact ⟨rfl, _, World.drewN_drewN _ _ _⟩ | exact ⟨rfl, _, Eq.trans (World.drewN_drewN _ _ _) (congrArg (World.drewN _) (Nat.add_assoc _ _ _))⟩))); try go_wp2_with (first | ((with_reducible refine gate_dst (N := 3) rfl ?_); refine box_event ?hg (N := 3) ?hd (cs := #[.int .u64 a1_0, .int .u64 a1_1]) (t := 110) ?hr ?_; (case hd => rfl); (case hg => rfl); (case hr => first | (go_simp; done) | (go_simp; rfl)); intro gb272 hg w17 hbox hb; have n0_ := bsB HB.out hb; have n1_ := Aside0.mk (hbox); have n2_ := szB hg HB.out; have n3_ := szB hg HB.out; clear HB; have HB := n0_; have BK272 := n1_; have GW272 := n2_; have GE272 := n3_; clear n0_ n1_ n2_ n3_; clear hb hbox hg; have hcz18_0 : w17.cell? ⟨gb272, 0, none⟩ = some (.int .u64 a1_0) := (blk_cell BK272.out 0).trans rfl; have hcz18_1 : w17.cell? ⟨gb272, 1, none⟩ = some (.int .u64 a1_1) := (blk_cell BK272.out 1).trans rfl; have hfz18_0 := blk_frozen BK272.out 0; have hfz18_1 := blk_frozen BK272.out 1) | (go_at_call 16; (with_reducible refine (jacquardref12_Mask.calls k a0 t273 _ A3.out).mono ?_); rintro e w' ⟨rfl, ⟨nd, rfl⟩⟩; (try first | exact ⟨rfl, _, World.drewN_drewN _ _ _⟩ | exact ⟨rfl, _, Eq.trans (World.drewN_drewN _ _ _) (congrArg (World.drewN _) (Nat.add_assoc _ _ _))⟩)) | (go_at_call 145; (with_reducible refine (jacquardref12_Known.calls a1_0 a1_1 (wrap64 (a0 - 1)) t274 _ A4.out).mono ?_); rintro e w19 ⟨rfl, hb⟩; have n0_ := bkB BK272.out hb; have n1_ := bsB HB.out hb; clear BK272; clear HB; have BK272 := n0_; have HB := n1_; clear n0_ n1_; (try clear hb); (try clear hb2); (try clear hk); (try clear hi)) | (go_at_call 73; (with_reducible refine (jacquardref12_Signed.calls k a0 a1_1 t277 _ A15.out).mono ?_); rintro e w' ⟨rfl, ⟨nd, rfl⟩⟩; (try first | exact ⟨rfl, _, World.drewN_drewN _ _ _⟩ | exact ⟨rfl, _, Eq.trans (World.drewN_drewN _ _ _) (congrArg (World.drewN _) (Nat.add_assoc _ _ _))⟩)) | (go_at_call 73; (with_reducible refine (jacquardref12_Signed.calls k a0 (Go.bits .andNot .u64 t273 a1_0) t278 _ A16.out).mono ?_); rintro e w' ⟨rfl, ⟨nd, rfl⟩⟩; (try first | exact ⟨rfl, _, World.drewN_drewN _ _ _⟩ | exact ⟨rfl, _, Eq.trans (World.drewN_drewN _ _ _) (congrArg (World.drewN _) (Nat.add_assoc _ _ _))⟩))))
  go_ret2
  exact ⟨by first | rfl | (simp [errW_none, errW_some] <;> rfl) | (simp [*, errW_none, errW_some] <;> rfl), bsL HB.out⟩

/-! ### jacquardref14_fact: function 82 -/
def jacquardref14_fact.f (a0_0 : Int) (a0_1 : Int) (a1_0 : Int) (a1_1 : Int) (a1_2 : Int) (a1_3 : Int) : Option (Int × Int × Int × Int × Int × Int) := some (a0_0, a0_1, a1_0, a1_1, a1_2, a1_3)
set_option maxHeartbeats 8000000 in
set_option maxRecDepth 100000 in
theorem jacquardref14_fact.calls (a0_0 : Int) (a0_1 : Int) (a1_0 : Int) (a1_1 : Int) (a1_2 : Int) (a1_3 : Int) (r1 : Int) (r2 : Int) (r3 : Int) (r4 : Int) (r5 : Int) (r6 : Int) (w : World) (h : jacquardref14_fact.f a0_0 a0_1 a1_0 a1_1 a1_2 a1_3 = some (r1, r2, r3, r4, r5, r6)) :
  Calls Try.prog 82 #[.agg #[.int .u64 a0_0, .int .u64 a0_1], .agg #[.int .u64 a1_0, .int .u64 a1_1, .int .i64 a1_2, .int .i64 a1_3]] w fun e w' => e = .returned (.agg #[.int .u64 r1, .int .u64 r2, .int .u64 r3, .int .u64 r4, .int .i64 r5, .int .i64 r6]) ∧ Below w.heap.size w w' := by
 have hu110 := Try.underlying110
 have hu30 := Try.underlying30
 have hu50 := Try.underlying50
 have HB := Aside0.mk (Below.refl w.heap.size w)
 have H : (some (a0_0, a0_1, a1_0, a1_1, a1_2, a1_3)) = some (r1, r2, r3, r4, r5, r6) := h
 clear h
 simp only [Option.some.injEq, Prod.mk.injEq] at H
 obtain ⟨rfl, rfl, rfl, rfl, rfl, rfl⟩ := H
 go_enter Try.func82, Try.ntmps82
 go_wp2_with (first | ((with_reducible refine gate_dst (N := 2) rfl ?_); refine box_event ?hg (N := 2) ?hd (cs := #[.int .u64 a0_0, .int .u64 a0_1]) (t := 110) ?hr ?_; (case hd => rfl); (case hg => rfl); (case hr => first | (go_simp; done) | (go_simp; rfl)); intro gb279 hg w3 hbox hb; have n0_ := bsB HB.out hb; have n1_ := Aside0.mk (hbox); have n2_ := szB hg HB.out; have n3_ := szB hg HB.out; clear HB; have HB := n0_; have BK279 := n1_; have GW279 := n2_; have GE279 := n3_; clear n0_ n1_ n2_ n3_; clear hb hbox hg) | ((with_reducible refine gate_dst (N := 3) rfl ?_); refine box_event ?hg (N := 3) ?hd (cs := #[.int .u64 a1_0, .int .u64 a1_1, .int .i64 a1_2, .int .i64 a1_3]) (t := 30) ?hr ?_; (case hd => rfl); (case hg => rfl); (case hr => first | (go_simp; done) | (go_simp; rfl)); intro gb280 hg w4 hbox hb; have n0_ := bkB BK279.out hb; have n1_ := bsB HB.out hb; have n2_ := Aside0.mk (hbox); have n3_ := szB hg HB.out; have n4_ := szB hg HB.out; have n5_ := Aside0.mk ((by rw [hg]; exact Nat.ne_of_lt (blk_lt (g := gb279) (o := .cells #[.int .u64 a0_0, .int .u64 a0_1] 110 (0, 0)) (by exact bfL BK279.out)) : gb279 ≠ gb280)); have n6_ := Aside0.mk ((by rw [hg]; exact Nat.ne_of_gt (blk_lt (g := gb279) (o := .cells #[.int .u64 a0_0, .int .u64 a0_1] 110 (0, 0)) (by exact bfL BK279.out)) : gb280 ≠ gb279)); clear BK279; clear HB; have BK279 := n0_; have HB := n1_; have BK280 := n2_; have GW280 := n3_; have GE280 := n4_; have NB279_280 := n5_; have NB280_279 := n6_; clear n0_ n1_ n2_ n3_ n4_ n5_ n6_; clear hb hbox hg) | ((with_reducible refine gate_dst (N := 4) rfl ?_); refine box_event ?hg (N := 4) ?hd (cs := #[.int .u64 0, .int .u64 0, .int .u64 0, .int .u64 0, .int .i64 0, .int .i64 0]) (t := 50) ?hr ?_; (case hd => rfl); (case hg => rfl); (case hr => first | (go_simp; done) | (go_simp; rfl)); intro gb281 hg w5 hbox hb; have n0_ := bkB BK279.out hb; have n1_ := bkB BK280.out hb; have n2_ := bsB HB.out hb; have n3_ := Aside0.mk (hbox); have n4_ := szB hg HB.out; have n5_ := szB hg HB.out; have n6_ := Aside0.mk ((by rw [hg]; exact Nat.ne_of_lt (blk_lt (g := gb279) (o := .cells #[.int .u64 a0_0, .int .u64 a0_1] 110 (0, 0)) (by exact bfL BK279.out)) : gb279 ≠ gb281)); have n7_ := Aside0.mk ((by rw [hg]; exact Nat.ne_of_gt (blk_lt (g := gb279) (o := .cells #[.int .u64 a0_0, .int .u64 a0_1] 110 (0, 0)) (by exact bfL BK279.out)) : gb281 ≠ gb279)); have n8_ := Aside0.mk ((by rw [hg]; exact Nat.ne_of_lt (blk_lt (g := gb280) (o := .cells #[.int .u64 a1_0, .int .u64 a1_1, .int .i64 a1_2, .int .i64 a1_3] 30 (0, 0)) (by exact bfL BK280.out)) : gb280 ≠ gb281)); have n9_ := Aside0.mk ((by rw [hg]; exact Nat.ne_of_gt (blk_lt (g := gb280) (o := .cells #[.int .u64 a1_0, .int .u64 a1_1, .int .i64 a1_2, .int .i64 a1_3] 30 (0, 0)) (by exact bfL BK280.out)) : gb281 ≠ gb280)); clear BK279; clear BK280; clear HB; have BK279 := n0_; have BK280 := n1_; have HB := n2_; have BK281 := n3_; have GW281 := n4_; have GE281 := n5_; have NB279_281 := n6_; have NB281_279 := n7_; have NB280_281 := n8_; have NB281_280 := n9_; clear n0_ n1_ n2_ n3_ n4_ n5_ n6_ n7_ n8_ n9_; clear hb hbox hg; have hnb6 := NB279_280.out; have hnc6 := NB280_279.out; have hnb7 := NB279_281.out; have hnc7 := NB281_279.out; have hcz8_0 : w5.cell? ⟨gb279, 0, none⟩ = some (.int .u64 a0_0) := (blk_cell BK279.out 0).trans rfl; have hcz8_1 : w5.cell? ⟨gb279, 1, none⟩ = some (.int .u64 a0_1) := (blk_cell BK279.out 1).trans rfl; have hfz8_0 := blk_frozen BK279.out 0; have hfz8_1 := blk_frozen BK279.out 1; have hnb9 := NB280_281.out; have hnc9 := NB281_280.out; have hcz10_0 : w5.cell? ⟨gb280, 0, none⟩ = some (.int .u64 a1_0) := (blk_cell BK280.out 0).trans rfl; have hcz10_1 : w5.cell? ⟨gb280, 1, none⟩ = some (.int .u64 a1_1) := (blk_cell BK280.out 1).trans rfl; have hcz10_2 : w5.cell? ⟨gb280, 2, none⟩ = some (.int .i64 a1_2) := (blk_cell BK280.out 2).trans rfl; have hcz10_3 : w5.cell? ⟨gb280, 3, none⟩ = some (.int .i64 a1_3) := (blk_cell BK280.out 3).trans rfl; have hfz10_0 := blk_frozen BK280.out 0; have hfz10_1 := blk_frozen BK280.out 1; have hfz10_2 := blk_frozen BK280.out 2; have hfz10_3 := blk_frozen BK280.out 3; have hcz11_0 : w5.cell? ⟨gb281, 0, none⟩ = some (.int .u64 0) := (blk_cell BK281.out 0).trans rfl; have hcz11_1 : w5.cell? ⟨gb281, 1, none⟩ = some (.int .u64 0) := (blk_cell BK281.out 1).trans rfl; have hcz11_2 : w5.cell? ⟨gb281, 2, none⟩ = some (.int .u64 0) := (blk_cell BK281.out 2).trans rfl; have hcz11_3 : w5.cell? ⟨gb281, 3, none⟩ = some (.int .u64 0) := (blk_cell BK281.out 3).trans rfl; have hcz11_4 : w5.cell? ⟨gb281, 4, none⟩ = some (.int .i64 0) := (blk_cell BK281.out 4).trans rfl; have hcz11_5 : w5.cell? ⟨gb281, 5, none⟩ = some (.int .i64 0) := (blk_cell BK281.out 5).trans rfl; have hfz11_0 := blk_frozen BK281.out 0; have hfz11_1 := blk_frozen BK281.out 1; have hfz11_2 := blk_frozen BK281.out 2; have hfz11_3 := blk_frozen BK281.out 3; have hfz11_4 := blk_frozen BK281.out 4; have hfz11_5 := blk_frozen BK281.out 5))
 refine bodyPost_ret (results_cell_row rfl _ _ gb281 50 #[.int .u64 a0_0, .int .u64 a0_1, .int .u64 a1_0, .int .u64 a1_1, .int .i64 a1_2, .int .i64 a1_3] (0, 0) _ rfl (by (with_reducible repeat (first | refine blk_drewN ?_ _ | refine blk_drew ?_ | refine blk_alloc ?_ _)); refine blk_put (cs := #[.int .u64 a0_0, .int .u64 a0_1, .int .u64 a1_0, .int .u64 a1_1, .int .i64 a1_2, .int .i64 0]) ?_ 5 _ rfl; (with_reducible repeat (first | refine blk_drewN ?_ _ | refine blk_drew ?_ | refine blk_alloc ?_ _)); refine blk_put (cs := #[.int .u64 a0_0, .int .u64 a0_1, .int .u64 a1_0, .int .u64 a1_1, .int .i64 0, .int .i64 0]) ?_ 4 _ rfl; (with_reducible repeat (first | refine blk_drewN ?_ _ | refine blk_drew ?_ | refine blk_alloc ?_ _)); refine blk_put (cs := #[.int .u64 a0_0, .int .u64 a0_1, .int .u64 a1_0, .int .u64 0, .int .i64 0, .int .i64 0]) ?_ 3 _ rfl; (with_reducible repeat (first | refine blk_drewN ?_ _ | refine blk_drew ?_ | refine blk_alloc ?_ _)); refine blk_put (cs := #[.int .u64 a0_0, .int .u64 a0_1, .int .u64 0, .int .u64 0, .int .i64 0, .int .i64 0]) ?_ 2 _ rfl; (with_reducible repeat (first | refine blk_drewN ?_ _ | refine blk_drew ?_ | refine blk_alloc ?_ _)); refine blk_put (cs := #[.int .u64 a0_0, .int .u64 0, .int .u64 0, .int .u64 0, .int .i64 0, .int .i64 0]) ?_ 1 _ rfl; (with_reducible repeat (first | refine blk_drewN ?_ _ | refine blk_drew ?_ | refine blk_alloc ?_ _)); refine blk_put (cs := #[.int .u64 0, .int .u64 0, .int .u64 0, .int .u64 0, .int .i64 0, .int .i64 0]) ?_ 0 _ rfl; exact bfL BK281.out) Try.underlying50 rfl (by kernel_rfl)) rfl ?_
 exact ⟨by first | rfl | (simp [errW_none, errW_some] <;> rfl) | (simp [*, errW_none, errW_some] <;> rfl), bsL HB.out⟩

end Go.Proofs.Ytbiohdgeclokmaa.P
