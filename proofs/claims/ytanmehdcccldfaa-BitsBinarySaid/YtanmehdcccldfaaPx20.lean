-- made by a program of this work (wip/mkprint.py, wip/mp.sh) out of the translation
import Derived.Test.YtanmehdcccldfaaPx0
import Derived.Test.YtanmehdcccldfaaPx17
import Derived.Test.YtanmehdcccldfaaPx18
import Derived.Test.YtanmehdcccldfaaPx19
namespace Go.Proofs.Ytanmehdcccldfaa.P
open Go.RowKit Go.Proofs.YtanmehdcccldfaaW.PrintWords Go.Proofs.YtanmehdcccldfaaW.PrintLast Go.Proofs.YtanmehdcccldfaaW.PrintMore
attribute [local go_sem] max2_int min2_int max_two min_two max_three min_three max_four min_four   -- for this text's walks alone
set_option linter.unusedVariables false
set_option linter.unusedSimpArgs false

/-! ### jacquardref01_divide: function 87 -/
def jacquardref01_divide.j0 : Nat → Int → Int → Int → Int → Option (Int × Int)
  | 0, _, _, _, _ => none
  | k + 1, x0, x1, x8, x9 => (jacquardref01_Negative.f k x0 x1).bind fun t422 => (if t422 = true then ((jacquardref01_Minus.f k x0 x9).bind fun t423 => ((jacquardref01_Fit.f k x0 x8).bind fun t424 => ((jacquardref01_Fit.f k x0 t423).bind fun t425 => (some (t424, t425))))) else ((jacquardref01_Fit.f k x0 x8).bind fun t426 => ((jacquardref01_Fit.f k x0 x9).bind fun t427 => (some (t426, t427)))))
def jacquardref01_divide.f (k : Nat) (a0 : Int) (a1 : Int) (a2 : Int) : Option (Int × Int) := if a2 = 0 then ((jacquardref01_Ones.f k a0).bind fun t416 => (some (t416, a1))) else ((jacquardref01_magnitude.f k a0 a1).bind fun t417 => ((jacquardref01_magnitude.f k a0 a2).bind fun t418 => (if t418 = 0 then (none) else ((jacquardref01_Negative.f k a0 a1).bind fun t419 => ((jacquardref01_Negative.f k a0 a2).bind fun t420 => (if (t419 != t420) = true then ((jacquardref01_Minus.f k a0 (IntKind.u64.wrap (Int.tdiv t417 t418))).bind fun t421 => (jacquardref01_divide.j0 k a0 a1 t421 (IntKind.u64.wrap (t417 - (IntKind.u64.wrap ((IntKind.u64.wrap (Int.tdiv t417 t418)) * t418)))))) else (jacquardref01_divide.j0 k a0 a1 (IntKind.u64.wrap (Int.tdiv t417 t418)) (IntKind.u64.wrap (t417 - (IntKind.u64.wrap ((IntKind.u64.wrap (Int.tdiv t417 t418)) * t418)))))))))))
theorem jacquardref01_divide.mono_l : ∀ k, (∀ y0 y1 y2 y3, LeO (jacquardref01_divide.j0 k y0 y1 y2 y3) (jacquardref01_divide.j0 (k + 1) y0 y1 y2 y3))
  | 0 => fun _ _ _ _ r h => by simp [jacquardref01_divide.j0] at h
  | k + 1 => by
    have ih0 := jacquardref01_divide.mono_l k
    · intro y0 y1 y2 y3
      unfold jacquardref01_divide.j0
      repeat' first
      | (with_reducible exact ih0 _ _ _ _)
      | (with_reducible exact jacquardref01_Fit.mono _ _ _)
      | (with_reducible exact jacquardref01_Minus.mono _ _ _)
      | (with_reducible exact jacquardref01_Negative.mono _ _ _)
      | (with_reducible exact jacquardref01_Ones.mono _ _)
      | (with_reducible exact jacquardref01_magnitude.mono _ _ _)
      | (with_reducible exact LeO.refl _)
      | (with_reducible exact LeO.none _)
      | (with_reducible refine LeO.ite ?_ ?_)
      | (with_reducible refine LeO.bind ?_ (fun _ => ?_))
      | exact ih0 _ _ _ _
      | exact jacquardref01_Fit.mono _ _ _
      | exact jacquardref01_Minus.mono _ _ _
      | exact jacquardref01_Negative.mono _ _ _
      | exact jacquardref01_Ones.mono _ _
      | exact jacquardref01_magnitude.mono _ _ _
      | exact LeO.none _
      | refine LeO.ite ?_ ?_
      | refine LeO.bind ?_ (fun _ => ?_)
theorem jacquardref01_divide.mono : ∀ a0 a1 a2 k, LeO (jacquardref01_divide.f k a0 a1 a2) (jacquardref01_divide.f (k + 1) a0 a1 a2) := by
  intro a0 a1 a2 k
  have ih0 := jacquardref01_divide.mono_l k
  unfold jacquardref01_divide.f
  repeat' first
      | (with_reducible exact ih0 _ _ _ _)
      | (with_reducible exact jacquardref01_Fit.mono _ _ _)
      | (with_reducible exact jacquardref01_Minus.mono _ _ _)
      | (with_reducible exact jacquardref01_Negative.mono _ _ _)
      | (with_reducible exact jacquardref01_Ones.mono _ _)
      | (with_reducible exact jacquardref01_magnitude.mono _ _ _)
      | (with_reducible exact LeO.refl _)
      | (with_reducible exact LeO.none _)
      | (with_reducible refine LeO.ite ?_ ?_)
      | (with_reducible refine LeO.bind ?_ (fun _ => ?_))
      | exact ih0 _ _ _ _
      | exact jacquardref01_Fit.mono _ _ _
      | exact jacquardref01_Minus.mono _ _ _
      | exact jacquardref01_Negative.mono _ _ _
      | exact jacquardref01_Ones.mono _ _
      | exact jacquardref01_magnitude.mono _ _ _
      | exact LeO.none _
      | refine LeO.ite ?_ ?_
      | refine LeO.bind ?_ (fun _ => ?_)
set_option maxHeartbeats 8000000 in
set_option maxRecDepth 100000 in
theorem jacquardref01_divide.calls (k : Nat) (a0 : Int) (a1 : Int) (a2 : Int) (r1 : Int) (r2 : Int) (w : World) (h : jacquardref01_divide.f k a0 a1 a2 = some (r1, r2)) :
    Calls Try.prog 87 #[.int .i64 a0, .int .u64 a1, .int .u64 a2] w fun e w' => e = .returned (.tuple #[.int .u64 r1, .int .u64 r2]) ∧ Below w.heap.size w w' := by
  have HB := Aside0.mk (Below.refl w.heap.size w)
  have H : (if a2 = 0 then ((jacquardref01_Ones.f k a0).bind fun t416 => (some (t416, a1))) else ((jacquardref01_magnitude.f k a0 a1).bind fun t417 => ((jacquardref01_magnitude.f k a0 a2).bind fun t418 => (if t418 = 0 then (none) else ((jacquardref01_Negative.f k a0 a1).bind fun t419 => ((jacquardref01_Negative.f k a0 a2).bind fun t420 => (if (t419 != t420) = true then ((jacquardref01_Minus.f k a0 (IntKind.u64.wrap (Int.tdiv t417 t418))).bind fun t421 => (jacquardref01_divide.j0 k a0 a1 t421 (IntKind.u64.wrap (t417 - (IntKind.u64.wrap ((IntKind.u64.wrap (Int.tdiv t417 t418)) * t418)))))) else (jacquardref01_divide.j0 k a0 a1 (IntKind.u64.wrap (Int.tdiv t417 t418)) (IntKind.u64.wrap (t417 - (IntKind.u64.wrap ((IntKind.u64.wrap (Int.tdiv t417 t418)) * t418)))))))))))) = some (r1, r2) := h
  clear h
  by_cases c4 : a2 = 0
  · rw [if_pos c4] at H
    have c4b0 : (a2 == 0) = true := beq_iff_eq.mpr c4
    have c4b1 : (a2 != 0) = false := bne_eq_false_iff_eq.mpr c4
    clear c4
    replace H := Option.bind_eq_some_iff.mp H
    obtain ⟨t416, A50, H⟩ := H
    replace H : (some (t416, a1)) = some (r1, r2) := H
    have A5 := Aside0.mk A50
    clear A50
    simp only [Option.some.injEq, Prod.mk.injEq] at H
    obtain ⟨rfl, rfl⟩ := H
    go_enter Try.func87, Try.ntmps87
    go_wp2_with (first | ((with_reducible refine gate_callee (f := 55) rfl ?_); refine goesL_ (some 13) rfl rfl Try.func55 (by kernel_rfl) rfl #[.int .i64 a0] rfl (by (try simp only [List.map_toArray, List.map_cons, List.map_nil]); first | done | rfl | (simp only [List.length_drop, List.length_take]; rfl)) ?_; (with_reducible refine (jacquardref01_Ones.calls k a0 t416 _ A5.out).mono ?_); rintro e w6 ⟨rfl, hb⟩; refine ⟨_, rfl, ?_⟩; have n0_ := Aside0.mk (below_step (by repeat (first | (with_reducible first | exact HB.out | apply below_alloc | apply pw_below_drewN | apply below_drew1) | exact HB.out)) hb); clear HB; have HB := n0_; clear n0_; (try clear hb); (try clear hb2); (try clear hk); (try clear hi)))
    go_ret2
    exact ⟨by first | rfl | (simp [errW_none, errW_some] <;> rfl) | (simp [*, errW_none, errW_some] <;> rfl), by repeat (first | (with_reducible first | exact HB.out | apply below_alloc | apply pw_below_drewN | apply below_drew1) | exact HB.out)⟩
  · rw [if_neg c4] at H
    have c4b0 : (a2 == 0) = false := beq_eq_false_iff_ne.mpr c4
    have c4b1 : (a2 != 0) = true := bne_iff_ne.mpr c4
    replace H := Option.bind_eq_some_iff.mp H
    obtain ⟨t417, A70, H⟩ := H
    replace H : ((jacquardref01_magnitude.f k a0 a2).bind fun t418 => (if t418 = 0 then (none) else ((jacquardref01_Negative.f k a0 a1).bind fun t419 => ((jacquardref01_Negative.f k a0 a2).bind fun t420 => (if (t419 != t420) = true then ((jacquardref01_Minus.f k a0 (IntKind.u64.wrap (Int.tdiv t417 t418))).bind fun t421 => (jacquardref01_divide.j0 k a0 a1 t421 (IntKind.u64.wrap (t417 - (IntKind.u64.wrap ((IntKind.u64.wrap (Int.tdiv t417 t418)) * t418)))))) else (jacquardref01_divide.j0 k a0 a1 (IntKind.u64.wrap (Int.tdiv t417 t418)) (IntKind.u64.wrap (t417 - (IntKind.u64.wrap ((IntKind.u64.wrap (Int.tdiv t417 t418)) * t418)))))))))) = some (r1, r2) := H
    have A7 := Aside0.mk A70
    clear A70
    replace H := Option.bind_eq_some_iff.mp H
    obtain ⟨t418, A80, H⟩ := H
    replace H : (if t418 = 0 then (none) else ((jacquardref01_Negative.f k a0 a1).bind fun t419 => ((jacquardref01_Negative.f k a0 a2).bind fun t420 => (if (t419 != t420) = true then ((jacquardref01_Minus.f k a0 (IntKind.u64.wrap (Int.tdiv t417 t418))).bind fun t421 => (jacquardref01_divide.j0 k a0 a1 t421 (IntKind.u64.wrap (t417 - (IntKind.u64.wrap ((IntKind.u64.wrap (Int.tdiv t417 t418)) * t418)))))) else (jacquardref01_divide.j0 k a0 a1 (IntKind.u64.wrap (Int.tdiv t417 t418)) (IntKind.u64.wrap (t417 - (IntKind.u64.wrap ((IntKind.u64.wrap (Int.tdiv t417 t418)) * t418))))))))) = some (r1, r2) := H
    have A8 := Aside0.mk A80
    clear A80
    by_cases c9 : t418 = 0
    · rw [if_pos c9] at H
      exact absurd H (by simp)
    · rw [if_neg c9] at H
      have c9b0 : (t418 == 0) = false := beq_eq_false_iff_ne.mpr c9
      have c9b1 : (t418 != 0) = true := bne_iff_ne.mpr c9
      replace H := Option.bind_eq_some_iff.mp H
      obtain ⟨t419, A100, H⟩ := H
      replace H : ((jacquardref01_Negative.f k a0 a2).bind fun t420 => (if (t419 != t420) = true then ((jacquardref01_Minus.f k a0 (IntKind.u64.wrap (Int.tdiv t417 t418))).bind fun t421 => (jacquardref01_divide.j0 k a0 a1 t421 (IntKind.u64.wrap (t417 - (IntKind.u64.wrap ((IntKind.u64.wrap (Int.tdiv t417 t418)) * t418)))))) else (jacquardref01_divide.j0 k a0 a1 (IntKind.u64.wrap (Int.tdiv t417 t418)) (IntKind.u64.wrap (t417 - (IntKind.u64.wrap ((IntKind.u64.wrap (Int.tdiv t417 t418)) * t418))))))) = some (r1, r2) := H
      have A10 := Aside0.mk A100
      clear A100
      replace H := Option.bind_eq_some_iff.mp H
      obtain ⟨t420, A110, H⟩ := H
      replace H : (if (t419 != t420) = true then ((jacquardref01_Minus.f k a0 (IntKind.u64.wrap (Int.tdiv t417 t418))).bind fun t421 => (jacquardref01_divide.j0 k a0 a1 t421 (IntKind.u64.wrap (t417 - (IntKind.u64.wrap ((IntKind.u64.wrap (Int.tdiv t417 t418)) * t418)))))) else (jacquardref01_divide.j0 k a0 a1 (IntKind.u64.wrap (Int.tdiv t417 t418)) (IntKind.u64.wrap (t417 - (IntKind.u64.wrap ((IntKind.u64.wrap (Int.tdiv t417 t418)) * t418)))))) = some (r1, r2) := H
      have A11 := Aside0.mk A110
      clear A110
      have HC12 := Aside0.mk H
      clear H
      go_enter Try.func87, Try.ntmps87
      go_upto_if 37 with (first | ((with_reducible refine gate_callee (f := 97) rfl ?_); refine goesL_ (some 17) rfl rfl Try.func97 (by kernel_rfl) rfl #[.int .i64 a0, .int .u64 a1] rfl (by (try simp only [List.map_toArray, List.map_cons, List.map_nil]); first | done | rfl | (simp only [List.length_drop, List.length_take]; rfl)) ?_; (with_reducible refine (jacquardref01_magnitude.calls k a0 a1 t417 _ A7.out).mono ?_); rintro e w13 ⟨rfl, hb⟩; refine ⟨_, rfl, ?_⟩; have n0_ := Aside0.mk (below_step (by repeat (first | (with_reducible first | exact HB.out | apply below_alloc | apply pw_below_drewN | apply below_drew1) | exact HB.out)) hb); clear HB; have HB := n0_; clear n0_; (try clear hb); (try clear hb2); (try clear hk); (try clear hi)) | ((with_reducible refine gate_callee (f := 97) rfl ?_); refine goesL_ (some 20) rfl rfl Try.func97 (by kernel_rfl) rfl #[.int .i64 a0, .int .u64 a2] rfl (by (try simp only [List.map_toArray, List.map_cons, List.map_nil]); first | done | rfl | (simp only [List.length_drop, List.length_take]; rfl)) ?_; (with_reducible refine (jacquardref01_magnitude.calls k a0 a2 t418 _ A8.out).mono ?_); rintro e w14 ⟨rfl, hb⟩; refine ⟨_, rfl, ?_⟩; have n0_ := Aside0.mk (below_step (by repeat (first | (with_reducible first | exact HB.out | apply below_alloc | apply pw_below_drewN | apply below_drew1) | exact HB.out)) hb); clear HB; have HB := n0_; clear n0_; (try clear hb); (try clear hb2); (try clear hk); (try clear hi)) | ((with_reducible refine gate_callee (f := 97) rfl ?_); refine goesL_ (some 24) rfl rfl Try.func97 (by kernel_rfl) rfl #[.int .i64 a0, .int .u64 a1] rfl (by (try simp only [List.map_toArray, List.map_cons, List.map_nil]); first | done | rfl | (simp only [List.length_drop, List.length_take]; rfl)) ?_; (with_reducible refine (jacquardref01_magnitude.calls k a0 a1 t417 _ A7.out).mono ?_); rintro e w15 ⟨rfl, hb⟩; refine ⟨_, rfl, ?_⟩; have n0_ := Aside0.mk (below_step (by repeat (first | (with_reducible first | exact HB.out | apply below_alloc | apply pw_below_drewN | apply below_drew1) | exact HB.out)) hb); clear HB; have HB := n0_; clear n0_; (try clear hb); (try clear hb2); (try clear hk); (try clear hi)) | ((with_reducible refine gate_callee (f := 97) rfl ?_); refine goesL_ (some 28) rfl rfl Try.func97 (by kernel_rfl) rfl #[.int .i64 a0, .int .u64 a2] rfl (by (try simp only [List.map_toArray, List.map_cons, List.map_nil]); first | done | rfl | (simp only [List.length_drop, List.length_take]; rfl)) ?_; (with_reducible refine (jacquardref01_magnitude.calls k a0 a2 t418 _ A8.out).mono ?_); rintro e w16 ⟨rfl, hb⟩; refine ⟨_, rfl, ?_⟩; have n0_ := Aside0.mk (below_step (by repeat (first | (with_reducible first | exact HB.out | apply below_alloc | apply pw_below_drewN | apply below_drew1) | exact HB.out)) hb); clear HB; have HB := n0_; clear n0_; (try clear hb); (try clear hb2); (try clear hk); (try clear hi)) | ((with_reducible refine gate_callee (f := 79) rfl ?_); refine goesL_ (some 33) rfl rfl Try.func79 (by kernel_rfl) rfl #[.int .i64 a0, .int .u64 a1] rfl (by (try simp only [List.map_toArray, List.map_cons, List.map_nil]); first | done | rfl | (simp only [List.length_drop, List.length_take]; rfl)) ?_; (with_reducible refine (jacquardref01_Negative.calls k a0 a1 t419 _ A10.out).mono ?_); rintro e w17 ⟨rfl, hb⟩; refine ⟨_, rfl, ?_⟩; have n0_ := Aside0.mk (below_step (by repeat (first | (with_reducible first | exact HB.out | apply below_alloc | apply pw_below_drewN | apply below_drew1) | exact HB.out)) hb); clear HB; have HB := n0_; clear n0_; (try clear hb); (try clear hb2); (try clear hk); (try clear hi)) | ((with_reducible refine gate_callee (f := 79) rfl ?_); refine goesL_ (some 36) rfl rfl Try.func79 (by kernel_rfl) rfl #[.int .i64 a0, .int .u64 a2] rfl (by (try simp only [List.map_toArray, List.map_cons, List.map_nil]); first | done | rfl | (simp only [List.length_drop, List.length_take]; rfl)) ?_; (with_reducible refine (jacquardref01_Negative.calls k a0 a2 t420 _ A11.out).mono ?_); rintro e w18 ⟨rfl, hb⟩; refine ⟨_, rfl, ?_⟩; have n0_ := Aside0.mk (below_step (by repeat (first | (with_reducible first | exact HB.out | apply below_alloc | apply pw_below_drewN | apply below_drew1) | exact HB.out)) hb); clear HB; have HB := n0_; clear n0_; (try clear hb); (try clear hb2); (try clear hk); (try clear hi)))
      (try simp only [Act.put, List.setIfInBounds_toArray, List.set_cons_zero, List.set_cons_succ])
      go_cut [8] (fun v8 wc => ∃ (kq : Nat) (x8_11 : Int), v8 = .int .u64 x8_11 ∧ Aside0 (jacquardref01_divide.j0 kq a0 a1 x8_11 (IntKind.u64.wrap (t417 - (IntKind.u64.wrap ((IntKind.u64.wrap (Int.tdiv t417 t418)) * t418)))) = some (r1, r2)) ∧ Aside0 (kq ≤ k) ∧ Aside0 (Below w.heap.size w wc))
      case first =>
        have H := HC12.out
        clear HC12
        by_cases c19 : (t419 != t420) = true
        · rw [if_pos c19] at H
          have c19b0 : (t419 != t420) = true := c19
          (try (have c19b1 : decide (t419 = t420) = false := by simpa using c19))
          (try (have c19b2 : (t419 == t420) = false := by simpa using c19))
          (try (have c19b3 : ¬ (t419 = t420) := by simpa using c19))
          clear c19
          (first | rw [c19b0] | (simp only [i64_w, i32_w]; rw [c19b0]) | skip)
          (first | rw [show (!(t419 == t420)) = true by revert c19b0; cases t419 <;> cases t420 <;> simp] | rw [show ((!t419) == t420) = true by revert c19b0; cases t419 <;> cases t420 <;> simp] | skip)
          replace H := Option.bind_eq_some_iff.mp H
          obtain ⟨t421, A200, H⟩ := H
          replace H : (jacquardref01_divide.j0 k a0 a1 t421 (IntKind.u64.wrap (t417 - (IntKind.u64.wrap ((IntKind.u64.wrap (Int.tdiv t417 t418)) * t418))))) = some (r1, r2) := H
          have A20 := Aside0.mk A200
          clear A200
          have H' := Aside0.mk H
          clear H
          go_wp2_with (first | ((with_reducible refine gate_callee (f := 91) rfl ?_); refine goesL_ (some 40) rfl rfl Try.func91 (by kernel_rfl) rfl #[.int .i64 a0, .int .u64 (IntKind.u64.wrap (Int.tdiv t417 t418))] rfl (by (try simp only [List.map_toArray, List.map_cons, List.map_nil]); first | done | rfl | (simp only [List.length_drop, List.length_take]; rfl)) ?_; (with_reducible refine (jacquardref01_Minus.calls k a0 (IntKind.u64.wrap (Int.tdiv t417 t418)) t421 _ A20.out).mono ?_); rintro e w21 ⟨rfl, hb⟩; refine ⟨_, rfl, ?_⟩; have n0_ := Aside0.mk (below_step (by repeat (first | (with_reducible first | exact HB.out | apply below_alloc | apply pw_below_drewN | apply below_drew1) | exact HB.out)) hb); clear HB; have HB := n0_; clear n0_; (try clear hb); (try clear hb2); (try clear hk); (try clear hi)))
          go_meet
          case rel => exact ⟨_, (t421), (by first | rfl | (simp; done) | (simp [*]; done)), H', ⟨by first | omega | exact Nat.le_refl _⟩, ⟨by repeat (first | (with_reducible first | exact HB.out | apply below_alloc | apply pw_below_drewN | apply below_drew1) | exact HB.out)⟩⟩
        · rw [if_neg c19] at H
          have c19b0 : (t419 != t420) = false := by simpa using c19
          (try (have c19b1 : decide (t419 = t420) = true := by simpa using c19))
          (try (have c19b2 : (t419 == t420) = true := by simpa using c19))
          clear c19
          (first | rw [c19b0] | (simp only [i64_w, i32_w]; rw [c19b0]) | skip)
          (first | rw [show (!(t419 == t420)) = false by revert c19b0; cases t419 <;> cases t420 <;> simp] | rw [show ((!t419) == t420) = false by revert c19b0; cases t419 <;> cases t420 <;> simp] | skip)
          have H' := Aside0.mk H
          clear H
          go_wp2
          go_meet
          case rel => exact ⟨_, (IntKind.u64.wrap (Int.tdiv t417 t418)), (by first | rfl | (simp; done) | (simp [*]; done)), H', ⟨by first | omega | exact Nat.le_refl _⟩, ⟨by repeat (first | (with_reducible first | exact HB.out | apply below_alloc | apply pw_below_drewN | apply below_drew1) | exact HB.out)⟩⟩
      case rest =>
        clear HC12
        try clear c1
        try clear p2
        try clear c4
        try clear c4b0
        try clear c4b1
        try clear c5
        try clear c7
        try clear c8
        try clear c9
        try clear c9b0
        try clear c9b1
        try clear c19
        try clear c19b0
        try clear c19b1
        try clear c19b2
        obtain ⟨kq, x8_11, rfl, HA, HJ11, HB⟩ := hcut
        cases kq with
        | zero => exact absurd HA.out (by simp [jacquardref01_divide.j0])
        | succ kj11 =>
          have H := HA.out
          clear HA
          simp only [jacquardref01_divide.j0] at H
          replace H := Option.bind_eq_some_iff.mp H
          obtain ⟨t422, A220, H⟩ := H
          replace H : (if t422 = true then ((jacquardref01_Minus.f kj11 a0 (IntKind.u64.wrap (t417 - (IntKind.u64.wrap ((IntKind.u64.wrap (Int.tdiv t417 t418)) * t418))))).bind fun t423 => ((jacquardref01_Fit.f kj11 a0 x8_11).bind fun t424 => ((jacquardref01_Fit.f kj11 a0 t423).bind fun t425 => (some (t424, t425))))) else ((jacquardref01_Fit.f kj11 a0 x8_11).bind fun t426 => ((jacquardref01_Fit.f kj11 a0 (IntKind.u64.wrap (t417 - (IntKind.u64.wrap ((IntKind.u64.wrap (Int.tdiv t417 t418)) * t418))))).bind fun t427 => (some (t426, t427))))) = some (r1, r2) := H
          have A22 := Aside0.mk A220
          clear A220
          by_cases c23 : t422 = true
          · subst c23
            have H1 : ((jacquardref01_Minus.f kj11 a0 (IntKind.u64.wrap (t417 - (IntKind.u64.wrap ((IntKind.u64.wrap (Int.tdiv t417 t418)) * t418))))).bind fun t423 => ((jacquardref01_Fit.f kj11 a0 x8_11).bind fun t424 => ((jacquardref01_Fit.f kj11 a0 t423).bind fun t425 => (some (t424, t425))))) = some (r1, r2) := by rw [if_pos rfl] at H; exact H
            clear H
            have H := H1
            clear H1
            replace H := Option.bind_eq_some_iff.mp H
            obtain ⟨t423, A240, H⟩ := H
            replace H : ((jacquardref01_Fit.f kj11 a0 x8_11).bind fun t424 => ((jacquardref01_Fit.f kj11 a0 t423).bind fun t425 => (some (t424, t425)))) = some (r1, r2) := H
            have A24 := Aside0.mk A240
            clear A240
            replace H := Option.bind_eq_some_iff.mp H
            obtain ⟨t424, A250, H⟩ := H
            replace H : ((jacquardref01_Fit.f kj11 a0 t423).bind fun t425 => (some (t424, t425))) = some (r1, r2) := H
            have A25 := Aside0.mk A250
            clear A250
            replace H := Option.bind_eq_some_iff.mp H
            obtain ⟨t425, A260, H⟩ := H
            replace H : (some (t424, t425)) = some (r1, r2) := H
            have A26 := Aside0.mk A260
            clear A260
            simp only [Option.some.injEq, Prod.mk.injEq] at H
            obtain ⟨rfl, rfl⟩ := H
            go_wp2_with (first | ((with_reducible refine gate_callee (f := 79) rfl ?_); refine goesL_ (some 43) rfl rfl Try.func79 (by kernel_rfl) rfl #[.int .i64 a0, .int .u64 a1] rfl (by (try simp only [List.map_toArray, List.map_cons, List.map_nil]); first | done | rfl | (simp only [List.length_drop, List.length_take]; rfl)) ?_; (with_reducible refine (jacquardref01_Negative.calls kj11 a0 a1 true _ A22.out).mono ?_); rintro e w27 ⟨rfl, hb⟩; refine ⟨_, rfl, ?_⟩; have n0_ := Aside0.mk (below_step (by repeat (first | (with_reducible first | exact HB.out | apply below_alloc | apply pw_below_drewN | apply below_drew1) | exact HB.out)) hb); clear HB; have HB := n0_; clear n0_; (try clear hb); (try clear hb2); (try clear hk); (try clear hi)) | ((with_reducible refine gate_callee (f := 91) rfl ?_); refine goesL_ (some 46) rfl rfl Try.func91 (by kernel_rfl) rfl #[.int .i64 a0, .int .u64 (IntKind.u64.wrap (t417 - (IntKind.u64.wrap ((IntKind.u64.wrap (Int.tdiv t417 t418)) * t418))))] rfl (by (try simp only [List.map_toArray, List.map_cons, List.map_nil]); first | done | rfl | (simp only [List.length_drop, List.length_take]; rfl)) ?_; (with_reducible refine (jacquardref01_Minus.calls kj11 a0 (IntKind.u64.wrap (t417 - (IntKind.u64.wrap ((IntKind.u64.wrap (Int.tdiv t417 t418)) * t418)))) t423 _ A24.out).mono ?_); rintro e w28 ⟨rfl, hb⟩; refine ⟨_, rfl, ?_⟩; have n0_ := Aside0.mk (below_step (by repeat (first | (with_reducible first | exact HB.out | apply below_alloc | apply pw_below_drewN | apply below_drew1) | exact HB.out)) hb); clear HB; have HB := n0_; clear n0_; (try clear hb); (try clear hb2); (try clear hk); (try clear hi)) | ((with_reducible refine gate_callee (f := 56) rfl ?_); refine goesL_ (some 49) rfl rfl Try.func56 (by kernel_rfl) rfl #[.int .i64 a0, .int .u64 x8_11] rfl (by (try simp only [List.map_toArray, List.map_cons, List.map_nil]); first | done | rfl | (simp only [List.length_drop, List.length_take]; rfl)) ?_; (with_reducible refine (jacquardref01_Fit.calls kj11 a0 x8_11 t424 _ A25.out).mono ?_); rintro e w29 ⟨rfl, hb⟩; refine ⟨_, rfl, ?_⟩; have n0_ := Aside0.mk (below_step (by repeat (first | (with_reducible first | exact HB.out | apply below_alloc | apply pw_below_drewN | apply below_drew1) | exact HB.out)) hb); clear HB; have HB := n0_; clear n0_; (try clear hb); (try clear hb2); (try clear hk); (try clear hi)) | ((with_reducible refine gate_callee (f := 56) rfl ?_); refine goesL_ (some 52) rfl rfl Try.func56 (by kernel_rfl) rfl #[.int .i64 a0, .int .u64 t423] rfl (by (try simp only [List.map_toArray, List.map_cons, List.map_nil]); first | done | rfl | (simp only [List.length_drop, List.length_take]; rfl)) ?_; (with_reducible refine (jacquardref01_Fit.calls kj11 a0 t423 t425 _ A26.out).mono ?_); rintro e w30 ⟨rfl, hb⟩; refine ⟨_, rfl, ?_⟩; have n0_ := Aside0.mk (below_step (by repeat (first | (with_reducible first | exact HB.out | apply below_alloc | apply pw_below_drewN | apply below_drew1) | exact HB.out)) hb); clear HB; have HB := n0_; clear n0_; (try clear hb); (try clear hb2); (try clear hk); (try clear hi)))
            go_ret2
            exact ⟨by first | rfl | (simp [errW_none, errW_some] <;> rfl) | (simp [*, errW_none, errW_some] <;> rfl), by repeat (first | (with_reducible first | exact HB.out | apply below_alloc | apply pw_below_drewN | apply below_drew1) | exact HB.out)⟩
          · replace c23 := Bool.eq_false_iff.mpr c23
            subst c23
            have H1 : ((jacquardref01_Fit.f kj11 a0 x8_11).bind fun t426 => ((jacquardref01_Fit.f kj11 a0 (IntKind.u64.wrap (t417 - (IntKind.u64.wrap ((IntKind.u64.wrap (Int.tdiv t417 t418)) * t418))))).bind fun t427 => (some (t426, t427)))) = some (r1, r2) := by rw [if_neg (show ¬ (false = true) by decide)] at H; exact H
            clear H
            have H := H1
            clear H1
            replace H := Option.bind_eq_some_iff.mp H
            obtain ⟨t426, A310, H⟩ := H
            replace H : ((jacquardref01_Fit.f kj11 a0 (IntKind.u64.wrap (t417 - (IntKind.u64.wrap ((IntKind.u64.wrap (Int.tdiv t417 t418)) * t418))))).bind fun t427 => (some (t426, t427))) = some (r1, r2) := H
            have A31 := Aside0.mk A310
            clear A310
            replace H := Option.bind_eq_some_iff.mp H
            obtain ⟨t427, A320, H⟩ := H
            replace H : (some (t426, t427)) = some (r1, r2) := H
            have A32 := Aside0.mk A320
            clear A320
            simp only [Option.some.injEq, Prod.mk.injEq] at H
            obtain ⟨rfl, rfl⟩ := H
            go_wp2_with (first | ((with_reducible refine gate_callee (f := 79) rfl ?_); refine goesL_ (some 43) rfl rfl Try.func79 (by kernel_rfl) rfl #[.int .i64 a0, .int .u64 a1] rfl (by (try simp only [List.map_toArray, List.map_cons, List.map_nil]); first | done | rfl | (simp only [List.length_drop, List.length_take]; rfl)) ?_; (with_reducible refine (jacquardref01_Negative.calls kj11 a0 a1 false _ A22.out).mono ?_); rintro e w33 ⟨rfl, hb⟩; refine ⟨_, rfl, ?_⟩; have n0_ := Aside0.mk (below_step (by repeat (first | (with_reducible first | exact HB.out | apply below_alloc | apply pw_below_drewN | apply below_drew1) | exact HB.out)) hb); clear HB; have HB := n0_; clear n0_; (try clear hb); (try clear hb2); (try clear hk); (try clear hi)) | ((with_reducible refine gate_callee (f := 56) rfl ?_); refine goesL_ (some 49) rfl rfl Try.func56 (by kernel_rfl) rfl #[.int .i64 a0, .int .u64 x8_11] rfl (by (try simp only [List.map_toArray, List.map_cons, List.map_nil]); first | done | rfl | (simp only [List.length_drop, List.length_take]; rfl)) ?_; (with_reducible refine (jacquardref01_Fit.calls kj11 a0 x8_11 t426 _ A31.out).mono ?_); rintro e w34 ⟨rfl, hb⟩; refine ⟨_, rfl, ?_⟩; have n0_ := Aside0.mk (below_step (by repeat (first | (with_reducible first | exact HB.out | apply below_alloc | apply pw_below_drewN | apply below_drew1) | exact HB.out)) hb); clear HB; have HB := n0_; clear n0_; (try clear hb); (try clear hb2); (try clear hk); (try clear hi)) | ((with_reducible refine gate_callee (f := 56) rfl ?_); refine goesL_ (some 52) rfl rfl Try.func56 (by kernel_rfl) rfl #[.int .i64 a0, .int .u64 (IntKind.u64.wrap (t417 - (IntKind.u64.wrap ((IntKind.u64.wrap (Int.tdiv t417 t418)) * t418))))] rfl (by (try simp only [List.map_toArray, List.map_cons, List.map_nil]); first | done | rfl | (simp only [List.length_drop, List.length_take]; rfl)) ?_; (with_reducible refine (jacquardref01_Fit.calls kj11 a0 (IntKind.u64.wrap (t417 - (IntKind.u64.wrap ((IntKind.u64.wrap (Int.tdiv t417 t418)) * t418)))) t427 _ A32.out).mono ?_); rintro e w35 ⟨rfl, hb⟩; refine ⟨_, rfl, ?_⟩; have n0_ := Aside0.mk (below_step (by repeat (first | (with_reducible first | exact HB.out | apply below_alloc | apply pw_below_drewN | apply below_drew1) | exact HB.out)) hb); clear HB; have HB := n0_; clear n0_; (try clear hb); (try clear hb2); (try clear hk); (try clear hi)))
            go_ret2
            exact ⟨by first | rfl | (simp [errW_none, errW_some] <;> rfl) | (simp [*, errW_none, errW_some] <;> rfl), by repeat (first | (with_reducible first | exact HB.out | apply below_alloc | apply pw_below_drewN | apply below_drew1) | exact HB.out)⟩

end Go.Proofs.Ytanmehdcccldfaa.P
