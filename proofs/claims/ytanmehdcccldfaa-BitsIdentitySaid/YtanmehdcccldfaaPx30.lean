-- made by a program of this work (wip/mkprint.py, wip/mp.sh) out of the translation
import Derived.Test.YtanmehdcccldfaaPx0
import Derived.Test.YtanmehdcccldfaaPx2
import Derived.Test.YtanmehdcccldfaaPx16
import Derived.Test.YtanmehdcccldfaaPx17
import Derived.Test.YtanmehdcccldfaaPx29
namespace Go.Proofs.Ytanmehdcccldfaa.P
open Go.RowKit Go.Proofs.YtanmehdcccldfaaW.PrintWords Go.Proofs.YtanmehdcccldfaaW.PrintLast Go.Proofs.YtanmehdcccldfaaW.PrintMore
attribute [local go_sem] max2_int min2_int max_two min_two max_three min_three max_four min_four   -- for this text's walks alone
set_option linter.unusedVariables false
set_option linter.unusedSimpArgs false

/-! ### jacquardlaw01_BitsIdentity: function 12 -/
mutual
def jacquardlaw01_BitsIdentity.j0 : Nat → Int → Int → Int → Int → Bool → Bool → Option (Bool)
  | 0, _, _, _, _, _, _ => none
  | k + 1, x0, x1, x2, x7, x8, x9 => if x9 = true then ((jacquardref01_Right.f x1).bind fun t585 => (if (x8 != t585) = true then (jacquardlaw01_BitsIdentity.j1 k x0 x1 x2 x7 x8 true) else (if x8 = true then (jacquardlaw01_BitsIdentity.j1 k x0 x1 x2 x7 x8 false) else (jacquardlaw01_BitsIdentity.j1 k x0 x1 x2 x7 x8 (x7 != 0))))) else (if (x8 != false) = true then (jacquardlaw01_BitsIdentity.j1 k x0 x1 x2 x7 x8 true) else (if x8 = true then (jacquardlaw01_BitsIdentity.j1 k x0 x1 x2 x7 x8 false) else (jacquardlaw01_BitsIdentity.j1 k x0 x1 x2 x7 x8 (x7 != 0))))
def jacquardlaw01_BitsIdentity.j1 : Nat → Int → Int → Int → Int → Bool → Bool → Option (Bool)
  | 0, _, _, _, _, _, _ => none
  | k + 1, x0, x1, x2, x7, x8, x56 => if x56 = true then (some false) else (if x8 = true then ((bits_Binary.f k x0 x1 x2 x7).bind fun bt586 => (if bt586.2 = 0 then ((bits_Fit.f x1 x2).bind fun t588 => (some (bt586.1 == t588))) else (some false))) else (some true))
end
def jacquardlaw01_BitsIdentity.f (k : Nat) (a0 : Int) (a1 : Int) (a2 : Int) : Option (Bool) := (jacquardlaw01_awake.f k).bind fun t582 => (if t582 = true then ((bits_Identity.f k a0 a1).bind fun bt583 => (if a0 ≥ 2 then (if a0 ≤ 4 then (jacquardlaw01_BitsIdentity.j0 k a0 a1 a2 bt583.1 bt583.2 true) else (if a0 = 5 then (jacquardlaw01_BitsIdentity.j0 k a0 a1 a2 bt583.1 bt583.2 true) else (if a0 = 7 then (jacquardlaw01_BitsIdentity.j0 k a0 a1 a2 bt583.1 bt583.2 true) else (if a0 ≥ 9 then (jacquardlaw01_BitsIdentity.j0 k a0 a1 a2 bt583.1 bt583.2 (decide (a0 ≤ 14))) else (jacquardlaw01_BitsIdentity.j0 k a0 a1 a2 bt583.1 bt583.2 false))))) else (if a0 = 5 then (jacquardlaw01_BitsIdentity.j0 k a0 a1 a2 bt583.1 bt583.2 true) else (if a0 = 7 then (jacquardlaw01_BitsIdentity.j0 k a0 a1 a2 bt583.1 bt583.2 true) else (if a0 ≥ 9 then (jacquardlaw01_BitsIdentity.j0 k a0 a1 a2 bt583.1 bt583.2 (decide (a0 ≤ 14))) else (jacquardlaw01_BitsIdentity.j0 k a0 a1 a2 bt583.1 bt583.2 false)))))) else (some false))
theorem jacquardlaw01_BitsIdentity.mono_l : ∀ k, (∀ y0 y1 y2 y3 y4 y5, LeO (jacquardlaw01_BitsIdentity.j0 k y0 y1 y2 y3 y4 y5) (jacquardlaw01_BitsIdentity.j0 (k + 1) y0 y1 y2 y3 y4 y5)) ∧ (∀ y0 y1 y2 y3 y4 y5, LeO (jacquardlaw01_BitsIdentity.j1 k y0 y1 y2 y3 y4 y5) (jacquardlaw01_BitsIdentity.j1 (k + 1) y0 y1 y2 y3 y4 y5))
  | 0 => ⟨fun _ _ _ _ _ _ r h => by simp [jacquardlaw01_BitsIdentity.j0] at h, fun _ _ _ _ _ _ r h => by simp [jacquardlaw01_BitsIdentity.j1] at h⟩
  | k + 1 => by
    obtain ⟨ih0, ih1⟩ := jacquardlaw01_BitsIdentity.mono_l k
    refine ⟨?_, ?_⟩
    · intro y0 y1 y2 y3 y4 y5
      unfold jacquardlaw01_BitsIdentity.j0
      repeat' first
      | (with_reducible exact ih0 _ _ _ _ _ _)
      | (with_reducible exact ih1 _ _ _ _ _ _)
      | (with_reducible exact bits_Binary.mono _ _ _ _ _)
      | (with_reducible exact bits_Identity.mono _ _ _)
      | (with_reducible exact jacquardlaw01_awake.mono _)
      | (with_reducible exact LeO.refl _)
      | (with_reducible exact LeO.none _)
      | (with_reducible refine LeO.ite ?_ ?_)
      | (with_reducible refine LeO.bind ?_ (fun _ => ?_))
      | exact ih0 _ _ _ _ _ _
      | exact ih1 _ _ _ _ _ _
      | exact bits_Binary.mono _ _ _ _ _
      | exact bits_Identity.mono _ _ _
      | exact jacquardlaw01_awake.mono _
      | exact LeO.none _
      | refine LeO.ite ?_ ?_
      | refine LeO.bind ?_ (fun _ => ?_)
    · intro y0 y1 y2 y3 y4 y5
      unfold jacquardlaw01_BitsIdentity.j1
      repeat' first
      | (with_reducible exact ih0 _ _ _ _ _ _)
      | (with_reducible exact ih1 _ _ _ _ _ _)
      | (with_reducible exact bits_Binary.mono _ _ _ _ _)
      | (with_reducible exact bits_Identity.mono _ _ _)
      | (with_reducible exact jacquardlaw01_awake.mono _)
      | (with_reducible exact LeO.refl _)
      | (with_reducible exact LeO.none _)
      | (with_reducible refine LeO.ite ?_ ?_)
      | (with_reducible refine LeO.bind ?_ (fun _ => ?_))
      | exact ih0 _ _ _ _ _ _
      | exact ih1 _ _ _ _ _ _
      | exact bits_Binary.mono _ _ _ _ _
      | exact bits_Identity.mono _ _ _
      | exact jacquardlaw01_awake.mono _
      | exact LeO.none _
      | refine LeO.ite ?_ ?_
      | refine LeO.bind ?_ (fun _ => ?_)
theorem jacquardlaw01_BitsIdentity.mono : ∀ a0 a1 a2 k, LeO (jacquardlaw01_BitsIdentity.f k a0 a1 a2) (jacquardlaw01_BitsIdentity.f (k + 1) a0 a1 a2) := by
  intro a0 a1 a2 k
  obtain ⟨ih0, ih1⟩ := jacquardlaw01_BitsIdentity.mono_l k
  unfold jacquardlaw01_BitsIdentity.f
  repeat' first
      | (with_reducible exact ih0 _ _ _ _ _ _)
      | (with_reducible exact ih1 _ _ _ _ _ _)
      | (with_reducible exact bits_Binary.mono _ _ _ _ _)
      | (with_reducible exact bits_Identity.mono _ _ _)
      | (with_reducible exact jacquardlaw01_awake.mono _)
      | (with_reducible exact LeO.refl _)
      | (with_reducible exact LeO.none _)
      | (with_reducible refine LeO.ite ?_ ?_)
      | (with_reducible refine LeO.bind ?_ (fun _ => ?_))
      | exact ih0 _ _ _ _ _ _
      | exact ih1 _ _ _ _ _ _
      | exact bits_Binary.mono _ _ _ _ _
      | exact bits_Identity.mono _ _ _
      | exact jacquardlaw01_awake.mono _
      | exact LeO.none _
      | refine LeO.ite ?_ ?_
      | refine LeO.bind ?_ (fun _ => ?_)
set_option maxHeartbeats 8000000 in
set_option maxRecDepth 100000 in
theorem jacquardlaw01_BitsIdentity.calls (k : Nat) (a0 : Int) (a1 : Int) (a2 : Int) (r : Bool) (w : World) (h : jacquardlaw01_BitsIdentity.f k a0 a1 a2 = some r) :
    Calls Try.prog 12 #[.int .i64 a0, .int .i64 a1, .int .u64 a2] w fun e w' => e = .returned (.bool r) ∧ Below w.heap.size w w' := by
  have HB := Aside0.mk (Below.refl w.heap.size w)
  have H : ((jacquardlaw01_awake.f k).bind fun t582 => (if t582 = true then ((bits_Identity.f k a0 a1).bind fun bt583 => (if a0 ≥ 2 then (if a0 ≤ 4 then (jacquardlaw01_BitsIdentity.j0 k a0 a1 a2 bt583.1 bt583.2 true) else (if a0 = 5 then (jacquardlaw01_BitsIdentity.j0 k a0 a1 a2 bt583.1 bt583.2 true) else (if a0 = 7 then (jacquardlaw01_BitsIdentity.j0 k a0 a1 a2 bt583.1 bt583.2 true) else (if a0 ≥ 9 then (jacquardlaw01_BitsIdentity.j0 k a0 a1 a2 bt583.1 bt583.2 (decide (a0 ≤ 14))) else (jacquardlaw01_BitsIdentity.j0 k a0 a1 a2 bt583.1 bt583.2 false))))) else (if a0 = 5 then (jacquardlaw01_BitsIdentity.j0 k a0 a1 a2 bt583.1 bt583.2 true) else (if a0 = 7 then (jacquardlaw01_BitsIdentity.j0 k a0 a1 a2 bt583.1 bt583.2 true) else (if a0 ≥ 9 then (jacquardlaw01_BitsIdentity.j0 k a0 a1 a2 bt583.1 bt583.2 (decide (a0 ≤ 14))) else (jacquardlaw01_BitsIdentity.j0 k a0 a1 a2 bt583.1 bt583.2 false)))))) else (some false))) = some r := h
  clear h
  replace H := Option.bind_eq_some_iff.mp H
  obtain ⟨t582, A40, H⟩ := H
  replace H : (if t582 = true then ((bits_Identity.f k a0 a1).bind fun bt583 => (if a0 ≥ 2 then (if a0 ≤ 4 then (jacquardlaw01_BitsIdentity.j0 k a0 a1 a2 bt583.1 bt583.2 true) else (if a0 = 5 then (jacquardlaw01_BitsIdentity.j0 k a0 a1 a2 bt583.1 bt583.2 true) else (if a0 = 7 then (jacquardlaw01_BitsIdentity.j0 k a0 a1 a2 bt583.1 bt583.2 true) else (if a0 ≥ 9 then (jacquardlaw01_BitsIdentity.j0 k a0 a1 a2 bt583.1 bt583.2 (decide (a0 ≤ 14))) else (jacquardlaw01_BitsIdentity.j0 k a0 a1 a2 bt583.1 bt583.2 false))))) else (if a0 = 5 then (jacquardlaw01_BitsIdentity.j0 k a0 a1 a2 bt583.1 bt583.2 true) else (if a0 = 7 then (jacquardlaw01_BitsIdentity.j0 k a0 a1 a2 bt583.1 bt583.2 true) else (if a0 ≥ 9 then (jacquardlaw01_BitsIdentity.j0 k a0 a1 a2 bt583.1 bt583.2 (decide (a0 ≤ 14))) else (jacquardlaw01_BitsIdentity.j0 k a0 a1 a2 bt583.1 bt583.2 false)))))) else (some false)) = some r := H
  have A4 := Aside0.mk A40
  clear A40
  by_cases c5 : t582 = true
  · subst c5
    have H1 : ((bits_Identity.f k a0 a1).bind fun bt583 => (if a0 ≥ 2 then (if a0 ≤ 4 then (jacquardlaw01_BitsIdentity.j0 k a0 a1 a2 bt583.1 bt583.2 true) else (if a0 = 5 then (jacquardlaw01_BitsIdentity.j0 k a0 a1 a2 bt583.1 bt583.2 true) else (if a0 = 7 then (jacquardlaw01_BitsIdentity.j0 k a0 a1 a2 bt583.1 bt583.2 true) else (if a0 ≥ 9 then (jacquardlaw01_BitsIdentity.j0 k a0 a1 a2 bt583.1 bt583.2 (decide (a0 ≤ 14))) else (jacquardlaw01_BitsIdentity.j0 k a0 a1 a2 bt583.1 bt583.2 false))))) else (if a0 = 5 then (jacquardlaw01_BitsIdentity.j0 k a0 a1 a2 bt583.1 bt583.2 true) else (if a0 = 7 then (jacquardlaw01_BitsIdentity.j0 k a0 a1 a2 bt583.1 bt583.2 true) else (if a0 ≥ 9 then (jacquardlaw01_BitsIdentity.j0 k a0 a1 a2 bt583.1 bt583.2 (decide (a0 ≤ 14))) else (jacquardlaw01_BitsIdentity.j0 k a0 a1 a2 bt583.1 bt583.2 false)))))) = some r := by rw [if_pos rfl] at H; exact H
    clear H
    have H := H1
    clear H1
    replace H := Option.bind_eq_some_iff.mp H
    obtain ⟨⟨t583, t584⟩, A60, H⟩ := H
    replace H : (if a0 ≥ 2 then (if a0 ≤ 4 then (jacquardlaw01_BitsIdentity.j0 k a0 a1 a2 t583 t584 true) else (if a0 = 5 then (jacquardlaw01_BitsIdentity.j0 k a0 a1 a2 t583 t584 true) else (if a0 = 7 then (jacquardlaw01_BitsIdentity.j0 k a0 a1 a2 t583 t584 true) else (if a0 ≥ 9 then (jacquardlaw01_BitsIdentity.j0 k a0 a1 a2 t583 t584 (decide (a0 ≤ 14))) else (jacquardlaw01_BitsIdentity.j0 k a0 a1 a2 t583 t584 false))))) else (if a0 = 5 then (jacquardlaw01_BitsIdentity.j0 k a0 a1 a2 t583 t584 true) else (if a0 = 7 then (jacquardlaw01_BitsIdentity.j0 k a0 a1 a2 t583 t584 true) else (if a0 ≥ 9 then (jacquardlaw01_BitsIdentity.j0 k a0 a1 a2 t583 t584 (decide (a0 ≤ 14))) else (jacquardlaw01_BitsIdentity.j0 k a0 a1 a2 t583 t584 false))))) = some r := H
    have A6 := Aside0.mk A60
    clear A60
    have HC7 := Aside0.mk H
    clear H
    go_enter Try.func12, Try.ntmps12
    go_upto_region 4 with (first | ((with_reducible refine gate_callee (f := 42) rfl ?_); refine goesL_ (some 12) rfl rfl Try.func42 (by kernel_rfl) rfl #[] rfl (by (try simp only [List.map_toArray, List.map_cons, List.map_nil]); first | done | rfl | (simp only [List.length_drop, List.length_take]; rfl)) ?_; (with_reducible refine (jacquardlaw01_awake.calls k  true _ A4.out).mono ?_); rintro e w8 ⟨rfl, hb⟩; refine ⟨_, rfl, ?_⟩; have n0_ := Aside0.mk (below_step (by repeat (first | (with_reducible first | exact HB.out | apply below_alloc | apply pw_below_drewN | apply below_drew1) | exact HB.out)) hb); clear HB; have HB := n0_; clear n0_; (try clear hb); (try clear hb2); (try clear hk); (try clear hi)) | ((with_reducible refine gate_callee (f := 54) rfl ?_); refine goesL_ (some 17) rfl rfl Try.func54 (by kernel_rfl) rfl #[.int .i64 a0, .int .i64 a1] rfl (by (try simp only [List.map_toArray, List.map_cons, List.map_nil]); first | done | rfl | (simp only [List.length_drop, List.length_take]; rfl)) ?_; (with_reducible refine (bits_Identity.calls k a0 a1 t583 t584 _ A6.out).mono ?_); rintro e w9 ⟨rfl, hb⟩; refine ⟨_, rfl, ?_⟩; have n0_ := Aside0.mk (below_step (by repeat (first | (with_reducible first | exact HB.out | apply below_alloc | apply pw_below_drewN | apply below_drew1) | exact HB.out)) hb); clear HB; have HB := n0_; clear n0_; (try clear hb); (try clear hb2); (try clear hk); (try clear hi)))
    (try simp only [Act.put, List.setIfInBounds_toArray, List.set_cons_zero, List.set_cons_succ])
    go_cut [9] (fun v9 wc => ∃ (kq : Nat) (x9_6 : Bool), v9 = .bool x9_6 ∧ Aside0 (jacquardlaw01_BitsIdentity.j0 kq a0 a1 a2 t583 t584 x9_6 = some r) ∧ Aside0 (kq ≤ k) ∧ Aside0 (Below w.heap.size w wc))
    case first =>
      have H := HC7.out
      clear HC7
      by_cases c10 : a0 ≥ 2
      · rw [if_pos c10] at H
        have c10b0 : decide (2 ≤ a0) = true := decide_eq_true c10
        clear c10
        (first | rw [c10b0] | (simp only [i64_w, i32_w]; rw [c10b0]) | skip)
        by_cases c11 : a0 ≤ 4
        · rw [if_pos c11] at H
          have c11b0 : decide (a0 ≤ 4) = true := decide_eq_true c11
          clear c11
          have H' := Aside0.mk H
          clear H
          go_wp2
          go_meet
          case rel => exact ⟨_, (true), (by first | rfl | (simp; done) | (simp [*]; done)), H', ⟨by first | omega | exact Nat.le_refl _⟩, ⟨by repeat (first | (with_reducible first | exact HB.out | apply below_alloc | apply pw_below_drewN | apply below_drew1) | exact HB.out)⟩⟩
        · rw [if_neg c11] at H
          have c11b0 : decide (a0 ≤ 4) = false := decide_eq_false c11
          clear c11
          by_cases c12 : a0 = 5
          · rw [if_pos c12] at H
            have c12b0 : (a0 == 5) = true := beq_iff_eq.mpr c12
            have c12b1 : (a0 != 5) = false := bne_eq_false_iff_eq.mpr c12
            clear c12
            have H' := Aside0.mk H
            clear H
            go_wp2
            go_meet
            case rel => exact ⟨_, (true), (by first | rfl | (simp; done) | (simp [*]; done)), H', ⟨by first | omega | exact Nat.le_refl _⟩, ⟨by repeat (first | (with_reducible first | exact HB.out | apply below_alloc | apply pw_below_drewN | apply below_drew1) | exact HB.out)⟩⟩
          · rw [if_neg c12] at H
            have c12b0 : (a0 == 5) = false := beq_eq_false_iff_ne.mpr c12
            have c12b1 : (a0 != 5) = true := bne_iff_ne.mpr c12
            by_cases c13 : a0 = 7
            · rw [if_pos c13] at H
              have c13b0 : (a0 == 7) = true := beq_iff_eq.mpr c13
              have c13b1 : (a0 != 7) = false := bne_eq_false_iff_eq.mpr c13
              clear c13
              have H' := Aside0.mk H
              clear H
              go_wp2
              go_meet
              case rel => exact ⟨_, (true), (by first | rfl | (simp; done) | (simp [*]; done)), H', ⟨by first | omega | exact Nat.le_refl _⟩, ⟨by repeat (first | (with_reducible first | exact HB.out | apply below_alloc | apply pw_below_drewN | apply below_drew1) | exact HB.out)⟩⟩
            · rw [if_neg c13] at H
              have c13b0 : (a0 == 7) = false := beq_eq_false_iff_ne.mpr c13
              have c13b1 : (a0 != 7) = true := bne_iff_ne.mpr c13
              by_cases c14 : a0 ≥ 9
              · rw [if_pos c14] at H
                have c14b0 : decide (9 ≤ a0) = true := decide_eq_true c14
                clear c14
                have H' := Aside0.mk H
                clear H
                go_wp2
                go_meet
                case rel => exact ⟨_, (decide (a0 ≤ 14)), (by first | rfl | (simp; done) | (simp [*]; done)), H', ⟨by first | omega | exact Nat.le_refl _⟩, ⟨by repeat (first | (with_reducible first | exact HB.out | apply below_alloc | apply pw_below_drewN | apply below_drew1) | exact HB.out)⟩⟩
              · rw [if_neg c14] at H
                have c14b0 : decide (9 ≤ a0) = false := decide_eq_false c14
                clear c14
                have H' := Aside0.mk H
                clear H
                go_wp2
                go_meet
                case rel => exact ⟨_, (false), (by first | rfl | (simp; done) | (simp [*]; done)), H', ⟨by first | omega | exact Nat.le_refl _⟩, ⟨by repeat (first | (with_reducible first | exact HB.out | apply below_alloc | apply pw_below_drewN | apply below_drew1) | exact HB.out)⟩⟩
      · rw [if_neg c10] at H
        have c10b0 : decide (2 ≤ a0) = false := decide_eq_false c10
        clear c10
        (first | rw [c10b0] | (simp only [i64_w, i32_w]; rw [c10b0]) | skip)
        by_cases c15 : a0 = 5
        · rw [if_pos c15] at H
          have c15b0 : (a0 == 5) = true := beq_iff_eq.mpr c15
          have c15b1 : (a0 != 5) = false := bne_eq_false_iff_eq.mpr c15
          clear c15
          have H' := Aside0.mk H
          clear H
          go_wp2
          go_meet
          case rel => exact ⟨_, (true), (by first | rfl | (simp; done) | (simp [*]; done)), H', ⟨by first | omega | exact Nat.le_refl _⟩, ⟨by repeat (first | (with_reducible first | exact HB.out | apply below_alloc | apply pw_below_drewN | apply below_drew1) | exact HB.out)⟩⟩
        · rw [if_neg c15] at H
          have c15b0 : (a0 == 5) = false := beq_eq_false_iff_ne.mpr c15
          have c15b1 : (a0 != 5) = true := bne_iff_ne.mpr c15
          by_cases c16 : a0 = 7
          · rw [if_pos c16] at H
            have c16b0 : (a0 == 7) = true := beq_iff_eq.mpr c16
            have c16b1 : (a0 != 7) = false := bne_eq_false_iff_eq.mpr c16
            clear c16
            have H' := Aside0.mk H
            clear H
            go_wp2
            go_meet
            case rel => exact ⟨_, (true), (by first | rfl | (simp; done) | (simp [*]; done)), H', ⟨by first | omega | exact Nat.le_refl _⟩, ⟨by repeat (first | (with_reducible first | exact HB.out | apply below_alloc | apply pw_below_drewN | apply below_drew1) | exact HB.out)⟩⟩
          · rw [if_neg c16] at H
            have c16b0 : (a0 == 7) = false := beq_eq_false_iff_ne.mpr c16
            have c16b1 : (a0 != 7) = true := bne_iff_ne.mpr c16
            by_cases c17 : a0 ≥ 9
            · rw [if_pos c17] at H
              have c17b0 : decide (9 ≤ a0) = true := decide_eq_true c17
              clear c17
              have H' := Aside0.mk H
              clear H
              go_wp2
              go_meet
              case rel => exact ⟨_, (decide (a0 ≤ 14)), (by first | rfl | (simp; done) | (simp [*]; done)), H', ⟨by first | omega | exact Nat.le_refl _⟩, ⟨by repeat (first | (with_reducible first | exact HB.out | apply below_alloc | apply pw_below_drewN | apply below_drew1) | exact HB.out)⟩⟩
            · rw [if_neg c17] at H
              have c17b0 : decide (9 ≤ a0) = false := decide_eq_false c17
              clear c17
              have H' := Aside0.mk H
              clear H
              go_wp2
              go_meet
              case rel => exact ⟨_, (false), (by first | rfl | (simp; done) | (simp [*]; done)), H', ⟨by first | omega | exact Nat.le_refl _⟩, ⟨by repeat (first | (with_reducible first | exact HB.out | apply below_alloc | apply pw_below_drewN | apply below_drew1) | exact HB.out)⟩⟩
    case rest =>
      clear HC7
      try clear c1
      try clear p2
      try clear c4
      try clear c5
      try clear c10
      try clear c10b0
      try clear c11
      try clear c11b0
      try clear c12
      try clear c12b0
      try clear c12b1
      try clear c13
      try clear c13b0
      try clear c13b1
      try clear c14
      try clear c14b0
      try clear c15
      try clear c15b0
      try clear c15b1
      try clear c16
      try clear c16b0
      try clear c16b1
      try clear c17
      try clear c17b0
      obtain ⟨kq, x9_6, rfl, HA, HJ6, HB⟩ := hcut
      cases kq with
      | zero => exact absurd HA.out (by simp [jacquardlaw01_BitsIdentity.j0])
      | succ kj6 =>
        have H := HA.out
        clear HA
        simp only [jacquardlaw01_BitsIdentity.j0] at H
        have HC18 := Aside0.mk H
        clear H
        go_upto_region 5 with (fail)
        go_cut [56] (fun v56 wc => ∃ (kq : Nat) (x56_17 : Bool), v56 = .bool x56_17 ∧ Aside0 (jacquardlaw01_BitsIdentity.j1 kq a0 a1 a2 t583 t584 x56_17 = some r) ∧ Aside0 (kq ≤ kj6) ∧ Aside0 (Below w.heap.size w wc))
        case first =>
          have H := HC18.out
          clear HC18
          by_cases c19 : x9_6 = true
          · subst c19
            have H1 : ((jacquardref01_Right.f a1).bind fun t585 => (if (t584 != t585) = true then (jacquardlaw01_BitsIdentity.j1 kj6 a0 a1 a2 t583 t584 true) else (if t584 = true then (jacquardlaw01_BitsIdentity.j1 kj6 a0 a1 a2 t583 t584 false) else (jacquardlaw01_BitsIdentity.j1 kj6 a0 a1 a2 t583 t584 (t583 != 0))))) = some r := by rw [if_pos rfl] at H; exact H
            clear H
            have H := H1
            clear H1
            replace H := Option.bind_eq_some_iff.mp H
            obtain ⟨t585, A200, H⟩ := H
            replace H : (if (t584 != t585) = true then (jacquardlaw01_BitsIdentity.j1 kj6 a0 a1 a2 t583 t584 true) else (if t584 = true then (jacquardlaw01_BitsIdentity.j1 kj6 a0 a1 a2 t583 t584 false) else (jacquardlaw01_BitsIdentity.j1 kj6 a0 a1 a2 t583 t584 (t583 != 0)))) = some r := H
            have A20 := Aside0.mk A200
            clear A200
            by_cases c21 : (t584 != t585) = true
            · rw [if_pos c21] at H
              have c21b0 : (t584 != t585) = true := c21
              (try (have c21b1 : decide (t584 = t585) = false := by simpa using c21))
              (try (have c21b2 : (t584 == t585) = false := by simpa using c21))
              (try (have c21b3 : ¬ (t584 = t585) := by simpa using c21))
              clear c21
              (first | rw [c21b0] | (simp only [i64_w, i32_w]; rw [c21b0]) | skip)
              (first | rw [show (!(t584 == t585)) = true by revert c21b0; cases t584 <;> cases t585 <;> simp] | rw [show ((!t584) == t585) = true by revert c21b0; cases t584 <;> cases t585 <;> simp] | skip)
              have H' := Aside0.mk H
              clear H
              go_wp2_with (first | (go_at_call 45; (with_reducible refine (jacquardref01_Right.calls a1 t585 _ A20.out).mono ?_); rintro e w' ⟨rfl, ⟨nd, rfl⟩⟩))
              go_meet
              case rel => exact ⟨_, (true), (by first | rfl | (simp; done) | (simp [*]; done)), H', ⟨by have := HJ6.out; first | omega | exact Nat.le_refl _⟩, ⟨by repeat (first | (with_reducible first | exact HB.out | apply below_alloc | apply pw_below_drewN | apply below_drew1) | exact HB.out)⟩⟩
            · rw [if_neg c21] at H
              have c21b0 : (t584 != t585) = false := by simpa using c21
              (try (have c21b1 : decide (t584 = t585) = true := by simpa using c21))
              (try (have c21b2 : (t584 == t585) = true := by simpa using c21))
              clear c21
              (first | rw [c21b0] | (simp only [i64_w, i32_w]; rw [c21b0]) | skip)
              (first | rw [show (!(t584 == t585)) = false by revert c21b0; cases t584 <;> cases t585 <;> simp] | rw [show ((!t584) == t585) = false by revert c21b0; cases t584 <;> cases t585 <;> simp] | skip)
              by_cases c22 : t584 = true
              · subst c22
                have H1 : (jacquardlaw01_BitsIdentity.j1 kj6 a0 a1 a2 t583 true false) = some r := by rw [if_pos rfl] at H; exact H
                clear H
                have H := H1
                clear H1
                have H' := Aside0.mk H
                clear H
                go_wp2_with (first | (go_at_call 45; (with_reducible refine (jacquardref01_Right.calls a1 t585 _ A20.out).mono ?_); rintro e w' ⟨rfl, ⟨nd, rfl⟩⟩))
                go_meet
                case rel => exact ⟨_, (false), (by first | rfl | (simp; done) | (simp [*]; done)), H', ⟨by have := HJ6.out; first | omega | exact Nat.le_refl _⟩, ⟨by repeat (first | (with_reducible first | exact HB.out | apply below_alloc | apply pw_below_drewN | apply below_drew1) | exact HB.out)⟩⟩
              · replace c22 := Bool.eq_false_iff.mpr c22
                subst c22
                have H1 : (jacquardlaw01_BitsIdentity.j1 kj6 a0 a1 a2 t583 false (t583 != 0)) = some r := by rw [if_neg (show ¬ (false = true) by decide)] at H; exact H
                clear H
                have H := H1
                clear H1
                have H' := Aside0.mk H
                clear H
                go_wp2_with (first | (go_at_call 45; (with_reducible refine (jacquardref01_Right.calls a1 t585 _ A20.out).mono ?_); rintro e w' ⟨rfl, ⟨nd, rfl⟩⟩))
                go_meet
                case rel => exact ⟨_, ((t583 != 0)), (by first | rfl | (simp; done) | (simp [*]; done)), H', ⟨by have := HJ6.out; first | omega | exact Nat.le_refl _⟩, ⟨by repeat (first | (with_reducible first | exact HB.out | apply below_alloc | apply pw_below_drewN | apply below_drew1) | exact HB.out)⟩⟩
          · replace c19 := Bool.eq_false_iff.mpr c19
            subst c19
            have H1 : (if (t584 != false) = true then (jacquardlaw01_BitsIdentity.j1 kj6 a0 a1 a2 t583 t584 true) else (if t584 = true then (jacquardlaw01_BitsIdentity.j1 kj6 a0 a1 a2 t583 t584 false) else (jacquardlaw01_BitsIdentity.j1 kj6 a0 a1 a2 t583 t584 (t583 != 0)))) = some r := by rw [if_neg (show ¬ (false = true) by decide)] at H; exact H
            clear H
            have H := H1
            clear H1
            by_cases c23 : (t584 != false) = true
            · rw [if_pos c23] at H
              have c23b0 : (t584 != false) = true := c23
              (try (have c23b1 : decide (t584 = false) = false := by simpa using c23))
              (try (have c23b2 : (t584 == false) = false := by simpa using c23))
              (try (have c23b3 : ¬ (t584 = false) := by simpa using c23))
              clear c23
              have H' := Aside0.mk H
              clear H
              go_wp2
              go_meet
              case rel => exact ⟨_, (true), (by first | rfl | (simp; done) | (simp [*]; done)), H', ⟨by have := HJ6.out; first | omega | exact Nat.le_refl _⟩, ⟨by repeat (first | (with_reducible first | exact HB.out | apply below_alloc | apply pw_below_drewN | apply below_drew1) | exact HB.out)⟩⟩
            · rw [if_neg c23] at H
              have c23b0 : (t584 != false) = false := by simpa using c23
              (try (have c23b1 : decide (t584 = false) = true := by simpa using c23))
              (try (have c23b2 : (t584 == false) = true := by simpa using c23))
              clear c23
              by_cases c24 : t584 = true
              · subst c24
                have H1 : (jacquardlaw01_BitsIdentity.j1 kj6 a0 a1 a2 t583 true false) = some r := by rw [if_pos rfl] at H; exact H
                clear H
                have H := H1
                clear H1
                have H' := Aside0.mk H
                clear H
                go_wp2
                go_meet
                case rel => exact ⟨_, (false), (by first | rfl | (simp; done) | (simp [*]; done)), H', ⟨by have := HJ6.out; first | omega | exact Nat.le_refl _⟩, ⟨by repeat (first | (with_reducible first | exact HB.out | apply below_alloc | apply pw_below_drewN | apply below_drew1) | exact HB.out)⟩⟩
              · replace c24 := Bool.eq_false_iff.mpr c24
                subst c24
                have H1 : (jacquardlaw01_BitsIdentity.j1 kj6 a0 a1 a2 t583 false (t583 != 0)) = some r := by rw [if_neg (show ¬ (false = true) by decide)] at H; exact H
                clear H
                have H := H1
                clear H1
                have H' := Aside0.mk H
                clear H
                go_wp2
                go_meet
                case rel => exact ⟨_, ((t583 != 0)), (by first | rfl | (simp; done) | (simp [*]; done)), H', ⟨by have := HJ6.out; first | omega | exact Nat.le_refl _⟩, ⟨by repeat (first | (with_reducible first | exact HB.out | apply below_alloc | apply pw_below_drewN | apply below_drew1) | exact HB.out)⟩⟩
        case rest =>
          clear HC18
          try clear c1
          try clear c2
          try clear p2
          try clear c4
          try clear c5
          try clear c10
          try clear c10b0
          try clear c11
          try clear c11b0
          try clear c12
          try clear c12b0
          try clear c12b1
          try clear c13
          try clear c13b0
          try clear c13b1
          try clear c14
          try clear c14b0
          try clear c15
          try clear c15b0
          try clear c15b1
          try clear c16
          try clear c16b0
          try clear c16b1
          try clear c17
          try clear c17b0
          try clear c19
          try clear c21
          try clear c21b0
          try clear c21b1
          try clear c21b2
          try clear c22
          try clear c23
          try clear c23b0
          try clear c23b1
          try clear c23b2
          try clear c24
          try clear p2
          obtain ⟨kq, x56_17, rfl, HA, HJ17, HB⟩ := hcut
          cases kq with
          | zero => exact absurd HA.out (by simp [jacquardlaw01_BitsIdentity.j1])
          | succ kj17 =>
            have H := HA.out
            clear HA
            simp only [jacquardlaw01_BitsIdentity.j1] at H
            by_cases c25 : x56_17 = true
            · subst c25
              have H1 : (some false) = some r := by rw [if_pos rfl] at H; exact H
              clear H
              have H := H1
              clear H1
              obtain rfl := Option.some.inj H
              go_wp2
              go_ret
              exact ⟨by first | rfl | (simp [errW_none, errW_some] <;> rfl) | (simp [*, errW_none, errW_some] <;> rfl), by repeat (first | (with_reducible first | exact HB.out | apply below_alloc | apply pw_below_drewN | apply below_drew1) | exact HB.out)⟩
            · replace c25 := Bool.eq_false_iff.mpr c25
              subst c25
              have H1 : (if t584 = true then ((bits_Binary.f kj17 a0 a1 a2 t583).bind fun bt586 => (if bt586.2 = 0 then ((bits_Fit.f a1 a2).bind fun t588 => (some (bt586.1 == t588))) else (some false))) else (some true)) = some r := by rw [if_neg (show ¬ (false = true) by decide)] at H; exact H
              clear H
              have H := H1
              clear H1
              by_cases c26 : t584 = true
              · subst c26
                have H1 : ((bits_Binary.f kj17 a0 a1 a2 t583).bind fun bt586 => (if bt586.2 = 0 then ((bits_Fit.f a1 a2).bind fun t588 => (some (bt586.1 == t588))) else (some false))) = some r := by rw [if_pos rfl] at H; exact H
                clear H
                have H := H1
                clear H1
                replace H := Option.bind_eq_some_iff.mp H
                obtain ⟨⟨t586, t587⟩, A270, H⟩ := H
                replace H : (if t587 = 0 then ((bits_Fit.f a1 a2).bind fun t588 => (some (t586 == t588))) else (some false)) = some r := H
                have A27 := Aside0.mk A270
                clear A270
                by_cases c28 : t587 = 0
                · rw [if_pos c28] at H
                  have c28b0 : (t587 == 0) = true := beq_iff_eq.mpr c28
                  have c28b1 : (t587 != 0) = false := bne_eq_false_iff_eq.mpr c28
                  clear c28
                  replace H := Option.bind_eq_some_iff.mp H
                  obtain ⟨t588, A290, H⟩ := H
                  replace H : (some (t586 == t588)) = some r := H
                  have A29 := Aside0.mk A290
                  clear A290
                  obtain rfl := Option.some.inj H
                  go_wp2_with (first | ((with_reducible refine gate_callee (f := 43) rfl ?_); refine goesL_ (some 64) rfl rfl Try.func43 (by kernel_rfl) rfl #[.int .i64 a0, .int .i64 a1, .int .u64 a2, .int .u64 t583] rfl (by (try simp only [List.map_toArray, List.map_cons, List.map_nil]); first | done | rfl | (simp only [List.length_drop, List.length_take]; rfl)) ?_; (with_reducible refine (bits_Binary.calls kj17 a0 a1 a2 t583 t586 t587 _ A27.out).mono ?_); rintro e w30 ⟨rfl, hb⟩; refine ⟨_, rfl, ?_⟩; have n0_ := Aside0.mk (below_step (by repeat (first | (with_reducible first | exact HB.out | apply below_alloc | apply pw_below_drewN | apply below_drew1) | exact HB.out)) hb); clear HB; have HB := n0_; clear n0_; (try clear hb); (try clear hb2); (try clear hk); (try clear hi)) | (go_at_call 47; (with_reducible refine (bits_Fit.calls a1 a2 t588 _ A29.out).mono ?_); rintro e w31 ⟨rfl, hb⟩; have n0_ := Aside0.mk (below_step (by repeat (first | (with_reducible first | exact HB.out | apply below_alloc | apply pw_below_drewN | apply below_drew1) | exact HB.out)) hb); clear HB; have HB := n0_; clear n0_; (try clear hb); (try clear hb2); (try clear hk); (try clear hi)))
                  go_ret
                  exact ⟨by first | rfl | (simp [errW_none, errW_some] <;> rfl) | (simp [*, errW_none, errW_some] <;> rfl), by repeat (first | (with_reducible first | exact HB.out | apply below_alloc | apply pw_below_drewN | apply below_drew1) | exact HB.out)⟩
                · rw [if_neg c28] at H
                  have c28b0 : (t587 == 0) = false := beq_eq_false_iff_ne.mpr c28
                  have c28b1 : (t587 != 0) = true := bne_iff_ne.mpr c28
                  obtain rfl := Option.some.inj H
                  go_wp2_with (first | ((with_reducible refine gate_callee (f := 43) rfl ?_); refine goesL_ (some 64) rfl rfl Try.func43 (by kernel_rfl) rfl #[.int .i64 a0, .int .i64 a1, .int .u64 a2, .int .u64 t583] rfl (by (try simp only [List.map_toArray, List.map_cons, List.map_nil]); first | done | rfl | (simp only [List.length_drop, List.length_take]; rfl)) ?_; (with_reducible refine (bits_Binary.calls kj17 a0 a1 a2 t583 t586 t587 _ A27.out).mono ?_); rintro e w32 ⟨rfl, hb⟩; refine ⟨_, rfl, ?_⟩; have n0_ := Aside0.mk (below_step (by repeat (first | (with_reducible first | exact HB.out | apply below_alloc | apply pw_below_drewN | apply below_drew1) | exact HB.out)) hb); clear HB; have HB := n0_; clear n0_; (try clear hb); (try clear hb2); (try clear hk); (try clear hi)))
                  go_ret
                  exact ⟨by first | rfl | (simp [errW_none, errW_some] <;> rfl) | (simp [*, errW_none, errW_some] <;> rfl), by repeat (first | (with_reducible first | exact HB.out | apply below_alloc | apply pw_below_drewN | apply below_drew1) | exact HB.out)⟩
              · replace c26 := Bool.eq_false_iff.mpr c26
                subst c26
                have H1 : (some true) = some r := by rw [if_neg (show ¬ (false = true) by decide)] at H; exact H
                clear H
                have H := H1
                clear H1
                obtain rfl := Option.some.inj H
                go_wp2
                go_ret
                exact ⟨by first | rfl | (simp [errW_none, errW_some] <;> rfl) | (simp [*, errW_none, errW_some] <;> rfl), by repeat (first | (with_reducible first | exact HB.out | apply below_alloc | apply pw_below_drewN | apply below_drew1) | exact HB.out)⟩
  · replace c5 := Bool.eq_false_iff.mpr c5
    subst c5
    have H1 : (some false) = some r := by rw [if_neg (show ¬ (false = true) by decide)] at H; exact H
    clear H
    have H := H1
    clear H1
    obtain rfl := Option.some.inj H
    go_enter Try.func12, Try.ntmps12
    go_wp2_with (first | ((with_reducible refine gate_callee (f := 42) rfl ?_); refine goesL_ (some 12) rfl rfl Try.func42 (by kernel_rfl) rfl #[] rfl (by (try simp only [List.map_toArray, List.map_cons, List.map_nil]); first | done | rfl | (simp only [List.length_drop, List.length_take]; rfl)) ?_; (with_reducible refine (jacquardlaw01_awake.calls k  false _ A4.out).mono ?_); rintro e w33 ⟨rfl, hb⟩; refine ⟨_, rfl, ?_⟩; have n0_ := Aside0.mk (below_step (by repeat (first | (with_reducible first | exact HB.out | apply below_alloc | apply pw_below_drewN | apply below_drew1) | exact HB.out)) hb); clear HB; have HB := n0_; clear n0_; (try clear hb); (try clear hb2); (try clear hk); (try clear hi)))
    go_ret
    exact ⟨by first | rfl | (simp [errW_none, errW_some] <;> rfl) | (simp [*, errW_none, errW_some] <;> rfl), by repeat (first | (with_reducible first | exact HB.out | apply below_alloc | apply pw_below_drewN | apply below_drew1) | exact HB.out)⟩

/-- THE ONE PURE STATEMENT of jacquardlaw01_BitsIdentity: yours. -/
def jacquardlaw01_BitsIdentity.Pure : Prop := ∀ (a0 : Int) (a1 : Int) (a2 : Int), (Lit.int .i64 a0).wf = true → (Lit.int .i64 a1).wf = true → (Lit.int .u64 a2).wf = true → ∃ k, jacquardlaw01_BitsIdentity.f k a0 a1 a2 = some true
theorem jacquardlaw01_BitsIdentity.walk (P : jacquardlaw01_BitsIdentity.Pure) (a0 : Int) (a1 : Int) (a2 : Int) (w : World) (w0 : (Lit.int .i64 a0).wf = true) (w1 : (Lit.int .i64 a1).wf = true) (w2 : (Lit.int .u64 a2).wf = true) :
    Calls Try.prog 12 #[.int .i64 a0, .int .i64 a1, .int .u64 a2] w fun e w' => e = .returned (.bool true) ∧ Below w.heap.size w w' := by
  obtain ⟨k, h⟩ := P a0 a1 a2 w0 w1 w2
  refine (jacquardlaw01_BitsIdentity.calls k a0 a1 a2 true w h).mono ?_
  rintro e w' ⟨rfl, hd⟩
  exact ⟨rfl, hd⟩

end Go.Proofs.Ytanmehdcccldfaa.P
