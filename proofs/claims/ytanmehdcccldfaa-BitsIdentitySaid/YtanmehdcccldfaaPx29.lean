-- made by a program of this work (wip/mkprint.py, wip/mp.sh) out of the translation
import Derived.Test.YtanmehdcccldfaaPx0
import Derived.Test.YtanmehdcccldfaaPx2
namespace Go.Proofs.Ytanmehdcccldfaa.P
open Go.RowKit Go.Proofs.YtanmehdcccldfaaW.PrintWords Go.Proofs.YtanmehdcccldfaaW.PrintLast Go.Proofs.YtanmehdcccldfaaW.PrintMore
attribute [local go_sem] max2_int min2_int max_two min_two max_three min_three max_four min_four   -- for this text's walks alone
set_option linter.unusedVariables false
set_option linter.unusedSimpArgs false

/-! ### bits_Identity: function 54 -/
mutual
def bits_Identity.j0 : Nat → Int → Int → Bool → Option (Int × Bool)
  | 0, _, _, _ => none
  | k + 1, x0, x1, x11 => if x11 = true then (some (0, false)) else (if x0 = 2 then (bits_Identity.j1 k x1 x0 (x0 == 2)) else (if x0 = 3 then (bits_Identity.j1 k x1 x0 (x0 == 3)) else (if x0 = 10 then (bits_Identity.j1 k x1 x0 (x0 == 10)) else (if x0 = 11 then (bits_Identity.j1 k x1 x0 (x0 == 11)) else (if x0 = 12 then (bits_Identity.j1 k x1 x0 (x0 == 12)) else (if x0 = 13 then (bits_Identity.j1 k x1 x0 (x0 == 13)) else (bits_Identity.j1 k x1 x0 (x0 == 14))))))))
def bits_Identity.j1 : Nat → Int → Int → Bool → Option (Int × Bool)
  | 0, _, _, _ => none
  | k + 1, x1, x12, x13 => if x13 = true then (some (0, true)) else (if x12 = 4 then (bits_Identity.j2 k x1 x12 (x12 == 4)) else (if x12 = 5 then (bits_Identity.j2 k x1 x12 (x12 == 5)) else (bits_Identity.j2 k x1 x12 (x12 == 7))))
def bits_Identity.j2 : Nat → Int → Int → Bool → Option (Int × Bool)
  | 0, _, _, _ => none
  | k + 1, x1, x12, x21 => if x21 = true then (some (1, true)) else (if x12 = 9 then ((bits_Mask.f x1).bind fun t581 => (some (t581, true))) else (some (0, false)))
end
def bits_Identity.f (k : Nat) (a0 : Int) (a1 : Int) : Option (Int × Bool) := if a1 < 1 then (bits_Identity.j0 k a0 a1 true) else (bits_Identity.j0 k a0 a1 (decide (a1 > 64)))
theorem bits_Identity.mono_l : ∀ k, (∀ y0 y1 y2, LeO (bits_Identity.j0 k y0 y1 y2) (bits_Identity.j0 (k + 1) y0 y1 y2)) ∧ (∀ y0 y1 y2, LeO (bits_Identity.j1 k y0 y1 y2) (bits_Identity.j1 (k + 1) y0 y1 y2)) ∧ (∀ y0 y1 y2, LeO (bits_Identity.j2 k y0 y1 y2) (bits_Identity.j2 (k + 1) y0 y1 y2))
  | 0 => ⟨fun _ _ _ r h => by simp [bits_Identity.j0] at h, fun _ _ _ r h => by simp [bits_Identity.j1] at h, fun _ _ _ r h => by simp [bits_Identity.j2] at h⟩
  | k + 1 => by
    obtain ⟨ih0, ih1, ih2⟩ := bits_Identity.mono_l k
    refine ⟨?_, ?_, ?_⟩
    · intro y0 y1 y2
      unfold bits_Identity.j0
      repeat' first
      | (with_reducible exact ih0 _ _ _)
      | (with_reducible exact ih1 _ _ _)
      | (with_reducible exact ih2 _ _ _)
      | (with_reducible exact LeO.refl _)
      | (with_reducible exact LeO.none _)
      | (with_reducible refine LeO.ite ?_ ?_)
      | (with_reducible refine LeO.bind ?_ (fun _ => ?_))
      | exact ih0 _ _ _
      | exact ih1 _ _ _
      | exact ih2 _ _ _
      | exact LeO.none _
      | refine LeO.ite ?_ ?_
      | refine LeO.bind ?_ (fun _ => ?_)
    · intro y0 y1 y2
      unfold bits_Identity.j1
      repeat' first
      | (with_reducible exact ih0 _ _ _)
      | (with_reducible exact ih1 _ _ _)
      | (with_reducible exact ih2 _ _ _)
      | (with_reducible exact LeO.refl _)
      | (with_reducible exact LeO.none _)
      | (with_reducible refine LeO.ite ?_ ?_)
      | (with_reducible refine LeO.bind ?_ (fun _ => ?_))
      | exact ih0 _ _ _
      | exact ih1 _ _ _
      | exact ih2 _ _ _
      | exact LeO.none _
      | refine LeO.ite ?_ ?_
      | refine LeO.bind ?_ (fun _ => ?_)
    · intro y0 y1 y2
      unfold bits_Identity.j2
      repeat' first
      | (with_reducible exact ih0 _ _ _)
      | (with_reducible exact ih1 _ _ _)
      | (with_reducible exact ih2 _ _ _)
      | (with_reducible exact LeO.refl _)
      | (with_reducible exact LeO.none _)
      | (with_reducible refine LeO.ite ?_ ?_)
      | (with_reducible refine LeO.bind ?_ (fun _ => ?_))
      | exact ih0 _ _ _
      | exact ih1 _ _ _
      | exact ih2 _ _ _
      | exact LeO.none _
      | refine LeO.ite ?_ ?_
      | refine LeO.bind ?_ (fun _ => ?_)
theorem bits_Identity.mono : ∀ a0 a1 k, LeO (bits_Identity.f k a0 a1) (bits_Identity.f (k + 1) a0 a1) := by
  intro a0 a1 k
  obtain ⟨ih0, ih1, ih2⟩ := bits_Identity.mono_l k
  unfold bits_Identity.f
  repeat' first
      | (with_reducible exact ih0 _ _ _)
      | (with_reducible exact ih1 _ _ _)
      | (with_reducible exact ih2 _ _ _)
      | (with_reducible exact LeO.refl _)
      | (with_reducible exact LeO.none _)
      | (with_reducible refine LeO.ite ?_ ?_)
      | (with_reducible refine LeO.bind ?_ (fun _ => ?_))
      | exact ih0 _ _ _
      | exact ih1 _ _ _
      | exact ih2 _ _ _
      | exact LeO.none _
      | refine LeO.ite ?_ ?_
      | refine LeO.bind ?_ (fun _ => ?_)
set_option maxHeartbeats 8000000 in
set_option maxRecDepth 100000 in
theorem bits_Identity.calls (k : Nat) (a0 : Int) (a1 : Int) (r1 : Int) (r2 : Bool) (w : World) (h : bits_Identity.f k a0 a1 = some (r1, r2)) :
    Calls Try.prog 54 #[.int .i64 a0, .int .i64 a1] w fun e w' => e = .returned (.tuple #[.int .u64 r1, .bool r2]) ∧ Below w.heap.size w w' := by
  have HB := Aside0.mk (Below.refl w.heap.size w)
  have H : (if a1 < 1 then (bits_Identity.j0 k a0 a1 true) else (bits_Identity.j0 k a0 a1 (decide (a1 > 64)))) = some (r1, r2) := h
  clear h
  have HC3 := Aside0.mk H
  clear H
  go_enter Try.func54, Try.ntmps54
  go_upto_region 1 with (fail)
  go_cut [11] (fun v11 wc => ∃ (kq : Nat) (x11_2 : Bool), v11 = .bool x11_2 ∧ Aside0 (bits_Identity.j0 kq a0 a1 x11_2 = some (r1, r2)) ∧ Aside0 (kq ≤ k) ∧ Aside0 (Below w.heap.size w wc))
  case first =>
    have H := HC3.out
    clear HC3
    by_cases c4 : a1 < 1
    · rw [if_pos c4] at H
      have c4b0 : decide (a1 < 1) = true := decide_eq_true c4
      clear c4
      (first | rw [c4b0] | (simp only [i64_w, i32_w]; rw [c4b0]) | skip)
      have H' := Aside0.mk H
      clear H
      go_wp2
      go_meet
      case rel => exact ⟨_, (true), (by first | rfl | (simp; done) | (simp [*]; done)), H', ⟨by first | omega | exact Nat.le_refl _⟩, ⟨by repeat (first | (with_reducible first | exact HB.out | apply below_alloc | apply pw_below_drewN | apply below_drew1) | exact HB.out)⟩⟩
    · rw [if_neg c4] at H
      have c4b0 : decide (a1 < 1) = false := decide_eq_false c4
      clear c4
      (first | rw [c4b0] | (simp only [i64_w, i32_w]; rw [c4b0]) | skip)
      have H' := Aside0.mk H
      clear H
      go_wp2
      go_meet
      case rel => exact ⟨_, (decide (a1 > 64)), (by first | rfl | (simp; done) | (simp [*]; done)), H', ⟨by first | omega | exact Nat.le_refl _⟩, ⟨by repeat (first | (with_reducible first | exact HB.out | apply below_alloc | apply pw_below_drewN | apply below_drew1) | exact HB.out)⟩⟩
  case rest =>
    clear HC3
    try clear p2
    try clear c4
    try clear c4b0
    obtain ⟨kq, x11_2, rfl, HA, HJ2, HB⟩ := hcut
    cases kq with
    | zero => exact absurd HA.out (by simp [bits_Identity.j0])
    | succ kj2 =>
      have H := HA.out
      clear HA
      simp only [bits_Identity.j0] at H
      by_cases c5 : x11_2 = true
      · subst c5
        have H1 : (some (0, false)) = some (r1, r2) := by rw [if_pos rfl] at H; exact H
        clear H
        have H := H1
        clear H1
        simp only [Option.some.injEq, Prod.mk.injEq] at H
        obtain ⟨rfl, rfl⟩ := H
        go_wp2
        go_ret2
        exact ⟨by first | rfl | (simp [errW_none, errW_some] <;> rfl) | (simp [*, errW_none, errW_some] <;> rfl), by repeat (first | (with_reducible first | exact HB.out | apply below_alloc | apply pw_below_drewN | apply below_drew1) | exact HB.out)⟩
      · replace c5 := Bool.eq_false_iff.mpr c5
        subst c5
        have H1 : (if a0 = 2 then (bits_Identity.j1 kj2 a1 a0 (a0 == 2)) else (if a0 = 3 then (bits_Identity.j1 kj2 a1 a0 (a0 == 3)) else (if a0 = 10 then (bits_Identity.j1 kj2 a1 a0 (a0 == 10)) else (if a0 = 11 then (bits_Identity.j1 kj2 a1 a0 (a0 == 11)) else (if a0 = 12 then (bits_Identity.j1 kj2 a1 a0 (a0 == 12)) else (if a0 = 13 then (bits_Identity.j1 kj2 a1 a0 (a0 == 13)) else (bits_Identity.j1 kj2 a1 a0 (a0 == 14)))))))) = some (r1, r2) := by rw [if_neg (show ¬ (false = true) by decide)] at H; exact H
        clear H
        have H := H1
        clear H1
        have HC6 := Aside0.mk H
        clear H
        go_upto_if 13 with (fail)
        go_cut [13] (fun v13 wc => ∃ (kq : Nat) (x13_5 : Bool), v13 = .bool x13_5 ∧ Aside0 (bits_Identity.j1 kq a1 a0 x13_5 = some (r1, r2)) ∧ Aside0 (kq ≤ kj2) ∧ Aside0 (Below w.heap.size w wc))
        case first =>
          have H := HC6.out
          clear HC6
          by_cases c7 : a0 = 2
          · rw [if_pos c7] at H
            have c7b0 : (a0 == 2) = true := beq_iff_eq.mpr c7
            have c7b1 : (a0 != 2) = false := bne_eq_false_iff_eq.mpr c7
            clear c7
            (first | rw [c7b0] | (simp only [i64_w, i32_w]; rw [c7b0]) | skip)
            have H' := Aside0.mk H
            clear H
            go_wp2
            go_meet
            case rel => exact ⟨_, ((a0 == 2)), (by first | rfl | (simp; done) | (simp [*]; done)), H', ⟨by have := HJ2.out; first | omega | exact Nat.le_refl _⟩, ⟨by repeat (first | (with_reducible first | exact HB.out | apply below_alloc | apply pw_below_drewN | apply below_drew1) | exact HB.out)⟩⟩
          · rw [if_neg c7] at H
            have c7b0 : (a0 == 2) = false := beq_eq_false_iff_ne.mpr c7
            have c7b1 : (a0 != 2) = true := bne_iff_ne.mpr c7
            (first | rw [c7b0] | (simp only [i64_w, i32_w]; rw [c7b0]) | skip)
            by_cases c8 : a0 = 3
            · rw [if_pos c8] at H
              have c8b0 : (a0 == 3) = true := beq_iff_eq.mpr c8
              have c8b1 : (a0 != 3) = false := bne_eq_false_iff_eq.mpr c8
              clear c8
              have H' := Aside0.mk H
              clear H
              go_wp2
              go_meet
              case rel => exact ⟨_, ((a0 == 3)), (by first | rfl | (simp; done) | (simp [*]; done)), H', ⟨by have := HJ2.out; first | omega | exact Nat.le_refl _⟩, ⟨by repeat (first | (with_reducible first | exact HB.out | apply below_alloc | apply pw_below_drewN | apply below_drew1) | exact HB.out)⟩⟩
            · rw [if_neg c8] at H
              have c8b0 : (a0 == 3) = false := beq_eq_false_iff_ne.mpr c8
              have c8b1 : (a0 != 3) = true := bne_iff_ne.mpr c8
              by_cases c9 : a0 = 10
              · rw [if_pos c9] at H
                have c9b0 : (a0 == 10) = true := beq_iff_eq.mpr c9
                have c9b1 : (a0 != 10) = false := bne_eq_false_iff_eq.mpr c9
                clear c9
                have H' := Aside0.mk H
                clear H
                go_wp2
                go_meet
                case rel => exact ⟨_, ((a0 == 10)), (by first | rfl | (simp; done) | (simp [*]; done)), H', ⟨by have := HJ2.out; first | omega | exact Nat.le_refl _⟩, ⟨by repeat (first | (with_reducible first | exact HB.out | apply below_alloc | apply pw_below_drewN | apply below_drew1) | exact HB.out)⟩⟩
              · rw [if_neg c9] at H
                have c9b0 : (a0 == 10) = false := beq_eq_false_iff_ne.mpr c9
                have c9b1 : (a0 != 10) = true := bne_iff_ne.mpr c9
                by_cases c10 : a0 = 11
                · rw [if_pos c10] at H
                  have c10b0 : (a0 == 11) = true := beq_iff_eq.mpr c10
                  have c10b1 : (a0 != 11) = false := bne_eq_false_iff_eq.mpr c10
                  clear c10
                  have H' := Aside0.mk H
                  clear H
                  go_wp2
                  go_meet
                  case rel => exact ⟨_, ((a0 == 11)), (by first | rfl | (simp; done) | (simp [*]; done)), H', ⟨by have := HJ2.out; first | omega | exact Nat.le_refl _⟩, ⟨by repeat (first | (with_reducible first | exact HB.out | apply below_alloc | apply pw_below_drewN | apply below_drew1) | exact HB.out)⟩⟩
                · rw [if_neg c10] at H
                  have c10b0 : (a0 == 11) = false := beq_eq_false_iff_ne.mpr c10
                  have c10b1 : (a0 != 11) = true := bne_iff_ne.mpr c10
                  by_cases c11 : a0 = 12
                  · rw [if_pos c11] at H
                    have c11b0 : (a0 == 12) = true := beq_iff_eq.mpr c11
                    have c11b1 : (a0 != 12) = false := bne_eq_false_iff_eq.mpr c11
                    clear c11
                    have H' := Aside0.mk H
                    clear H
                    go_wp2
                    go_meet
                    case rel => exact ⟨_, ((a0 == 12)), (by first | rfl | (simp; done) | (simp [*]; done)), H', ⟨by have := HJ2.out; first | omega | exact Nat.le_refl _⟩, ⟨by repeat (first | (with_reducible first | exact HB.out | apply below_alloc | apply pw_below_drewN | apply below_drew1) | exact HB.out)⟩⟩
                  · rw [if_neg c11] at H
                    have c11b0 : (a0 == 12) = false := beq_eq_false_iff_ne.mpr c11
                    have c11b1 : (a0 != 12) = true := bne_iff_ne.mpr c11
                    by_cases c12 : a0 = 13
                    · rw [if_pos c12] at H
                      have c12b0 : (a0 == 13) = true := beq_iff_eq.mpr c12
                      have c12b1 : (a0 != 13) = false := bne_eq_false_iff_eq.mpr c12
                      clear c12
                      have H' := Aside0.mk H
                      clear H
                      go_wp2
                      go_meet
                      case rel => exact ⟨_, ((a0 == 13)), (by first | rfl | (simp; done) | (simp [*]; done)), H', ⟨by have := HJ2.out; first | omega | exact Nat.le_refl _⟩, ⟨by repeat (first | (with_reducible first | exact HB.out | apply below_alloc | apply pw_below_drewN | apply below_drew1) | exact HB.out)⟩⟩
                    · rw [if_neg c12] at H
                      have c12b0 : (a0 == 13) = false := beq_eq_false_iff_ne.mpr c12
                      have c12b1 : (a0 != 13) = true := bne_iff_ne.mpr c12
                      have H' := Aside0.mk H
                      clear H
                      go_wp2
                      go_meet
                      case rel => exact ⟨_, ((a0 == 14)), (by first | rfl | (simp; done) | (simp [*]; done)), H', ⟨by have := HJ2.out; first | omega | exact Nat.le_refl _⟩, ⟨by repeat (first | (with_reducible first | exact HB.out | apply below_alloc | apply pw_below_drewN | apply below_drew1) | exact HB.out)⟩⟩
        case rest =>
          clear HC6
          try clear c1
          try clear p2
          try clear c4
          try clear c4b0
          try clear c5
          try clear c7
          try clear c7b0
          try clear c7b1
          try clear c8
          try clear c8b0
          try clear c8b1
          try clear c9
          try clear c9b0
          try clear c9b1
          try clear c10
          try clear c10b0
          try clear c10b1
          try clear c11
          try clear c11b0
          try clear c11b1
          try clear c12
          try clear c12b0
          try clear c12b1
          try clear p2
          obtain ⟨kq, x13_5, rfl, HA, HJ5, HB⟩ := hcut
          cases kq with
          | zero => exact absurd HA.out (by simp [bits_Identity.j1])
          | succ kj5 =>
            have H := HA.out
            clear HA
            simp only [bits_Identity.j1] at H
            by_cases c13 : x13_5 = true
            · subst c13
              have H1 : (some (0, true)) = some (r1, r2) := by rw [if_pos rfl] at H; exact H
              clear H
              have H := H1
              clear H1
              simp only [Option.some.injEq, Prod.mk.injEq] at H
              obtain ⟨rfl, rfl⟩ := H
              go_wp2
              go_ret2
              exact ⟨by first | rfl | (simp [errW_none, errW_some] <;> rfl) | (simp [*, errW_none, errW_some] <;> rfl), by repeat (first | (with_reducible first | exact HB.out | apply below_alloc | apply pw_below_drewN | apply below_drew1) | exact HB.out)⟩
            · replace c13 := Bool.eq_false_iff.mpr c13
              subst c13
              have H1 : (if a0 = 4 then (bits_Identity.j2 kj5 a1 a0 (a0 == 4)) else (if a0 = 5 then (bits_Identity.j2 kj5 a1 a0 (a0 == 5)) else (bits_Identity.j2 kj5 a1 a0 (a0 == 7)))) = some (r1, r2) := by rw [if_neg (show ¬ (false = true) by decide)] at H; exact H
              clear H
              have H := H1
              clear H1
              have HC14 := Aside0.mk H
              clear H
              go_upto_if 21 with (fail)
              go_cut [21] (fun v21 wc => ∃ (kq : Nat) (x21_13 : Bool), v21 = .bool x21_13 ∧ Aside0 (bits_Identity.j2 kq a1 a0 x21_13 = some (r1, r2)) ∧ Aside0 (kq ≤ kj5) ∧ Aside0 (Below w.heap.size w wc))
              case first =>
                have H := HC14.out
                clear HC14
                by_cases c15 : a0 = 4
                · rw [if_pos c15] at H
                  have c15b0 : (a0 == 4) = true := beq_iff_eq.mpr c15
                  have c15b1 : (a0 != 4) = false := bne_eq_false_iff_eq.mpr c15
                  clear c15
                  (first | rw [c15b0] | (simp only [i64_w, i32_w]; rw [c15b0]) | skip)
                  have H' := Aside0.mk H
                  clear H
                  go_wp2
                  go_meet
                  case rel => exact ⟨_, ((a0 == 4)), (by first | rfl | (simp; done) | (simp [*]; done)), H', ⟨by have := HJ2.out; have := HJ5.out; first | omega | exact Nat.le_refl _⟩, ⟨by repeat (first | (with_reducible first | exact HB.out | apply below_alloc | apply pw_below_drewN | apply below_drew1) | exact HB.out)⟩⟩
                · rw [if_neg c15] at H
                  have c15b0 : (a0 == 4) = false := beq_eq_false_iff_ne.mpr c15
                  have c15b1 : (a0 != 4) = true := bne_iff_ne.mpr c15
                  (first | rw [c15b0] | (simp only [i64_w, i32_w]; rw [c15b0]) | skip)
                  by_cases c16 : a0 = 5
                  · rw [if_pos c16] at H
                    have c16b0 : (a0 == 5) = true := beq_iff_eq.mpr c16
                    have c16b1 : (a0 != 5) = false := bne_eq_false_iff_eq.mpr c16
                    clear c16
                    have H' := Aside0.mk H
                    clear H
                    go_wp2
                    go_meet
                    case rel => exact ⟨_, ((a0 == 5)), (by first | rfl | (simp; done) | (simp [*]; done)), H', ⟨by have := HJ2.out; have := HJ5.out; first | omega | exact Nat.le_refl _⟩, ⟨by repeat (first | (with_reducible first | exact HB.out | apply below_alloc | apply pw_below_drewN | apply below_drew1) | exact HB.out)⟩⟩
                  · rw [if_neg c16] at H
                    have c16b0 : (a0 == 5) = false := beq_eq_false_iff_ne.mpr c16
                    have c16b1 : (a0 != 5) = true := bne_iff_ne.mpr c16
                    have H' := Aside0.mk H
                    clear H
                    go_wp2
                    go_meet
                    case rel => exact ⟨_, ((a0 == 7)), (by first | rfl | (simp; done) | (simp [*]; done)), H', ⟨by have := HJ2.out; have := HJ5.out; first | omega | exact Nat.le_refl _⟩, ⟨by repeat (first | (with_reducible first | exact HB.out | apply below_alloc | apply pw_below_drewN | apply below_drew1) | exact HB.out)⟩⟩
              case rest =>
                clear HC14
                try clear c1
                try clear p2
                try clear c4
                try clear c4b0
                try clear c5
                try clear c7
                try clear c7b0
                try clear c7b1
                try clear c8
                try clear c8b0
                try clear c8b1
                try clear c9
                try clear c9b0
                try clear c9b1
                try clear c10
                try clear c10b0
                try clear c10b1
                try clear c11
                try clear c11b0
                try clear c11b1
                try clear c12
                try clear c12b0
                try clear c12b1
                try clear c13
                try clear c15
                try clear c15b0
                try clear c15b1
                try clear c16
                try clear c16b0
                try clear c16b1
                try clear p2
                obtain ⟨kq, x21_13, rfl, HA, HJ13, HB⟩ := hcut
                cases kq with
                | zero => exact absurd HA.out (by simp [bits_Identity.j2])
                | succ kj13 =>
                  have H := HA.out
                  clear HA
                  simp only [bits_Identity.j2] at H
                  by_cases c17 : x21_13 = true
                  · subst c17
                    have H1 : (some (1, true)) = some (r1, r2) := by rw [if_pos rfl] at H; exact H
                    clear H
                    have H := H1
                    clear H1
                    simp only [Option.some.injEq, Prod.mk.injEq] at H
                    obtain ⟨rfl, rfl⟩ := H
                    go_wp2
                    go_ret2
                    exact ⟨by first | rfl | (simp [errW_none, errW_some] <;> rfl) | (simp [*, errW_none, errW_some] <;> rfl), by repeat (first | (with_reducible first | exact HB.out | apply below_alloc | apply pw_below_drewN | apply below_drew1) | exact HB.out)⟩
                  · replace c17 := Bool.eq_false_iff.mpr c17
                    subst c17
                    have H1 : (if a0 = 9 then ((bits_Mask.f a1).bind fun t581 => (some (t581, true))) else (some (0, false))) = some (r1, r2) := by rw [if_neg (show ¬ (false = true) by decide)] at H; exact H
                    clear H
                    have H := H1
                    clear H1
                    by_cases c18 : a0 = 9
                    · rw [if_pos c18] at H
                      have c18b0 : (a0 == 9) = true := beq_iff_eq.mpr c18
                      have c18b1 : (a0 != 9) = false := bne_eq_false_iff_eq.mpr c18
                      clear c18
                      replace H := Option.bind_eq_some_iff.mp H
                      obtain ⟨t581, A190, H⟩ := H
                      replace H : (some (t581, true)) = some (r1, r2) := H
                      have A19 := Aside0.mk A190
                      clear A190
                      simp only [Option.some.injEq, Prod.mk.injEq] at H
                      obtain ⟨rfl, rfl⟩ := H
                      go_wp2_with (first | ((with_reducible refine gate_callee (f := 48) rfl ?_); refine goesL_ (some 28) rfl rfl Try.func48 (by kernel_rfl) rfl #[.int .i64 a1] rfl (by (try simp only [List.map_toArray, List.map_cons, List.map_nil]); first | done | rfl | (simp only [List.length_drop, List.length_take]; rfl)) ?_; (with_reducible refine (bits_Mask.calls a1 t581 _ A19.out).mono ?_); rintro e w20 ⟨rfl, hb⟩; refine ⟨_, rfl, ?_⟩; have n0_ := Aside0.mk (below_step (by repeat (first | (with_reducible first | exact HB.out | apply below_alloc | apply pw_below_drewN | apply below_drew1) | exact HB.out)) hb); clear HB; have HB := n0_; clear n0_; (try clear hb); (try clear hb2); (try clear hk); (try clear hi)))
                      go_ret2
                      exact ⟨by first | rfl | (simp [errW_none, errW_some] <;> rfl) | (simp [*, errW_none, errW_some] <;> rfl), by repeat (first | (with_reducible first | exact HB.out | apply below_alloc | apply pw_below_drewN | apply below_drew1) | exact HB.out)⟩
                    · rw [if_neg c18] at H
                      have c18b0 : (a0 == 9) = false := beq_eq_false_iff_ne.mpr c18
                      have c18b1 : (a0 != 9) = true := bne_iff_ne.mpr c18
                      simp only [Option.some.injEq, Prod.mk.injEq] at H
                      obtain ⟨rfl, rfl⟩ := H
                      go_wp2
                      go_ret2
                      exact ⟨by first | rfl | (simp [errW_none, errW_some] <;> rfl) | (simp [*, errW_none, errW_some] <;> rfl), by repeat (first | (with_reducible first | exact HB.out | apply below_alloc | apply pw_below_drewN | apply below_drew1) | exact HB.out)⟩

end Go.Proofs.Ytanmehdcccldfaa.P
