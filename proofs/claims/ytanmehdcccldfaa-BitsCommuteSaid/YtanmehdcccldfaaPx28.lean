-- made by a program of this work (wip/mkprint.py, wip/mp.sh) out of the translation
import Derived.Test.YtanmehdcccldfaaPx0
import Derived.Test.YtanmehdcccldfaaPx16
import Derived.Test.YtanmehdcccldfaaPx17
import Derived.Test.YtanmehdcccldfaaPx26
import Derived.Test.YtanmehdcccldfaaPx27
namespace Go.Proofs.Ytanmehdcccldfaa.P
open Go.RowKit Go.Proofs.YtanmehdcccldfaaW.PrintWords Go.Proofs.YtanmehdcccldfaaW.PrintLast Go.Proofs.YtanmehdcccldfaaW.PrintMore
attribute [local go_sem] max2_int min2_int max_two min_two max_three min_three max_four min_four   -- for this text's walks alone
set_option linter.unusedVariables false
set_option linter.unusedSimpArgs false

/-! ### jacquardlaw01_BitsCommute: function 11 -/
mutual
def jacquardlaw01_BitsCommute.j0 : Nat → Int → Int → Bool → Int → Int → Int → Option (Bool)
  | 0, _, _, _, _, _, _ => none
  | k + 1, x0, x1, x7, x563000, x563001, x563002 => (bits_Commutes.f x0).bind fun t564 => (if (t564 != x7) = true then (jacquardlaw01_BitsCommute.j1 k x0 x1 true x563000 x563001 x563002) else ((bits_Associates.f x0).bind fun t565 => (if x7 = true then (if x0 = 15 then (jacquardlaw01_BitsCommute.j1 k x0 x1 (t565 != false) x563000 x563001 x563002) else (jacquardlaw01_BitsCommute.j1 k x0 x1 (t565 != (x0 != 16)) x563000 x563001 x563002)) else (jacquardlaw01_BitsCommute.j1 k x0 x1 (t565 != false) x563000 x563001 x563002))))
def jacquardlaw01_BitsCommute.j1 : Nat → Int → Int → Bool → Int → Int → Int → Option (Bool)
  | 0, _, _, _, _, _, _ => none
  | k + 1, x0, x1, x65, x563000, x563001, x563002 => if x65 = true then (some false) else ((jacquardref01_Right.f x1).bind fun t566 => (if t566 = true then ((bits_Commutes.f x0).bind fun t567 => (if t567 = true then ((bits_Binary.f k x0 x1 x563000 x563001).bind fun bt568 => ((bits_Binary.f k x0 x1 x563001 x563000).bind fun bt570 => (if bt568.1 = bt570.1 then (jacquardlaw01_BitsCommute.j2 k x0 x1 x563000 x563001 x563002) else (some false)))) else (jacquardlaw01_BitsCommute.j2 k x0 x1 x563000 x563001 x563002))) else (some true)))
def jacquardlaw01_BitsCommute.j2 : Nat → Int → Int → Int → Int → Int → Option (Bool)
  | 0, _, _, _, _, _ => none
  | k + 1, x0, x1, x563000, x563001, x563002 => (bits_Associates.f x0).bind fun t572 => (if t572 = true then ((bits_Binary.f k x0 x1 x563000 x563001).bind fun bt573 => ((bits_Binary.f k x0 x1 x563001 x563002).bind fun bt575 => ((bits_Binary.f k x0 x1 bt573.1 x563002).bind fun bt577 => ((bits_Binary.f k x0 x1 x563000 bt575.1).bind fun bt579 => (if bt577.1 = bt579.1 then (some true) else (some false)))))) else (some true))
end
def jacquardlaw01_BitsCommute.f (k : Nat) (a0 : Int) (a1 : Int) (a2_0 : Int) (a2_1 : Int) (a2_2 : Int) : Option (Bool) := (jacquardlaw01_awake.f k).bind fun t563 => (if t563 = true then (if a0 = 2 then (jacquardlaw01_BitsCommute.j0 k a0 a1 true a2_0 a2_1 a2_2) else (if a0 = 4 then (jacquardlaw01_BitsCommute.j0 k a0 a1 true a2_0 a2_1 a2_2) else (if a0 = 9 then (jacquardlaw01_BitsCommute.j0 k a0 a1 true a2_0 a2_1 a2_2) else (if a0 = 10 then (jacquardlaw01_BitsCommute.j0 k a0 a1 true a2_0 a2_1 a2_2) else (if a0 = 11 then (jacquardlaw01_BitsCommute.j0 k a0 a1 true a2_0 a2_1 a2_2) else (if a0 = 15 then (jacquardlaw01_BitsCommute.j0 k a0 a1 true a2_0 a2_1 a2_2) else (jacquardlaw01_BitsCommute.j0 k a0 a1 (a0 == 16) a2_0 a2_1 a2_2))))))) else (some false))
theorem jacquardlaw01_BitsCommute.mono_l : ∀ k, (∀ y0 y1 y2 y3 y4 y5, LeO (jacquardlaw01_BitsCommute.j0 k y0 y1 y2 y3 y4 y5) (jacquardlaw01_BitsCommute.j0 (k + 1) y0 y1 y2 y3 y4 y5)) ∧ (∀ y0 y1 y2 y3 y4 y5, LeO (jacquardlaw01_BitsCommute.j1 k y0 y1 y2 y3 y4 y5) (jacquardlaw01_BitsCommute.j1 (k + 1) y0 y1 y2 y3 y4 y5)) ∧ (∀ y0 y1 y2 y3 y4, LeO (jacquardlaw01_BitsCommute.j2 k y0 y1 y2 y3 y4) (jacquardlaw01_BitsCommute.j2 (k + 1) y0 y1 y2 y3 y4))
  | 0 => ⟨fun _ _ _ _ _ _ r h => by simp [jacquardlaw01_BitsCommute.j0] at h, fun _ _ _ _ _ _ r h => by simp [jacquardlaw01_BitsCommute.j1] at h, fun _ _ _ _ _ r h => by simp [jacquardlaw01_BitsCommute.j2] at h⟩
  | k + 1 => by
    obtain ⟨ih0, ih1, ih2⟩ := jacquardlaw01_BitsCommute.mono_l k
    refine ⟨?_, ?_, ?_⟩
    · intro y0 y1 y2 y3 y4 y5
      unfold jacquardlaw01_BitsCommute.j0
      repeat' first
      | (with_reducible exact ih0 _ _ _ _ _ _)
      | (with_reducible exact ih1 _ _ _ _ _ _)
      | (with_reducible exact ih2 _ _ _ _ _)
      | (with_reducible exact bits_Binary.mono _ _ _ _ _)
      | (with_reducible exact jacquardlaw01_awake.mono _)
      | (with_reducible exact LeO.refl _)
      | (with_reducible exact LeO.none _)
      | (with_reducible refine LeO.ite ?_ ?_)
      | (with_reducible refine LeO.bind ?_ (fun _ => ?_))
      | exact ih0 _ _ _ _ _ _
      | exact ih1 _ _ _ _ _ _
      | exact ih2 _ _ _ _ _
      | exact bits_Binary.mono _ _ _ _ _
      | exact jacquardlaw01_awake.mono _
      | exact LeO.none _
      | refine LeO.ite ?_ ?_
      | refine LeO.bind ?_ (fun _ => ?_)
    · intro y0 y1 y2 y3 y4 y5
      unfold jacquardlaw01_BitsCommute.j1
      repeat' first
      | (with_reducible exact ih0 _ _ _ _ _ _)
      | (with_reducible exact ih1 _ _ _ _ _ _)
      | (with_reducible exact ih2 _ _ _ _ _)
      | (with_reducible exact bits_Binary.mono _ _ _ _ _)
      | (with_reducible exact jacquardlaw01_awake.mono _)
      | (with_reducible exact LeO.refl _)
      | (with_reducible exact LeO.none _)
      | (with_reducible refine LeO.ite ?_ ?_)
      | (with_reducible refine LeO.bind ?_ (fun _ => ?_))
      | exact ih0 _ _ _ _ _ _
      | exact ih1 _ _ _ _ _ _
      | exact ih2 _ _ _ _ _
      | exact bits_Binary.mono _ _ _ _ _
      | exact jacquardlaw01_awake.mono _
      | exact LeO.none _
      | refine LeO.ite ?_ ?_
      | refine LeO.bind ?_ (fun _ => ?_)
    · intro y0 y1 y2 y3 y4
      unfold jacquardlaw01_BitsCommute.j2
      repeat' first
      | (with_reducible exact ih0 _ _ _ _ _ _)
      | (with_reducible exact ih1 _ _ _ _ _ _)
      | (with_reducible exact ih2 _ _ _ _ _)
      | (with_reducible exact bits_Binary.mono _ _ _ _ _)
      | (with_reducible exact jacquardlaw01_awake.mono _)
      | (with_reducible exact LeO.refl _)
      | (with_reducible exact LeO.none _)
      | (with_reducible refine LeO.ite ?_ ?_)
      | (with_reducible refine LeO.bind ?_ (fun _ => ?_))
      | exact ih0 _ _ _ _ _ _
      | exact ih1 _ _ _ _ _ _
      | exact ih2 _ _ _ _ _
      | exact bits_Binary.mono _ _ _ _ _
      | exact jacquardlaw01_awake.mono _
      | exact LeO.none _
      | refine LeO.ite ?_ ?_
      | refine LeO.bind ?_ (fun _ => ?_)
theorem jacquardlaw01_BitsCommute.mono : ∀ a0 a1 a2 a3 a4 k, LeO (jacquardlaw01_BitsCommute.f k a0 a1 a2 a3 a4) (jacquardlaw01_BitsCommute.f (k + 1) a0 a1 a2 a3 a4) := by
  intro a0 a1 a2 a3 a4 k
  obtain ⟨ih0, ih1, ih2⟩ := jacquardlaw01_BitsCommute.mono_l k
  unfold jacquardlaw01_BitsCommute.f
  repeat' first
      | (with_reducible exact ih0 _ _ _ _ _ _)
      | (with_reducible exact ih1 _ _ _ _ _ _)
      | (with_reducible exact ih2 _ _ _ _ _)
      | (with_reducible exact bits_Binary.mono _ _ _ _ _)
      | (with_reducible exact jacquardlaw01_awake.mono _)
      | (with_reducible exact LeO.refl _)
      | (with_reducible exact LeO.none _)
      | (with_reducible refine LeO.ite ?_ ?_)
      | (with_reducible refine LeO.bind ?_ (fun _ => ?_))
      | exact ih0 _ _ _ _ _ _
      | exact ih1 _ _ _ _ _ _
      | exact ih2 _ _ _ _ _
      | exact bits_Binary.mono _ _ _ _ _
      | exact jacquardlaw01_awake.mono _
      | exact LeO.none _
      | refine LeO.ite ?_ ?_
      | refine LeO.bind ?_ (fun _ => ?_)
set_option maxHeartbeats 8000000 in
set_option maxRecDepth 100000 in
theorem jacquardlaw01_BitsCommute.calls (k : Nat) (a0 : Int) (a1 : Int) (a2_0 : Int) (a2_1 : Int) (a2_2 : Int) (r : Bool) (w : World) (h : jacquardlaw01_BitsCommute.f k a0 a1 a2_0 a2_1 a2_2 = some r) :
    Calls Try.prog 11 #[.int .i64 a0, .int .i64 a1, .agg #[.int .u64 a2_0, .int .u64 a2_1, .int .u64 a2_2]] w fun e w' => e = .returned (.bool r) ∧ Below w.heap.size w w' := by
  have hu64 := Try.underlying64
  have HB := Aside0.mk (Below.refl w.heap.size w)
  have H : ((jacquardlaw01_awake.f k).bind fun t563 => (if t563 = true then (if a0 = 2 then (jacquardlaw01_BitsCommute.j0 k a0 a1 true a2_0 a2_1 a2_2) else (if a0 = 4 then (jacquardlaw01_BitsCommute.j0 k a0 a1 true a2_0 a2_1 a2_2) else (if a0 = 9 then (jacquardlaw01_BitsCommute.j0 k a0 a1 true a2_0 a2_1 a2_2) else (if a0 = 10 then (jacquardlaw01_BitsCommute.j0 k a0 a1 true a2_0 a2_1 a2_2) else (if a0 = 11 then (jacquardlaw01_BitsCommute.j0 k a0 a1 true a2_0 a2_1 a2_2) else (if a0 = 15 then (jacquardlaw01_BitsCommute.j0 k a0 a1 true a2_0 a2_1 a2_2) else (jacquardlaw01_BitsCommute.j0 k a0 a1 (a0 == 16) a2_0 a2_1 a2_2))))))) else (some false))) = some r := h
  clear h
  replace H := Option.bind_eq_some_iff.mp H
  obtain ⟨t563, A40, H⟩ := H
  replace H : (if t563 = true then (if a0 = 2 then (jacquardlaw01_BitsCommute.j0 k a0 a1 true a2_0 a2_1 a2_2) else (if a0 = 4 then (jacquardlaw01_BitsCommute.j0 k a0 a1 true a2_0 a2_1 a2_2) else (if a0 = 9 then (jacquardlaw01_BitsCommute.j0 k a0 a1 true a2_0 a2_1 a2_2) else (if a0 = 10 then (jacquardlaw01_BitsCommute.j0 k a0 a1 true a2_0 a2_1 a2_2) else (if a0 = 11 then (jacquardlaw01_BitsCommute.j0 k a0 a1 true a2_0 a2_1 a2_2) else (if a0 = 15 then (jacquardlaw01_BitsCommute.j0 k a0 a1 true a2_0 a2_1 a2_2) else (jacquardlaw01_BitsCommute.j0 k a0 a1 (a0 == 16) a2_0 a2_1 a2_2))))))) else (some false)) = some r := H
  have A4 := Aside0.mk A40
  clear A40
  by_cases c5 : t563 = true
  · subst c5
    have H1 : (if a0 = 2 then (jacquardlaw01_BitsCommute.j0 k a0 a1 true a2_0 a2_1 a2_2) else (if a0 = 4 then (jacquardlaw01_BitsCommute.j0 k a0 a1 true a2_0 a2_1 a2_2) else (if a0 = 9 then (jacquardlaw01_BitsCommute.j0 k a0 a1 true a2_0 a2_1 a2_2) else (if a0 = 10 then (jacquardlaw01_BitsCommute.j0 k a0 a1 true a2_0 a2_1 a2_2) else (if a0 = 11 then (jacquardlaw01_BitsCommute.j0 k a0 a1 true a2_0 a2_1 a2_2) else (if a0 = 15 then (jacquardlaw01_BitsCommute.j0 k a0 a1 true a2_0 a2_1 a2_2) else (jacquardlaw01_BitsCommute.j0 k a0 a1 (a0 == 16) a2_0 a2_1 a2_2))))))) = some r := by rw [if_pos rfl] at H; exact H
    clear H
    have H := H1
    clear H1
    have HC6 := Aside0.mk H
    clear H
    go_enter Try.func11, Try.ntmps11
    go_upto_region 3 with (first | ((with_reducible refine gate_dst (N := 5) rfl ?_); refine box_event ?hg (N := 5) ?hd (cs := #[.int .u64 a2_0, .int .u64 a2_1, .int .u64 a2_2]) (t := 64) ?hr ?_; (case hd => rfl); (case hg => rfl); (case hr => first | (go_simp; done) | (go_simp; rfl)); intro gb562 hg w7 hbox hb; have n0_ := Aside0.mk (below_step (by repeat (first | (with_reducible first | exact HB.out | apply below_alloc | apply pw_below_drewN | apply below_drew1) | exact HB.out)) hb); have n1_ := Aside0.mk (hbox); have n2_ := Aside0.mk ((by rw [hg]; exact (below_size (by repeat (first | (with_reducible first | exact HB.out | apply below_alloc | apply pw_below_drewN | apply below_drew1) | exact HB.out))) : w.heap.size ≤ gb562)); have n3_ := Aside0.mk ((by rw [hg]; exact (below_size (by repeat (first | (with_reducible first | exact HB.out | apply below_alloc | apply pw_below_drewN | apply below_drew1) | exact HB.out))) : w.heap.size ≤ gb562)); clear HB; have HB := n0_; have BK562 := n1_; have GW562 := n2_; have GE562 := n3_; clear n0_ n1_ n2_ n3_; clear hb hbox hg) | ((with_reducible refine gate_callee (f := 42) rfl ?_); refine goesL_ (some 20) rfl rfl Try.func42 (by kernel_rfl) rfl #[] rfl (by (try simp only [List.map_toArray, List.map_cons, List.map_nil]); first | done | rfl | (simp only [List.length_drop, List.length_take]; rfl)) ?_; (with_reducible refine (jacquardlaw01_awake.calls k  true _ A4.out).mono ?_); rintro e w8 ⟨rfl, hb⟩; refine ⟨_, rfl, ?_⟩; have n0_ := Aside0.mk (blk_below (g := gb562) (o := .cells #[.int .u64 a2_0, .int .u64 a2_1, .int .u64 a2_2] 64 (0, 0)) (by (with_reducible repeat (first | refine blk_drewN ?_ _ | refine blk_drew ?_ | refine blk_alloc ?_ _)); exact BK562.out) hb); have n1_ := Aside0.mk (below_step (by repeat (first | (with_reducible first | exact HB.out | apply below_alloc | apply pw_below_drewN | apply below_drew1 | refine below_set ?_ GE562.out) | exact HB.out)) hb); clear BK562; clear HB; have BK562 := n0_; have HB := n1_; clear n0_ n1_; (try clear hb); (try clear hb2); (try clear hk); (try clear hi)))
    (try simp only [Act.put, List.setIfInBounds_toArray, List.set_cons_zero, List.set_cons_succ])
    go_cut [7] (fun v7 wc => ∃ (kq : Nat) (x7_5 : Bool), v7 = .bool x7_5 ∧ Aside0 (jacquardlaw01_BitsCommute.j0 kq a0 a1 x7_5 a2_0 a2_1 a2_2 = some r) ∧ Aside0 (kq ≤ k) ∧ Aside0 (wc.heap[gb562]? = some (.cells #[.int .u64 a2_0, .int .u64 a2_1, .int .u64 a2_2] 64 (0, 0))) ∧ Aside0 (Below w.heap.size w wc))
    case first =>
      have H := HC6.out
      clear HC6
      by_cases c9 : a0 = 2
      · rw [if_pos c9] at H
        have c9b0 : (a0 == 2) = true := beq_iff_eq.mpr c9
        have c9b1 : (a0 != 2) = false := bne_eq_false_iff_eq.mpr c9
        clear c9
        (first | rw [c9b0] | (simp only [i64_w, i32_w]; rw [c9b0]) | skip)
        have H' := Aside0.mk H
        clear H
        go_wp2
        go_meet
        case rel => exact ⟨_, (true), (by first | rfl | (simp; done) | (simp [*]; done)), H', ⟨by first | omega | exact Nat.le_refl _⟩, ⟨by (with_reducible repeat (first | refine blk_drewN ?_ _ | refine blk_drew ?_ | refine blk_alloc ?_ _)); exact BK562.out⟩, ⟨by repeat (first | (with_reducible first | exact HB.out | apply below_alloc | apply pw_below_drewN | apply below_drew1 | refine below_set ?_ GE562.out) | exact HB.out)⟩⟩
      · rw [if_neg c9] at H
        have c9b0 : (a0 == 2) = false := beq_eq_false_iff_ne.mpr c9
        have c9b1 : (a0 != 2) = true := bne_iff_ne.mpr c9
        (first | rw [c9b0] | (simp only [i64_w, i32_w]; rw [c9b0]) | skip)
        by_cases c10 : a0 = 4
        · rw [if_pos c10] at H
          have c10b0 : (a0 == 4) = true := beq_iff_eq.mpr c10
          have c10b1 : (a0 != 4) = false := bne_eq_false_iff_eq.mpr c10
          clear c10
          have H' := Aside0.mk H
          clear H
          go_wp2
          go_meet
          case rel => exact ⟨_, (true), (by first | rfl | (simp; done) | (simp [*]; done)), H', ⟨by first | omega | exact Nat.le_refl _⟩, ⟨by (with_reducible repeat (first | refine blk_drewN ?_ _ | refine blk_drew ?_ | refine blk_alloc ?_ _)); exact BK562.out⟩, ⟨by repeat (first | (with_reducible first | exact HB.out | apply below_alloc | apply pw_below_drewN | apply below_drew1 | refine below_set ?_ GE562.out) | exact HB.out)⟩⟩
        · rw [if_neg c10] at H
          have c10b0 : (a0 == 4) = false := beq_eq_false_iff_ne.mpr c10
          have c10b1 : (a0 != 4) = true := bne_iff_ne.mpr c10
          by_cases c11 : a0 = 9
          · rw [if_pos c11] at H
            have c11b0 : (a0 == 9) = true := beq_iff_eq.mpr c11
            have c11b1 : (a0 != 9) = false := bne_eq_false_iff_eq.mpr c11
            clear c11
            have H' := Aside0.mk H
            clear H
            go_wp2
            go_meet
            case rel => exact ⟨_, (true), (by first | rfl | (simp; done) | (simp [*]; done)), H', ⟨by first | omega | exact Nat.le_refl _⟩, ⟨by (with_reducible repeat (first | refine blk_drewN ?_ _ | refine blk_drew ?_ | refine blk_alloc ?_ _)); exact BK562.out⟩, ⟨by repeat (first | (with_reducible first | exact HB.out | apply below_alloc | apply pw_below_drewN | apply below_drew1 | refine below_set ?_ GE562.out) | exact HB.out)⟩⟩
          · rw [if_neg c11] at H
            have c11b0 : (a0 == 9) = false := beq_eq_false_iff_ne.mpr c11
            have c11b1 : (a0 != 9) = true := bne_iff_ne.mpr c11
            by_cases c12 : a0 = 10
            · rw [if_pos c12] at H
              have c12b0 : (a0 == 10) = true := beq_iff_eq.mpr c12
              have c12b1 : (a0 != 10) = false := bne_eq_false_iff_eq.mpr c12
              clear c12
              have H' := Aside0.mk H
              clear H
              go_wp2
              go_meet
              case rel => exact ⟨_, (true), (by first | rfl | (simp; done) | (simp [*]; done)), H', ⟨by first | omega | exact Nat.le_refl _⟩, ⟨by (with_reducible repeat (first | refine blk_drewN ?_ _ | refine blk_drew ?_ | refine blk_alloc ?_ _)); exact BK562.out⟩, ⟨by repeat (first | (with_reducible first | exact HB.out | apply below_alloc | apply pw_below_drewN | apply below_drew1 | refine below_set ?_ GE562.out) | exact HB.out)⟩⟩
            · rw [if_neg c12] at H
              have c12b0 : (a0 == 10) = false := beq_eq_false_iff_ne.mpr c12
              have c12b1 : (a0 != 10) = true := bne_iff_ne.mpr c12
              by_cases c13 : a0 = 11
              · rw [if_pos c13] at H
                have c13b0 : (a0 == 11) = true := beq_iff_eq.mpr c13
                have c13b1 : (a0 != 11) = false := bne_eq_false_iff_eq.mpr c13
                clear c13
                have H' := Aside0.mk H
                clear H
                go_wp2
                go_meet
                case rel => exact ⟨_, (true), (by first | rfl | (simp; done) | (simp [*]; done)), H', ⟨by first | omega | exact Nat.le_refl _⟩, ⟨by (with_reducible repeat (first | refine blk_drewN ?_ _ | refine blk_drew ?_ | refine blk_alloc ?_ _)); exact BK562.out⟩, ⟨by repeat (first | (with_reducible first | exact HB.out | apply below_alloc | apply pw_below_drewN | apply below_drew1 | refine below_set ?_ GE562.out) | exact HB.out)⟩⟩
              · rw [if_neg c13] at H
                have c13b0 : (a0 == 11) = false := beq_eq_false_iff_ne.mpr c13
                have c13b1 : (a0 != 11) = true := bne_iff_ne.mpr c13
                by_cases c14 : a0 = 15
                · rw [if_pos c14] at H
                  have c14b0 : (a0 == 15) = true := beq_iff_eq.mpr c14
                  have c14b1 : (a0 != 15) = false := bne_eq_false_iff_eq.mpr c14
                  clear c14
                  have H' := Aside0.mk H
                  clear H
                  go_wp2
                  go_meet
                  case rel => exact ⟨_, (true), (by first | rfl | (simp; done) | (simp [*]; done)), H', ⟨by first | omega | exact Nat.le_refl _⟩, ⟨by (with_reducible repeat (first | refine blk_drewN ?_ _ | refine blk_drew ?_ | refine blk_alloc ?_ _)); exact BK562.out⟩, ⟨by repeat (first | (with_reducible first | exact HB.out | apply below_alloc | apply pw_below_drewN | apply below_drew1 | refine below_set ?_ GE562.out) | exact HB.out)⟩⟩
                · rw [if_neg c14] at H
                  have c14b0 : (a0 == 15) = false := beq_eq_false_iff_ne.mpr c14
                  have c14b1 : (a0 != 15) = true := bne_iff_ne.mpr c14
                  have H' := Aside0.mk H
                  clear H
                  go_wp2
                  go_meet
                  case rel => exact ⟨_, ((a0 == 16)), (by first | rfl | (simp; done) | (simp [*]; done)), H', ⟨by first | omega | exact Nat.le_refl _⟩, ⟨by (with_reducible repeat (first | refine blk_drewN ?_ _ | refine blk_drew ?_ | refine blk_alloc ?_ _)); exact BK562.out⟩, ⟨by repeat (first | (with_reducible first | exact HB.out | apply below_alloc | apply pw_below_drewN | apply below_drew1 | refine below_set ?_ GE562.out) | exact HB.out)⟩⟩
    case rest =>
      clear HC6
      try clear c1
      try clear p2
      try clear c4
      try clear c5
      try clear c9
      try clear c9b0
      try clear c9b1
      try clear c10
      try clear c10b0
      try clear c10b1
      try clear c11
      try clear c11b0
      try clear c11b1
      try clear c12
      try clear c12b0
      try clear c12b1
      try clear c13
      try clear c13b0
      try clear c13b1
      try clear c14
      try clear c14b0
      try clear c14b1
      obtain ⟨kq, x7_5, rfl, HA, HJ5, BK562, HB⟩ := hcut
      cases kq with
      | zero => exact absurd HA.out (by simp [jacquardlaw01_BitsCommute.j0])
      | succ kj5 =>
        have H := HA.out
        clear HA
        simp only [jacquardlaw01_BitsCommute.j0] at H
        have HC15 := Aside0.mk H
        clear H
        go_upto_region 4 with (fail)
        go_cut [65] (fun v65 wc => ∃ (kq : Nat) (x65_14 : Bool), v65 = .bool x65_14 ∧ Aside0 (jacquardlaw01_BitsCommute.j1 kq a0 a1 x65_14 a2_0 a2_1 a2_2 = some r) ∧ Aside0 (kq ≤ kj5) ∧ Aside0 (wc.heap[gb562]? = some (.cells #[.int .u64 a2_0, .int .u64 a2_1, .int .u64 a2_2] 64 (0, 0))) ∧ Aside0 (Below w.heap.size w wc))
        case first =>
          have H := HC15.out
          clear HC15
          replace H := Option.bind_eq_some_iff.mp H
          obtain ⟨t564, A160, H⟩ := H
          replace H : (if (t564 != x7_5) = true then (jacquardlaw01_BitsCommute.j1 kj5 a0 a1 true a2_0 a2_1 a2_2) else ((bits_Associates.f a0).bind fun t565 => (if x7_5 = true then (if a0 = 15 then (jacquardlaw01_BitsCommute.j1 kj5 a0 a1 (t565 != false) a2_0 a2_1 a2_2) else (jacquardlaw01_BitsCommute.j1 kj5 a0 a1 (t565 != (a0 != 16)) a2_0 a2_1 a2_2)) else (jacquardlaw01_BitsCommute.j1 kj5 a0 a1 (t565 != false) a2_0 a2_1 a2_2)))) = some r := H
          have A16 := Aside0.mk A160
          clear A160
          by_cases c17 : (t564 != x7_5) = true
          · rw [if_pos c17] at H
            have c17b0 : (t564 != x7_5) = true := c17
            (try (have c17b1 : decide (t564 = x7_5) = false := by simpa using c17))
            (try (have c17b2 : (t564 == x7_5) = false := by simpa using c17))
            (try (have c17b3 : ¬ (t564 = x7_5) := by simpa using c17))
            clear c17
            (first | rw [c17b0] | (simp only [i64_w, i32_w]; rw [c17b0]) | skip)
            (first | rw [show (!(t564 == x7_5)) = true by revert c17b0; cases t564 <;> cases x7_5 <;> simp] | rw [show ((!t564) == x7_5) = true by revert c17b0; cases t564 <;> cases x7_5 <;> simp] | skip)
            have H' := Aside0.mk H
            clear H
            go_wp2_with (first | ((with_reducible refine gate_callee (f := 52) rfl ?_); refine goesL_ (some 49) rfl rfl Try.func52 (by kernel_rfl) rfl #[.int .i64 a0] rfl (by (try simp only [List.map_toArray, List.map_cons, List.map_nil]); first | done | rfl | (simp only [List.length_drop, List.length_take]; rfl)) ?_; (with_reducible refine (bits_Commutes.calls a0 t564 _ A16.out).mono ?_); rintro e w' ⟨rfl, ⟨nd, rfl⟩⟩; refine ⟨_, rfl, ?_⟩))
            go_meet
            case rel => exact ⟨_, (true), (by first | rfl | (simp; done) | (simp [*]; done)), H', ⟨by have := HJ5.out; first | omega | exact Nat.le_refl _⟩, ⟨by (with_reducible repeat (first | refine blk_drewN ?_ _ | refine blk_drew ?_ | refine blk_alloc ?_ _)); exact BK562.out⟩, ⟨by repeat (first | (with_reducible first | exact HB.out | apply below_alloc | apply pw_below_drewN | apply below_drew1 | refine below_set ?_ GE562.out) | exact HB.out)⟩⟩
          · rw [if_neg c17] at H
            have c17b0 : (t564 != x7_5) = false := by simpa using c17
            (try (have c17b1 : decide (t564 = x7_5) = true := by simpa using c17))
            (try (have c17b2 : (t564 == x7_5) = true := by simpa using c17))
            clear c17
            (first | rw [c17b0] | (simp only [i64_w, i32_w]; rw [c17b0]) | skip)
            (first | rw [show (!(t564 == x7_5)) = false by revert c17b0; cases t564 <;> cases x7_5 <;> simp] | rw [show ((!t564) == x7_5) = false by revert c17b0; cases t564 <;> cases x7_5 <;> simp] | skip)
            replace H := Option.bind_eq_some_iff.mp H
            obtain ⟨t565, A180, H⟩ := H
            replace H : (if x7_5 = true then (if a0 = 15 then (jacquardlaw01_BitsCommute.j1 kj5 a0 a1 (t565 != false) a2_0 a2_1 a2_2) else (jacquardlaw01_BitsCommute.j1 kj5 a0 a1 (t565 != (a0 != 16)) a2_0 a2_1 a2_2)) else (jacquardlaw01_BitsCommute.j1 kj5 a0 a1 (t565 != false) a2_0 a2_1 a2_2)) = some r := H
            have A18 := Aside0.mk A180
            clear A180
            by_cases c19 : x7_5 = true
            · subst c19
              have H1 : (if a0 = 15 then (jacquardlaw01_BitsCommute.j1 kj5 a0 a1 (t565 != false) a2_0 a2_1 a2_2) else (jacquardlaw01_BitsCommute.j1 kj5 a0 a1 (t565 != (a0 != 16)) a2_0 a2_1 a2_2)) = some r := by rw [if_pos rfl] at H; exact H
              clear H
              have H := H1
              clear H1
              by_cases c20 : a0 = 15
              · rw [if_pos c20] at H
                have c20b0 : (a0 == 15) = true := beq_iff_eq.mpr c20
                have c20b1 : (a0 != 15) = false := bne_eq_false_iff_eq.mpr c20
                clear c20
                have H' := Aside0.mk H
                clear H
                go_wp2_with (first | ((with_reducible refine gate_callee (f := 52) rfl ?_); refine goesL_ (some 49) rfl rfl Try.func52 (by kernel_rfl) rfl #[.int .i64 a0] rfl (by (try simp only [List.map_toArray, List.map_cons, List.map_nil]); first | done | rfl | (simp only [List.length_drop, List.length_take]; rfl)) ?_; (with_reducible refine (bits_Commutes.calls a0 t564 _ A16.out).mono ?_); rintro e w' ⟨rfl, ⟨nd, rfl⟩⟩; refine ⟨_, rfl, ?_⟩) | (go_at_call 53; (with_reducible refine (bits_Associates.calls a0 t565 _ A18.out).mono ?_); rintro e w' ⟨rfl, ⟨nd, rfl⟩⟩))
                go_meet
                case rel => exact ⟨_, ((t565 != false)), (by first | rfl | (simp; done) | (simp [*]; done)), H', ⟨by have := HJ5.out; first | omega | exact Nat.le_refl _⟩, ⟨by (with_reducible repeat (first | refine blk_drewN ?_ _ | refine blk_drew ?_ | refine blk_alloc ?_ _)); exact BK562.out⟩, ⟨by repeat (first | (with_reducible first | exact HB.out | apply below_alloc | apply pw_below_drewN | apply below_drew1 | refine below_set ?_ GE562.out) | exact HB.out)⟩⟩
              · rw [if_neg c20] at H
                have c20b0 : (a0 == 15) = false := beq_eq_false_iff_ne.mpr c20
                have c20b1 : (a0 != 15) = true := bne_iff_ne.mpr c20
                have H' := Aside0.mk H
                clear H
                go_wp2_with (first | ((with_reducible refine gate_callee (f := 52) rfl ?_); refine goesL_ (some 49) rfl rfl Try.func52 (by kernel_rfl) rfl #[.int .i64 a0] rfl (by (try simp only [List.map_toArray, List.map_cons, List.map_nil]); first | done | rfl | (simp only [List.length_drop, List.length_take]; rfl)) ?_; (with_reducible refine (bits_Commutes.calls a0 t564 _ A16.out).mono ?_); rintro e w' ⟨rfl, ⟨nd, rfl⟩⟩; refine ⟨_, rfl, ?_⟩) | (go_at_call 53; (with_reducible refine (bits_Associates.calls a0 t565 _ A18.out).mono ?_); rintro e w' ⟨rfl, ⟨nd, rfl⟩⟩))
                go_meet
                case rel => exact ⟨_, ((t565 != (a0 != 16))), (by first | rfl | (simp; done) | (simp [*]; done)), H', ⟨by have := HJ5.out; first | omega | exact Nat.le_refl _⟩, ⟨by (with_reducible repeat (first | refine blk_drewN ?_ _ | refine blk_drew ?_ | refine blk_alloc ?_ _)); exact BK562.out⟩, ⟨by repeat (first | (with_reducible first | exact HB.out | apply below_alloc | apply pw_below_drewN | apply below_drew1 | refine below_set ?_ GE562.out) | exact HB.out)⟩⟩
            · replace c19 := Bool.eq_false_iff.mpr c19
              subst c19
              have H1 : (jacquardlaw01_BitsCommute.j1 kj5 a0 a1 (t565 != false) a2_0 a2_1 a2_2) = some r := by rw [if_neg (show ¬ (false = true) by decide)] at H; exact H
              clear H
              have H := H1
              clear H1
              have H' := Aside0.mk H
              clear H
              go_wp2_with (first | ((with_reducible refine gate_callee (f := 52) rfl ?_); refine goesL_ (some 49) rfl rfl Try.func52 (by kernel_rfl) rfl #[.int .i64 a0] rfl (by (try simp only [List.map_toArray, List.map_cons, List.map_nil]); first | done | rfl | (simp only [List.length_drop, List.length_take]; rfl)) ?_; (with_reducible refine (bits_Commutes.calls a0 t564 _ A16.out).mono ?_); rintro e w' ⟨rfl, ⟨nd, rfl⟩⟩; refine ⟨_, rfl, ?_⟩) | (go_at_call 53; (with_reducible refine (bits_Associates.calls a0 t565 _ A18.out).mono ?_); rintro e w' ⟨rfl, ⟨nd, rfl⟩⟩))
              go_meet
              case rel => exact ⟨_, ((t565 != false)), (by first | rfl | (simp; done) | (simp [*]; done)), H', ⟨by have := HJ5.out; first | omega | exact Nat.le_refl _⟩, ⟨by (with_reducible repeat (first | refine blk_drewN ?_ _ | refine blk_drew ?_ | refine blk_alloc ?_ _)); exact BK562.out⟩, ⟨by repeat (first | (with_reducible first | exact HB.out | apply below_alloc | apply pw_below_drewN | apply below_drew1 | refine below_set ?_ GE562.out) | exact HB.out)⟩⟩
        case rest =>
          clear HC15
          try clear c1
          try clear c2
          try clear p2
          try clear c4
          try clear c5
          try clear c9
          try clear c9b0
          try clear c9b1
          try clear c10
          try clear c10b0
          try clear c10b1
          try clear c11
          try clear c11b0
          try clear c11b1
          try clear c12
          try clear c12b0
          try clear c12b1
          try clear c13
          try clear c13b0
          try clear c13b1
          try clear c14
          try clear c14b0
          try clear c14b1
          try clear c17
          try clear c17b0
          try clear c17b1
          try clear c17b2
          try clear c19
          try clear c20
          try clear c20b0
          try clear c20b1
          try clear p2
          obtain ⟨kq, x65_14, rfl, HA, HJ14, BK562, HB⟩ := hcut
          cases kq with
          | zero => exact absurd HA.out (by simp [jacquardlaw01_BitsCommute.j1])
          | succ kj14 =>
            have H := HA.out
            clear HA
            simp only [jacquardlaw01_BitsCommute.j1] at H
            by_cases c21 : x65_14 = true
            · subst c21
              have H1 : (some false) = some r := by rw [if_pos rfl] at H; exact H
              clear H
              have H := H1
              clear H1
              obtain rfl := Option.some.inj H
              go_wp2
              go_ret
              exact ⟨by first | rfl | (simp [errW_none, errW_some] <;> rfl) | (simp [*, errW_none, errW_some] <;> rfl), by repeat (first | (with_reducible first | exact HB.out | apply below_alloc | apply pw_below_drewN | apply below_drew1 | refine below_set ?_ GE562.out) | exact HB.out)⟩
            · replace c21 := Bool.eq_false_iff.mpr c21
              subst c21
              have H1 : ((jacquardref01_Right.f a1).bind fun t566 => (if t566 = true then ((bits_Commutes.f a0).bind fun t567 => (if t567 = true then ((bits_Binary.f kj14 a0 a1 a2_0 a2_1).bind fun bt568 => ((bits_Binary.f kj14 a0 a1 a2_1 a2_0).bind fun bt570 => (if bt568.1 = bt570.1 then (jacquardlaw01_BitsCommute.j2 kj14 a0 a1 a2_0 a2_1 a2_2) else (some false)))) else (jacquardlaw01_BitsCommute.j2 kj14 a0 a1 a2_0 a2_1 a2_2))) else (some true))) = some r := by rw [if_neg (show ¬ (false = true) by decide)] at H; exact H
              clear H
              have H := H1
              clear H1
              replace H := Option.bind_eq_some_iff.mp H
              obtain ⟨t566, A220, H⟩ := H
              replace H : (if t566 = true then ((bits_Commutes.f a0).bind fun t567 => (if t567 = true then ((bits_Binary.f kj14 a0 a1 a2_0 a2_1).bind fun bt568 => ((bits_Binary.f kj14 a0 a1 a2_1 a2_0).bind fun bt570 => (if bt568.1 = bt570.1 then (jacquardlaw01_BitsCommute.j2 kj14 a0 a1 a2_0 a2_1 a2_2) else (some false)))) else (jacquardlaw01_BitsCommute.j2 kj14 a0 a1 a2_0 a2_1 a2_2))) else (some true)) = some r := H
              have A22 := Aside0.mk A220
              clear A220
              by_cases c23 : t566 = true
              · subst c23
                have H1 : ((bits_Commutes.f a0).bind fun t567 => (if t567 = true then ((bits_Binary.f kj14 a0 a1 a2_0 a2_1).bind fun bt568 => ((bits_Binary.f kj14 a0 a1 a2_1 a2_0).bind fun bt570 => (if bt568.1 = bt570.1 then (jacquardlaw01_BitsCommute.j2 kj14 a0 a1 a2_0 a2_1 a2_2) else (some false)))) else (jacquardlaw01_BitsCommute.j2 kj14 a0 a1 a2_0 a2_1 a2_2))) = some r := by rw [if_pos rfl] at H; exact H
                clear H
                have H := H1
                clear H1
                replace H := Option.bind_eq_some_iff.mp H
                obtain ⟨t567, A240, H⟩ := H
                replace H : (if t567 = true then ((bits_Binary.f kj14 a0 a1 a2_0 a2_1).bind fun bt568 => ((bits_Binary.f kj14 a0 a1 a2_1 a2_0).bind fun bt570 => (if bt568.1 = bt570.1 then (jacquardlaw01_BitsCommute.j2 kj14 a0 a1 a2_0 a2_1 a2_2) else (some false)))) else (jacquardlaw01_BitsCommute.j2 kj14 a0 a1 a2_0 a2_1 a2_2)) = some r := H
                have A24 := Aside0.mk A240
                clear A240
                have HC25 := Aside0.mk H
                clear H
                go_upto_if 70 with (first | ((with_reducible refine gate_callee (f := 45) rfl ?_); refine goesL_ (some 67) rfl rfl Try.func45 (by kernel_rfl) rfl #[.int .i64 a1] rfl (by (try simp only [List.map_toArray, List.map_cons, List.map_nil]); first | done | rfl | (simp only [List.length_drop, List.length_take]; rfl)) ?_; (with_reducible refine (jacquardref01_Right.calls a1 true _ A22.out).mono ?_); rintro e w' ⟨rfl, ⟨nd, rfl⟩⟩; refine ⟨_, rfl, ?_⟩) | ((with_reducible refine gate_callee (f := 52) rfl ?_); refine goesL_ (some 70) rfl rfl Try.func52 (by kernel_rfl) rfl #[.int .i64 a0] rfl (by (try simp only [List.map_toArray, List.map_cons, List.map_nil]); first | done | rfl | (simp only [List.length_drop, List.length_take]; rfl)) ?_; (with_reducible refine (bits_Commutes.calls a0 t567 _ A24.out).mono ?_); rintro e w' ⟨rfl, ⟨nd, rfl⟩⟩; refine ⟨_, rfl, ?_⟩))
                (try simp only [Act.put, List.setIfInBounds_toArray, List.set_cons_zero, List.set_cons_succ])
                go_cut [] (fun wc => ∃ (kq : Nat), Aside0 (jacquardlaw01_BitsCommute.j2 kq a0 a1 a2_0 a2_1 a2_2 = some r) ∧ Aside0 (kq ≤ kj14) ∧ Aside0 (wc.heap[gb562]? = some (.cells #[.int .u64 a2_0, .int .u64 a2_1, .int .u64 a2_2] 64 (0, 0))) ∧ Aside0 (Below w.heap.size w wc))
                case first =>
                  have H := HC25.out
                  clear HC25
                  by_cases c26 : t567 = true
                  · subst c26
                    have H1 : ((bits_Binary.f kj14 a0 a1 a2_0 a2_1).bind fun bt568 => ((bits_Binary.f kj14 a0 a1 a2_1 a2_0).bind fun bt570 => (if bt568.1 = bt570.1 then (jacquardlaw01_BitsCommute.j2 kj14 a0 a1 a2_0 a2_1 a2_2) else (some false)))) = some r := by rw [if_pos rfl] at H; exact H
                    clear H
                    have H := H1
                    clear H1
                    replace H := Option.bind_eq_some_iff.mp H
                    obtain ⟨⟨t568, t569⟩, A270, H⟩ := H
                    replace H : ((bits_Binary.f kj14 a0 a1 a2_1 a2_0).bind fun bt570 => (if t568 = bt570.1 then (jacquardlaw01_BitsCommute.j2 kj14 a0 a1 a2_0 a2_1 a2_2) else (some false))) = some r := H
                    have A27 := Aside0.mk A270
                    clear A270
                    replace H := Option.bind_eq_some_iff.mp H
                    obtain ⟨⟨t570, t571⟩, A280, H⟩ := H
                    replace H : (if t568 = t570 then (jacquardlaw01_BitsCommute.j2 kj14 a0 a1 a2_0 a2_1 a2_2) else (some false)) = some r := H
                    have A28 := Aside0.mk A280
                    clear A280
                    by_cases c29 : t568 = t570
                    · rw [if_pos c29] at H
                      have c29b0 : (t568 == t570) = true := beq_iff_eq.mpr c29
                      have c29b1 : (t568 != t570) = false := bne_eq_false_iff_eq.mpr c29
                      clear c29
                      (first | rw [c29b0] | (simp only [i64_w, i32_w]; rw [c29b0]) | skip)
                      have H' := Aside0.mk H
                      clear H
                      have hcz30_0 : wc.cell? ⟨gb562, 0, none⟩ = some (.int .u64 a2_0) := (blk_cell BK562.out 0).trans rfl
                      have hcz30_1 : wc.cell? ⟨gb562, 1, none⟩ = some (.int .u64 a2_1) := (blk_cell BK562.out 1).trans rfl
                      have hcz30_2 : wc.cell? ⟨gb562, 2, none⟩ = some (.int .u64 a2_2) := (blk_cell BK562.out 2).trans rfl
                      have hfz30_0 := blk_frozen BK562.out 0
                      have hfz30_1 := blk_frozen BK562.out 1
                      have hfz30_2 := blk_frozen BK562.out 2
                      go_wp2_with (first | ((with_reducible refine gate_callee (f := 43) rfl ?_); refine goesL_ (some 78) rfl rfl Try.func43 (by kernel_rfl) rfl #[.int .i64 a0, .int .i64 a1, .int .u64 a2_0, .int .u64 a2_1] rfl (by (try simp only [List.map_toArray, List.map_cons, List.map_nil]); first | done | rfl | (simp only [List.length_drop, List.length_take]; rfl)) ?_; (with_reducible refine (bits_Binary.calls kj14 a0 a1 a2_0 a2_1 t568 t569 _ A27.out).mono ?_); rintro e w31 ⟨rfl, hb⟩; refine ⟨_, rfl, ?_⟩; have n0_ := Aside0.mk (blk_below (g := gb562) (o := .cells #[.int .u64 a2_0, .int .u64 a2_1, .int .u64 a2_2] 64 (0, 0)) (by (with_reducible repeat (first | refine blk_drewN ?_ _ | refine blk_drew ?_ | refine blk_alloc ?_ _)); exact BK562.out) hb); have n1_ := Aside0.mk (below_step (by repeat (first | (with_reducible first | exact HB.out | apply below_alloc | apply pw_below_drewN | apply below_drew1 | refine below_set ?_ GE562.out) | exact HB.out)) hb); clear BK562; clear HB; have BK562 := n0_; have HB := n1_; clear n0_ n1_; (try clear hb); (try clear hb2); (try clear hk); (try clear hi); have hcz32_0 : w31.cell? ⟨gb562, 0, none⟩ = some (.int .u64 a2_0) := (blk_cell BK562.out 0).trans rfl; have hcz32_1 : w31.cell? ⟨gb562, 1, none⟩ = some (.int .u64 a2_1) := (blk_cell BK562.out 1).trans rfl; have hcz32_2 : w31.cell? ⟨gb562, 2, none⟩ = some (.int .u64 a2_2) := (blk_cell BK562.out 2).trans rfl; have hfz32_0 := blk_frozen BK562.out 0; have hfz32_1 := blk_frozen BK562.out 1; have hfz32_2 := blk_frozen BK562.out 2) | ((with_reducible refine gate_callee (f := 43) rfl ?_); refine goesL_ (some 88) rfl rfl Try.func43 (by kernel_rfl) rfl #[.int .i64 a0, .int .i64 a1, .int .u64 a2_1, .int .u64 a2_0] rfl (by (try simp only [List.map_toArray, List.map_cons, List.map_nil]); first | done | rfl | (simp only [List.length_drop, List.length_take]; rfl)) ?_; (with_reducible refine (bits_Binary.calls kj14 a0 a1 a2_1 a2_0 t570 t571 _ A28.out).mono ?_); rintro e w33 ⟨rfl, hb⟩; refine ⟨_, rfl, ?_⟩; have n0_ := Aside0.mk (blk_below (g := gb562) (o := .cells #[.int .u64 a2_0, .int .u64 a2_1, .int .u64 a2_2] 64 (0, 0)) (by (with_reducible repeat (first | refine blk_drewN ?_ _ | refine blk_drew ?_ | refine blk_alloc ?_ _)); exact BK562.out) hb); have n1_ := Aside0.mk (below_step (by repeat (first | (with_reducible first | exact HB.out | apply below_alloc | apply pw_below_drewN | apply below_drew1 | refine below_set ?_ GE562.out) | exact HB.out)) hb); clear BK562; clear HB; have BK562 := n0_; have HB := n1_; clear n0_ n1_; (try clear hb); (try clear hb2); (try clear hk); (try clear hi)))
                      go_meet
                      case rel => exact ⟨_, H', ⟨by have := HJ5.out; have := HJ14.out; first | omega | exact Nat.le_refl _⟩, ⟨by (with_reducible repeat (first | refine blk_drewN ?_ _ | refine blk_drew ?_ | refine blk_alloc ?_ _)); exact BK562.out⟩, ⟨by repeat (first | (with_reducible first | exact HB.out | apply below_alloc | apply pw_below_drewN | apply below_drew1 | refine below_set ?_ GE562.out) | exact HB.out)⟩⟩
                    · rw [if_neg c29] at H
                      have c29b0 : (t568 == t570) = false := beq_eq_false_iff_ne.mpr c29
                      have c29b1 : (t568 != t570) = true := bne_iff_ne.mpr c29
                      (first | rw [c29b0] | (simp only [i64_w, i32_w]; rw [c29b0]) | skip)
                      obtain rfl := Option.some.inj H
                      have hcz34_0 : wc.cell? ⟨gb562, 0, none⟩ = some (.int .u64 a2_0) := (blk_cell BK562.out 0).trans rfl
                      have hcz34_1 : wc.cell? ⟨gb562, 1, none⟩ = some (.int .u64 a2_1) := (blk_cell BK562.out 1).trans rfl
                      have hcz34_2 : wc.cell? ⟨gb562, 2, none⟩ = some (.int .u64 a2_2) := (blk_cell BK562.out 2).trans rfl
                      have hfz34_0 := blk_frozen BK562.out 0
                      have hfz34_1 := blk_frozen BK562.out 1
                      have hfz34_2 := blk_frozen BK562.out 2
                      go_wp2_with (first | ((with_reducible refine gate_callee (f := 43) rfl ?_); refine goesL_ (some 78) rfl rfl Try.func43 (by kernel_rfl) rfl #[.int .i64 a0, .int .i64 a1, .int .u64 a2_0, .int .u64 a2_1] rfl (by (try simp only [List.map_toArray, List.map_cons, List.map_nil]); first | done | rfl | (simp only [List.length_drop, List.length_take]; rfl)) ?_; (with_reducible refine (bits_Binary.calls kj14 a0 a1 a2_0 a2_1 t568 t569 _ A27.out).mono ?_); rintro e w35 ⟨rfl, hb⟩; refine ⟨_, rfl, ?_⟩; have n0_ := Aside0.mk (blk_below (g := gb562) (o := .cells #[.int .u64 a2_0, .int .u64 a2_1, .int .u64 a2_2] 64 (0, 0)) (by (with_reducible repeat (first | refine blk_drewN ?_ _ | refine blk_drew ?_ | refine blk_alloc ?_ _)); exact BK562.out) hb); have n1_ := Aside0.mk (below_step (by repeat (first | (with_reducible first | exact HB.out | apply below_alloc | apply pw_below_drewN | apply below_drew1 | refine below_set ?_ GE562.out) | exact HB.out)) hb); clear BK562; clear HB; have BK562 := n0_; have HB := n1_; clear n0_ n1_; (try clear hb); (try clear hb2); (try clear hk); (try clear hi); have hcz36_0 : w35.cell? ⟨gb562, 0, none⟩ = some (.int .u64 a2_0) := (blk_cell BK562.out 0).trans rfl; have hcz36_1 : w35.cell? ⟨gb562, 1, none⟩ = some (.int .u64 a2_1) := (blk_cell BK562.out 1).trans rfl; have hcz36_2 : w35.cell? ⟨gb562, 2, none⟩ = some (.int .u64 a2_2) := (blk_cell BK562.out 2).trans rfl; have hfz36_0 := blk_frozen BK562.out 0; have hfz36_1 := blk_frozen BK562.out 1; have hfz36_2 := blk_frozen BK562.out 2) | ((with_reducible refine gate_callee (f := 43) rfl ?_); refine goesL_ (some 88) rfl rfl Try.func43 (by kernel_rfl) rfl #[.int .i64 a0, .int .i64 a1, .int .u64 a2_1, .int .u64 a2_0] rfl (by (try simp only [List.map_toArray, List.map_cons, List.map_nil]); first | done | rfl | (simp only [List.length_drop, List.length_take]; rfl)) ?_; (with_reducible refine (bits_Binary.calls kj14 a0 a1 a2_1 a2_0 t570 t571 _ A28.out).mono ?_); rintro e w37 ⟨rfl, hb⟩; refine ⟨_, rfl, ?_⟩; have n0_ := Aside0.mk (blk_below (g := gb562) (o := .cells #[.int .u64 a2_0, .int .u64 a2_1, .int .u64 a2_2] 64 (0, 0)) (by (with_reducible repeat (first | refine blk_drewN ?_ _ | refine blk_drew ?_ | refine blk_alloc ?_ _)); exact BK562.out) hb); have n1_ := Aside0.mk (below_step (by repeat (first | (with_reducible first | exact HB.out | apply below_alloc | apply pw_below_drewN | apply below_drew1 | refine below_set ?_ GE562.out) | exact HB.out)) hb); clear BK562; clear HB; have BK562 := n0_; have HB := n1_; clear n0_ n1_; (try clear hb); (try clear hb2); (try clear hk); (try clear hi)))
                      go_ret
                      exact ⟨by first | rfl | (simp [errW_none, errW_some] <;> rfl) | (simp [*, errW_none, errW_some] <;> rfl), by repeat (first | (with_reducible first | exact HB.out | apply below_alloc | apply pw_below_drewN | apply below_drew1 | refine below_set ?_ GE562.out) | exact HB.out)⟩
                  · replace c26 := Bool.eq_false_iff.mpr c26
                    subst c26
                    have H1 : (jacquardlaw01_BitsCommute.j2 kj14 a0 a1 a2_0 a2_1 a2_2) = some r := by rw [if_neg (show ¬ (false = true) by decide)] at H; exact H
                    clear H
                    have H := H1
                    clear H1
                    have H' := Aside0.mk H
                    clear H
                    go_wp2
                    go_meet
                    case rel => exact ⟨_, H', ⟨by have := HJ5.out; have := HJ14.out; first | omega | exact Nat.le_refl _⟩, ⟨by (with_reducible repeat (first | refine blk_drewN ?_ _ | refine blk_drew ?_ | refine blk_alloc ?_ _)); exact BK562.out⟩, ⟨by repeat (first | (with_reducible first | exact HB.out | apply below_alloc | apply pw_below_drewN | apply below_drew1 | refine below_set ?_ GE562.out) | exact HB.out)⟩⟩
                case rest =>
                  clear HC25
                  try clear c1
                  try clear c2
                  try clear p2
                  try clear c4
                  try clear c5
                  try clear c9
                  try clear c9b0
                  try clear c9b1
                  try clear c10
                  try clear c10b0
                  try clear c10b1
                  try clear c11
                  try clear c11b0
                  try clear c11b1
                  try clear c12
                  try clear c12b0
                  try clear c12b1
                  try clear c13
                  try clear c13b0
                  try clear c13b1
                  try clear c14
                  try clear c14b0
                  try clear c14b1
                  try clear c17
                  try clear c17b0
                  try clear c17b1
                  try clear c17b2
                  try clear c19
                  try clear c20
                  try clear c20b0
                  try clear c20b1
                  try clear c21
                  try clear c23
                  try clear c26
                  try clear c29
                  try clear c29b0
                  try clear c29b1
                  try clear hcz30_0
                  try clear hcz30_1
                  try clear hcz30_2
                  try clear hcz32_0
                  try clear hcz32_1
                  try clear hcz32_2
                  try clear hcz34_0
                  try clear hcz34_1
                  try clear hcz34_2
                  try clear hcz36_0
                  try clear hcz36_1
                  try clear hcz36_2
                  try clear hfz30_0
                  try clear hfz30_1
                  try clear hfz30_2
                  try clear hfz32_0
                  try clear hfz32_1
                  try clear hfz32_2
                  try clear hfz34_0
                  try clear hfz34_1
                  try clear hfz34_2
                  try clear hfz36_0
                  try clear hfz36_1
                  try clear hfz36_2
                  try clear p2
                  obtain ⟨kq, HA, HJ24, BK562, HB⟩ := hcut
                  cases kq with
                  | zero => exact absurd HA.out (by simp [jacquardlaw01_BitsCommute.j2])
                  | succ kj24 =>
                    have H := HA.out
                    clear HA
                    simp only [jacquardlaw01_BitsCommute.j2] at H
                    replace H := Option.bind_eq_some_iff.mp H
                    obtain ⟨t572, A380, H⟩ := H
                    replace H : (if t572 = true then ((bits_Binary.f kj24 a0 a1 a2_0 a2_1).bind fun bt573 => ((bits_Binary.f kj24 a0 a1 a2_1 a2_2).bind fun bt575 => ((bits_Binary.f kj24 a0 a1 bt573.1 a2_2).bind fun bt577 => ((bits_Binary.f kj24 a0 a1 a2_0 bt575.1).bind fun bt579 => (if bt577.1 = bt579.1 then (some true) else (some false)))))) else (some true)) = some r := H
                    have A38 := Aside0.mk A380
                    clear A380
                    by_cases c39 : t572 = true
                    · subst c39
                      have H1 : ((bits_Binary.f kj24 a0 a1 a2_0 a2_1).bind fun bt573 => ((bits_Binary.f kj24 a0 a1 a2_1 a2_2).bind fun bt575 => ((bits_Binary.f kj24 a0 a1 bt573.1 a2_2).bind fun bt577 => ((bits_Binary.f kj24 a0 a1 a2_0 bt575.1).bind fun bt579 => (if bt577.1 = bt579.1 then (some true) else (some false)))))) = some r := by rw [if_pos rfl] at H; exact H
                      clear H
                      have H := H1
                      clear H1
                      replace H := Option.bind_eq_some_iff.mp H
                      obtain ⟨⟨t573, t574⟩, A400, H⟩ := H
                      replace H : ((bits_Binary.f kj24 a0 a1 a2_1 a2_2).bind fun bt575 => ((bits_Binary.f kj24 a0 a1 t573 a2_2).bind fun bt577 => ((bits_Binary.f kj24 a0 a1 a2_0 bt575.1).bind fun bt579 => (if bt577.1 = bt579.1 then (some true) else (some false))))) = some r := H
                      have A40 := Aside0.mk A400
                      clear A400
                      replace H := Option.bind_eq_some_iff.mp H
                      obtain ⟨⟨t575, t576⟩, A410, H⟩ := H
                      replace H : ((bits_Binary.f kj24 a0 a1 t573 a2_2).bind fun bt577 => ((bits_Binary.f kj24 a0 a1 a2_0 t575).bind fun bt579 => (if bt577.1 = bt579.1 then (some true) else (some false)))) = some r := H
                      have A41 := Aside0.mk A410
                      clear A410
                      replace H := Option.bind_eq_some_iff.mp H
                      obtain ⟨⟨t577, t578⟩, A420, H⟩ := H
                      replace H : ((bits_Binary.f kj24 a0 a1 a2_0 t575).bind fun bt579 => (if t577 = bt579.1 then (some true) else (some false))) = some r := H
                      have A42 := Aside0.mk A420
                      clear A420
                      replace H := Option.bind_eq_some_iff.mp H
                      obtain ⟨⟨t579, t580⟩, A430, H⟩ := H
                      replace H : (if t577 = t579 then (some true) else (some false)) = some r := H
                      have A43 := Aside0.mk A430
                      clear A430
                      by_cases c44 : t577 = t579
                      · rw [if_pos c44] at H
                        have c44b0 : (t577 == t579) = true := beq_iff_eq.mpr c44
                        have c44b1 : (t577 != t579) = false := bne_eq_false_iff_eq.mpr c44
                        clear c44
                        obtain rfl := Option.some.inj H
                        go_wp2_with (first | ((with_reducible refine gate_callee (f := 53) rfl ?_); refine goesL_ (some 95) rfl rfl Try.func53 (by kernel_rfl) rfl #[.int .i64 a0] rfl (by (try simp only [List.map_toArray, List.map_cons, List.map_nil]); first | done | rfl | (simp only [List.length_drop, List.length_take]; rfl)) ?_; (with_reducible refine (bits_Associates.calls a0 true _ A38.out).mono ?_); rintro e w' ⟨rfl, ⟨nd, rfl⟩⟩; refine ⟨_, rfl, ?_⟩; have hcz45_0 : wc.cell? ⟨gb562, 0, none⟩ = some (.int .u64 a2_0) := (blk_cell BK562.out 0).trans rfl; have hcz45_1 : wc.cell? ⟨gb562, 1, none⟩ = some (.int .u64 a2_1) := (blk_cell BK562.out 1).trans rfl; have hcz45_2 : wc.cell? ⟨gb562, 2, none⟩ = some (.int .u64 a2_2) := (blk_cell BK562.out 2).trans rfl; have hfz45_0 := blk_frozen BK562.out 0; have hfz45_1 := blk_frozen BK562.out 1; have hfz45_2 := blk_frozen BK562.out 2) | ((with_reducible refine gate_callee (f := 43) rfl ?_); refine goesL_ (some 103) rfl rfl Try.func43 (by kernel_rfl) rfl #[.int .i64 a0, .int .i64 a1, .int .u64 a2_0, .int .u64 a2_1] rfl (by (try simp only [List.map_toArray, List.map_cons, List.map_nil]); first | done | rfl | (simp only [List.length_drop, List.length_take]; rfl)) ?_; (with_reducible refine (bits_Binary.calls kj24 a0 a1 a2_0 a2_1 t573 t574 _ A40.out).mono ?_); rintro e w46 ⟨rfl, hb⟩; refine ⟨_, rfl, ?_⟩; have n0_ := Aside0.mk (blk_below (g := gb562) (o := .cells #[.int .u64 a2_0, .int .u64 a2_1, .int .u64 a2_2] 64 (0, 0)) (by (with_reducible repeat (first | refine blk_drewN ?_ _ | refine blk_drew ?_ | refine blk_alloc ?_ _)); exact BK562.out) hb); have n1_ := Aside0.mk (below_step (by repeat (first | (with_reducible first | exact HB.out | apply below_alloc | apply pw_below_drewN | apply below_drew1 | refine below_set ?_ GE562.out) | exact HB.out)) hb); clear BK562; clear HB; have BK562 := n0_; have HB := n1_; clear n0_ n1_; (try clear hb); (try clear hb2); (try clear hk); (try clear hi); have hcz47_0 : w46.cell? ⟨gb562, 0, none⟩ = some (.int .u64 a2_0) := (blk_cell BK562.out 0).trans rfl; have hcz47_1 : w46.cell? ⟨gb562, 1, none⟩ = some (.int .u64 a2_1) := (blk_cell BK562.out 1).trans rfl; have hcz47_2 : w46.cell? ⟨gb562, 2, none⟩ = some (.int .u64 a2_2) := (blk_cell BK562.out 2).trans rfl; have hfz47_0 := blk_frozen BK562.out 0; have hfz47_1 := blk_frozen BK562.out 1; have hfz47_2 := blk_frozen BK562.out 2) | ((with_reducible refine gate_callee (f := 43) rfl ?_); refine goesL_ (some 113) rfl rfl Try.func43 (by kernel_rfl) rfl #[.int .i64 a0, .int .i64 a1, .int .u64 a2_1, .int .u64 a2_2] rfl (by (try simp only [List.map_toArray, List.map_cons, List.map_nil]); first | done | rfl | (simp only [List.length_drop, List.length_take]; rfl)) ?_; (with_reducible refine (bits_Binary.calls kj24 a0 a1 a2_1 a2_2 t575 t576 _ A41.out).mono ?_); rintro e w48 ⟨rfl, hb⟩; refine ⟨_, rfl, ?_⟩; have n0_ := Aside0.mk (blk_below (g := gb562) (o := .cells #[.int .u64 a2_0, .int .u64 a2_1, .int .u64 a2_2] 64 (0, 0)) (by (with_reducible repeat (first | refine blk_drewN ?_ _ | refine blk_drew ?_ | refine blk_alloc ?_ _)); exact BK562.out) hb); have n1_ := Aside0.mk (below_step (by repeat (first | (with_reducible first | exact HB.out | apply below_alloc | apply pw_below_drewN | apply below_drew1 | refine below_set ?_ GE562.out) | exact HB.out)) hb); clear BK562; clear HB; have BK562 := n0_; have HB := n1_; clear n0_ n1_; (try clear hb); (try clear hb2); (try clear hk); (try clear hi); have hcz49_0 : w48.cell? ⟨gb562, 0, none⟩ = some (.int .u64 a2_0) := (blk_cell BK562.out 0).trans rfl; have hcz49_1 : w48.cell? ⟨gb562, 1, none⟩ = some (.int .u64 a2_1) := (blk_cell BK562.out 1).trans rfl; have hcz49_2 : w48.cell? ⟨gb562, 2, none⟩ = some (.int .u64 a2_2) := (blk_cell BK562.out 2).trans rfl; have hfz49_0 := blk_frozen BK562.out 0; have hfz49_1 := blk_frozen BK562.out 1; have hfz49_2 := blk_frozen BK562.out 2) | ((with_reducible refine gate_callee (f := 43) rfl ?_); refine goesL_ (some 122) rfl rfl Try.func43 (by kernel_rfl) rfl #[.int .i64 a0, .int .i64 a1, .int .u64 t573, .int .u64 a2_2] rfl (by (try simp only [List.map_toArray, List.map_cons, List.map_nil]); first | done | rfl | (simp only [List.length_drop, List.length_take]; rfl)) ?_; (with_reducible refine (bits_Binary.calls kj24 a0 a1 t573 a2_2 t577 t578 _ A42.out).mono ?_); rintro e w50 ⟨rfl, hb⟩; refine ⟨_, rfl, ?_⟩; have n0_ := Aside0.mk (blk_below (g := gb562) (o := .cells #[.int .u64 a2_0, .int .u64 a2_1, .int .u64 a2_2] 64 (0, 0)) (by (with_reducible repeat (first | refine blk_drewN ?_ _ | refine blk_drew ?_ | refine blk_alloc ?_ _)); exact BK562.out) hb); have n1_ := Aside0.mk (below_step (by repeat (first | (with_reducible first | exact HB.out | apply below_alloc | apply pw_below_drewN | apply below_drew1 | refine below_set ?_ GE562.out) | exact HB.out)) hb); clear BK562; clear HB; have BK562 := n0_; have HB := n1_; clear n0_ n1_; (try clear hb); (try clear hb2); (try clear hk); (try clear hi); have hcz51_0 : w50.cell? ⟨gb562, 0, none⟩ = some (.int .u64 a2_0) := (blk_cell BK562.out 0).trans rfl; have hcz51_1 : w50.cell? ⟨gb562, 1, none⟩ = some (.int .u64 a2_1) := (blk_cell BK562.out 1).trans rfl; have hcz51_2 : w50.cell? ⟨gb562, 2, none⟩ = some (.int .u64 a2_2) := (blk_cell BK562.out 2).trans rfl; have hfz51_0 := blk_frozen BK562.out 0; have hfz51_1 := blk_frozen BK562.out 1; have hfz51_2 := blk_frozen BK562.out 2) | ((with_reducible refine gate_callee (f := 43) rfl ?_); refine goesL_ (some 131) rfl rfl Try.func43 (by kernel_rfl) rfl #[.int .i64 a0, .int .i64 a1, .int .u64 a2_0, .int .u64 t575] rfl (by (try simp only [List.map_toArray, List.map_cons, List.map_nil]); first | done | rfl | (simp only [List.length_drop, List.length_take]; rfl)) ?_; (with_reducible refine (bits_Binary.calls kj24 a0 a1 a2_0 t575 t579 t580 _ A43.out).mono ?_); rintro e w52 ⟨rfl, hb⟩; refine ⟨_, rfl, ?_⟩; have n0_ := Aside0.mk (blk_below (g := gb562) (o := .cells #[.int .u64 a2_0, .int .u64 a2_1, .int .u64 a2_2] 64 (0, 0)) (by (with_reducible repeat (first | refine blk_drewN ?_ _ | refine blk_drew ?_ | refine blk_alloc ?_ _)); exact BK562.out) hb); have n1_ := Aside0.mk (below_step (by repeat (first | (with_reducible first | exact HB.out | apply below_alloc | apply pw_below_drewN | apply below_drew1 | refine below_set ?_ GE562.out) | exact HB.out)) hb); clear BK562; clear HB; have BK562 := n0_; have HB := n1_; clear n0_ n1_; (try clear hb); (try clear hb2); (try clear hk); (try clear hi)))
                        go_ret
                        exact ⟨by first | rfl | (simp [errW_none, errW_some] <;> rfl) | (simp [*, errW_none, errW_some] <;> rfl), by repeat (first | (with_reducible first | exact HB.out | apply below_alloc | apply pw_below_drewN | apply below_drew1 | refine below_set ?_ GE562.out) | exact HB.out)⟩
                      · rw [if_neg c44] at H
                        have c44b0 : (t577 == t579) = false := beq_eq_false_iff_ne.mpr c44
                        have c44b1 : (t577 != t579) = true := bne_iff_ne.mpr c44
                        obtain rfl := Option.some.inj H
                        go_wp2_with (first | ((with_reducible refine gate_callee (f := 53) rfl ?_); refine goesL_ (some 95) rfl rfl Try.func53 (by kernel_rfl) rfl #[.int .i64 a0] rfl (by (try simp only [List.map_toArray, List.map_cons, List.map_nil]); first | done | rfl | (simp only [List.length_drop, List.length_take]; rfl)) ?_; (with_reducible refine (bits_Associates.calls a0 true _ A38.out).mono ?_); rintro e w' ⟨rfl, ⟨nd, rfl⟩⟩; refine ⟨_, rfl, ?_⟩; have hcz53_0 : wc.cell? ⟨gb562, 0, none⟩ = some (.int .u64 a2_0) := (blk_cell BK562.out 0).trans rfl; have hcz53_1 : wc.cell? ⟨gb562, 1, none⟩ = some (.int .u64 a2_1) := (blk_cell BK562.out 1).trans rfl; have hcz53_2 : wc.cell? ⟨gb562, 2, none⟩ = some (.int .u64 a2_2) := (blk_cell BK562.out 2).trans rfl; have hfz53_0 := blk_frozen BK562.out 0; have hfz53_1 := blk_frozen BK562.out 1; have hfz53_2 := blk_frozen BK562.out 2) | ((with_reducible refine gate_callee (f := 43) rfl ?_); refine goesL_ (some 103) rfl rfl Try.func43 (by kernel_rfl) rfl #[.int .i64 a0, .int .i64 a1, .int .u64 a2_0, .int .u64 a2_1] rfl (by (try simp only [List.map_toArray, List.map_cons, List.map_nil]); first | done | rfl | (simp only [List.length_drop, List.length_take]; rfl)) ?_; (with_reducible refine (bits_Binary.calls kj24 a0 a1 a2_0 a2_1 t573 t574 _ A40.out).mono ?_); rintro e w54 ⟨rfl, hb⟩; refine ⟨_, rfl, ?_⟩; have n0_ := Aside0.mk (blk_below (g := gb562) (o := .cells #[.int .u64 a2_0, .int .u64 a2_1, .int .u64 a2_2] 64 (0, 0)) (by (with_reducible repeat (first | refine blk_drewN ?_ _ | refine blk_drew ?_ | refine blk_alloc ?_ _)); exact BK562.out) hb); have n1_ := Aside0.mk (below_step (by repeat (first | (with_reducible first | exact HB.out | apply below_alloc | apply pw_below_drewN | apply below_drew1 | refine below_set ?_ GE562.out) | exact HB.out)) hb); clear BK562; clear HB; have BK562 := n0_; have HB := n1_; clear n0_ n1_; (try clear hb); (try clear hb2); (try clear hk); (try clear hi); have hcz55_0 : w54.cell? ⟨gb562, 0, none⟩ = some (.int .u64 a2_0) := (blk_cell BK562.out 0).trans rfl; have hcz55_1 : w54.cell? ⟨gb562, 1, none⟩ = some (.int .u64 a2_1) := (blk_cell BK562.out 1).trans rfl; have hcz55_2 : w54.cell? ⟨gb562, 2, none⟩ = some (.int .u64 a2_2) := (blk_cell BK562.out 2).trans rfl; have hfz55_0 := blk_frozen BK562.out 0; have hfz55_1 := blk_frozen BK562.out 1; have hfz55_2 := blk_frozen BK562.out 2) | ((with_reducible refine gate_callee (f := 43) rfl ?_); refine goesL_ (some 113) rfl rfl Try.func43 (by kernel_rfl) rfl #[.int .i64 a0, .int .i64 a1, .int .u64 a2_1, .int .u64 a2_2] rfl (by (try simp only [List.map_toArray, List.map_cons, List.map_nil]); first | done | rfl | (simp only [List.length_drop, List.length_take]; rfl)) ?_; (with_reducible refine (bits_Binary.calls kj24 a0 a1 a2_1 a2_2 t575 t576 _ A41.out).mono ?_); rintro e w56 ⟨rfl, hb⟩; refine ⟨_, rfl, ?_⟩; have n0_ := Aside0.mk (blk_below (g := gb562) (o := .cells #[.int .u64 a2_0, .int .u64 a2_1, .int .u64 a2_2] 64 (0, 0)) (by (with_reducible repeat (first | refine blk_drewN ?_ _ | refine blk_drew ?_ | refine blk_alloc ?_ _)); exact BK562.out) hb); have n1_ := Aside0.mk (below_step (by repeat (first | (with_reducible first | exact HB.out | apply below_alloc | apply pw_below_drewN | apply below_drew1 | refine below_set ?_ GE562.out) | exact HB.out)) hb); clear BK562; clear HB; have BK562 := n0_; have HB := n1_; clear n0_ n1_; (try clear hb); (try clear hb2); (try clear hk); (try clear hi); have hcz57_0 : w56.cell? ⟨gb562, 0, none⟩ = some (.int .u64 a2_0) := (blk_cell BK562.out 0).trans rfl; have hcz57_1 : w56.cell? ⟨gb562, 1, none⟩ = some (.int .u64 a2_1) := (blk_cell BK562.out 1).trans rfl; have hcz57_2 : w56.cell? ⟨gb562, 2, none⟩ = some (.int .u64 a2_2) := (blk_cell BK562.out 2).trans rfl; have hfz57_0 := blk_frozen BK562.out 0; have hfz57_1 := blk_frozen BK562.out 1; have hfz57_2 := blk_frozen BK562.out 2) | ((with_reducible refine gate_callee (f := 43) rfl ?_); refine goesL_ (some 122) rfl rfl Try.func43 (by kernel_rfl) rfl #[.int .i64 a0, .int .i64 a1, .int .u64 t573, .int .u64 a2_2] rfl (by (try simp only [List.map_toArray, List.map_cons, List.map_nil]); first | done | rfl | (simp only [List.length_drop, List.length_take]; rfl)) ?_; (with_reducible refine (bits_Binary.calls kj24 a0 a1 t573 a2_2 t577 t578 _ A42.out).mono ?_); rintro e w58 ⟨rfl, hb⟩; refine ⟨_, rfl, ?_⟩; have n0_ := Aside0.mk (blk_below (g := gb562) (o := .cells #[.int .u64 a2_0, .int .u64 a2_1, .int .u64 a2_2] 64 (0, 0)) (by (with_reducible repeat (first | refine blk_drewN ?_ _ | refine blk_drew ?_ | refine blk_alloc ?_ _)); exact BK562.out) hb); have n1_ := Aside0.mk (below_step (by repeat (first | (with_reducible first | exact HB.out | apply below_alloc | apply pw_below_drewN | apply below_drew1 | refine below_set ?_ GE562.out) | exact HB.out)) hb); clear BK562; clear HB; have BK562 := n0_; have HB := n1_; clear n0_ n1_; (try clear hb); (try clear hb2); (try clear hk); (try clear hi); have hcz59_0 : w58.cell? ⟨gb562, 0, none⟩ = some (.int .u64 a2_0) := (blk_cell BK562.out 0).trans rfl; have hcz59_1 : w58.cell? ⟨gb562, 1, none⟩ = some (.int .u64 a2_1) := (blk_cell BK562.out 1).trans rfl; have hcz59_2 : w58.cell? ⟨gb562, 2, none⟩ = some (.int .u64 a2_2) := (blk_cell BK562.out 2).trans rfl; have hfz59_0 := blk_frozen BK562.out 0; have hfz59_1 := blk_frozen BK562.out 1; have hfz59_2 := blk_frozen BK562.out 2) | ((with_reducible refine gate_callee (f := 43) rfl ?_); refine goesL_ (some 131) rfl rfl Try.func43 (by kernel_rfl) rfl #[.int .i64 a0, .int .i64 a1, .int .u64 a2_0, .int .u64 t575] rfl (by (try simp only [List.map_toArray, List.map_cons, List.map_nil]); first | done | rfl | (simp only [List.length_drop, List.length_take]; rfl)) ?_; (with_reducible refine (bits_Binary.calls kj24 a0 a1 a2_0 t575 t579 t580 _ A43.out).mono ?_); rintro e w60 ⟨rfl, hb⟩; refine ⟨_, rfl, ?_⟩; have n0_ := Aside0.mk (blk_below (g := gb562) (o := .cells #[.int .u64 a2_0, .int .u64 a2_1, .int .u64 a2_2] 64 (0, 0)) (by (with_reducible repeat (first | refine blk_drewN ?_ _ | refine blk_drew ?_ | refine blk_alloc ?_ _)); exact BK562.out) hb); have n1_ := Aside0.mk (below_step (by repeat (first | (with_reducible first | exact HB.out | apply below_alloc | apply pw_below_drewN | apply below_drew1 | refine below_set ?_ GE562.out) | exact HB.out)) hb); clear BK562; clear HB; have BK562 := n0_; have HB := n1_; clear n0_ n1_; (try clear hb); (try clear hb2); (try clear hk); (try clear hi)))
                        go_ret
                        exact ⟨by first | rfl | (simp [errW_none, errW_some] <;> rfl) | (simp [*, errW_none, errW_some] <;> rfl), by repeat (first | (with_reducible first | exact HB.out | apply below_alloc | apply pw_below_drewN | apply below_drew1 | refine below_set ?_ GE562.out) | exact HB.out)⟩
                    · replace c39 := Bool.eq_false_iff.mpr c39
                      subst c39
                      have H1 : (some true) = some r := by rw [if_neg (show ¬ (false = true) by decide)] at H; exact H
                      clear H
                      have H := H1
                      clear H1
                      obtain rfl := Option.some.inj H
                      go_wp2_with (first | ((with_reducible refine gate_callee (f := 53) rfl ?_); refine goesL_ (some 95) rfl rfl Try.func53 (by kernel_rfl) rfl #[.int .i64 a0] rfl (by (try simp only [List.map_toArray, List.map_cons, List.map_nil]); first | done | rfl | (simp only [List.length_drop, List.length_take]; rfl)) ?_; (with_reducible refine (bits_Associates.calls a0 false _ A38.out).mono ?_); rintro e w' ⟨rfl, ⟨nd, rfl⟩⟩; refine ⟨_, rfl, ?_⟩))
                      go_ret
                      exact ⟨by first | rfl | (simp [errW_none, errW_some] <;> rfl) | (simp [*, errW_none, errW_some] <;> rfl), by repeat (first | (with_reducible first | exact HB.out | apply below_alloc | apply pw_below_drewN | apply below_drew1 | refine below_set ?_ GE562.out) | exact HB.out)⟩
              · replace c23 := Bool.eq_false_iff.mpr c23
                subst c23
                have H1 : (some true) = some r := by rw [if_neg (show ¬ (false = true) by decide)] at H; exact H
                clear H
                have H := H1
                clear H1
                obtain rfl := Option.some.inj H
                go_wp2_with (first | ((with_reducible refine gate_callee (f := 45) rfl ?_); refine goesL_ (some 67) rfl rfl Try.func45 (by kernel_rfl) rfl #[.int .i64 a1] rfl (by (try simp only [List.map_toArray, List.map_cons, List.map_nil]); first | done | rfl | (simp only [List.length_drop, List.length_take]; rfl)) ?_; (with_reducible refine (jacquardref01_Right.calls a1 false _ A22.out).mono ?_); rintro e w' ⟨rfl, ⟨nd, rfl⟩⟩; refine ⟨_, rfl, ?_⟩))
                go_ret
                exact ⟨by first | rfl | (simp [errW_none, errW_some] <;> rfl) | (simp [*, errW_none, errW_some] <;> rfl), by repeat (first | (with_reducible first | exact HB.out | apply below_alloc | apply pw_below_drewN | apply below_drew1 | refine below_set ?_ GE562.out) | exact HB.out)⟩
  · replace c5 := Bool.eq_false_iff.mpr c5
    subst c5
    have H1 : (some false) = some r := by rw [if_neg (show ¬ (false = true) by decide)] at H; exact H
    clear H
    have H := H1
    clear H1
    obtain rfl := Option.some.inj H
    go_enter Try.func11, Try.ntmps11
    go_wp2_with (first | ((with_reducible refine gate_dst (N := 5) rfl ?_); refine box_event ?hg (N := 5) ?hd (cs := #[.int .u64 a2_0, .int .u64 a2_1, .int .u64 a2_2]) (t := 64) ?hr ?_; (case hd => rfl); (case hg => rfl); (case hr => first | (go_simp; done) | (go_simp; rfl)); intro gb562 hg w61 hbox hb; have n0_ := Aside0.mk (below_step (by repeat (first | (with_reducible first | exact HB.out | apply below_alloc | apply pw_below_drewN | apply below_drew1) | exact HB.out)) hb); have n1_ := Aside0.mk (hbox); have n2_ := Aside0.mk ((by rw [hg]; exact (below_size (by repeat (first | (with_reducible first | exact HB.out | apply below_alloc | apply pw_below_drewN | apply below_drew1) | exact HB.out))) : w.heap.size ≤ gb562)); have n3_ := Aside0.mk ((by rw [hg]; exact (below_size (by repeat (first | (with_reducible first | exact HB.out | apply below_alloc | apply pw_below_drewN | apply below_drew1) | exact HB.out))) : w.heap.size ≤ gb562)); clear HB; have HB := n0_; have BK562 := n1_; have GW562 := n2_; have GE562 := n3_; clear n0_ n1_ n2_ n3_; clear hb hbox hg) | ((with_reducible refine gate_callee (f := 42) rfl ?_); refine goesL_ (some 20) rfl rfl Try.func42 (by kernel_rfl) rfl #[] rfl (by (try simp only [List.map_toArray, List.map_cons, List.map_nil]); first | done | rfl | (simp only [List.length_drop, List.length_take]; rfl)) ?_; (with_reducible refine (jacquardlaw01_awake.calls k  false _ A4.out).mono ?_); rintro e w62 ⟨rfl, hb⟩; refine ⟨_, rfl, ?_⟩; have n0_ := Aside0.mk (blk_below (g := gb562) (o := .cells #[.int .u64 a2_0, .int .u64 a2_1, .int .u64 a2_2] 64 (0, 0)) (by (with_reducible repeat (first | refine blk_drewN ?_ _ | refine blk_drew ?_ | refine blk_alloc ?_ _)); exact BK562.out) hb); have n1_ := Aside0.mk (below_step (by repeat (first | (with_reducible first | exact HB.out | apply below_alloc | apply pw_below_drewN | apply below_drew1 | refine below_set ?_ GE562.out) | exact HB.out)) hb); clear BK562; clear HB; have BK562 := n0_; have HB := n1_; clear n0_ n1_; (try clear hb); (try clear hb2); (try clear hk); (try clear hi)))
    go_ret
    exact ⟨by first | rfl | (simp [errW_none, errW_some] <;> rfl) | (simp [*, errW_none, errW_some] <;> rfl), by repeat (first | (with_reducible first | exact HB.out | apply below_alloc | apply pw_below_drewN | apply below_drew1 | refine below_set ?_ GE562.out) | exact HB.out)⟩

/-- THE ONE PURE STATEMENT of jacquardlaw01_BitsCommute. -/
def jacquardlaw01_BitsCommute.Pure : Prop := ∀ (a0 : Int) (a1 : Int) (a2_0 : Int) (a2_1 : Int) (a2_2 : Int), (Lit.int .i64 a0).wf = true → (Lit.int .i64 a1).wf = true → (Lit.int .u64 a2_0).wf = true → (Lit.int .u64 a2_1).wf = true → (Lit.int .u64 a2_2).wf = true → ∃ k, jacquardlaw01_BitsCommute.f k a0 a1 a2_0 a2_1 a2_2 = some true

end Go.Proofs.Ytanmehdcccldfaa.P
