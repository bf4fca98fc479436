-- made by a program of this work (wip/mkprint.py, wip/mp.sh) out of the translation
import Derived.Test.YtanmehdcccldfaaPx0
import Derived.Test.YtanmehdcccldfaaPx17
import Derived.Test.YtanmehdcccldfaaPx18
namespace Go.Proofs.Ytanmehdcccldfaa.P
open Go.RowKit Go.Proofs.YtanmehdcccldfaaW.PrintWords Go.Proofs.YtanmehdcccldfaaW.PrintLast Go.Proofs.YtanmehdcccldfaaW.PrintMore
attribute [local go_sem] max2_int min2_int max_two min_two max_three min_three max_four min_four   -- for this text's walks alone
set_option linter.unusedVariables false
set_option linter.unusedSimpArgs false

/-! ### jacquardref01_Extend: function 51 -/
mutual
def jacquardref01_Extend.j0 : Nat → Int → List Int → Int → Bool → Option (Int)
  | 0, _, _, _, _ => none
  | k + 1, x1, x9, x10, x21 => if x21 = true then (jacquardref01_Extend.j1 k x1 x9 1) else (jacquardref01_Extend.j1 k x1 x9 x10)
def jacquardref01_Extend.j1 : Nat → Int → List Int → Int → Option (Int)
  | 0, _, _, _ => none
  | k + 1, x1, x9, x10 => jacquardref01_Extend.l0 k x1 x9 x10 ([] : List Int) 0
def jacquardref01_Extend.l0 : Nat → Int → List Int → Int → List Int → Int → Option (Int)
  | 0, _, _, _, _, _ => none
  | k + 1, x1, x9, x10, x11, x12 => (jacquardref01_Width.f x1).bind fun t543 => (if x12 < t543 then (if x12 < (x9.length : Int) then (if 0 ≤ x12 then (if x11.length < 17592186044416 then (jacquardref01_Extend.l0 k x1 x9 x10 (x11 ++ [rd x9 x12]) (wrap64 (x12 + 1))) else (none)) else (none)) else (if x11.length < 17592186044416 then (jacquardref01_Extend.l0 k x1 x9 x10 (x11 ++ [x10]) (wrap64 (x12 + 1))) else (none))) else ((jacquardref01_Word.f k x11).bind fun t551 => (some t551)))
end
def jacquardref01_Extend.f (k : Nat) (a0 : Int) (a1 : Int) (a2 : Int) (a3 : Bool) : Option (Int) := (jacquardref01_Bits.f k a0 a2).bind fun t539 => (if a3 = true then ((jacquardref01_Negative.f k a0 a2).bind fun t542 => (jacquardref01_Extend.j0 k a1 t539 0 t542)) else (jacquardref01_Extend.j0 k a1 t539 0 false))
theorem jacquardref01_Extend.mono_l : ∀ k, (∀ y0 y1 y2 y3, LeO (jacquardref01_Extend.j0 k y0 y1 y2 y3) (jacquardref01_Extend.j0 (k + 1) y0 y1 y2 y3)) ∧ (∀ y0 y1 y2, LeO (jacquardref01_Extend.j1 k y0 y1 y2) (jacquardref01_Extend.j1 (k + 1) y0 y1 y2)) ∧ (∀ y0 y1 y2 y3 y4, LeO (jacquardref01_Extend.l0 k y0 y1 y2 y3 y4) (jacquardref01_Extend.l0 (k + 1) y0 y1 y2 y3 y4))
  | 0 => ⟨fun _ _ _ _ r h => by simp [jacquardref01_Extend.j0] at h, fun _ _ _ r h => by simp [jacquardref01_Extend.j1] at h, fun _ _ _ _ _ r h => by simp [jacquardref01_Extend.l0] at h⟩
  | k + 1 => by
    obtain ⟨ih0, ih1, ih2⟩ := jacquardref01_Extend.mono_l k
    refine ⟨?_, ?_, ?_⟩
    · intro y0 y1 y2 y3
      unfold jacquardref01_Extend.j0
      repeat' first
      | (with_reducible exact ih0 _ _ _ _)
      | (with_reducible exact ih1 _ _ _)
      | (with_reducible exact ih2 _ _ _ _ _)
      | (with_reducible exact jacquardref01_Bits.mono _ _ _)
      | (with_reducible exact jacquardref01_Negative.mono _ _ _)
      | (with_reducible exact jacquardref01_Word.mono _ _)
      | (with_reducible exact LeO.refl _)
      | (with_reducible exact LeO.none _)
      | (with_reducible refine LeO.ite ?_ ?_)
      | (with_reducible refine LeO.bind ?_ (fun _ => ?_))
      | exact ih0 _ _ _ _
      | exact ih1 _ _ _
      | exact ih2 _ _ _ _ _
      | exact jacquardref01_Bits.mono _ _ _
      | exact jacquardref01_Negative.mono _ _ _
      | exact jacquardref01_Word.mono _ _
      | exact LeO.none _
      | refine LeO.ite ?_ ?_
      | refine LeO.bind ?_ (fun _ => ?_)
    · intro y0 y1 y2
      unfold jacquardref01_Extend.j1
      repeat' first
      | (with_reducible exact ih0 _ _ _ _)
      | (with_reducible exact ih1 _ _ _)
      | (with_reducible exact ih2 _ _ _ _ _)
      | (with_reducible exact jacquardref01_Bits.mono _ _ _)
      | (with_reducible exact jacquardref01_Negative.mono _ _ _)
      | (with_reducible exact jacquardref01_Word.mono _ _)
      | (with_reducible exact LeO.refl _)
      | (with_reducible exact LeO.none _)
      | (with_reducible refine LeO.ite ?_ ?_)
      | (with_reducible refine LeO.bind ?_ (fun _ => ?_))
      | exact ih0 _ _ _ _
      | exact ih1 _ _ _
      | exact ih2 _ _ _ _ _
      | exact jacquardref01_Bits.mono _ _ _
      | exact jacquardref01_Negative.mono _ _ _
      | exact jacquardref01_Word.mono _ _
      | exact LeO.none _
      | refine LeO.ite ?_ ?_
      | refine LeO.bind ?_ (fun _ => ?_)
    · intro y0 y1 y2 y3 y4
      unfold jacquardref01_Extend.l0
      repeat' first
      | (with_reducible exact ih0 _ _ _ _)
      | (with_reducible exact ih1 _ _ _)
      | (with_reducible exact ih2 _ _ _ _ _)
      | (with_reducible exact jacquardref01_Bits.mono _ _ _)
      | (with_reducible exact jacquardref01_Negative.mono _ _ _)
      | (with_reducible exact jacquardref01_Word.mono _ _)
      | (with_reducible exact LeO.refl _)
      | (with_reducible exact LeO.none _)
      | (with_reducible refine LeO.ite ?_ ?_)
      | (with_reducible refine LeO.bind ?_ (fun _ => ?_))
      | exact ih0 _ _ _ _
      | exact ih1 _ _ _
      | exact ih2 _ _ _ _ _
      | exact jacquardref01_Bits.mono _ _ _
      | exact jacquardref01_Negative.mono _ _ _
      | exact jacquardref01_Word.mono _ _
      | exact LeO.none _
      | refine LeO.ite ?_ ?_
      | refine LeO.bind ?_ (fun _ => ?_)
theorem jacquardref01_Extend.mono : ∀ a0 a1 a2 a3 k, LeO (jacquardref01_Extend.f k a0 a1 a2 a3) (jacquardref01_Extend.f (k + 1) a0 a1 a2 a3) := by
  intro a0 a1 a2 a3 k
  obtain ⟨ih0, ih1, ih2⟩ := jacquardref01_Extend.mono_l k
  unfold jacquardref01_Extend.f
  repeat' first
      | (with_reducible exact ih0 _ _ _ _)
      | (with_reducible exact ih1 _ _ _)
      | (with_reducible exact ih2 _ _ _ _ _)
      | (with_reducible exact jacquardref01_Bits.mono _ _ _)
      | (with_reducible exact jacquardref01_Negative.mono _ _ _)
      | (with_reducible exact jacquardref01_Word.mono _ _)
      | (with_reducible exact LeO.refl _)
      | (with_reducible exact LeO.none _)
      | (with_reducible refine LeO.ite ?_ ?_)
      | (with_reducible refine LeO.bind ?_ (fun _ => ?_))
      | exact ih0 _ _ _ _
      | exact ih1 _ _ _
      | exact ih2 _ _ _ _ _
      | exact jacquardref01_Bits.mono _ _ _
      | exact jacquardref01_Negative.mono _ _ _
      | exact jacquardref01_Word.mono _ _
      | exact LeO.none _
      | refine LeO.ite ?_ ?_
      | refine LeO.bind ?_ (fun _ => ?_)
set_option maxHeartbeats 8000000 in
set_option maxRecDepth 100000 in
theorem jacquardref01_Extend.calls (k : Nat) (a0 : Int) (a1 : Int) (a2 : Int) (a3 : Bool) (r : Int) (w : World) (h : jacquardref01_Extend.f k a0 a1 a2 a3 = some r) :
    Calls Try.prog 51 #[.int .i64 a0, .int .i64 a1, .int .u64 a2, .bool a3] w fun e w' => e = .returned (.int .u64 r) ∧ Below w.heap.size w w' := by
  have HB := Aside0.mk (Below.refl w.heap.size w)
  have H : ((jacquardref01_Bits.f k a0 a2).bind fun t539 => (if a3 = true then ((jacquardref01_Negative.f k a0 a2).bind fun t542 => (jacquardref01_Extend.j0 k a1 t539 0 t542)) else (jacquardref01_Extend.j0 k a1 t539 0 false))) = some r := h
  clear h
  replace H := Option.bind_eq_some_iff.mp H
  obtain ⟨t539, A50, H⟩ := H
  replace H : (if a3 = true then ((jacquardref01_Negative.f k a0 a2).bind fun t542 => (jacquardref01_Extend.j0 k a1 t539 0 t542)) else (jacquardref01_Extend.j0 k a1 t539 0 false)) = some r := H
  have A5 := Aside0.mk A50
  clear A50
  have HC6 := Aside0.mk H
  clear H
  go_enter Try.func51, Try.ntmps51
  go_upto_region 3 with (first | ((with_reducible refine gate_callee (f := 78) rfl ?_); refine goesL_ (some 15) rfl rfl Try.func78 (by kernel_rfl) rfl #[.int .i64 a0, .int .u64 a2] rfl (by (try simp only [List.map_toArray, List.map_cons, List.map_nil]); first | done | rfl | (simp only [List.length_drop, List.length_take]; rfl)) ?_; (with_reducible refine (jacquardref01_Bits.calls k a0 a2 t539 _ A5.out).mono ?_); rintro e w7 ⟨v540, rfl, ho0, hb⟩; refine ⟨_, rfl, ?_⟩; have n0_ := Aside0.mk (Kd.R_lower ho0 (below_size (by repeat (first | (with_reducible first | exact HB.out | apply below_alloc | apply pw_below_drewN | apply below_drew1) | exact HB.out)))); have n1_ := Aside0.mk (below_step (by repeat (first | (with_reducible first | exact HB.out | apply below_alloc | apply pw_below_drewN | apply below_drew1) | exact HB.out)) hb); clear HB; have HO541 := n0_; have HB := n1_; clear n0_ n1_; (try clear hb); (try clear hb2); (try clear hk); (try clear hi); (try clear ho0)))
  (try simp only [Act.put, List.setIfInBounds_toArray, List.set_cons_zero, List.set_cons_succ])
  go_cut [21] (fun v21 wc => ∃ (kq : Nat) (x21_5 : Bool), v21 = .bool x21_5 ∧ Aside0 (jacquardref01_Extend.j0 kq a1 t539 0 x21_5 = some r) ∧ Aside0 (kq ≤ k) ∧ Aside0 (Kd.R (Kd.int .i64) 3 wc w.heap.size (fun _ => True) v540 t539) ∧ Aside0 (Below w.heap.size w wc))
  case first =>
    have H := HC6.out
    clear HC6
    by_cases c8 : a3 = true
    · subst c8
      have H1 : ((jacquardref01_Negative.f k a0 a2).bind fun t542 => (jacquardref01_Extend.j0 k a1 t539 0 t542)) = some r := by rw [if_pos rfl] at H; exact H
      clear H
      have H := H1
      clear H1
      replace H := Option.bind_eq_some_iff.mp H
      obtain ⟨t542, A90, H⟩ := H
      replace H : (jacquardref01_Extend.j0 k a1 t539 0 t542) = some r := H
      have A9 := Aside0.mk A90
      clear A90
      have H' := Aside0.mk H
      clear H
      go_wp2_with (first | (go_at_call 79; (with_reducible refine (jacquardref01_Negative.calls k a0 a2 t542 _ A9.out).mono ?_); rintro e w10 ⟨rfl, hb⟩; have n0_ := Aside0.mk (Kd.R_below (by (with_reducible repeat (first | apply Kd.R_alloc | apply Kd.R_drewN | apply Kd.R_drew)); exact HO541.out) hb); have n1_ := Aside0.mk (below_step (by repeat (first | (with_reducible first | exact HB.out | apply below_alloc | apply pw_below_drewN | apply below_drew1) | exact HB.out)) hb); clear HO541; clear HB; have HO541 := n0_; have HB := n1_; clear n0_ n1_; (try clear hb); (try clear hb2); (try clear hk); (try clear hi)))
      go_meet
      case rel => exact ⟨_, (t542), (by first | rfl | (simp; done) | (simp [*]; done)), H', ⟨by first | omega | exact Nat.le_refl _⟩, ⟨by (with_reducible repeat (first | apply Kd.R_alloc | apply Kd.R_drewN | apply Kd.R_drew)); exact HO541.out⟩, ⟨by repeat (first | (with_reducible first | exact HB.out | apply below_alloc | apply pw_below_drewN | apply below_drew1) | exact HB.out)⟩⟩
    · replace c8 := Bool.eq_false_iff.mpr c8
      subst c8
      have H1 : (jacquardref01_Extend.j0 k a1 t539 0 false) = some r := by rw [if_neg (show ¬ (false = true) by decide)] at H; exact H
      clear H
      have H := H1
      clear H1
      have H' := Aside0.mk H
      clear H
      go_wp2
      go_meet
      case rel => exact ⟨_, (false), (by first | rfl | (simp; done) | (simp [*]; done)), H', ⟨by first | omega | exact Nat.le_refl _⟩, ⟨by (with_reducible repeat (first | apply Kd.R_alloc | apply Kd.R_drewN | apply Kd.R_drew)); exact HO541.out⟩, ⟨by repeat (first | (with_reducible first | exact HB.out | apply below_alloc | apply pw_below_drewN | apply below_drew1) | exact HB.out)⟩⟩
  case rest =>
    clear HC6
    try clear p2
    try clear c5
    try clear c7
    try clear c8
    obtain ⟨kq, x21_5, rfl, HA, HJ5, HO_9, HB⟩ := hcut
    cases kq with
    | zero => exact absurd HA.out (by simp [jacquardref01_Extend.j0])
    | succ kj5 =>
      have H := HA.out
      clear HA
      simp only [jacquardref01_Extend.j0] at H
      have HC11 := Aside0.mk H
      clear H
      go_upto_if 21 with (fail)
      go_cut [10] (fun v10 wc => ∃ (kq : Nat) (x10_10 : Int), v10 = .int .i64 x10_10 ∧ Aside0 (jacquardref01_Extend.j1 kq a1 t539 x10_10 = some r) ∧ Aside0 (kq ≤ kj5) ∧ Aside0 (Kd.R (Kd.int .i64) 3 wc w.heap.size (fun _ => True) v540 t539) ∧ Aside0 (Below w.heap.size w wc))
      case first =>
        have H := HC11.out
        clear HC11
        by_cases c12 : x21_5 = true
        · subst c12
          have H1 : (jacquardref01_Extend.j1 kj5 a1 t539 1) = some r := by rw [if_pos rfl] at H; exact H
          clear H
          have H := H1
          clear H1
          have H' := Aside0.mk H
          clear H
          go_wp2
          go_meet
          case rel => exact ⟨_, (1), (by first | rfl | (simp; done) | (simp [*]; done)), H', ⟨by have := HJ5.out; first | omega | exact Nat.le_refl _⟩, ⟨by (with_reducible repeat (first | apply Kd.R_alloc | apply Kd.R_drewN | apply Kd.R_drew)); exact HO_9.out⟩, ⟨by repeat (first | (with_reducible first | exact HB.out | apply below_alloc | apply pw_below_drewN | apply below_drew1) | exact HB.out)⟩⟩
        · replace c12 := Bool.eq_false_iff.mpr c12
          subst c12
          have H1 : (jacquardref01_Extend.j1 kj5 a1 t539 0) = some r := by rw [if_neg (show ¬ (false = true) by decide)] at H; exact H
          clear H
          have H := H1
          clear H1
          have H' := Aside0.mk H
          clear H
          go_wp2
          go_meet
          case rel => exact ⟨_, (0), (by first | rfl | (simp; done) | (simp [*]; done)), H', ⟨by have := HJ5.out; first | omega | exact Nat.le_refl _⟩, ⟨by (with_reducible repeat (first | apply Kd.R_alloc | apply Kd.R_drewN | apply Kd.R_drew)); exact HO_9.out⟩, ⟨by repeat (first | (with_reducible first | exact HB.out | apply below_alloc | apply pw_below_drewN | apply below_drew1) | exact HB.out)⟩⟩
      case rest =>
        clear HC11
        try clear c1
        try clear p2
        try clear c5
        try clear c7
        try clear c8
        try clear c12
        try clear p2
        obtain ⟨kq, x10_10, rfl, HA, HJ10, HO_9, HB⟩ := hcut
        cases kq with
        | zero => exact absurd HA.out (by simp [jacquardref01_Extend.j1])
        | succ kj10 =>
          have H := HA.out
          clear HA
          simp only [jacquardref01_Extend.j1] at H
          have H' := Aside0.mk H
          clear H
          go_wp2
          go_loopg [11, 12] kj10 (fun kq v11 v12 w' => ∃ (x11_3 : List Int) (x12_3 : Int), v12 = .int .i64 x12_3 ∧ Aside0 (jacquardref01_Extend.l0 kq a1 t539 x10_10 x11_3 x12_3 = some r) ∧ Aside0 (kq ≤ kj10) ∧ Aside0 (Kd.R (Kd.int .i64) 3 w' w.heap.size (fun k_ => some k_ ≠ (v11 : Value).ownBlock) v540 t539) ∧ Aside0 (Kd.R (Kd.int .i64) 3 w' w.heap.size (fun k_ => some k_ ≠ (v540 : Value).ownBlock) v11 x11_3) ∧ Aside0 (Below w.heap.size w w'))
          case atStart => exact ⟨(([] : List Int)), (0), (by first | rfl | (simp; done) | (simp [*]; done)), H', ⟨Nat.le_refl _⟩, ⟨by (with_reducible repeat (first | apply Kd.R_alloc | apply Kd.R_drewN | apply Kd.R_drew)); exact Kd.R_mono HO_9.out (fun _ hk => (by simp [Value.ownBlock]))⟩, ⟨by first | exact Kd.R_nil _ _ _ _ _ | exact Kd.N_nil _ _ _ _ _ | exact Kd.V_nil _ _ _ _ _ | exact Kd.Q_nil _ _ _ _ _ | exact Kd.S_nil _ _ _ _ _⟩, ⟨by repeat (first | (with_reducible first | exact HB.out | apply below_alloc | apply pw_below_drewN | apply below_drew1) | exact HB.out)⟩⟩
          case round =>
            clear H'
            try clear c1
            try clear p2
            try clear c5
            try clear c7
            try clear c8
            try clear c12
            try clear p2
            obtain ⟨x11_3, x12_3, rfl, HA, HK3, HO_9, HO_11, HB⟩ := hrel
            cases gk with
            | zero => exact absurd HA.out (by simp [jacquardref01_Extend.l0])
            | succ k3 =>
              have H := HA.out
              clear HA
              simp only [jacquardref01_Extend.l0] at H
              replace H := Option.bind_eq_some_iff.mp H
              obtain ⟨t543, A130, H⟩ := H
              replace H : (if x12_3 < t543 then (if x12_3 < (t539.length : Int) then (if 0 ≤ x12_3 then (if x11_3.length < 17592186044416 then (jacquardref01_Extend.l0 k3 a1 t539 x10_10 (x11_3 ++ [rd t539 x12_3]) (wrap64 (x12_3 + 1))) else (none)) else (none)) else (if x11_3.length < 17592186044416 then (jacquardref01_Extend.l0 k3 a1 t539 x10_10 (x11_3 ++ [x10_10]) (wrap64 (x12_3 + 1))) else (none))) else ((jacquardref01_Word.f k3 x11_3).bind fun t551 => (some t551))) = some r := H
              have A13 := Aside0.mk A130
              clear A130
              by_cases c14 : x12_3 < t543
              · rw [if_pos c14] at H
                have c14b0 : decide (x12_3 < t543) = true := decide_eq_true c14
                clear c14
                by_cases c15 : x12_3 < (t539.length : Int)
                · rw [if_pos c15] at H
                  have c15b0 : decide (x12_3 < (t539.length : Int)) = true := decide_eq_true c15
                  clear c15
                  by_cases c16 : 0 ≤ x12_3
                  · rw [if_pos c16] at H
                    have c16b0 : decide (0 ≤ x12_3) = true := decide_eq_true c16
                    clear c16
                    by_cases c17 : x11_3.length < 17592186044416
                    · rw [if_pos c17] at H
                      have LMc17 := Aside0.mk c17
                      clear c17
                      obtain ⟨y545, hy545⟩ : ∃ y_ : List Int, y_ = (x11_3 ++ [rd t539 x12_3]) := ⟨_, rfl⟩
                      replace H : (jacquardref01_Extend.l0 k3 a1 t539 x10_10 y545 (wrap64 (x12_3 + 1))) = some r := by first | (rw [hy545]; with_reducible exact H) | (have H2_ := (Option.bind_some _ _).symm.trans H; rw [hy545]; with_reducible exact H2_) | (have H2_ := (Option.bind_some _ _).symm.trans H; with_reducible exact H2_) | with_reducible exact H | (rw [hy545]; exact H) | exact H
                      have Ny545 := Aside0.mk hy545
                      clear hy545
                      have H' := Aside0.mk H
                      clear H
                      go_wp2_with (first | ((with_reducible refine gate_callee (f := 90) rfl ?_); refine goesL_ (some 24) rfl rfl Try.func90 (by kernel_rfl) rfl #[.int .i64 a1] rfl (by (try simp only [List.map_toArray, List.map_cons, List.map_nil]); first | done | rfl | (simp only [List.length_drop, List.length_take]; rfl)) ?_; (with_reducible refine (jacquardref01_Width.calls a1 t543 _ A13.out).mono ?_); rintro e w18 ⟨rfl, hb⟩; refine ⟨_, rfl, ?_⟩; have n0_ := Aside0.mk (Kd.R_below (by (with_reducible repeat (first | apply Kd.R_alloc | apply Kd.R_drewN | apply Kd.R_drew)); exact HO_9.out) hb); have n1_ := Aside0.mk (Kd.R_below (by (with_reducible repeat (first | apply Kd.R_alloc | apply Kd.R_drewN | apply Kd.R_drew)); exact HO_11.out) hb); have n2_ := Aside0.mk (below_step (by repeat (first | (with_reducible first | exact HB.out | apply below_alloc | apply pw_below_drewN | apply below_drew1) | exact HB.out)) hb); clear HO_9; clear HO_11; clear HB; have HO_9 := n0_; have HO_11 := n1_; have HB := n2_; clear n0_ n1_ n2_; (try clear hb); (try clear hb2); (try clear hk); (try clear hi); obtain ⟨Ao19, co19, eo19⟩ := Kd.R_slice HO_9.out; subst eo19; have p544 : 0 ≤ (x12_3 : Int) := of_decide_eq_true (by first | (with_reducible assumption) | assumption); have q544 : x12_3 < (t539.length : Int) := of_decide_eq_true (by first | (with_reducible assumption) | assumption); obtain ⟨ad544, e544, hx544_0⟩ := Kd.at_int (Kd.R_reads' HO_9.out).2.2 x12_3 p544 q544; cases e544; replace p544 := eq_true p544; replace q544 := eq_true q544) | ((with_reducible refine gate_builtin (b := .append) (xs := #[.tmp 32, .tmp 37]) rfl ?_); at_builtin; refine Kd.R_append (Kd.int .i64) (w0 := w) w.heap.size rfl (.tmp 32) (.tmp 37) 37 3 (.int .i64 0) 8 rfl Try.underlying37 info3 rfl (by decide) (by omega) u11 x11_3 (rd t539 x12_3) [.int .i64 (rd t539 x12_3)] (fun k_ => some k_ ≠ (.slice (some ad544) t539.length co19 : Value).ownBlock) (fun _ => False) rfl rfl ?aP (fun _ hk => hk.elim) ?aF ?aO ?aB ?aS ?aL ?_; (case aP => exact rfl); (case aB => exact (by repeat (first | (with_reducible first | exact HB.out | apply below_alloc | apply pw_below_drewN | apply below_drew1) | exact HB.out))); (case aF => exact (fun k_ hk => Kd.fresh' (Kd.R_lt (by (with_reducible repeat (first | apply Kd.R_alloc | apply Kd.R_drewN | apply Kd.R_drew)); exact HO_9.out)) k_ hk)); (case aO => exact (by (with_reducible repeat (first | apply Kd.R_alloc | apply Kd.R_drewN | apply Kd.R_drew)); exact HO_11.out)); (case aS => exact (below_size (by repeat (first | (with_reducible first | exact HB.out | apply below_alloc | apply pw_below_drewN | apply below_drew1) | exact HB.out)))); (case aL => have := LMc17.out; omega); intro v546 w20 ho hb hg hat; rw [← Ny545.out] at ho; have n0_ := Aside0.mk (Kd.R_after (ok := (fun _ => True)) (by (with_reducible repeat (first | apply Kd.R_alloc | apply Kd.R_drewN | apply Kd.R_drew)); exact Kd.R_mono HO_9.out (fun _ hk => ⟨trivial, hk⟩)) hg hat); have n1_ := Aside0.mk (hb); have n2_ := Aside0.mk (ho); clear HO_9; clear HB; clear HO_11; have HO_9 := n0_; have HB := n1_; have HO547 := n2_; clear n0_ n1_ n2_; clear ho hb hg hat))
                      go_roundg k3
                      case measure => have := HJ5.out; have := HJ10.out; have := HK3.out; omega
                      case rel => exact ⟨(y545), (wrap64 (x12_3 + 1)), (by first | rfl | (simp; done) | (simp [*]; done)), H', ⟨by have := HJ5.out; have := HJ10.out; have := HK3.out; omega⟩, ⟨by (with_reducible repeat (first | apply Kd.R_alloc | apply Kd.R_drewN | apply Kd.R_drew)); exact Kd.R_mono HO_9.out (fun _ hk => hk.2)⟩, ⟨by (with_reducible repeat (first | apply Kd.R_alloc | apply Kd.R_drewN | apply Kd.R_drew)); exact HO547.out⟩, ⟨by repeat (first | (with_reducible first | exact HB.out | apply below_alloc | apply pw_below_drewN | apply below_drew1) | exact HB.out)⟩⟩
                    · rw [if_neg c17] at H
                      exact absurd H (by simp)
                  · rw [if_neg c16] at H
                    exact absurd H (by simp)
                · rw [if_neg c15] at H
                  have c15b0 : decide (x12_3 < (t539.length : Int)) = false := decide_eq_false c15
                  clear c15
                  by_cases c21 : x11_3.length < 17592186044416
                  · rw [if_pos c21] at H
                    have LMc21 := Aside0.mk c21
                    clear c21
                    obtain ⟨y548, hy548⟩ : ∃ y_ : List Int, y_ = (x11_3 ++ [x10_10]) := ⟨_, rfl⟩
                    replace H : (jacquardref01_Extend.l0 k3 a1 t539 x10_10 y548 (wrap64 (x12_3 + 1))) = some r := by first | (rw [hy548]; with_reducible exact H) | (have H2_ := (Option.bind_some _ _).symm.trans H; rw [hy548]; with_reducible exact H2_) | (have H2_ := (Option.bind_some _ _).symm.trans H; with_reducible exact H2_) | with_reducible exact H | (rw [hy548]; exact H) | exact H
                    have Ny548 := Aside0.mk hy548
                    clear hy548
                    have H' := Aside0.mk H
                    clear H
                    go_wp2_with (first | ((with_reducible refine gate_callee (f := 90) rfl ?_); refine goesL_ (some 24) rfl rfl Try.func90 (by kernel_rfl) rfl #[.int .i64 a1] rfl (by (try simp only [List.map_toArray, List.map_cons, List.map_nil]); first | done | rfl | (simp only [List.length_drop, List.length_take]; rfl)) ?_; (with_reducible refine (jacquardref01_Width.calls a1 t543 _ A13.out).mono ?_); rintro e w22 ⟨rfl, hb⟩; refine ⟨_, rfl, ?_⟩; have n0_ := Aside0.mk (Kd.R_below (by (with_reducible repeat (first | apply Kd.R_alloc | apply Kd.R_drewN | apply Kd.R_drew)); exact HO_9.out) hb); have n1_ := Aside0.mk (Kd.R_below (by (with_reducible repeat (first | apply Kd.R_alloc | apply Kd.R_drewN | apply Kd.R_drew)); exact HO_11.out) hb); have n2_ := Aside0.mk (below_step (by repeat (first | (with_reducible first | exact HB.out | apply below_alloc | apply pw_below_drewN | apply below_drew1) | exact HB.out)) hb); clear HO_9; clear HO_11; clear HB; have HO_9 := n0_; have HO_11 := n1_; have HB := n2_; clear n0_ n1_ n2_; (try clear hb); (try clear hb2); (try clear hk); (try clear hi); obtain ⟨Ao23, co23, eo23⟩ := Kd.R_slice HO_9.out; subst eo23) | ((with_reducible refine gate_builtin (b := .append) (xs := #[.tmp 39, .tmp 41]) rfl ?_); at_builtin; refine Kd.R_append (Kd.int .i64) (w0 := w) w.heap.size rfl (.tmp 39) (.tmp 41) 37 3 (.int .i64 0) 8 rfl Try.underlying37 info3 rfl (by decide) (by omega) u11 x11_3 x10_10 [.int .i64 x10_10] (fun k_ => some k_ ≠ (.slice Ao23 t539.length co23 : Value).ownBlock) (fun _ => False) rfl rfl ?aP (fun _ hk => hk.elim) ?aF ?aO ?aB ?aS ?aL ?_; (case aP => exact rfl); (case aB => exact (by repeat (first | (with_reducible first | exact HB.out | apply below_alloc | apply pw_below_drewN | apply below_drew1) | exact HB.out))); (case aF => exact (fun k_ hk => Kd.fresh' (Kd.R_lt (by (with_reducible repeat (first | apply Kd.R_alloc | apply Kd.R_drewN | apply Kd.R_drew)); exact HO_9.out)) k_ hk)); (case aO => exact (by (with_reducible repeat (first | apply Kd.R_alloc | apply Kd.R_drewN | apply Kd.R_drew)); exact HO_11.out)); (case aS => exact (below_size (by repeat (first | (with_reducible first | exact HB.out | apply below_alloc | apply pw_below_drewN | apply below_drew1) | exact HB.out)))); (case aL => have := LMc21.out; omega); intro v549 w24 ho hb hg hat; rw [← Ny548.out] at ho; have n0_ := Aside0.mk (Kd.R_after (ok := (fun _ => True)) (by (with_reducible repeat (first | apply Kd.R_alloc | apply Kd.R_drewN | apply Kd.R_drew)); exact Kd.R_mono HO_9.out (fun _ hk => ⟨trivial, hk⟩)) hg hat); have n1_ := Aside0.mk (hb); have n2_ := Aside0.mk (ho); clear HO_9; clear HB; clear HO_11; have HO_9 := n0_; have HB := n1_; have HO550 := n2_; clear n0_ n1_ n2_; clear ho hb hg hat))
                    go_roundg k3
                    case measure => have := HJ5.out; have := HJ10.out; have := HK3.out; omega
                    case rel => exact ⟨(y548), (wrap64 (x12_3 + 1)), (by first | rfl | (simp; done) | (simp [*]; done)), H', ⟨by have := HJ5.out; have := HJ10.out; have := HK3.out; omega⟩, ⟨by (with_reducible repeat (first | apply Kd.R_alloc | apply Kd.R_drewN | apply Kd.R_drew)); exact Kd.R_mono HO_9.out (fun _ hk => hk.2)⟩, ⟨by (with_reducible repeat (first | apply Kd.R_alloc | apply Kd.R_drewN | apply Kd.R_drew)); exact HO550.out⟩, ⟨by repeat (first | (with_reducible first | exact HB.out | apply below_alloc | apply pw_below_drewN | apply below_drew1) | exact HB.out)⟩⟩
                  · rw [if_neg c21] at H
                    exact absurd H (by simp)
              · rw [if_neg c14] at H
                have c14b0 : decide (x12_3 < t543) = false := decide_eq_false c14
                clear c14
                replace H := Option.bind_eq_some_iff.mp H
                obtain ⟨t551, A250, H⟩ := H
                replace H : (some t551) = some r := H
                have A25 := Aside0.mk A250
                clear A250
                obtain rfl := Option.some.inj H
                go_wp2_with (first | ((with_reducible refine gate_callee (f := 90) rfl ?_); refine goesL_ (some 24) rfl rfl Try.func90 (by kernel_rfl) rfl #[.int .i64 a1] rfl (by (try simp only [List.map_toArray, List.map_cons, List.map_nil]); first | done | rfl | (simp only [List.length_drop, List.length_take]; rfl)) ?_; (with_reducible refine (jacquardref01_Width.calls a1 t543 _ A13.out).mono ?_); rintro e w26 ⟨rfl, hb⟩; refine ⟨_, rfl, ?_⟩; have n0_ := Aside0.mk (Kd.R_below (by (with_reducible repeat (first | apply Kd.R_alloc | apply Kd.R_drewN | apply Kd.R_drew)); exact HO_9.out) hb); have n1_ := Aside0.mk (Kd.R_below (by (with_reducible repeat (first | apply Kd.R_alloc | apply Kd.R_drewN | apply Kd.R_drew)); exact HO_11.out) hb); have n2_ := Aside0.mk (below_step (by repeat (first | (with_reducible first | exact HB.out | apply below_alloc | apply pw_below_drewN | apply below_drew1) | exact HB.out)) hb); clear HO_9; clear HO_11; clear HB; have HO_9 := n0_; have HO_11 := n1_; have HB := n2_; clear n0_ n1_ n2_; (try clear hb); (try clear hb2); (try clear hk); (try clear hi); obtain ⟨Ao27, co27, eo27⟩ := Kd.R_slice HO_11.out; subst eo27) | ((with_reducible refine gate_callee (f := 80) rfl ?_); refine goesL_ (some 44) rfl rfl Try.func80 (by kernel_rfl) rfl #[.slice Ao27 x11_3.length co27] rfl (by (try simp only [List.map_toArray, List.map_cons, List.map_nil]); first | done | rfl | (simp only [List.length_drop, List.length_take]; rfl)) ?_; (with_reducible refine (jacquardref01_Word.calls k3 _ _ x11_3 t551 _ ?side1 ?side2 A25.out).mono ?_); (case side1 => repeat (first | exact (Kd.R_reads' HO_11.out).2.2 | (with_reducible refine Kd.C_alloc ?_ _) | (with_reducible refine Kd.C_drewN ?_ _) | (with_reducible refine Kd.C_drew ?_))); (case side2 => exact (Kd.R_reads' HO_11.out).2.1); rintro e w' ⟨rfl, ⟨nd, rfl⟩⟩; refine ⟨_, rfl, ?_⟩))
                go_ret
                exact ⟨by first | rfl | (simp [errW_none, errW_some] <;> rfl) | (simp [*, errW_none, errW_some] <;> rfl), by repeat (first | (with_reducible first | exact HB.out | apply below_alloc | apply pw_below_drewN | apply below_drew1) | exact HB.out)⟩

end Go.Proofs.Ytanmehdcccldfaa.P
