-- made by a program of this work (wip/mkprint.py, wip/mp.sh) out of the translation
import Derived.Test.YtbiohdgeclokmaaPx0
namespace Go.Proofs.Ytbiohdgeclokmaa.P
open Go.RowKit Go.Proofs.YtbiohdgeclokmaaW.PrintWords Go.Proofs.YtbiohdgeclokmaaW.PrintLast Go.Proofs.YtbiohdgeclokmaaW.PrintMore
attribute [local go_sem] max2_int min2_int max_two min_two max_three min_three max_four min_four   -- for this text's walks alone
set_option linter.unusedVariables false
set_option linter.unusedSimpArgs false

/-! ### jacquardref12_Mask: function 16 -/
def jacquardref12_Mask.l0 : Nat → Int → Int → Int → Option (Int)
 | 0, _, _, _ => none
 | k + 1, x0, x3, x4 => if x4 < x0 then (jacquardref12_Mask.l0 k x0 (IntKind.u64.wrap ((IntKind.u64.wrap (x3 * 2)) + 1)) (wrap64 (x4 + 1))) else (some x3)
def jacquardref12_Mask.f (k : Nat) (a0 : Int) : Option (Int) := jacquardref12_Mask.l0 k a0 0 0
theorem jacquardref12_Mask.mono_l : ∀ k, (∀ y0 y1 y2, LeO (jacquardref12_Mask.l0 k y0 y1 y2) (jacquardref12_Mask.l0 (k + 1) y0 y1 y2))
 | 0 => fun _ _ _ r h => by simp [jacquardref12_Mask.l0] at h
 | k + 1 => by
  have ih0 := jacquardref12_Mask.mono_l k
  ·
   intro y0 y1 y2
   unfold jacquardref12_Mask.l0
   repeat' first
   | (with_reducible exact ih0 _ _ _)
   | (with_reducible exact LeO.refl _)
   | (with_reducible exact LeO.none _)
   | (with_reducible refine LeO.ite ?_ ?_)
   | (with_reducible refine LeO.bind ?_ (fun _ => ?_))
   | exact ih0 _ _ _
   | exact LeO.none _
   | refine LeO.ite ?_ ?_
   | refine LeO.bind ?_ (fun _ => ?_)
theorem jacquardref12_Mask.mono : ∀ a0 k, LeO (jacquardref12_Mask.f k a0) (jacquardref12_Mask.f (k + 1) a0) := by
 intro a0 k
 have ih0 := jacquardref12_Mask.mono_l k
 unfold jacquardref12_Mask.f
 repeat' first
   | (with_reducible exact ih0 _ _ _)
   | (with_reducible exact LeO.refl _)
   | (with_reducible exact LeO.none _)
   | (with_reducible refine LeO.ite ?_ ?_)
   | (with_reducible refine LeO.bind ?_ (fun _ => ?_))
   | exact ih0 _ _ _
   | exact LeO.none _
   | refine LeO.ite ?_ ?_
   | refine LeO.bind ?_ (fun _ => ?_)
set_option maxHeartbeats 8000000 in
set_option maxRecDepth 100000 in
theorem jacquardref12_Mask.calls (k : Nat) (a0 : Int) (r : Int) (w : World) (h : jacquardref12_Mask.f k a0 = some r) :
  Calls Try.prog 16 #[.int .i64 a0] w fun e w' => e = .returned (.int .u64 r) ∧ Drawn0 w w' := by
 have H : (jacquardref12_Mask.l0 k a0 0 0) = some r := h
 clear h
 have H' := Aside0.mk H
 clear H
 go_enter Try.func16, Try.ntmps16
 go_wp2
 go_loopg [3, 4] k (fun kq v3 v4 w' => ∃ (x3_1 : Int) (x4_1 : Int), v3 = .int .u64 x3_1 ∧ v4 = .int .i64 x4_1 ∧ Aside0 (jacquardref12_Mask.l0 kq a0 x3_1 x4_1 = some r) ∧ Aside0 (kq ≤ k) ∧ Drawn0 w w')
 case atStart => exact ⟨(0), (0), (by first | rfl | (simp; done) | (simp [*]; done)), (by first | rfl | (simp; done) | (simp [*]; done)), H', ⟨Nat.le_refl _⟩, by repeat (first | exact Drawn0.refl _ | apply Drawn0.step)⟩
 case round =>
  clear H'
  try clear c1
  obtain ⟨x3_1, x4_1, rfl, rfl, HA, HK1, ⟨m1, rfl⟩⟩ := hrel
  cases gk with
  | zero => exact absurd HA.out (by simp [jacquardref12_Mask.l0])
  | succ k1 =>
   have H := HA.out
   clear HA
   simp only [jacquardref12_Mask.l0] at H
   by_cases c2 : x4_1 < a0
   ·
    rw [if_pos c2] at H
    have c2b0 : decide (x4_1 < a0) = true := decide_eq_true c2
    clear c2
    have H' := Aside0.mk H
    clear H
    go_wp2
    go_roundg k1
    case measure => have := HK1.out; omega
    case rel => exact ⟨(IntKind.u64.wrap ((IntKind.u64.wrap (x3_1 * 2)) + 1)), (wrap64 (x4_1 + 1)), (by first | rfl | (simp; done) | (simp [*]; done)), (by first | rfl | (simp; done) | (simp [*]; done)), H', ⟨by have := HK1.out; omega⟩, by repeat (first | exact Drawn0.refl _ | apply Drawn0.step)⟩
   ·
    rw [if_neg c2] at H
    have c2b0 : decide (x4_1 < a0) = false := decide_eq_false c2
    clear c2
    obtain rfl := Option.some.inj H
    go_wp2
    go_ret
    exact ⟨by first | rfl | (simp; done) | (simp [*]; done), by repeat (first | exact Drawn0.refl _ | apply Drawn0.step)⟩

/-! ### jacquardref13_Umax: function 75 -/
def jacquardref13_Umax.f (k : Nat) (a0 : Int) : Option (Int) := (jacquardref12_Mask.f k a0).bind fun t215 => (some t215)
theorem jacquardref13_Umax.mono : ∀ a0 k, LeO (jacquardref13_Umax.f k a0) (jacquardref13_Umax.f (k + 1) a0) := by
 intro a0 k
 unfold jacquardref13_Umax.f
 repeat' first
   | (with_reducible exact jacquardref12_Mask.mono _ _)
   | (with_reducible exact LeO.refl _)
   | (with_reducible exact LeO.none _)
   | (with_reducible refine LeO.ite ?_ ?_)
   | (with_reducible refine LeO.bind ?_ (fun _ => ?_))
   | exact jacquardref12_Mask.mono _ _
   | exact LeO.none _
   | refine LeO.ite ?_ ?_
   | refine LeO.bind ?_ (fun _ => ?_)
set_option maxHeartbeats 8000000 in
set_option maxRecDepth 100000 in
theorem jacquardref13_Umax.calls (k : Nat) (a0 : Int) (r : Int) (w : World) (h : jacquardref13_Umax.f k a0 = some r) :
  Calls Try.prog 75 #[.int .i64 a0] w fun e w' => e = .returned (.int .u64 r) ∧ Drawn0 w w' := by
 have H : ((jacquardref12_Mask.f k a0).bind fun t215 => (some t215)) = some r := h
 clear h
 replace H := Option.bind_eq_some_iff.mp H
 obtain ⟨t215, A20, H⟩ := H
 replace H : (some t215) = some r := H
 have A2 := Aside0.mk A20
 clear A20
 obtain rfl := Option.some.inj H
 go_enter Try.func75, Try.ntmps75
 go_wp2_with (first | ((with_reducible refine gate_callee (f := 16) rfl ?_); refine gL (some 4) Try.func16 #[.int .i64 a0] ?_; (with_reducible refine (jacquardref12_Mask.calls k a0 t215 _ A2.out).mono ?_); rintro e w' ⟨rfl, ⟨nd, rfl⟩⟩; refine ⟨_, rfl, ?_⟩))
 go_ret
 exact ⟨by first | rfl | (simp; done) | (simp [*]; done), by repeat (first | exact Drawn0.refl _ | apply Drawn0.step)⟩

/-! ### jacquardref13_Smax: function 134 -/
def jacquardref13_Smax.f (k : Nat) (a0 : Int) : Option (Int) := (jacquardref13_Umax.f k a0).bind fun t216 => (some (wrap64 (t216 / 2)))
theorem jacquardref13_Smax.mono : ∀ a0 k, LeO (jacquardref13_Smax.f k a0) (jacquardref13_Smax.f (k + 1) a0) := by
 intro a0 k
 unfold jacquardref13_Smax.f
 repeat' first
   | (with_reducible exact jacquardref13_Umax.mono _ _)
   | (with_reducible exact LeO.refl _)
   | (with_reducible exact LeO.none _)
   | (with_reducible refine LeO.ite ?_ ?_)
   | (with_reducible refine LeO.bind ?_ (fun _ => ?_))
   | exact jacquardref13_Umax.mono _ _
   | exact LeO.none _
   | refine LeO.ite ?_ ?_
   | refine LeO.bind ?_ (fun _ => ?_)
set_option maxHeartbeats 8000000 in
set_option maxRecDepth 100000 in
theorem jacquardref13_Smax.calls (k : Nat) (a0 : Int) (r : Int) (w : World) (h : jacquardref13_Smax.f k a0 = some r) :
  Calls Try.prog 134 #[.int .i64 a0] w fun e w' => e = .returned (.int .i64 r) ∧ Drawn0 w w' := by
 have H : ((jacquardref13_Umax.f k a0).bind fun t216 => (some (wrap64 (t216 / 2)))) = some r := h
 clear h
 replace H := Option.bind_eq_some_iff.mp H
 obtain ⟨t216, A20, H⟩ := H
 replace H : (some (wrap64 (t216 / 2))) = some r := H
 have A2 := Aside0.mk A20
 clear A20
 obtain rfl := Option.some.inj H
 go_enter Try.func134, Try.ntmps134
 go_wp2_with (first | ((with_reducible refine gate_callee (f := 75) rfl ?_); refine gL (some 4) Try.func75 #[.int .i64 a0] ?_; (with_reducible refine (jacquardref13_Umax.calls k a0 t216 _ A2.out).mono ?_); rintro e w' ⟨rfl, ⟨nd, rfl⟩⟩; refine ⟨_, rfl, ?_⟩))
 go_ret
 exact ⟨by first | rfl | (simp; done) | (simp [*]; done), by repeat (first | exact Drawn0.refl _ | apply Drawn0.step)⟩

/-! ### jacquardref13_Smin: function 133 -/
def jacquardref13_Smin.f (k : Nat) (a0 : Int) : Option (Int) := (jacquardref13_Smax.f k a0).bind fun t217 => (some (wrap64 ((wrap64 (-t217)) - 1)))
theorem jacquardref13_Smin.mono : ∀ a0 k, LeO (jacquardref13_Smin.f k a0) (jacquardref13_Smin.f (k + 1) a0) := by
 intro a0 k
 unfold jacquardref13_Smin.f
 repeat' first
   | (with_reducible exact jacquardref13_Smax.mono _ _)
   | (with_reducible exact LeO.refl _)
   | (with_reducible exact LeO.none _)
   | (with_reducible refine LeO.ite ?_ ?_)
   | (with_reducible refine LeO.bind ?_ (fun _ => ?_))
   | exact jacquardref13_Smax.mono _ _
   | exact LeO.none _
   | refine LeO.ite ?_ ?_
   | refine LeO.bind ?_ (fun _ => ?_)
set_option maxHeartbeats 8000000 in
set_option maxRecDepth 100000 in
theorem jacquardref13_Smin.calls (k : Nat) (a0 : Int) (r : Int) (w : World) (h : jacquardref13_Smin.f k a0 = some r) :
  Calls Try.prog 133 #[.int .i64 a0] w fun e w' => e = .returned (.int .i64 r) ∧ Drawn0 w w' := by
 have H : ((jacquardref13_Smax.f k a0).bind fun t217 => (some (wrap64 ((wrap64 (-t217)) - 1)))) = some r := h
 clear h
 replace H := Option.bind_eq_some_iff.mp H
 obtain ⟨t217, A20, H⟩ := H
 replace H : (some (wrap64 ((wrap64 (-t217)) - 1))) = some r := H
 have A2 := Aside0.mk A20
 clear A20
 obtain rfl := Option.some.inj H
 go_enter Try.func133, Try.ntmps133
 go_wp2_with (first | ((with_reducible refine gate_callee (f := 134) rfl ?_); refine gL (some 4) Try.func134 #[.int .i64 a0] ?_; (with_reducible refine (jacquardref13_Smax.calls k a0 t217 _ A2.out).mono ?_); rintro e w' ⟨rfl, ⟨nd, rfl⟩⟩; refine ⟨_, rfl, ?_⟩))
 go_ret
 exact ⟨by first | rfl | (simp; done) | (simp [*]; done), by repeat (first | exact Drawn0.refl _ | apply Drawn0.step)⟩

end Go.Proofs.Ytbiohdgeclokmaa.P
