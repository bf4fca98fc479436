-- made by a program of this work (wip/mkprint.py, wip/mp.sh) out of the translation
import Derived.Test.YtanmehdcccldfaaPx0
import Derived.Test.YtanmehdcccldfaaPx2
import Derived.Test.YtanmehdcccldfaaPx16
import Derived.Test.YtanmehdcccldfaaPx17
namespace Go.Proofs.Ytanmehdcccldfaa.P
open Go.RowKit Go.Proofs.YtanmehdcccldfaaW.PrintWords Go.Proofs.YtanmehdcccldfaaW.PrintLast Go.Proofs.YtanmehdcccldfaaW.PrintMore
attribute [local go_sem] max2_int min2_int max_two min_two max_three min_three max_four min_four   -- for this text's walks alone
set_option linter.unusedVariables false
set_option linter.unusedSimpArgs false

/-! ### bits_Binary: function 43 -/
mutual
def bits_Binary.j0 : Nat → Int → Int → Int → Int → Bool → Option (Int × Int)
 | 0, _, _, _, _, _ => none
 | k + 1, x0, x1, x2, x3, x20 => if x20 = true then (some (0, 1)) else ((bits_Fit.f x1 x2).bind fun t335 => ((bits_Fit.f x1 x3).bind fun t336 => (if x0 = 2 then ((bits_Fit.f x1 (IntKind.u64.wrap (t335 + t336))).bind fun t337 => (some (t337, 0))) else (if x0 = 3 then ((bits_Fit.f x1 (IntKind.u64.wrap (t335 - t336))).bind fun t338 => (some (t338, 0))) else (if x0 = 4 then ((bits_Fit.f x1 (IntKind.u64.wrap (t335 * t336))).bind fun t339 => (some (t339, 0))) else (if x0 = 5 then (bits_Binary.j1 k x0 x1 t335 t336 x0 (x0 == 5)) else (if x0 = 6 then (bits_Binary.j1 k x0 x1 t335 t336 x0 (x0 == 6)) else (if x0 = 7 then (bits_Binary.j1 k x0 x1 t335 t336 x0 (x0 == 7)) else (bits_Binary.j1 k x0 x1 t335 t336 x0 (x0 == 8))))))))))
def bits_Binary.j1 : Nat → Int → Int → Int → Int → Int → Bool → Option (Int × Int)
 | 0, _, _, _, _, _, _ => none
 | k + 1, x0, x1, x2, x3, x27, x49 => if x49 = true then ((bits_divide.f x0 x1 x2 x3).bind fun t340 => (some (t340, 0))) else (if x27 = 9 then (some (Go.bits .and .u64 x2 x3, 0)) else (if x27 = 10 then (some (Go.bits .or .u64 x2 x3, 0)) else (if x27 = 11 then (some (Go.bits .xor .u64 x2 x3, 0)) else (if x27 = 12 then (bits_Binary.j2 k x0 x1 x2 x3 (x27 == 12)) else (if x27 = 13 then (bits_Binary.j2 k x0 x1 x2 x3 (x27 == 13)) else (bits_Binary.j2 k x0 x1 x2 x3 (x27 == 14)))))))
def bits_Binary.j2 : Nat → Int → Int → Int → Int → Bool → Option (Int × Int)
 | 0, _, _, _, _, _ => none
 | k + 1, x0, x1, x2, x3, x74 => if x74 = true then ((bits_shift.f x0 x1 x2 x3).bind fun t341 => (some (t341, 0))) else ((bits_compare.f x0 x1 x2 x3).bind fun t342 => (some (t342, 0)))
end
def bits_Binary.f (k : Nat) (a0 : Int) (a1 : Int) (a2 : Int) (a3 : Int) : Option (Int × Int) := (bits_IsBinary.f a0).bind fun t334 => (if t334 = true then (if a1 < 1 then (bits_Binary.j0 k a0 a1 a2 a3 true) else (bits_Binary.j0 k a0 a1 a2 a3 (decide (a1 > 64)))) else (bits_Binary.j0 k a0 a1 a2 a3 true))
theorem bits_Binary.mono_l : ∀ k, (∀ y0 y1 y2 y3 y4, LeO (bits_Binary.j0 k y0 y1 y2 y3 y4) (bits_Binary.j0 (k + 1) y0 y1 y2 y3 y4)) ∧ (∀ y0 y1 y2 y3 y4 y5, LeO (bits_Binary.j1 k y0 y1 y2 y3 y4 y5) (bits_Binary.j1 (k + 1) y0 y1 y2 y3 y4 y5)) ∧ (∀ y0 y1 y2 y3 y4, LeO (bits_Binary.j2 k y0 y1 y2 y3 y4) (bits_Binary.j2 (k + 1) y0 y1 y2 y3 y4))
 | 0 => ⟨fun _ _ _ _ _ r h => by simp [bits_Binary.j0] at h, fun _ _ _ _ _ _ r h => by simp [bits_Binary.j1] at h, fun _ _ _ _ _ r h => by simp [bits_Binary.j2] at h⟩
 | k + 1 => by
  obtain ⟨ih0, ih1, ih2⟩ := bits_Binary.mono_l k
  refine ⟨?_, ?_, ?_⟩
  ·
   intro y0 y1 y2 y3 y4
   unfold bits_Binary.j0
   repeat' first
   | (with_reducible exact ih0 _ _ _ _ _)
   | (with_reducible exact ih1 _ _ _ _ _ _)
   | (with_reducible exact ih2 _ _ _ _ _)
   | (with_reducible exact LeO.refl _)
   | (with_reducible exact LeO.none _)
   | (with_reducible refine LeO.ite ?_ ?_)
   | (with_reducible refine LeO.bind ?_ (fun _ => ?_))
   | exact ih0 _ _ _ _ _
   | exact ih1 _ _ _ _ _ _
   | exact ih2 _ _ _ _ _
   | exact LeO.none _
   | refine LeO.ite ?_ ?_
   | refine LeO.bind ?_ (fun _ => ?_)
  ·
   intro y0 y1 y2 y3 y4 y5
   unfold bits_Binary.j1
   repeat' first
   | (with_reducible exact ih0 _ _ _ _ _)
   | (with_reducible exact ih1 _ _ _ _ _ _)
   | (with_reducible exact ih2 _ _ _ _ _)
   | (with_reducible exact LeO.refl _)
   | (with_reducible exact LeO.none _)
   | (with_reducible refine LeO.ite ?_ ?_)
   | (with_reducible refine LeO.bind ?_ (fun _ => ?_))
   | exact ih0 _ _ _ _ _
   | exact ih1 _ _ _ _ _ _
   | exact ih2 _ _ _ _ _
   | exact LeO.none _
   | refine LeO.ite ?_ ?_
   | refine LeO.bind ?_ (fun _ => ?_)
  ·
   intro y0 y1 y2 y3 y4
   unfold bits_Binary.j2
   repeat' first
   | (with_reducible exact ih0 _ _ _ _ _)
   | (with_reducible exact ih1 _ _ _ _ _ _)
   | (with_reducible exact ih2 _ _ _ _ _)
   | (with_reducible exact LeO.refl _)
   | (with_reducible exact LeO.none _)
   | (with_reducible refine LeO.ite ?_ ?_)
   | (with_reducible refine LeO.bind ?_ (fun _ => ?_))
   | exact ih0 _ _ _ _ _
   | exact ih1 _ _ _ _ _ _
   | exact ih2 _ _ _ _ _
   | exact LeO.none _
   | refine LeO.ite ?_ ?_
   | refine LeO.bind ?_ (fun _ => ?_)
theorem bits_Binary.mono : ∀ a0 a1 a2 a3 k, LeO (bits_Binary.f k a0 a1 a2 a3) (bits_Binary.f (k + 1) a0 a1 a2 a3) := by
 intro a0 a1 a2 a3 k
 obtain ⟨ih0, ih1, ih2⟩ := bits_Binary.mono_l k
 unfold bits_Binary.f
 repeat' first
   | (with_reducible exact ih0 _ _ _ _ _)
   | (with_reducible exact ih1 _ _ _ _ _ _)
   | (with_reducible exact ih2 _ _ _ _ _)
   | (with_reducible exact LeO.refl _)
   | (with_reducible exact LeO.none _)
   | (with_reducible refine LeO.ite ?_ ?_)
   | (with_reducible refine LeO.bind ?_ (fun _ => ?_))
   | exact ih0 _ _ _ _ _
   | exact ih1 _ _ _ _ _ _
   | exact ih2 _ _ _ _ _
   | exact LeO.none _
   | refine LeO.ite ?_ ?_
   | refine LeO.bind ?_ (fun _ => ?_)
set_option maxHeartbeats 8000000 in
set_option maxRecDepth 100000 in
theorem bits_Binary.calls (k : Nat) (a0 : Int) (a1 : Int) (a2 : Int) (a3 : Int) (r1 : Int) (r2 : Int) (w : World) (h : bits_Binary.f k a0 a1 a2 a3 = some (r1, r2)) :
  Calls Try.prog 43 #[.int .i64 a0, .int .i64 a1, .int .u64 a2, .int .u64 a3] w fun e w' => e = .returned (.tuple #[.int .u64 r1, .int .i64 r2]) ∧ Below w.heap.size w w' := by
 have HB := Aside0.mk (Below.refl w.heap.size w)
 have H : ((bits_IsBinary.f a0).bind fun t334 => (if t334 = true then (if a1 < 1 then (bits_Binary.j0 k a0 a1 a2 a3 true) else (bits_Binary.j0 k a0 a1 a2 a3 (decide (a1 > 64)))) else (bits_Binary.j0 k a0 a1 a2 a3 true))) = some (r1, r2) := h
 clear h
 have HC5 := Aside0.mk H
 clear H
 go_enter Try.func43, Try.ntmps43
 go_upto_region 1 with (fail)
 go_cut [20] (fun v20 wc => ∃ (kq : Nat) (x20_4 : Bool), v20 = .bool x20_4 ∧ Aside0 (bits_Binary.j0 kq a0 a1 a2 a3 x20_4 = some (r1, r2)) ∧ Aside0 (kq ≤ k) ∧ Aside0 (Below w.heap.size w wc))
 case first =>
  have H := HC5.out
  clear HC5
  replace H := Option.bind_eq_some_iff.mp H
  obtain ⟨t334, A60, H⟩ := H
  replace H : (if t334 = true then (if a1 < 1 then (bits_Binary.j0 k a0 a1 a2 a3 true) else (bits_Binary.j0 k a0 a1 a2 a3 (decide (a1 > 64)))) else (bits_Binary.j0 k a0 a1 a2 a3 true)) = some (r1, r2) := H
  have A6 := Aside0.mk A60
  clear A60
  by_cases c7 : t334 = true
  ·
   subst c7
   have H1 : (if a1 < 1 then (bits_Binary.j0 k a0 a1 a2 a3 true) else (bits_Binary.j0 k a0 a1 a2 a3 (decide (a1 > 64)))) = some (r1, r2) := by rw [if_pos rfl] at H; exact H
   clear H
   have H := H1
   clear H1
   by_cases c8 : a1 < 1
   ·
    rw [if_pos c8] at H
    have c8b0 : decide (a1 < 1) = true := decide_eq_true c8
    clear c8
    (first | rw [c8b0] | (simp only [i64_w, i32_w]; rw [c8b0]) | skip)
    have H' := Aside0.mk H
    clear H
    go_wp2_with (first | ((with_reducible refine gate_callee (f := 63) rfl ?_); refine gL (some 11) Try.func63 #[.int .i64 a0] ?_; (with_reducible refine (bits_IsBinary.calls a0 true _ A6.out).mono ?_); rintro e w' ⟨rfl, ⟨nd, rfl⟩⟩; refine ⟨_, rfl, ?_⟩))
    go_meet
    case rel => exact ⟨_, (true), (by first | rfl | (simp; done) | (simp [*]; done)), H', ⟨by first | omega | exact Nat.le_refl _⟩, ⟨bsL HB.out⟩⟩
   ·
    rw [if_neg c8] at H
    have c8b0 : decide (a1 < 1) = false := decide_eq_false c8
    clear c8
    (first | rw [c8b0] | (simp only [i64_w, i32_w]; rw [c8b0]) | skip)
    have H' := Aside0.mk H
    clear H
    go_wp2_with (first | ((with_reducible refine gate_callee (f := 63) rfl ?_); refine gL (some 11) Try.func63 #[.int .i64 a0] ?_; (with_reducible refine (bits_IsBinary.calls a0 true _ A6.out).mono ?_); rintro e w' ⟨rfl, ⟨nd, rfl⟩⟩; refine ⟨_, rfl, ?_⟩))
    go_meet
    case rel => exact ⟨_, (decide (a1 > 64)), (by first | rfl | (simp; done) | (simp [*]; done)), H', ⟨by first | omega | exact Nat.le_refl _⟩, ⟨bsL HB.out⟩⟩
  ·
   replace c7 := Bool.eq_false_iff.mpr c7
   subst c7
   have H1 : (bits_Binary.j0 k a0 a1 a2 a3 true) = some (r1, r2) := by rw [if_neg (show ¬ (false = true) by decide)] at H; exact H
   clear H
   have H := H1
   clear H1
   have H' := Aside0.mk H
   clear H
   go_wp2_with (first | ((with_reducible refine gate_callee (f := 63) rfl ?_); refine gL (some 11) Try.func63 #[.int .i64 a0] ?_; (with_reducible refine (bits_IsBinary.calls a0 false _ A6.out).mono ?_); rintro e w' ⟨rfl, ⟨nd, rfl⟩⟩; refine ⟨_, rfl, ?_⟩))
   go_meet
   case rel => exact ⟨_, (true), (by first | rfl | (simp; done) | (simp [*]; done)), H', ⟨by first | omega | exact Nat.le_refl _⟩, ⟨bsL HB.out⟩⟩
 case rest =>
  clear HC5
  try clear p2
  try clear c4
  try clear c6
  try clear c7
  try clear c8
  try clear c8b0
  obtain ⟨kq, x20_4, rfl, HA, HJ4, HB⟩ := hcut
  cases kq with
  | zero => exact absurd HA.out (by simp [bits_Binary.j0])
  | succ kj4 =>
   have H := HA.out
   clear HA
   simp only [bits_Binary.j0] at H
   by_cases c9 : x20_4 = true
   ·
    subst c9
    have H1 : (some (0, 1)) = some (r1, r2) := by rw [if_pos rfl] at H; exact H
    clear H
    have H := H1
    clear H1
    simp only [Option.some.injEq, Prod.mk.injEq] at H
    obtain ⟨rfl, rfl⟩ := H
    go_wp2
    go_ret2
    exact ⟨by first | rfl | (simp [errW_none, errW_some] <;> rfl) | (simp [*, errW_none, errW_some] <;> rfl), bsL HB.out⟩
   ·
    replace c9 := Bool.eq_false_iff.mpr c9
    subst c9
    have H1 : ((bits_Fit.f a1 a2).bind fun t335 => ((bits_Fit.f a1 a3).bind fun t336 => (if a0 = 2 then ((bits_Fit.f a1 (IntKind.u64.wrap (t335 + t336))).bind fun t337 => (some (t337, 0))) else (if a0 = 3 then ((bits_Fit.f a1 (IntKind.u64.wrap (t335 - t336))).bind fun t338 => (some (t338, 0))) else (if a0 = 4 then ((bits_Fit.f a1 (IntKind.u64.wrap (t335 * t336))).bind fun t339 => (some (t339, 0))) else (if a0 = 5 then (bits_Binary.j1 kj4 a0 a1 t335 t336 a0 (a0 == 5)) else (if a0 = 6 then (bits_Binary.j1 kj4 a0 a1 t335 t336 a0 (a0 == 6)) else (if a0 = 7 then (bits_Binary.j1 kj4 a0 a1 t335 t336 a0 (a0 == 7)) else (bits_Binary.j1 kj4 a0 a1 t335 t336 a0 (a0 == 8)))))))))) = some (r1, r2) := by rw [if_neg (show ¬ (false = true) by decide)] at H; exact H
    clear H
    have H := H1
    clear H1
    replace H := Option.bind_eq_some_iff.mp H
    obtain ⟨t335, A100, H⟩ := H
    replace H : ((bits_Fit.f a1 a3).bind fun t336 => (if a0 = 2 then ((bits_Fit.f a1 (IntKind.u64.wrap (t335 + t336))).bind fun t337 => (some (t337, 0))) else (if a0 = 3 then ((bits_Fit.f a1 (IntKind.u64.wrap (t335 - t336))).bind fun t338 => (some (t338, 0))) else (if a0 = 4 then ((bits_Fit.f a1 (IntKind.u64.wrap (t335 * t336))).bind fun t339 => (some (t339, 0))) else (if a0 = 5 then (bits_Binary.j1 kj4 a0 a1 t335 t336 a0 (a0 == 5)) else (if a0 = 6 then (bits_Binary.j1 kj4 a0 a1 t335 t336 a0 (a0 == 6)) else (if a0 = 7 then (bits_Binary.j1 kj4 a0 a1 t335 t336 a0 (a0 == 7)) else (bits_Binary.j1 kj4 a0 a1 t335 t336 a0 (a0 == 8))))))))) = some (r1, r2) := H
    have A10 := Aside0.mk A100
    clear A100
    replace H := Option.bind_eq_some_iff.mp H
    obtain ⟨t336, A110, H⟩ := H
    replace H : (if a0 = 2 then ((bits_Fit.f a1 (IntKind.u64.wrap (t335 + t336))).bind fun t337 => (some (t337, 0))) else (if a0 = 3 then ((bits_Fit.f a1 (IntKind.u64.wrap (t335 - t336))).bind fun t338 => (some (t338, 0))) else (if a0 = 4 then ((bits_Fit.f a1 (IntKind.u64.wrap (t335 * t336))).bind fun t339 => (some (t339, 0))) else (if a0 = 5 then (bits_Binary.j1 kj4 a0 a1 t335 t336 a0 (a0 == 5)) else (if a0 = 6 then (bits_Binary.j1 kj4 a0 a1 t335 t336 a0 (a0 == 6)) else (if a0 = 7 then (bits_Binary.j1 kj4 a0 a1 t335 t336 a0 (a0 == 7)) else (bits_Binary.j1 kj4 a0 a1 t335 t336 a0 (a0 == 8)))))))) = some (r1, r2) := H
    have A11 := Aside0.mk A110
    clear A110
    by_cases c12 : a0 = 2
    ·
     rw [if_pos c12] at H
     have c12b0 : (a0 == 2) = true := beq_iff_eq.mpr c12
     have c12b1 : (a0 != 2) = false := bne_eq_false_iff_eq.mpr c12
     clear c12
     replace H := Option.bind_eq_some_iff.mp H
     obtain ⟨t337, A130, H⟩ := H
     replace H : (some (t337, 0)) = some (r1, r2) := H
     have A13 := Aside0.mk A130
     clear A130
     simp only [Option.some.injEq, Prod.mk.injEq] at H
     obtain ⟨rfl, rfl⟩ := H
     go_wp2_with (first | ((with_reducible refine gate_callee (f := 47) rfl ?_); refine gL (some 23) Try.func47 #[.int .i64 a1, .int .u64 a2] ?_; (with_reducible refine (bits_Fit.calls a1 a2 t335 _ A10.out).mono ?_); rintro e w14 ⟨rfl, hb⟩; refine ⟨_, rfl, ?_⟩; replace HB := bsB HB.out hb; (try clear hb)) | ((with_reducible refine gate_callee (f := 47) rfl ?_); refine gL (some 26) Try.func47 #[.int .i64 a1, .int .u64 a3] ?_; (with_reducible refine (bits_Fit.calls a1 a3 t336 _ A11.out).mono ?_); rintro e w15 ⟨rfl, hb⟩; refine ⟨_, rfl, ?_⟩; replace HB := bsB HB.out hb; (try clear hb)) | ((with_reducible refine gate_callee (f := 47) rfl ?_); refine gL (some 34) Try.func47 #[.int .i64 a1, .int .u64 (IntKind.u64.wrap (t335 + t336))] ?_; (with_reducible refine (bits_Fit.calls a1 (IntKind.u64.wrap (t335 + t336)) t337 _ A13.out).mono ?_); rintro e w16 ⟨rfl, hb⟩; refine ⟨_, rfl, ?_⟩; replace HB := bsB HB.out hb; (try clear hb)))
     go_ret2
     exact ⟨by first | rfl | (simp [errW_none, errW_some] <;> rfl) | (simp [*, errW_none, errW_some] <;> rfl), bsL HB.out⟩
    ·
     rw [if_neg c12] at H
     have c12b0 : (a0 == 2) = false := beq_eq_false_iff_ne.mpr c12
     have c12b1 : (a0 != 2) = true := bne_iff_ne.mpr c12
     by_cases c17 : a0 = 3
     ·
      rw [if_pos c17] at H
      have c17b0 : (a0 == 3) = true := beq_iff_eq.mpr c17
      have c17b1 : (a0 != 3) = false := bne_eq_false_iff_eq.mpr c17
      clear c17
      replace H := Option.bind_eq_some_iff.mp H
      obtain ⟨t338, A180, H⟩ := H
      replace H : (some (t338, 0)) = some (r1, r2) := H
      have A18 := Aside0.mk A180
      clear A180
      simp only [Option.some.injEq, Prod.mk.injEq] at H
      obtain ⟨rfl, rfl⟩ := H
      go_wp2_with (first | ((with_reducible refine gate_callee (f := 47) rfl ?_); refine gL (some 23) Try.func47 #[.int .i64 a1, .int .u64 a2] ?_; (with_reducible refine (bits_Fit.calls a1 a2 t335 _ A10.out).mono ?_); rintro e w19 ⟨rfl, hb⟩; refine ⟨_, rfl, ?_⟩; replace HB := bsB HB.out hb; (try clear hb)) | ((with_reducible refine gate_callee (f := 47) rfl ?_); refine gL (some 26) Try.func47 #[.int .i64 a1, .int .u64 a3] ?_; (with_reducible refine (bits_Fit.calls a1 a3 t336 _ A11.out).mono ?_); rintro e w20 ⟨rfl, hb⟩; refine ⟨_, rfl, ?_⟩; replace HB := bsB HB.out hb; (try clear hb)) | ((with_reducible refine gate_callee (f := 47) rfl ?_); refine gL (some 41) Try.func47 #[.int .i64 a1, .int .u64 (IntKind.u64.wrap (t335 - t336))] ?_; (with_reducible refine (bits_Fit.calls a1 (IntKind.u64.wrap (t335 - t336)) t338 _ A18.out).mono ?_); rintro e w21 ⟨rfl, hb⟩; refine ⟨_, rfl, ?_⟩; replace HB := bsB HB.out hb; (try clear hb)))
      go_ret2
      exact ⟨by first | rfl | (simp [errW_none, errW_some] <;> rfl) | (simp [*, errW_none, errW_some] <;> rfl), bsL HB.out⟩
     ·
      rw [if_neg c17] at H
      have c17b0 : (a0 == 3) = false := beq_eq_false_iff_ne.mpr c17
      have c17b1 : (a0 != 3) = true := bne_iff_ne.mpr c17
      by_cases c22 : a0 = 4
      ·
       rw [if_pos c22] at H
       have c22b0 : (a0 == 4) = true := beq_iff_eq.mpr c22
       have c22b1 : (a0 != 4) = false := bne_eq_false_iff_eq.mpr c22
       clear c22
       replace H := Option.bind_eq_some_iff.mp H
       obtain ⟨t339, A230, H⟩ := H
       replace H : (some (t339, 0)) = some (r1, r2) := H
       have A23 := Aside0.mk A230
       clear A230
       simp only [Option.some.injEq, Prod.mk.injEq] at H
       obtain ⟨rfl, rfl⟩ := H
       go_wp2_with (first | ((with_reducible refine gate_callee (f := 47) rfl ?_); refine gL (some 23) Try.func47 #[.int .i64 a1, .int .u64 a2] ?_; (with_reducible refine (bits_Fit.calls a1 a2 t335 _ A10.out).mono ?_); rintro e w24 ⟨rfl, hb⟩; refine ⟨_, rfl, ?_⟩; replace HB := bsB HB.out hb; (try clear hb)) | ((with_reducible refine gate_callee (f := 47) rfl ?_); refine gL (some 26) Try.func47 #[.int .i64 a1, .int .u64 a3] ?_; (with_reducible refine (bits_Fit.calls a1 a3 t336 _ A11.out).mono ?_); rintro e w25 ⟨rfl, hb⟩; refine ⟨_, rfl, ?_⟩; replace HB := bsB HB.out hb; (try clear hb)) | ((with_reducible refine gate_callee (f := 47) rfl ?_); refine gL (some 48) Try.func47 #[.int .i64 a1, .int .u64 (IntKind.u64.wrap (t335 * t336))] ?_; (with_reducible refine (bits_Fit.calls a1 (IntKind.u64.wrap (t335 * t336)) t339 _ A23.out).mono ?_); rintro e w26 ⟨rfl, hb⟩; refine ⟨_, rfl, ?_⟩; replace HB := bsB HB.out hb; (try clear hb)))
       go_ret2
       exact ⟨by first | rfl | (simp [errW_none, errW_some] <;> rfl) | (simp [*, errW_none, errW_some] <;> rfl), bsL HB.out⟩
      ·
       rw [if_neg c22] at H
       have c22b0 : (a0 == 4) = false := beq_eq_false_iff_ne.mpr c22
       have c22b1 : (a0 != 4) = true := bne_iff_ne.mpr c22
       have HC27 := Aside0.mk H
       clear H
       go_upto_if 49 with (first | ((with_reducible refine gate_callee (f := 47) rfl ?_); refine gL (some 23) Try.func47 #[.int .i64 a1, .int .u64 a2] ?_; (with_reducible refine (bits_Fit.calls a1 a2 t335 _ A10.out).mono ?_); rintro e w28 ⟨rfl, hb⟩; refine ⟨_, rfl, ?_⟩; replace HB := bsB HB.out hb; (try clear hb)) | ((with_reducible refine gate_callee (f := 47) rfl ?_); refine gL (some 26) Try.func47 #[.int .i64 a1, .int .u64 a3] ?_; (with_reducible refine (bits_Fit.calls a1 a3 t336 _ A11.out).mono ?_); rintro e w29 ⟨rfl, hb⟩; refine ⟨_, rfl, ?_⟩; replace HB := bsB HB.out hb; (try clear hb)))
       (try simp only [Act.put, List.setIfInBounds_toArray, List.set_cons_zero, List.set_cons_succ])
       go_cut [49] (fun v49 wc => ∃ (kq : Nat) (x49_26 : Bool), v49 = .bool x49_26 ∧ Aside0 (bits_Binary.j1 kq a0 a1 t335 t336 a0 x49_26 = some (r1, r2)) ∧ Aside0 (kq ≤ kj4) ∧ Aside0 (Below w.heap.size w wc))
       case first =>
        have H := HC27.out
        clear HC27
        by_cases c30 : a0 = 5
        ·
         rw [if_pos c30] at H
         have c30b0 : (a0 == 5) = true := beq_iff_eq.mpr c30
         have c30b1 : (a0 != 5) = false := bne_eq_false_iff_eq.mpr c30
         clear c30
         (first | rw [c30b0] | (simp only [i64_w, i32_w]; rw [c30b0]) | skip)
         have H' := Aside0.mk H
         clear H
         go_wp2
         go_meet
         case rel => exact ⟨_, ((a0 == 5)), (by first | rfl | (simp; done) | (simp [*]; done)), H', ⟨by have := HJ4.out; first | omega | exact Nat.le_refl _⟩, ⟨bsL HB.out⟩⟩
        ·
         rw [if_neg c30] at H
         have c30b0 : (a0 == 5) = false := beq_eq_false_iff_ne.mpr c30
         have c30b1 : (a0 != 5) = true := bne_iff_ne.mpr c30
         (first | rw [c30b0] | (simp only [i64_w, i32_w]; rw [c30b0]) | skip)
         by_cases c31 : a0 = 6
         ·
          rw [if_pos c31] at H
          have c31b0 : (a0 == 6) = true := beq_iff_eq.mpr c31
          have c31b1 : (a0 != 6) = false := bne_eq_false_iff_eq.mpr c31
          clear c31
          have H' := Aside0.mk H
          clear H
          go_wp2
          go_meet
          case rel => exact ⟨_, ((a0 == 6)), (by first | rfl | (simp; done) | (simp [*]; done)), H', ⟨by have := HJ4.out; first | omega | exact Nat.le_refl _⟩, ⟨bsL HB.out⟩⟩
         ·
          rw [if_neg c31] at H
          have c31b0 : (a0 == 6) = false := beq_eq_false_iff_ne.mpr c31
          have c31b1 : (a0 != 6) = true := bne_iff_ne.mpr c31
          by_cases c32 : a0 = 7
          ·
           rw [if_pos c32] at H
           have c32b0 : (a0 == 7) = true := beq_iff_eq.mpr c32
           have c32b1 : (a0 != 7) = false := bne_eq_false_iff_eq.mpr c32
           clear c32
           have H' := Aside0.mk H
           clear H
           go_wp2
           go_meet
           case rel => exact ⟨_, ((a0 == 7)), (by first | rfl | (simp; done) | (simp [*]; done)), H', ⟨by have := HJ4.out; first | omega | exact Nat.le_refl _⟩, ⟨bsL HB.out⟩⟩
          ·
           rw [if_neg c32] at H
           have c32b0 : (a0 == 7) = false := beq_eq_false_iff_ne.mpr c32
           have c32b1 : (a0 != 7) = true := bne_iff_ne.mpr c32
           have H' := Aside0.mk H
           clear H
           go_wp2
           go_meet
           case rel => exact ⟨_, ((a0 == 8)), (by first | rfl | (simp; done) | (simp [*]; done)), H', ⟨by have := HJ4.out; first | omega | exact Nat.le_refl _⟩, ⟨bsL HB.out⟩⟩
       case rest =>
        clear HC27
        try clear c1
        try clear c2
        try clear p2
        try clear c3
        try clear c4
        try clear c6
        try clear c7
        try clear c8
        try clear c8b0
        try clear c9
        try clear c12
        try clear c12b0
        try clear c12b1
        try clear c17
        try clear c17b0
        try clear c17b1
        try clear c22
        try clear c22b0
        try clear c22b1
        try clear c30
        try clear c30b0
        try clear c30b1
        try clear c31
        try clear c31b0
        try clear c31b1
        try clear c32
        try clear c32b0
        try clear c32b1
        try clear p2
        obtain ⟨kq, x49_26, rfl, HA, HJ26, HB⟩ := hcut
        cases kq with
        | zero => exact absurd HA.out (by simp [bits_Binary.j1])
        | succ kj26 =>
         have H := HA.out
         clear HA
         simp only [bits_Binary.j1] at H
         by_cases c33 : x49_26 = true
         ·
          subst c33
          have H1 : ((bits_divide.f a0 a1 t335 t336).bind fun t340 => (some (t340, 0))) = some (r1, r2) := by rw [if_pos rfl] at H; exact H
          clear H
          have H := H1
          clear H1
          replace H := Option.bind_eq_some_iff.mp H
          obtain ⟨t340, A340, H⟩ := H
          replace H : (some (t340, 0)) = some (r1, r2) := H
          have A34 := Aside0.mk A340
          clear A340
          simp only [Option.some.injEq, Prod.mk.injEq] at H
          obtain ⟨rfl, rfl⟩ := H
          go_wp2_with (first | ((with_reducible refine gate_callee (f := 75) rfl ?_); refine gL (some 58) Try.func75 #[.int .i64 a0, .int .i64 a1, .int .u64 t335, .int .u64 t336] ?_; (with_reducible refine (bits_divide.calls a0 a1 t335 t336 t340 _ A34.out).mono ?_); rintro e w35 ⟨rfl, hb⟩; refine ⟨_, rfl, ?_⟩; replace HB := bsB HB.out hb; (try clear hb)))
          go_ret2
          exact ⟨by first | rfl | (simp [errW_none, errW_some] <;> rfl) | (simp [*, errW_none, errW_some] <;> rfl), bsL HB.out⟩
         ·
          replace c33 := Bool.eq_false_iff.mpr c33
          subst c33
          have H1 : (if a0 = 9 then (some (Go.bits .and .u64 t335 t336, 0)) else (if a0 = 10 then (some (Go.bits .or .u64 t335 t336, 0)) else (if a0 = 11 then (some (Go.bits .xor .u64 t335 t336, 0)) else (if a0 = 12 then (bits_Binary.j2 kj26 a0 a1 t335 t336 (a0 == 12)) else (if a0 = 13 then (bits_Binary.j2 kj26 a0 a1 t335 t336 (a0 == 13)) else (bits_Binary.j2 kj26 a0 a1 t335 t336 (a0 == 14))))))) = some (r1, r2) := by rw [if_neg (show ¬ (false = true) by decide)] at H; exact H
          clear H
          have H := H1
          clear H1
          by_cases c36 : a0 = 9
          ·
           rw [if_pos c36] at H
           have c36b0 : (a0 == 9) = true := beq_iff_eq.mpr c36
           have c36b1 : (a0 != 9) = false := bne_eq_false_iff_eq.mpr c36
           clear c36
           simp only [Option.some.injEq, Prod.mk.injEq] at H
           obtain ⟨rfl, rfl⟩ := H
           go_wp2
           go_ret2
           exact ⟨by first | rfl | (simp [errW_none, errW_some] <;> rfl) | (simp [*, errW_none, errW_some] <;> rfl), bsL HB.out⟩
          ·
           rw [if_neg c36] at H
           have c36b0 : (a0 == 9) = false := beq_eq_false_iff_ne.mpr c36
           have c36b1 : (a0 != 9) = true := bne_iff_ne.mpr c36
           by_cases c37 : a0 = 10
           ·
            rw [if_pos c37] at H
            have c37b0 : (a0 == 10) = true := beq_iff_eq.mpr c37
            have c37b1 : (a0 != 10) = false := bne_eq_false_iff_eq.mpr c37
            clear c37
            simp only [Option.some.injEq, Prod.mk.injEq] at H
            obtain ⟨rfl, rfl⟩ := H
            go_wp2
            go_ret2
            exact ⟨by first | rfl | (simp [errW_none, errW_some] <;> rfl) | (simp [*, errW_none, errW_some] <;> rfl), bsL HB.out⟩
           ·
            rw [if_neg c37] at H
            have c37b0 : (a0 == 10) = false := beq_eq_false_iff_ne.mpr c37
            have c37b1 : (a0 != 10) = true := bne_iff_ne.mpr c37
            by_cases c38 : a0 = 11
            ·
             rw [if_pos c38] at H
             have c38b0 : (a0 == 11) = true := beq_iff_eq.mpr c38
             have c38b1 : (a0 != 11) = false := bne_eq_false_iff_eq.mpr c38
             clear c38
             simp only [Option.some.injEq, Prod.mk.injEq] at H
             obtain ⟨rfl, rfl⟩ := H
             go_wp2
             go_ret2
             exact ⟨by first | rfl | (simp [errW_none, errW_some] <;> rfl) | (simp [*, errW_none, errW_some] <;> rfl), bsL HB.out⟩
            ·
             rw [if_neg c38] at H
             have c38b0 : (a0 == 11) = false := beq_eq_false_iff_ne.mpr c38
             have c38b1 : (a0 != 11) = true := bne_iff_ne.mpr c38
             have HC39 := Aside0.mk H
             clear H
             go_upto_if 74 with (fail)
             go_cut [74] (fun v74 wc => ∃ (kq : Nat) (x74_38 : Bool), v74 = .bool x74_38 ∧ Aside0 (bits_Binary.j2 kq a0 a1 t335 t336 x74_38 = some (r1, r2)) ∧ Aside0 (kq ≤ kj26) ∧ Aside0 (Below w.heap.size w wc))
             case first =>
              have H := HC39.out
              clear HC39
              by_cases c40 : a0 = 12
              ·
               rw [if_pos c40] at H
               have c40b0 : (a0 == 12) = true := beq_iff_eq.mpr c40
               have c40b1 : (a0 != 12) = false := bne_eq_false_iff_eq.mpr c40
               clear c40
               (first | rw [c40b0] | (simp only [i64_w, i32_w]; rw [c40b0]) | skip)
               have H' := Aside0.mk H
               clear H
               go_wp2
               go_meet
               case rel => exact ⟨_, ((a0 == 12)), (by first | rfl | (simp; done) | (simp [*]; done)), H', ⟨by have := HJ4.out; have := HJ26.out; first | omega | exact Nat.le_refl _⟩, ⟨bsL HB.out⟩⟩
              ·
               rw [if_neg c40] at H
               have c40b0 : (a0 == 12) = false := beq_eq_false_iff_ne.mpr c40
               have c40b1 : (a0 != 12) = true := bne_iff_ne.mpr c40
               (first | rw [c40b0] | (simp only [i64_w, i32_w]; rw [c40b0]) | skip)
               by_cases c41 : a0 = 13
               ·
                rw [if_pos c41] at H
                have c41b0 : (a0 == 13) = true := beq_iff_eq.mpr c41
                have c41b1 : (a0 != 13) = false := bne_eq_false_iff_eq.mpr c41
                clear c41
                have H' := Aside0.mk H
                clear H
                go_wp2
                go_meet
                case rel => exact ⟨_, ((a0 == 13)), (by first | rfl | (simp; done) | (simp [*]; done)), H', ⟨by have := HJ4.out; have := HJ26.out; first | omega | exact Nat.le_refl _⟩, ⟨bsL HB.out⟩⟩
               ·
                rw [if_neg c41] at H
                have c41b0 : (a0 == 13) = false := beq_eq_false_iff_ne.mpr c41
                have c41b1 : (a0 != 13) = true := bne_iff_ne.mpr c41
                have H' := Aside0.mk H
                clear H
                go_wp2
                go_meet
                case rel => exact ⟨_, ((a0 == 14)), (by first | rfl | (simp; done) | (simp [*]; done)), H', ⟨by have := HJ4.out; have := HJ26.out; first | omega | exact Nat.le_refl _⟩, ⟨bsL HB.out⟩⟩
             case rest =>
              clear HC39
              try clear c1
              try clear c2
              try clear p2
              try clear c3
              try clear c4
              try clear c6
              try clear c7
              try clear c8
              try clear c8b0
              try clear c9
              try clear c12
              try clear c12b0
              try clear c12b1
              try clear c17
              try clear c17b0
              try clear c17b1
              try clear c22
              try clear c22b0
              try clear c22b1
              try clear c30
              try clear c30b0
              try clear c30b1
              try clear c31
              try clear c31b0
              try clear c31b1
              try clear c32
              try clear c32b0
              try clear c32b1
              try clear c33
              try clear c36
              try clear c36b0
              try clear c36b1
              try clear c37
              try clear c37b0
              try clear c37b1
              try clear c38
              try clear c38b0
              try clear c38b1
              try clear c40
              try clear c40b0
              try clear c40b1
              try clear c41
              try clear c41b0
              try clear c41b1
              try clear p2
              obtain ⟨kq, x74_38, rfl, HA, HJ38, HB⟩ := hcut
              cases kq with
              | zero => exact absurd HA.out (by simp [bits_Binary.j2])
              | succ kj38 =>
               have H := HA.out
               clear HA
               simp only [bits_Binary.j2] at H
               by_cases c42 : x74_38 = true
               ·
                subst c42
                have H1 : ((bits_shift.f a0 a1 t335 t336).bind fun t341 => (some (t341, 0))) = some (r1, r2) := by rw [if_pos rfl] at H; exact H
                clear H
                have H := H1
                clear H1
                replace H := Option.bind_eq_some_iff.mp H
                obtain ⟨t341, A430, H⟩ := H
                replace H : (some (t341, 0)) = some (r1, r2) := H
                have A43 := Aside0.mk A430
                clear A430
                simp only [Option.some.injEq, Prod.mk.injEq] at H
                obtain ⟨rfl, rfl⟩ := H
                go_wp2_with (first | ((with_reducible refine gate_callee (f := 76) rfl ?_); refine gL (some 82) Try.func76 #[.int .i64 a0, .int .i64 a1, .int .u64 t335, .int .u64 t336] ?_; (with_reducible refine (bits_shift.calls a0 a1 t335 t336 t341 _ A43.out).mono ?_); rintro e w44 ⟨rfl, hb⟩; refine ⟨_, rfl, ?_⟩; replace HB := bsB HB.out hb; (try clear hb)))
                go_ret2
                exact ⟨by first | rfl | (simp [errW_none, errW_some] <;> rfl) | (simp [*, errW_none, errW_some] <;> rfl), bsL HB.out⟩
               ·
                replace c42 := Bool.eq_false_iff.mpr c42
                subst c42
                have H1 : ((bits_compare.f a0 a1 t335 t336).bind fun t342 => (some (t342, 0))) = some (r1, r2) := by rw [if_neg (show ¬ (false = true) by decide)] at H; exact H
                clear H
                have H := H1
                clear H1
                replace H := Option.bind_eq_some_iff.mp H
                obtain ⟨t342, A450, H⟩ := H
                replace H : (some (t342, 0)) = some (r1, r2) := H
                have A45 := Aside0.mk A450
                clear A450
                simp only [Option.some.injEq, Prod.mk.injEq] at H
                obtain ⟨rfl, rfl⟩ := H
                go_wp2_with (first | ((with_reducible refine gate_callee (f := 77) rfl ?_); refine gL (some 87) Try.func77 #[.int .i64 a0, .int .i64 a1, .int .u64 t335, .int .u64 t336] ?_; (with_reducible refine (bits_compare.calls a0 a1 t335 t336 t342 _ A45.out).mono ?_); rintro e w46 ⟨rfl, hb⟩; refine ⟨_, rfl, ?_⟩; replace HB := bsB HB.out hb; (try clear hb)))
                go_ret2
                exact ⟨by first | rfl | (simp [errW_none, errW_some] <;> rfl) | (simp [*, errW_none, errW_some] <;> rfl), bsL HB.out⟩

end Go.Proofs.Ytanmehdcccldfaa.P
