-- made by a program of this work (wip/mkprint.py, wip/mp.sh) out of the translation
import Derived.Test.YtbiohdgeclokmaaPx0
import Derived.Test.YtbiohdgeclokmaaPx11
import Derived.Test.YtbiohdgeclokmaaPx12
import Derived.Test.YtbiohdgeclokmaaPx13
namespace Go.Proofs.Ytbiohdgeclokmaa.P
open Go.RowKit Go.Proofs.YtbiohdgeclokmaaW.PrintWords Go.Proofs.YtbiohdgeclokmaaW.PrintLast Go.Proofs.YtbiohdgeclokmaaW.PrintMore
attribute [local go_sem] max2_int min2_int max_two min_two max_three min_three max_four min_four   -- for this text's walks alone
set_option linter.unusedVariables false
set_option linter.unusedSimpArgs false

/-! ### jacquardref14_Tighten: function 26 -/
mutual
def jacquardref14_Tighten.l0 : Nat → Int → Int → Int → Int → Int → Int → Int → Int → Int → Int → Int → Int → Int → Option (Int × Int × Int × Int × Int × Int × Bool)
 | 0, _, _, _, _, _, _, _, _, _, _, _, _, _ => none
 | k + 1, x15, x285000, x285001, x285002, x285003, x285004, x285005, x299000, x299001, x299002, x299003, x300000, x300001 => if x15 ≥ 0 then ((jacquardref12_Bit.f x299000 x15).bind fun t300 => ((jacquardref12_Bit.f x299001 x15).bind fun t301 => (jacquardref14_Tighten.j1 k x15 (t300 == t301) x285000 x285001 x285002 x285003 x285004 x285005 x299000 x299001 x299002 x299003 x300000 x300001))) else (jacquardref14_Tighten.j1 k x15 false x285000 x285001 x285002 x285003 x285004 x285005 x299000 x299001 x299002 x299003 x300000 x300001)
def jacquardref14_Tighten.j1 : Nat → Int → Bool → Int → Int → Int → Int → Int → Int → Int → Int → Int → Int → Int → Int → Option (Int × Int × Int × Int × Int × Int × Bool)
 | 0, _, _, _, _, _, _, _, _, _, _, _, _, _, _ => none
 | k + 1, x15, x77, x285000, x285001, x285002, x285003, x285004, x285005, x299000, x299001, x299002, x299003, x300000, x300001 => if x77 = true then ((jacquardref12_Bit.f x299000 x15).bind fun t302 => (if t302 = 1 then (if 0 ≤ x15 then (jacquardref14_Tighten.l0 k (wrap64 (x15 - 1)) x285000 x285001 x285002 x285003 x285004 x285005 x299000 x299001 x299002 x299003 x300000 (Go.bits .or .u64 x300001 (shl .u64 1 x15))) else (none)) else (if 0 ≤ x15 then (jacquardref14_Tighten.l0 k (wrap64 (x15 - 1)) x285000 x285001 x285002 x285003 x285004 x285005 x299000 x299001 x299002 x299003 (Go.bits .or .u64 x300000 (shl .u64 1 x15)) x300001) else (none)))) else (if (Go.bits .and .u64 x300000 x300001) = 0 then ((jacquardref14_fact.f x300000 x300001 x299000 x299001 x299002 x299003).bind fun bt303 => (some (bt303.1, bt303.2.1, bt303.2.2.1, bt303.2.2.2.1, bt303.2.2.2.2.1, bt303.2.2.2.2.2, true))) else (some (x285000, x285001, x285002, x285003, x285004, x285005, false)))
end
def jacquardref14_Tighten.f (k : Nat) (a0 : Int) (a1_0 : Int) (a1_1 : Int) (a1_2 : Int) (a1_3 : Int) (a1_4 : Int) (a1_5 : Int) : Option (Int × Int × Int × Int × Int × Int × Bool) := (jacquardref14_Valid.f k a0 a1_0 a1_1 a1_2 a1_3 a1_4 a1_5).bind fun t285 => (if t285 = true then ((jacquardref14_bits.f a1_0 a1_1 a1_2 a1_3 a1_4 a1_5).bind fun bt286 => ((jacquardref12_Limits.f k a0 bt286.1 bt286.2).bind fun bt288 => ((jacquardref12_SignedLimits.f k a0 bt286.1 bt286.2).bind fun bt290 => ((jacquardref13_Tighten.f k a0 (mx bt288.1 a1_2) (mn bt288.2 a1_3) (mx bt290.1 a1_4) (mn bt290.2 a1_5)).bind fun bt293 => (if bt293.2.2.2.2 = true then (jacquardref14_Tighten.l0 k (wrap64 (a0 - 1)) 0 0 0 0 0 0 bt293.1 bt293.2.1 bt293.2.2.1 bt293.2.2.2.1 bt286.1 bt286.2) else (some (0, 0, 0, 0, 0, 0, false))))))) else (some (0, 0, 0, 0, 0, 0, false)))
theorem jacquardref14_Tighten.mono_l : ∀ k, (∀ y0 y1 y2 y3 y4 y5 y6 y7 y8 y9 y10 y11 y12, LeO (jacquardref14_Tighten.l0 k y0 y1 y2 y3 y4 y5 y6 y7 y8 y9 y10 y11 y12) (jacquardref14_Tighten.l0 (k + 1) y0 y1 y2 y3 y4 y5 y6 y7 y8 y9 y10 y11 y12)) ∧ (∀ y0 y1 y2 y3 y4 y5 y6 y7 y8 y9 y10 y11 y12 y13, LeO (jacquardref14_Tighten.j1 k y0 y1 y2 y3 y4 y5 y6 y7 y8 y9 y10 y11 y12 y13) (jacquardref14_Tighten.j1 (k + 1) y0 y1 y2 y3 y4 y5 y6 y7 y8 y9 y10 y11 y12 y13))
 | 0 => ⟨fun _ _ _ _ _ _ _ _ _ _ _ _ _ r h => by simp [jacquardref14_Tighten.l0] at h, fun _ _ _ _ _ _ _ _ _ _ _ _ _ _ r h => by simp [jacquardref14_Tighten.j1] at h⟩
 | k + 1 => by
  obtain ⟨ih0, ih1⟩ := jacquardref14_Tighten.mono_l k
  refine ⟨?_, ?_⟩
  ·
   intro y0 y1 y2 y3 y4 y5 y6 y7 y8 y9 y10 y11 y12
   unfold jacquardref14_Tighten.l0
   repeat' first
   | (with_reducible exact ih0 _ _ _ _ _ _ _ _ _ _ _ _ _)
   | (with_reducible exact ih1 _ _ _ _ _ _ _ _ _ _ _ _ _ _)
   | (with_reducible exact jacquardref12_Limits.mono _ _ _ _)
   | (with_reducible exact jacquardref12_SignedLimits.mono _ _ _ _)
   | (with_reducible exact jacquardref13_Tighten.mono _ _ _ _ _ _)
   | (with_reducible exact jacquardref14_Valid.mono _ _ _ _ _ _ _ _)
   | (with_reducible exact LeO.refl _)
   | (with_reducible exact LeO.none _)
   | (with_reducible refine LeO.ite ?_ ?_)
   | (with_reducible refine LeO.bind ?_ (fun _ => ?_))
   | exact ih0 _ _ _ _ _ _ _ _ _ _ _ _ _
   | exact ih1 _ _ _ _ _ _ _ _ _ _ _ _ _ _
   | exact jacquardref12_Limits.mono _ _ _ _
   | exact jacquardref12_SignedLimits.mono _ _ _ _
   | exact jacquardref13_Tighten.mono _ _ _ _ _ _
   | exact jacquardref14_Valid.mono _ _ _ _ _ _ _ _
   | exact LeO.none _
   | refine LeO.ite ?_ ?_
   | refine LeO.bind ?_ (fun _ => ?_)
  ·
   intro y0 y1 y2 y3 y4 y5 y6 y7 y8 y9 y10 y11 y12 y13
   unfold jacquardref14_Tighten.j1
   repeat' first
   | (with_reducible exact ih0 _ _ _ _ _ _ _ _ _ _ _ _ _)
   | (with_reducible exact ih1 _ _ _ _ _ _ _ _ _ _ _ _ _ _)
   | (with_reducible exact jacquardref12_Limits.mono _ _ _ _)
   | (with_reducible exact jacquardref12_SignedLimits.mono _ _ _ _)
   | (with_reducible exact jacquardref13_Tighten.mono _ _ _ _ _ _)
   | (with_reducible exact jacquardref14_Valid.mono _ _ _ _ _ _ _ _)
   | (with_reducible exact LeO.refl _)
   | (with_reducible exact LeO.none _)
   | (with_reducible refine LeO.ite ?_ ?_)
   | (with_reducible refine LeO.bind ?_ (fun _ => ?_))
   | exact ih0 _ _ _ _ _ _ _ _ _ _ _ _ _
   | exact ih1 _ _ _ _ _ _ _ _ _ _ _ _ _ _
   | exact jacquardref12_Limits.mono _ _ _ _
   | exact jacquardref12_SignedLimits.mono _ _ _ _
   | exact jacquardref13_Tighten.mono _ _ _ _ _ _
   | exact jacquardref14_Valid.mono _ _ _ _ _ _ _ _
   | exact LeO.none _
   | refine LeO.ite ?_ ?_
   | refine LeO.bind ?_ (fun _ => ?_)
theorem jacquardref14_Tighten.mono : ∀ a0 a1 a2 a3 a4 a5 a6 k, LeO (jacquardref14_Tighten.f k a0 a1 a2 a3 a4 a5 a6) (jacquardref14_Tighten.f (k + 1) a0 a1 a2 a3 a4 a5 a6) := by
 intro a0 a1 a2 a3 a4 a5 a6 k
 obtain ⟨ih0, ih1⟩ := jacquardref14_Tighten.mono_l k
 unfold jacquardref14_Tighten.f
 repeat' first
   | (with_reducible exact ih0 _ _ _ _ _ _ _ _ _ _ _ _ _)
   | (with_reducible exact ih1 _ _ _ _ _ _ _ _ _ _ _ _ _ _)
   | (with_reducible exact jacquardref12_Limits.mono _ _ _ _)
   | (with_reducible exact jacquardref12_SignedLimits.mono _ _ _ _)
   | (with_reducible exact jacquardref13_Tighten.mono _ _ _ _ _ _)
   | (with_reducible exact jacquardref14_Valid.mono _ _ _ _ _ _ _ _)
   | (with_reducible exact LeO.refl _)
   | (with_reducible exact LeO.none _)
   | (with_reducible refine LeO.ite ?_ ?_)
   | (with_reducible refine LeO.bind ?_ (fun _ => ?_))
   | exact ih0 _ _ _ _ _ _ _ _ _ _ _ _ _
   | exact ih1 _ _ _ _ _ _ _ _ _ _ _ _ _ _
   | exact jacquardref12_Limits.mono _ _ _ _
   | exact jacquardref12_SignedLimits.mono _ _ _ _
   | exact jacquardref13_Tighten.mono _ _ _ _ _ _
   | exact jacquardref14_Valid.mono _ _ _ _ _ _ _ _
   | exact LeO.none _
   | refine LeO.ite ?_ ?_
   | refine LeO.bind ?_ (fun _ => ?_)
def jacquardref14_Tighten.T12 : Bool × List (List Nat × List Nat) := (true, [([], []), ([0], [0]), ([1], [1]), ([2], [2]), ([3, 2], [2, 3]), ([2], [2]), ([4, 5, 2, 2], [2, 4, 5]), ([2], [2]), ([7, 2], [2, 7]), ([2], [2]), ([8, 9, 6, 2], [2, 8, 9]), ([6, 10, 2], [2, 6, 10]), ([2, 11], [2, 11])])
def jacquardref14_Tighten.B12 : List Nat := [0, 1, 3, 7, 15, 7, 63, 7, 135, 7, 1023, 2047, 4095]
theorem jacquardref14_Tighten.tab12 : rtab .any (opsOf Try.f26 12) = jacquardref14_Tighten.T12 := by kernel_rfl
theorem jacquardref14_Tighten.bits12 : waitsOk jacquardref14_Tighten.T12.2 jacquardref14_Tighten.B12 = true := by kernel_rfl
set_option maxHeartbeats 8000000 in
set_option maxRecDepth 100000 in
theorem jacquardref14_Tighten.calls (k : Nat) (a0 : Int) (a1_0 : Int) (a1_1 : Int) (a1_2 : Int) (a1_3 : Int) (a1_4 : Int) (a1_5 : Int) (r1 : Int) (r2 : Int) (r3 : Int) (r4 : Int) (r5 : Int) (r6 : Int) (r7 : Bool) (w : World) (h : jacquardref14_Tighten.f k a0 a1_0 a1_1 a1_2 a1_3 a1_4 a1_5 = some (r1, r2, r3, r4, r5, r6, r7)) :
  Calls Try.prog 26 #[.int .i64 a0, .agg #[.int .u64 a1_0, .int .u64 a1_1, .int .u64 a1_2, .int .u64 a1_3, .int .i64 a1_4, .int .i64 a1_5]] w fun e w' => e = .returned (.tuple #[.agg #[.int .u64 r1, .int .u64 r2, .int .u64 r3, .int .u64 r4, .int .i64 r5, .int .i64 r6], .bool r7]) ∧ Below w.heap.size w w' := by
 have hu50 := Try.underlying50
 have hu30 := Try.underlying30
 have hu110 := Try.underlying110
 have HB := Aside0.mk (Below.refl w.heap.size w)
 have H : ((jacquardref14_Valid.f k a0 a1_0 a1_1 a1_2 a1_3 a1_4 a1_5).bind fun t285 => (if t285 = true then ((jacquardref14_bits.f a1_0 a1_1 a1_2 a1_3 a1_4 a1_5).bind fun bt286 => ((jacquardref12_Limits.f k a0 bt286.1 bt286.2).bind fun bt288 => ((jacquardref12_SignedLimits.f k a0 bt286.1 bt286.2).bind fun bt290 => ((jacquardref13_Tighten.f k a0 (mx bt288.1 a1_2) (mn bt288.2 a1_3) (mx bt290.1 a1_4) (mn bt290.2 a1_5)).bind fun bt293 => (if bt293.2.2.2.2 = true then (jacquardref14_Tighten.l0 k (wrap64 (a0 - 1)) 0 0 0 0 0 0 bt293.1 bt293.2.1 bt293.2.2.1 bt293.2.2.2.1 bt286.1 bt286.2) else (some (0, 0, 0, 0, 0, 0, false))))))) else (some (0, 0, 0, 0, 0, 0, false)))) = some (r1, r2, r3, r4, r5, r6, r7) := h
 clear h
 replace H := Option.bind_eq_some_iff.mp H
 obtain ⟨t285, A30, H⟩ := H
 replace H : (if t285 = true then ((jacquardref14_bits.f a1_0 a1_1 a1_2 a1_3 a1_4 a1_5).bind fun bt286 => ((jacquardref12_Limits.f k a0 bt286.1 bt286.2).bind fun bt288 => ((jacquardref12_SignedLimits.f k a0 bt286.1 bt286.2).bind fun bt290 => ((jacquardref13_Tighten.f k a0 (mx bt288.1 a1_2) (mn bt288.2 a1_3) (mx bt290.1 a1_4) (mn bt290.2 a1_5)).bind fun bt293 => (if bt293.2.2.2.2 = true then (jacquardref14_Tighten.l0 k (wrap64 (a0 - 1)) 0 0 0 0 0 0 bt293.1 bt293.2.1 bt293.2.2.1 bt293.2.2.2.1 bt286.1 bt286.2) else (some (0, 0, 0, 0, 0, 0, false))))))) else (some (0, 0, 0, 0, 0, 0, false))) = some (r1, r2, r3, r4, r5, r6, r7) := H
 have A3 := Aside0.mk A30
 clear A30
 by_cases c4 : t285 = true
 ·
  subst c4
  have H1 : ((jacquardref14_bits.f a1_0 a1_1 a1_2 a1_3 a1_4 a1_5).bind fun bt286 => ((jacquardref12_Limits.f k a0 bt286.1 bt286.2).bind fun bt288 => ((jacquardref12_SignedLimits.f k a0 bt286.1 bt286.2).bind fun bt290 => ((jacquardref13_Tighten.f k a0 (mx bt288.1 a1_2) (mn bt288.2 a1_3) (mx bt290.1 a1_4) (mn bt290.2 a1_5)).bind fun bt293 => (if bt293.2.2.2.2 = true then (jacquardref14_Tighten.l0 k (wrap64 (a0 - 1)) 0 0 0 0 0 0 bt293.1 bt293.2.1 bt293.2.2.1 bt293.2.2.2.1 bt286.1 bt286.2) else (some (0, 0, 0, 0, 0, 0, false))))))) = some (r1, r2, r3, r4, r5, r6, r7) := by rw [if_pos rfl] at H; exact H
  clear H
  have H := H1
  clear H1
  replace H := Option.bind_eq_some_iff.mp H
  obtain ⟨⟨t286, t287⟩, A50, H⟩ := H
  replace H : ((jacquardref12_Limits.f k a0 t286 t287).bind fun bt288 => ((jacquardref12_SignedLimits.f k a0 t286 t287).bind fun bt290 => ((jacquardref13_Tighten.f k a0 (mx bt288.1 a1_2) (mn bt288.2 a1_3) (mx bt290.1 a1_4) (mn bt290.2 a1_5)).bind fun bt293 => (if bt293.2.2.2.2 = true then (jacquardref14_Tighten.l0 k (wrap64 (a0 - 1)) 0 0 0 0 0 0 bt293.1 bt293.2.1 bt293.2.2.1 bt293.2.2.2.1 t286 t287) else (some (0, 0, 0, 0, 0, 0, false)))))) = some (r1, r2, r3, r4, r5, r6, r7) := H
  have A5 := Aside0.mk A50
  clear A50
  replace H := Option.bind_eq_some_iff.mp H
  obtain ⟨⟨t288, t289⟩, A60, H⟩ := H
  replace H : ((jacquardref12_SignedLimits.f k a0 t286 t287).bind fun bt290 => ((jacquardref13_Tighten.f k a0 (mx t288 a1_2) (mn t289 a1_3) (mx bt290.1 a1_4) (mn bt290.2 a1_5)).bind fun bt293 => (if bt293.2.2.2.2 = true then (jacquardref14_Tighten.l0 k (wrap64 (a0 - 1)) 0 0 0 0 0 0 bt293.1 bt293.2.1 bt293.2.2.1 bt293.2.2.2.1 t286 t287) else (some (0, 0, 0, 0, 0, 0, false))))) = some (r1, r2, r3, r4, r5, r6, r7) := H
  have A6 := Aside0.mk A60
  clear A60
  replace H := Option.bind_eq_some_iff.mp H
  obtain ⟨⟨t290, t291⟩, A70, H⟩ := H
  replace H : ((jacquardref13_Tighten.f k a0 (mx t288 a1_2) (mn t289 a1_3) (mx t290 a1_4) (mn t291 a1_5)).bind fun bt293 => (if bt293.2.2.2.2 = true then (jacquardref14_Tighten.l0 k (wrap64 (a0 - 1)) 0 0 0 0 0 0 bt293.1 bt293.2.1 bt293.2.2.1 bt293.2.2.2.1 t286 t287) else (some (0, 0, 0, 0, 0, 0, false)))) = some (r1, r2, r3, r4, r5, r6, r7) := H
  have A7 := Aside0.mk A70
  clear A70
  obtain ⟨ji8, hji8⟩ : ∃ j_ : Int, (mx t288 a1_2) = j_ := ⟨_, rfl⟩
  replace H : ((jacquardref13_Tighten.f k a0 (ji8) (mn t289 a1_3) (mx t290 a1_4) (mn t291 a1_5)).bind fun bt293 => (if bt293.2.2.2.2 = true then (jacquardref14_Tighten.l0 k (wrap64 (a0 - 1)) 0 0 0 0 0 0 bt293.1 bt293.2.1 bt293.2.2.1 bt293.2.2.2.1 t286 t287) else (some (0, 0, 0, 0, 0, 0, false)))) = some (r1, r2, r3, r4, r5, r6, r7) := by first | (rw [hji8] at H; exact H) | (simp only [hji8] at H ⊢; exact H)
  (try rw [hji8] at A3)
  (try rw [hji8] at A5)
  (try rw [hji8] at A6)
  (try rw [hji8] at A5)
  (try rw [hji8] at A7)
  have hji8_ : (if t288 < a1_2 then a1_2 else t288) = ji8 := hji8
  obtain ⟨ji9, hji9⟩ : ∃ j_ : Int, (mn t289 a1_3) = j_ := ⟨_, rfl⟩
  replace H : ((jacquardref13_Tighten.f k a0 (ji8) (ji9) (mx t290 a1_4) (mn t291 a1_5)).bind fun bt293 => (if bt293.2.2.2.2 = true then (jacquardref14_Tighten.l0 k (wrap64 (a0 - 1)) 0 0 0 0 0 0 bt293.1 bt293.2.1 bt293.2.2.1 bt293.2.2.2.1 t286 t287) else (some (0, 0, 0, 0, 0, 0, false)))) = some (r1, r2, r3, r4, r5, r6, r7) := by first | (rw [hji9] at H; exact H) | (simp only [hji9] at H ⊢; exact H)
  (try rw [hji9] at A3)
  (try rw [hji9] at A5)
  (try rw [hji9] at A6)
  (try rw [hji9] at A5)
  (try rw [hji9] at A7)
  have hji9_ : (if a1_3 < t289 then a1_3 else t289) = ji9 := hji9
  obtain ⟨ji10, hji10⟩ : ∃ j_ : Int, (mx t290 a1_4) = j_ := ⟨_, rfl⟩
  replace H : ((jacquardref13_Tighten.f k a0 (ji8) (ji9) (ji10) (mn t291 a1_5)).bind fun bt293 => (if bt293.2.2.2.2 = true then (jacquardref14_Tighten.l0 k (wrap64 (a0 - 1)) 0 0 0 0 0 0 bt293.1 bt293.2.1 bt293.2.2.1 bt293.2.2.2.1 t286 t287) else (some (0, 0, 0, 0, 0, 0, false)))) = some (r1, r2, r3, r4, r5, r6, r7) := by first | (rw [hji10] at H; exact H) | (simp only [hji10] at H ⊢; exact H)
  (try rw [hji10] at A3)
  (try rw [hji10] at A5)
  (try rw [hji10] at A6)
  (try rw [hji10] at A5)
  (try rw [hji10] at A7)
  have hji10_ : (if t290 < a1_4 then a1_4 else t290) = ji10 := hji10
  obtain ⟨ji11, hji11⟩ : ∃ j_ : Int, (mn t291 a1_5) = j_ := ⟨_, rfl⟩
  replace H : ((jacquardref13_Tighten.f k a0 (ji8) (ji9) (ji10) (ji11)).bind fun bt293 => (if bt293.2.2.2.2 = true then (jacquardref14_Tighten.l0 k (wrap64 (a0 - 1)) 0 0 0 0 0 0 bt293.1 bt293.2.1 bt293.2.2.1 bt293.2.2.2.1 t286 t287) else (some (0, 0, 0, 0, 0, 0, false)))) = some (r1, r2, r3, r4, r5, r6, r7) := by first | (rw [hji11] at H; exact H) | (simp only [hji11] at H ⊢; exact H)
  (try rw [hji11] at A3)
  (try rw [hji11] at A5)
  (try rw [hji11] at A6)
  (try rw [hji11] at A5)
  (try rw [hji11] at A7)
  have hji11_ : (if a1_5 < t291 then a1_5 else t291) = ji11 := hji11
  replace H := Option.bind_eq_some_iff.mp H
  obtain ⟨⟨t293, t294, t295, t296, t297⟩, A120, H⟩ := H
  replace H : (if t297 = true then (jacquardref14_Tighten.l0 k (wrap64 (a0 - 1)) 0 0 0 0 0 0 t293 t294 t295 t296 t286 t287) else (some (0, 0, 0, 0, 0, 0, false))) = some (r1, r2, r3, r4, r5, r6, r7) := H
  have A12 := Aside0.mk A120
  clear A120
  by_cases c13 : t297 = true
  ·
   subst c13
   have H1 : (jacquardref14_Tighten.l0 k (wrap64 (a0 - 1)) 0 0 0 0 0 0 t293 t294 t295 t296 t286 t287) = some (r1, r2, r3, r4, r5, r6, r7) := by rw [if_pos rfl] at H; exact H
   clear H
   have H := H1
   clear H1
   have H' := Aside0.mk H
   clear H
   go_enter Try.func26, Try.ntmps26
   go_wp2_with (first | ((with_reducible refine gate_dst (N := 3) rfl ?_); refine box_event ?hg (N := 3) ?hd (cs := #[.int .u64 a1_0, .int .u64 a1_1, .int .u64 a1_2, .int .u64 a1_3, .int .i64 a1_4, .int .i64 a1_5]) (t := 50) ?hr ?_; (case hd => rfl); (case hg => rfl); (case hr => first | (go_simp; done) | (go_simp; rfl)); intro gb282 hg w14 hbox hb; have n0_ := bsB HB.out hb; have n1_ := Aside0.mk (hbox); have n2_ := szB hg HB.out; have n3_ := szB hg HB.out; clear HB; have HB := n0_; have BK282 := n1_; have GW282 := n2_; have GE282 := n3_; clear n0_ n1_ n2_ n3_; clear hb hbox hg) | ((with_reducible refine gate_dst (N := 4) rfl ?_); refine box_event ?hg (N := 4) ?hd (cs := #[.int .u64 0, .int .u64 0, .int .u64 0, .int .u64 0, .int .i64 0, .int .i64 0]) (t := 50) ?hr ?_; (case hd => rfl); (case hg => rfl); (case hr => first | (go_simp; done) | (go_simp; rfl)); intro gb283 hg w15 hbox hb; have n0_ := bkB BK282.out hb; have n1_ := bsB HB.out hb; have n2_ := Aside0.mk (hbox); have n3_ := szB hg HB.out; have n4_ := szB hg HB.out; have n5_ := Aside0.mk ((by rw [hg]; exact Nat.ne_of_lt (blk_lt (g := gb282) (o := .cells #[.int .u64 a1_0, .int .u64 a1_1, .int .u64 a1_2, .int .u64 a1_3, .int .i64 a1_4, .int .i64 a1_5] 50 (0, 0)) (by exact bfL BK282.out)) : gb282 ≠ gb283)); have n6_ := Aside0.mk ((by rw [hg]; exact Nat.ne_of_gt (blk_lt (g := gb282) (o := .cells #[.int .u64 a1_0, .int .u64 a1_1, .int .u64 a1_2, .int .u64 a1_3, .int .i64 a1_4, .int .i64 a1_5] 50 (0, 0)) (by exact bfL BK282.out)) : gb283 ≠ gb282)); clear BK282; clear HB; have BK282 := n0_; have HB := n1_; have BK283 := n2_; have GW283 := n3_; have GE283 := n4_; have NB282_283 := n5_; have NB283_282 := n6_; clear n0_ n1_ n2_ n3_ n4_ n5_ n6_; clear hb hbox hg) | ((with_reducible refine gate_dst (N := 6) rfl ?_); refine box_event ?hg (N := 6) ?hd (cs := #[.int .u64 0, .int .u64 0, .int .u64 0, .int .u64 0, .int .i64 0, .int .i64 0]) (t := 50) ?hr ?_; (case hd => rfl); (case hg => rfl); (case hr => first | (go_simp; done) | (go_simp; rfl)); intro gb284 hg w16 hbox hb; have n0_ := bkB BK282.out hb; have n1_ := bkB BK283.out hb; have n2_ := bsB HB.out hb; have n3_ := Aside0.mk (hbox); have n4_ := szB hg HB.out; have n5_ := szB hg HB.out; have n6_ := Aside0.mk ((by rw [hg]; exact Nat.ne_of_lt (blk_lt (g := gb282) (o := .cells #[.int .u64 a1_0, .int .u64 a1_1, .int .u64 a1_2, .int .u64 a1_3, .int .i64 a1_4, .int .i64 a1_5] 50 (0, 0)) (by exact bfL BK282.out)) : gb282 ≠ gb284)); have n7_ := Aside0.mk ((by rw [hg]; exact Nat.ne_of_gt (blk_lt (g := gb282) (o := .cells #[.int .u64 a1_0, .int .u64 a1_1, .int .u64 a1_2, .int .u64 a1_3, .int .i64 a1_4, .int .i64 a1_5] 50 (0, 0)) (by exact bfL BK282.out)) : gb284 ≠ gb282)); have n8_ := Aside0.mk ((by rw [hg]; exact Nat.ne_of_lt (blk_lt (g := gb283) (o := .cells #[.int .u64 0, .int .u64 0, .int .u64 0, .int .u64 0, .int .i64 0, .int .i64 0] 50 (0, 0)) (by exact bfL BK283.out)) : gb283 ≠ gb284)); have n9_ := Aside0.mk ((by rw [hg]; exact Nat.ne_of_gt (blk_lt (g := gb283) (o := .cells #[.int .u64 0, .int .u64 0, .int .u64 0, .int .u64 0, .int .i64 0, .int .i64 0] 50 (0, 0)) (by exact bfL BK283.out)) : gb284 ≠ gb283)); clear BK282; clear BK283; clear HB; have BK282 := n0_; have BK283 := n1_; have HB := n2_; have BK284 := n3_; have GW284 := n4_; have GE284 := n5_; have NB282_284 := n6_; have NB284_282 := n7_; have NB283_284 := n8_; have NB284_283 := n9_; clear n0_ n1_ n2_ n3_ n4_ n5_ n6_ n7_ n8_ n9_; clear hb hbox hg; have hnb17 := NB282_283.out; have hnc17 := NB283_282.out; have hnb18 := NB282_284.out; have hnc18 := NB284_282.out; have hcz19_0 : w16.cell? ⟨gb282, 0, none⟩ = some (.int .u64 a1_0) := (blk_cell BK282.out 0).trans rfl; have hcz19_1 : w16.cell? ⟨gb282, 1, none⟩ = some (.int .u64 a1_1) := (blk_cell BK282.out 1).trans rfl; have hcz19_2 : w16.cell? ⟨gb282, 2, none⟩ = some (.int .u64 a1_2) := (blk_cell BK282.out 2).trans rfl; have hcz19_3 : w16.cell? ⟨gb282, 3, none⟩ = some (.int .u64 a1_3) := (blk_cell BK282.out 3).trans rfl; have hcz19_4 : w16.cell? ⟨gb282, 4, none⟩ = some (.int .i64 a1_4) := (blk_cell BK282.out 4).trans rfl; have hcz19_5 : w16.cell? ⟨gb282, 5, none⟩ = some (.int .i64 a1_5) := (blk_cell BK282.out 5).trans rfl; have hfz19_0 := blk_frozen BK282.out 0; have hfz19_1 := blk_frozen BK282.out 1; have hfz19_2 := blk_frozen BK282.out 2; have hfz19_3 := blk_frozen BK282.out 3; have hfz19_4 := blk_frozen BK282.out 4; have hfz19_5 := blk_frozen BK282.out 5) | ((with_reducible refine gate_callee (f := 27) rfl ?_); refine gL (some 18) Try.func27 #[.int .i64 a0, .agg #[.int .u64 a1_0, .int .u64 a1_1, .int .u64 a1_2, .int .u64 a1_3, .int .i64 a1_4, .int .i64 a1_5]] ?_; (with_reducible refine (jacquardref14_Valid.calls k a0 a1_0 a1_1 a1_2 a1_3 a1_4 a1_5 true _ A3.out).mono ?_); rintro e w20 ⟨rfl, hb⟩; refine ⟨_, rfl, ?_⟩; have n0_ := bkB BK282.out hb; have n1_ := bkB BK283.out hb; have n2_ := bkB BK284.out hb; have n3_ := bsB HB.out hb; clear BK282; clear BK283; clear BK284; clear HB; have BK282 := n0_; have BK283 := n1_; have BK284 := n2_; have HB := n3_; clear n0_ n1_ n2_ n3_; (try clear hb); (try clear hb2); (try clear hk); (try clear hi); have hcz21_0 : w20.cell? ⟨gb282, 0, none⟩ = some (.int .u64 a1_0) := (blk_cell BK282.out 0).trans rfl; have hcz21_1 : w20.cell? ⟨gb282, 1, none⟩ = some (.int .u64 a1_1) := (blk_cell BK282.out 1).trans rfl; have hcz21_2 : w20.cell? ⟨gb282, 2, none⟩ = some (.int .u64 a1_2) := (blk_cell BK282.out 2).trans rfl; have hcz21_3 : w20.cell? ⟨gb282, 3, none⟩ = some (.int .u64 a1_3) := (blk_cell BK282.out 3).trans rfl; have hcz21_4 : w20.cell? ⟨gb282, 4, none⟩ = some (.int .i64 a1_4) := (blk_cell BK282.out 4).trans rfl; have hcz21_5 : w20.cell? ⟨gb282, 5, none⟩ = some (.int .i64 a1_5) := (blk_cell BK282.out 5).trans rfl; have hfz21_0 := blk_frozen BK282.out 0; have hfz21_1 := blk_frozen BK282.out 1; have hfz21_2 := blk_frozen BK282.out 2; have hfz21_3 := blk_frozen BK282.out 3; have hfz21_4 := blk_frozen BK282.out 4; have hfz21_5 := blk_frozen BK282.out 5) | ((with_reducible refine gate_callee (f := 80) rfl ?_); refine gL (some 24) Try.func80 #[.agg #[.int .u64 a1_0, .int .u64 a1_1, .int .u64 a1_2, .int .u64 a1_3, .int .i64 a1_4, .int .i64 a1_5]] ?_; (with_reducible refine (jacquardref14_bits.calls a1_0 a1_1 a1_2 a1_3 a1_4 a1_5 t286 t287 _ A5.out).mono ?_); rintro e w22 ⟨rfl, hb⟩; refine ⟨_, rfl, ?_⟩; have n0_ := bkB BK282.out hb; have n1_ := bkB BK283.out hb; have n2_ := bkB BK284.out hb; have n3_ := bsB HB.out hb; clear BK282; clear BK283; clear BK284; clear HB; have BK282 := n0_; have BK283 := n1_; have BK284 := n2_; have HB := n3_; clear n0_ n1_ n2_ n3_; (try clear hb); (try clear hb2); (try clear hk); (try clear hi)) | ((with_reducible refine gate_callee (f := 79) rfl ?_); refine gL (some 25) Try.func79 #[.int .i64 a0, .agg #[.int .u64 t286, .int .u64 t287]] ?_; (with_reducible refine (jacquardref12_Limits.calls k a0 t286 t287 t288 t289 _ A6.out).mono ?_); rintro e w23 ⟨rfl, hb⟩; refine ⟨_, rfl, ?_⟩; have n0_ := bkB BK282.out hb; have n1_ := bkB BK283.out hb; have n2_ := bkB BK284.out hb; have n3_ := bsB HB.out hb; clear BK282; clear BK283; clear BK284; clear HB; have BK282 := n0_; have BK283 := n1_; have BK284 := n2_; have HB := n3_; clear n0_ n1_ n2_ n3_; (try clear hb); (try clear hb2); (try clear hk); (try clear hi); have hcz24_0 : w23.cell? ⟨gb282, 0, none⟩ = some (.int .u64 a1_0) := (blk_cell BK282.out 0).trans rfl; have hcz24_1 : w23.cell? ⟨gb282, 1, none⟩ = some (.int .u64 a1_1) := (blk_cell BK282.out 1).trans rfl; have hcz24_2 : w23.cell? ⟨gb282, 2, none⟩ = some (.int .u64 a1_2) := (blk_cell BK282.out 2).trans rfl; have hcz24_3 : w23.cell? ⟨gb282, 3, none⟩ = some (.int .u64 a1_3) := (blk_cell BK282.out 3).trans rfl; have hcz24_4 : w23.cell? ⟨gb282, 4, none⟩ = some (.int .i64 a1_4) := (blk_cell BK282.out 4).trans rfl; have hcz24_5 : w23.cell? ⟨gb282, 5, none⟩ = some (.int .i64 a1_5) := (blk_cell BK282.out 5).trans rfl; have hfz24_0 := blk_frozen BK282.out 0; have hfz24_1 := blk_frozen BK282.out 1; have hfz24_2 := blk_frozen BK282.out 2; have hfz24_3 := blk_frozen BK282.out 3; have hfz24_4 := blk_frozen BK282.out 4; have hfz24_5 := blk_frozen BK282.out 5) | ((with_reducible refine gate_callee (f := 80) rfl ?_); refine gL (some 31) Try.func80 #[.agg #[.int .u64 a1_0, .int .u64 a1_1, .int .u64 a1_2, .int .u64 a1_3, .int .i64 a1_4, .int .i64 a1_5]] ?_; (with_reducible refine (jacquardref14_bits.calls a1_0 a1_1 a1_2 a1_3 a1_4 a1_5 t286 t287 _ A5.out).mono ?_); rintro e w25 ⟨rfl, hb⟩; refine ⟨_, rfl, ?_⟩; have n0_ := bkB BK282.out hb; have n1_ := bkB BK283.out hb; have n2_ := bkB BK284.out hb; have n3_ := bsB HB.out hb; clear BK282; clear BK283; clear BK284; clear HB; have BK282 := n0_; have BK283 := n1_; have BK284 := n2_; have HB := n3_; clear n0_ n1_ n2_ n3_; (try clear hb); (try clear hb2); (try clear hk); (try clear hi)) | ((with_reducible refine gate_callee (f := 81) rfl ?_); refine gL (some 32) Try.func81 #[.int .i64 a0, .agg #[.int .u64 t286, .int .u64 t287]] ?_; (with_reducible refine (jacquardref12_SignedLimits.calls k a0 t286 t287 t290 t291 _ A7.out).mono ?_); rintro e w26 ⟨rfl, hb⟩; refine ⟨_, rfl, ?_⟩; have n0_ := bkB BK282.out hb; have n1_ := bkB BK283.out hb; have n2_ := bkB BK284.out hb; have n3_ := bsB HB.out hb; clear BK282; clear BK283; clear BK284; clear HB; have BK282 := n0_; have BK283 := n1_; have BK284 := n2_; have HB := n3_; clear n0_ n1_ n2_ n3_; (try clear hb); (try clear hb2); (try clear hk); (try clear hi); have hcz27_0 : w26.cell? ⟨gb282, 0, none⟩ = some (.int .u64 a1_0) := (blk_cell BK282.out 0).trans rfl; have hcz27_1 : w26.cell? ⟨gb282, 1, none⟩ = some (.int .u64 a1_1) := (blk_cell BK282.out 1).trans rfl; have hcz27_2 : w26.cell? ⟨gb282, 2, none⟩ = some (.int .u64 a1_2) := (blk_cell BK282.out 2).trans rfl; have hcz27_3 : w26.cell? ⟨gb282, 3, none⟩ = some (.int .u64 a1_3) := (blk_cell BK282.out 3).trans rfl; have hcz27_4 : w26.cell? ⟨gb282, 4, none⟩ = some (.int .i64 a1_4) := (blk_cell BK282.out 4).trans rfl; have hcz27_5 : w26.cell? ⟨gb282, 5, none⟩ = some (.int .i64 a1_5) := (blk_cell BK282.out 5).trans rfl; have hfz27_0 := blk_frozen BK282.out 0; have hfz27_1 := blk_frozen BK282.out 1; have hfz27_2 := blk_frozen BK282.out 2; have hfz27_3 := blk_frozen BK282.out 3; have hfz27_4 := blk_frozen BK282.out 4; have hfz27_5 := blk_frozen BK282.out 5) | ((with_reducible refine gate_dst (N := 11) rfl ?_); refine box_event ?hg (N := 11) ?hd (cs := #[.int .u64 0, .int .u64 0, .int .i64 0, .int .i64 0]) (t := 30) ?hr ?_; (case hd => rfl); (case hg => rfl); (case hr => first | (go_simp; done) | (go_simp; rfl)); intro gb292 hg w28 hbox hb; have n0_ := bkB BK282.out hb; have n1_ := bkB BK283.out hb; have n2_ := bkB BK284.out hb; have n3_ := bsB HB.out hb; have n4_ := Aside0.mk (hbox); have n5_ := szB hg HB.out; have n6_ := szB hg HB.out; have n7_ := Aside0.mk ((by rw [hg]; exact Nat.ne_of_lt (blk_lt (g := gb282) (o := .cells #[.int .u64 a1_0, .int .u64 a1_1, .int .u64 a1_2, .int .u64 a1_3, .int .i64 a1_4, .int .i64 a1_5] 50 (0, 0)) (by exact bfL BK282.out)) : gb282 ≠ gb292)); have n8_ := Aside0.mk ((by rw [hg]; exact Nat.ne_of_gt (blk_lt (g := gb282) (o := .cells #[.int .u64 a1_0, .int .u64 a1_1, .int .u64 a1_2, .int .u64 a1_3, .int .i64 a1_4, .int .i64 a1_5] 50 (0, 0)) (by exact bfL BK282.out)) : gb292 ≠ gb282)); have n9_ := Aside0.mk ((by rw [hg]; exact Nat.ne_of_lt (blk_lt (g := gb283) (o := .cells #[.int .u64 0, .int .u64 0, .int .u64 0, .int .u64 0, .int .i64 0, .int .i64 0] 50 (0, 0)) (by exact bfL BK283.out)) : gb283 ≠ gb292)); have n10_ := Aside0.mk ((by rw [hg]; exact Nat.ne_of_gt (blk_lt (g := gb283) (o := .cells #[.int .u64 0, .int .u64 0, .int .u64 0, .int .u64 0, .int .i64 0, .int .i64 0] 50 (0, 0)) (by exact bfL BK283.out)) : gb292 ≠ gb283)); have n11_ := Aside0.mk ((by rw [hg]; exact Nat.ne_of_lt (blk_lt (g := gb284) (o := .cells #[.int .u64 0, .int .u64 0, .int .u64 0, .int .u64 0, .int .i64 0, .int .i64 0] 50 (0, 0)) (by exact bfL BK284.out)) : gb284 ≠ gb292)); have n12_ := Aside0.mk ((by rw [hg]; exact Nat.ne_of_gt (blk_lt (g := gb284) (o := .cells #[.int .u64 0, .int .u64 0, .int .u64 0, .int .u64 0, .int .i64 0, .int .i64 0] 50 (0, 0)) (by exact bfL BK284.out)) : gb292 ≠ gb284)); clear BK282; clear BK283; clear BK284; clear HB; have BK282 := n0_; have BK283 := n1_; have BK284 := n2_; have HB := n3_; have BK292 := n4_; have GW292 := n5_; have GE292 := n6_; have NB282_292 := n7_; have NB292_282 := n8_; have NB283_292 := n9_; have NB292_283 := n10_; have NB284_292 := n11_; have NB292_284 := n12_; clear n0_ n1_ n2_ n3_ n4_ n5_ n6_ n7_ n8_ n9_ n10_ n11_ n12_; clear hb hbox hg; have hnb29 := NB292_282.out; have hnc29 := NB282_292.out; have hnb30 := NB292_283.out; have hnc30 := NB283_292.out; have hnb31 := NB292_284.out; have hnc31 := NB284_292.out; have hcz32_0 : w28.cell? ⟨gb292, 0, none⟩ = some (.int .u64 0) := (blk_cell BK292.out 0).trans rfl; have hcz32_1 : w28.cell? ⟨gb292, 1, none⟩ = some (.int .u64 0) := (blk_cell BK292.out 1).trans rfl; have hcz32_2 : w28.cell? ⟨gb292, 2, none⟩ = some (.int .i64 0) := (blk_cell BK292.out 2).trans rfl; have hcz32_3 : w28.cell? ⟨gb292, 3, none⟩ = some (.int .i64 0) := (blk_cell BK292.out 3).trans rfl; have hfz32_0 := blk_frozen BK292.out 0; have hfz32_1 := blk_frozen BK292.out 1; have hfz32_2 := blk_frozen BK292.out 2; have hfz32_3 := blk_frozen BK292.out 3) | ((with_reducible refine gate_callee (f := 59) rfl ?_); refine goesL_ (some 55) rfl rfl Try.func59 (by kernel_rfl) rfl #[.int .i64 a0, .agg #[.int .u64 ji8, .int .u64 ji9, .int .i64 ji10, .int .i64 ji11]] rfl (by (try simp only [List.map_toArray, List.map_cons, List.map_nil]); first | done | (simp only [hji10, hji11, hji8, hji9]; rfl) | rfl | (simp only [List.length_drop, List.length_take]; rfl)) ?_; (with_reducible refine (jacquardref13_Tighten.calls k a0 ji8 ji9 ji10 ji11 t293 t294 t295 t296 true _ A12.out).mono ?_); rintro e w33 ⟨rfl, hb⟩; refine ⟨_, rfl, ?_⟩; have n0_ := Aside0.mk (blk_below (g := gb282) (o := .cells #[.int .u64 a1_0, .int .u64 a1_1, .int .u64 a1_2, .int .u64 a1_3, .int .i64 a1_4, .int .i64 a1_5] 50 (0, 0)) (by exact bfL BK282.out) hb); have n1_ := Aside0.mk (blk_below (g := gb283) (o := .cells #[.int .u64 0, .int .u64 0, .int .u64 0, .int .u64 0, .int .i64 0, .int .i64 0] 50 (0, 0)) (by exact bfL BK283.out) hb); have n2_ := Aside0.mk (blk_below (g := gb284) (o := .cells #[.int .u64 0, .int .u64 0, .int .u64 0, .int .u64 0, .int .i64 0, .int .i64 0] 50 (0, 0)) (by exact bfL BK284.out) hb); have n3_ := Aside0.mk (blk_below (g := gb292) (o := .cells #[.int .u64 ji8, .int .u64 ji9, .int .i64 ji10, .int .i64 ji11] 30 (0, 0)) (by (with_reducible repeat (first | refine blk_drewN ?_ _ | refine blk_drew ?_ | refine blk_alloc ?_ _)); refine blk_put (cs := #[.int .u64 ji8, .int .u64 ji9, .int .i64 ji10, .int .i64 0]) ?_ 3 _ rfl; (with_reducible repeat (first | refine blk_drewN ?_ _ | refine blk_drew ?_ | refine blk_alloc ?_ _)); refine blk_put (cs := #[.int .u64 ji8, .int .u64 ji9, .int .i64 0, .int .i64 0]) ?_ 2 _ rfl; (with_reducible repeat (first | refine blk_drewN ?_ _ | refine blk_drew ?_ | refine blk_alloc ?_ _)); refine blk_put (cs := #[.int .u64 ji8, .int .u64 0, .int .i64 0, .int .i64 0]) ?_ 1 _ rfl; (with_reducible repeat (first | refine blk_drewN ?_ _ | refine blk_drew ?_ | refine blk_alloc ?_ _)); refine blk_put (cs := #[.int .u64 0, .int .u64 0, .int .i64 0, .int .i64 0]) ?_ 0 _ rfl; exact bfL BK292.out) hb); have n4_ := bsB HB.out hb; clear BK282; clear BK283; clear BK284; clear BK292; clear HB; have BK282 := n0_; have BK283 := n1_; have BK284 := n2_; have BK292 := n3_; have HB := n4_; clear n0_ n1_ n2_ n3_ n4_; (try clear hb); (try clear hb2); (try clear hk); (try clear hi)) | ((with_reducible refine gate_dst (N := 12) rfl ?_); refine box_event ?hg (N := 12) ?hd (cs := #[.int .u64 0, .int .u64 0, .int .i64 0, .int .i64 0]) (t := 30) ?hr ?_; (case hd => rfl); (case hg => rfl); (case hr => first | (go_simp; done) | (go_simp; rfl)); intro gb298 hg w34 hbox hb; have n0_ := bkB BK282.out hb; have n1_ := bkB BK283.out hb; have n2_ := bkB BK284.out hb; have n3_ := bkB BK292.out hb; have n4_ := bsB HB.out hb; have n5_ := Aside0.mk (hbox); have n6_ := szB hg HB.out; have n7_ := szB hg HB.out; have n8_ := Aside0.mk ((by rw [hg]; exact Nat.ne_of_lt (blk_lt (g := gb282) (o := .cells #[.int .u64 a1_0, .int .u64 a1_1, .int .u64 a1_2, .int .u64 a1_3, .int .i64 a1_4, .int .i64 a1_5] 50 (0, 0)) (by exact bfL BK282.out)) : gb282 ≠ gb298)); have n9_ := Aside0.mk ((by rw [hg]; exact Nat.ne_of_gt (blk_lt (g := gb282) (o := .cells #[.int .u64 a1_0, .int .u64 a1_1, .int .u64 a1_2, .int .u64 a1_3, .int .i64 a1_4, .int .i64 a1_5] 50 (0, 0)) (by exact bfL BK282.out)) : gb298 ≠ gb282)); have n10_ := Aside0.mk ((by rw [hg]; exact Nat.ne_of_lt (blk_lt (g := gb283) (o := .cells #[.int .u64 0, .int .u64 0, .int .u64 0, .int .u64 0, .int .i64 0, .int .i64 0] 50 (0, 0)) (by exact bfL BK283.out)) : gb283 ≠ gb298)); have n11_ := Aside0.mk ((by rw [hg]; exact Nat.ne_of_gt (blk_lt (g := gb283) (o := .cells #[.int .u64 0, .int .u64 0, .int .u64 0, .int .u64 0, .int .i64 0, .int .i64 0] 50 (0, 0)) (by exact bfL BK283.out)) : gb298 ≠ gb283)); have n12_ := Aside0.mk ((by rw [hg]; exact Nat.ne_of_lt (blk_lt (g := gb284) (o := .cells #[.int .u64 0, .int .u64 0, .int .u64 0, .int .u64 0, .int .i64 0, .int .i64 0] 50 (0, 0)) (by exact bfL BK284.out)) : gb284 ≠ gb298)); have n13_ := Aside0.mk ((by rw [hg]; exact Nat.ne_of_gt (blk_lt (g := gb284) (o := .cells #[.int .u64 0, .int .u64 0, .int .u64 0, .int .u64 0, .int .i64 0, .int .i64 0] 50 (0, 0)) (by exact bfL BK284.out)) : gb298 ≠ gb284)); have n14_ := Aside0.mk ((by rw [hg]; exact Nat.ne_of_lt (blk_lt (g := gb292) (o := .cells #[.int .u64 ji8, .int .u64 ji9, .int .i64 ji10, .int .i64 ji11] 30 (0, 0)) (by exact bfL BK292.out)) : gb292 ≠ gb298)); have n15_ := Aside0.mk ((by rw [hg]; exact Nat.ne_of_gt (blk_lt (g := gb292) (o := .cells #[.int .u64 ji8, .int .u64 ji9, .int .i64 ji10, .int .i64 ji11] 30 (0, 0)) (by exact bfL BK292.out)) : gb298 ≠ gb292)); clear BK282; clear BK283; clear BK284; clear BK292; clear HB; have BK282 := n0_; have BK283 := n1_; have BK284 := n2_; have BK292 := n3_; have HB := n4_; have BK298 := n5_; have GW298 := n6_; have GE298 := n7_; have NB282_298 := n8_; have NB298_282 := n9_; have NB283_298 := n10_; have NB298_283 := n11_; have NB284_298 := n12_; have NB298_284 := n13_; have NB292_298 := n14_; have NB298_292 := n15_; clear n0_ n1_ n2_ n3_ n4_ n5_ n6_ n7_ n8_ n9_ n10_ n11_ n12_ n13_ n14_ n15_; clear hb hbox hg; have hnb35 := NB298_282.out; have hnc35 := NB282_298.out; have hnb36 := NB298_283.out; have hnc36 := NB283_298.out; have hnb37 := NB298_284.out; have hnc37 := NB284_298.out; have hnb38 := NB298_292.out; have hnc38 := NB292_298.out; have hcz39_0 : w34.cell? ⟨gb298, 0, none⟩ = some (.int .u64 0) := (blk_cell BK298.out 0).trans rfl; have hcz39_1 : w34.cell? ⟨gb298, 1, none⟩ = some (.int .u64 0) := (blk_cell BK298.out 1).trans rfl; have hcz39_2 : w34.cell? ⟨gb298, 2, none⟩ = some (.int .i64 0) := (blk_cell BK298.out 2).trans rfl; have hcz39_3 : w34.cell? ⟨gb298, 3, none⟩ = some (.int .i64 0) := (blk_cell BK298.out 3).trans rfl; have hfz39_0 := blk_frozen BK298.out 0; have hfz39_1 := blk_frozen BK298.out 1; have hfz39_2 := blk_frozen BK298.out 2; have hfz39_3 := blk_frozen BK298.out 3; have hcz40_0 : w34.cell? ⟨gb282, 0, none⟩ = some (.int .u64 a1_0) := (blk_cell BK282.out 0).trans rfl; have hcz40_1 : w34.cell? ⟨gb282, 1, none⟩ = some (.int .u64 a1_1) := (blk_cell BK282.out 1).trans rfl; have hcz40_2 : w34.cell? ⟨gb282, 2, none⟩ = some (.int .u64 a1_2) := (blk_cell BK282.out 2).trans rfl; have hcz40_3 : w34.cell? ⟨gb282, 3, none⟩ = some (.int .u64 a1_3) := (blk_cell BK282.out 3).trans rfl; have hcz40_4 : w34.cell? ⟨gb282, 4, none⟩ = some (.int .i64 a1_4) := (blk_cell BK282.out 4).trans rfl; have hcz40_5 : w34.cell? ⟨gb282, 5, none⟩ = some (.int .i64 a1_5) := (blk_cell BK282.out 5).trans rfl; have hfz40_0 := blk_frozen BK282.out 0; have hfz40_1 := blk_frozen BK282.out 1; have hfz40_2 := blk_frozen BK282.out 2; have hfz40_3 := blk_frozen BK282.out 3; have hfz40_4 := blk_frozen BK282.out 4; have hfz40_5 := blk_frozen BK282.out 5) | ((with_reducible refine gate_callee (f := 80) rfl ?_); refine gL (some 62) Try.func80 #[.agg #[.int .u64 a1_0, .int .u64 a1_1, .int .u64 a1_2, .int .u64 a1_3, .int .i64 a1_4, .int .i64 a1_5]] ?_; (with_reducible refine (jacquardref14_bits.calls a1_0 a1_1 a1_2 a1_3 a1_4 a1_5 t286 t287 _ A5.out).mono ?_); rintro e w41 ⟨rfl, hb⟩; refine ⟨_, rfl, ?_⟩; have n0_ := Aside0.mk (blk_below (g := gb282) (o := .cells #[.int .u64 a1_0, .int .u64 a1_1, .int .u64 a1_2, .int .u64 a1_3, .int .i64 a1_4, .int .i64 a1_5] 50 (0, 0)) (by exact bfL BK282.out) hb); have n1_ := Aside0.mk (blk_below (g := gb283) (o := .cells #[.int .u64 0, .int .u64 0, .int .u64 0, .int .u64 0, .int .i64 0, .int .i64 0] 50 (0, 0)) (by exact bfL BK283.out) hb); have n2_ := Aside0.mk (blk_below (g := gb284) (o := .cells #[.int .u64 0, .int .u64 0, .int .u64 0, .int .u64 0, .int .i64 0, .int .i64 0] 50 (0, 0)) (by exact bfL BK284.out) hb); have n3_ := Aside0.mk (blk_below (g := gb292) (o := .cells #[.int .u64 ji8, .int .u64 ji9, .int .i64 ji10, .int .i64 ji11] 30 (0, 0)) (by exact bfL BK292.out) hb); have n4_ := Aside0.mk (blk_below (g := gb298) (o := .cells #[.int .u64 t293, .int .u64 t294, .int .i64 t295, .int .i64 t296] 30 (0, 0)) (by (with_reducible repeat (first | refine blk_drewN ?_ _ | refine blk_drew ?_ | refine blk_alloc ?_ _)); refine blk_put (cs := #[.int .u64 t293, .int .u64 t294, .int .i64 t295, .int .i64 0]) ?_ 3 _ rfl; (with_reducible repeat (first | refine blk_drewN ?_ _ | refine blk_drew ?_ | refine blk_alloc ?_ _)); refine blk_put (cs := #[.int .u64 t293, .int .u64 t294, .int .i64 0, .int .i64 0]) ?_ 2 _ rfl; (with_reducible repeat (first | refine blk_drewN ?_ _ | refine blk_drew ?_ | refine blk_alloc ?_ _)); refine blk_put (cs := #[.int .u64 t293, .int .u64 0, .int .i64 0, .int .i64 0]) ?_ 1 _ rfl; (with_reducible repeat (first | refine blk_drewN ?_ _ | refine blk_drew ?_ | refine blk_alloc ?_ _)); refine blk_put (cs := #[.int .u64 0, .int .u64 0, .int .i64 0, .int .i64 0]) ?_ 0 _ rfl; exact bfL BK298.out) hb); have n5_ := bsB HB.out hb; clear BK282; clear BK283; clear BK284; clear BK292; clear BK298; clear HB; have BK282 := n0_; have BK283 := n1_; have BK284 := n2_; have BK292 := n3_; have BK298 := n4_; have HB := n5_; clear n0_ n1_ n2_ n3_ n4_ n5_; (try clear hb); (try clear hb2); (try clear hk); (try clear hi)) | ((with_reducible refine gate_dst (N := 14) rfl ?_); refine box_event ?hg (N := 14) ?hd (cs := #[.int .u64 0, .int .u64 0]) (t := 110) ?hr ?_; (case hd => rfl); (case hg => rfl); (case hr => first | (go_simp; done) | (go_simp; rfl)); intro gb299 hg w42 hbox hb; have n0_ := bkB BK282.out hb; have n1_ := bkB BK283.out hb; have n2_ := bkB BK284.out hb; have n3_ := bkB BK292.out hb; have n4_ := bkB BK298.out hb; have n5_ := bsB HB.out hb; have n6_ := Aside0.mk (hbox); have n7_ := szB hg HB.out; have n8_ := szB hg HB.out; have n9_ := Aside0.mk ((by rw [hg]; exact Nat.ne_of_lt (blk_lt (g := gb282) (o := .cells #[.int .u64 a1_0, .int .u64 a1_1, .int .u64 a1_2, .int .u64 a1_3, .int .i64 a1_4, .int .i64 a1_5] 50 (0, 0)) (by exact bfL BK282.out)) : gb282 ≠ gb299)); have n10_ := Aside0.mk ((by rw [hg]; exact Nat.ne_of_gt (blk_lt (g := gb282) (o := .cells #[.int .u64 a1_0, .int .u64 a1_1, .int .u64 a1_2, .int .u64 a1_3, .int .i64 a1_4, .int .i64 a1_5] 50 (0, 0)) (by exact bfL BK282.out)) : gb299 ≠ gb282)); have n11_ := Aside0.mk ((by rw [hg]; exact Nat.ne_of_lt (blk_lt (g := gb283) (o := .cells #[.int .u64 0, .int .u64 0, .int .u64 0, .int .u64 0, .int .i64 0, .int .i64 0] 50 (0, 0)) (by exact bfL BK283.out)) : gb283 ≠ gb299)); have n12_ := Aside0.mk ((by rw [hg]; exact Nat.ne_of_gt (blk_lt (g := gb283) (o := .cells #[.int .u64 0, .int .u64 0, .int .u64 0, .int .u64 0, .int .i64 0, .int .i64 0] 50 (0, 0)) (by exact bfL BK283.out)) : gb299 ≠ gb283)); have n13_ := Aside0.mk ((by rw [hg]; exact Nat.ne_of_lt (blk_lt (g := gb284) (o := .cells #[.int .u64 0, .int .u64 0, .int .u64 0, .int .u64 0, .int .i64 0, .int .i64 0] 50 (0, 0)) (by exact bfL BK284.out)) : gb284 ≠ gb299)); have n14_ := Aside0.mk ((by rw [hg]; exact Nat.ne_of_gt (blk_lt (g := gb284) (o := .cells #[.int .u64 0, .int .u64 0, .int .u64 0, .int .u64 0, .int .i64 0, .int .i64 0] 50 (0, 0)) (by exact bfL BK284.out)) : gb299 ≠ gb284)); have n15_ := Aside0.mk ((by rw [hg]; exact Nat.ne_of_lt (blk_lt (g := gb292) (o := .cells #[.int .u64 ji8, .int .u64 ji9, .int .i64 ji10, .int .i64 ji11] 30 (0, 0)) (by exact bfL BK292.out)) : gb292 ≠ gb299)); have n16_ := Aside0.mk ((by rw [hg]; exact Nat.ne_of_gt (blk_lt (g := gb292) (o := .cells #[.int .u64 ji8, .int .u64 ji9, .int .i64 ji10, .int .i64 ji11] 30 (0, 0)) (by exact bfL BK292.out)) : gb299 ≠ gb292)); have n17_ := Aside0.mk ((by rw [hg]; exact Nat.ne_of_lt (blk_lt (g := gb298) (o := .cells #[.int .u64 t293, .int .u64 t294, .int .i64 t295, .int .i64 t296] 30 (0, 0)) (by exact bfL BK298.out)) : gb298 ≠ gb299)); have n18_ := Aside0.mk ((by rw [hg]; exact Nat.ne_of_gt (blk_lt (g := gb298) (o := .cells #[.int .u64 t293, .int .u64 t294, .int .i64 t295, .int .i64 t296] 30 (0, 0)) (by exact bfL BK298.out)) : gb299 ≠ gb298)); clear BK282; clear BK283; clear BK284; clear BK292; clear BK298; clear HB; have BK282 := n0_; have BK283 := n1_; have BK284 := n2_; have BK292 := n3_; have BK298 := n4_; have HB := n5_; have BK299 := n6_; have GW299 := n7_; have GE299 := n8_; have NB282_299 := n9_; have NB299_282 := n10_; have NB283_299 := n11_; have NB299_283 := n12_; have NB284_299 := n13_; have NB299_284 := n14_; have NB292_299 := n15_; have NB299_292 := n16_; have NB298_299 := n17_; have NB299_298 := n18_; clear n0_ n1_ n2_ n3_ n4_ n5_ n6_ n7_ n8_ n9_ n10_ n11_ n12_ n13_ n14_ n15_ n16_ n17_ n18_; clear hb hbox hg; have hnb43 := NB299_282.out; have hnc43 := NB282_299.out; have hnb44 := NB299_283.out; have hnc44 := NB283_299.out; have hnb45 := NB299_284.out; have hnc45 := NB284_299.out; have hnb46 := NB299_292.out; have hnc46 := NB292_299.out; have hnb47 := NB299_298.out; have hnc47 := NB298_299.out; have hcz48_0 : w42.cell? ⟨gb299, 0, none⟩ = some (.int .u64 0) := (blk_cell BK299.out 0).trans rfl; have hcz48_1 : w42.cell? ⟨gb299, 1, none⟩ = some (.int .u64 0) := (blk_cell BK299.out 1).trans rfl; have hfz48_0 := blk_frozen BK299.out 0; have hfz48_1 := blk_frozen BK299.out 1))
   go_loopg [15] k (fun kq v15 w' => ∃ (x15_1 : Int) (x300000_1 : Int) (x300001_1 : Int), v15 = .int .i64 x15_1 ∧ Aside0 (jacquardref14_Tighten.l0 kq x15_1 0 0 0 0 0 0 t293 t294 t295 t296 x300000_1 x300001_1 = some (r1, r2, r3, r4, r5, r6, r7)) ∧ Aside0 (kq ≤ k) ∧ Aside0 (w'.heap[gb282]? = some (.cells #[.int .u64 a1_0, .int .u64 a1_1, .int .u64 a1_2, .int .u64 a1_3, .int .i64 a1_4, .int .i64 a1_5] 50 (0, 0))) ∧ Aside0 (w'.heap[gb283]? = some (.cells #[.int .u64 0, .int .u64 0, .int .u64 0, .int .u64 0, .int .i64 0, .int .i64 0] 50 (0, 0))) ∧ Aside0 (w'.heap[gb284]? = some (.cells #[.int .u64 0, .int .u64 0, .int .u64 0, .int .u64 0, .int .i64 0, .int .i64 0] 50 (0, 0))) ∧ Aside0 (w'.heap[gb292]? = some (.cells #[.int .u64 ji8, .int .u64 ji9, .int .i64 ji10, .int .i64 ji11] 30 (0, 0))) ∧ Aside0 (w'.heap[gb298]? = some (.cells #[.int .u64 t293, .int .u64 t294, .int .i64 t295, .int .i64 t296] 30 (0, 0))) ∧ Aside0 (w'.heap[gb299]? = some (.cells #[.int .u64 x300000_1, .int .u64 x300001_1] 110 (0, 0))) ∧ Aside0 (Below w.heap.size w w'))
   case atStart => exact ⟨(wrap64 (a0 - 1)), (t286), (t287), (by first | rfl | (simp; done) | (simp [*]; done)), H', ⟨Nat.le_refl _⟩, ⟨by exact bfL BK282.out⟩, ⟨by exact bfL BK283.out⟩, ⟨by exact bfL BK284.out⟩, ⟨by exact bfL BK292.out⟩, ⟨by exact bfL BK298.out⟩, ⟨by (with_reducible repeat (first | refine blk_drewN ?_ _ | refine blk_drew ?_ | refine blk_alloc ?_ _)); refine blk_put (cs := #[.int .u64 t286, .int .u64 0]) ?_ 1 _ rfl; (with_reducible repeat (first | refine blk_drewN ?_ _ | refine blk_drew ?_ | refine blk_alloc ?_ _)); refine blk_put (cs := #[.int .u64 0, .int .u64 0]) ?_ 0 _ rfl; exact bfL BK299.out⟩, ⟨bsL HB.out⟩⟩
   case round =>
    clear H'
    try clear c1
    try clear c2
    try clear p2
    try clear c3
    try clear c4
    try clear c5
    try clear p6
    try clear c7
    try clear c8
    try clear c13
    try clear c17
    try clear c18
    try clear c26
    try clear c27
    try clear c29
    try clear c30
    try clear c31
    try clear c35
    try clear c36
    try clear c37
    try clear c38
    try clear c43
    try clear c44
    try clear c45
    try clear c46
    try clear c47
    try clear hcz19_0
    try clear hcz19_1
    try clear hcz19_2
    try clear hcz19_3
    try clear hcz19_4
    try clear hcz19_5
    try clear hcz21_0
    try clear hcz21_1
    try clear hcz21_2
    try clear hcz21_3
    try clear hcz21_4
    try clear hcz21_5
    try clear hcz24_0
    try clear hcz24_1
    try clear hcz24_2
    try clear hcz24_3
    try clear hcz24_4
    try clear hcz24_5
    try clear hcz27_0
    try clear hcz27_1
    try clear hcz27_2
    try clear hcz27_3
    try clear hcz27_4
    try clear hcz27_5
    try clear hcz32_0
    try clear hcz32_1
    try clear hcz32_2
    try clear hcz32_3
    try clear hcz39_0
    try clear hcz39_1
    try clear hcz39_2
    try clear hcz39_3
    try clear hcz40_0
    try clear hcz40_1
    try clear hcz40_2
    try clear hcz40_3
    try clear hcz40_4
    try clear hcz40_5
    try clear hcz48_0
    try clear hcz48_1
    try clear hfz19_0
    try clear hfz19_1
    try clear hfz19_2
    try clear hfz19_3
    try clear hfz19_4
    try clear hfz19_5
    try clear hfz21_0
    try clear hfz21_1
    try clear hfz21_2
    try clear hfz21_3
    try clear hfz21_4
    try clear hfz21_5
    try clear hfz24_0
    try clear hfz24_1
    try clear hfz24_2
    try clear hfz24_3
    try clear hfz24_4
    try clear hfz24_5
    try clear hfz27_0
    try clear hfz27_1
    try clear hfz27_2
    try clear hfz27_3
    try clear hfz27_4
    try clear hfz27_5
    try clear hfz32_0
    try clear hfz32_1
    try clear hfz32_2
    try clear hfz32_3
    try clear hfz39_0
    try clear hfz39_1
    try clear hfz39_2
    try clear hfz39_3
    try clear hfz40_0
    try clear hfz40_1
    try clear hfz40_2
    try clear hfz40_3
    try clear hfz40_4
    try clear hfz40_5
    try clear hfz48_0
    try clear hfz48_1
    obtain ⟨x15_1, x300000_1, x300001_1, rfl, HA, HK1, BK282, BK283, BK284, BK292, BK298, BK299, HB⟩ := hrel
    cases gk with
    | zero => exact absurd HA.out (by simp [jacquardref14_Tighten.l0])
    | succ k1 =>
     have H := HA.out
     clear HA
     simp only [jacquardref14_Tighten.l0] at H
     have HC49 := Aside0.mk H
     clear H
     go_upto_region 12 with (fail)
     go_cut [77] (fun v77 wc => ∃ (kq : Nat) (x77_48 : Bool), v77 = .bool x77_48 ∧ Aside0 (jacquardref14_Tighten.j1 kq x15_1 x77_48 0 0 0 0 0 0 t293 t294 t295 t296 x300000_1 x300001_1 = some (r1, r2, r3, r4, r5, r6, r7)) ∧ Aside0 (kq ≤ k1) ∧ Aside0 (wc.heap[gb282]? = some (.cells #[.int .u64 a1_0, .int .u64 a1_1, .int .u64 a1_2, .int .u64 a1_3, .int .i64 a1_4, .int .i64 a1_5] 50 (0, 0))) ∧ Aside0 (wc.heap[gb283]? = some (.cells #[.int .u64 0, .int .u64 0, .int .u64 0, .int .u64 0, .int .i64 0, .int .i64 0] 50 (0, 0))) ∧ Aside0 (wc.heap[gb284]? = some (.cells #[.int .u64 0, .int .u64 0, .int .u64 0, .int .u64 0, .int .i64 0, .int .i64 0] 50 (0, 0))) ∧ Aside0 (wc.heap[gb292]? = some (.cells #[.int .u64 ji8, .int .u64 ji9, .int .i64 ji10, .int .i64 ji11] 30 (0, 0))) ∧ Aside0 (wc.heap[gb298]? = some (.cells #[.int .u64 t293, .int .u64 t294, .int .i64 t295, .int .i64 t296] 30 (0, 0))) ∧ Aside0 (wc.heap[gb299]? = some (.cells #[.int .u64 x300000_1, .int .u64 x300001_1] 110 (0, 0))) ∧ Aside0 (Below w.heap.size w wc))
     case first =>
      have H := HC49.out
      clear HC49
      by_cases c50 : x15_1 ≥ 0
      ·
       rw [if_pos c50] at H
       have c50b0 : decide (0 ≤ x15_1) = true := decide_eq_true c50
       clear c50
       (first | rw [c50b0] | (simp only [i64_w, i32_w]; rw [c50b0]) | skip)
       replace H := Option.bind_eq_some_iff.mp H
       obtain ⟨t300, A510, H⟩ := H
       replace H : ((jacquardref12_Bit.f t294 x15_1).bind fun t301 => (jacquardref14_Tighten.j1 k1 x15_1 (t300 == t301) 0 0 0 0 0 0 t293 t294 t295 t296 x300000_1 x300001_1)) = some (r1, r2, r3, r4, r5, r6, r7) := H
       have A51 := Aside0.mk A510
       clear A510
       replace H := Option.bind_eq_some_iff.mp H
       obtain ⟨t301, A520, H⟩ := H
       replace H : (jacquardref14_Tighten.j1 k1 x15_1 (t300 == t301) 0 0 0 0 0 0 t293 t294 t295 t296 x300000_1 x300001_1) = some (r1, r2, r3, r4, r5, r6, r7) := H
       have A52 := Aside0.mk A520
       clear A520
       have H' := Aside0.mk H
       clear H
       try go_wp2
       have n0_ := Aside0.mk (blk_drew BK282.out)
       have n1_ := Aside0.mk (blk_drew BK283.out)
       have n2_ := Aside0.mk (blk_drew BK284.out)
       have n3_ := Aside0.mk (blk_drew BK292.out)
       have n4_ := Aside0.mk (blk_drew BK298.out)
       have n5_ := Aside0.mk (blk_drew BK299.out)
       have n6_ := Aside0.mk (below_drew1 HB.out)
       clear BK282
       clear BK283
       clear BK284
       clear BK292
       clear BK298
       clear BK299
       clear HB
       have BK282 := n0_
       have BK283 := n1_
       have BK284 := n2_
       have BK292 := n3_
       have BK298 := n4_
       have BK299 := n5_
       have HB := n6_
       clear n0_ n1_ n2_ n3_ n4_ n5_ n6_
       refine start_ (n := 13) (S := fun w' => w'.cell? ⟨gb298, 0, none⟩ = some (.int .u64 t293) ∧ w'.cell? ⟨gb298, 1, none⟩ = some (.int .u64 t294) ∧ w'.cell? ⟨gb298, 2, none⟩ = some (.int .i64 t295) ∧ w'.cell? ⟨gb298, 3, none⟩ = some (.int .i64 t296)) (ds := []) (bA 13 0) (by kernel_rfl) rfl rfl (by repeat' (first | apply And.intro | exact (blk_cell BK298.out _).trans rfl)) (fun hHeld => ?_); refine with_tabW jacquardref14_Tighten.tab12 jacquardref14_Tighten.bits12 (fun HT_ HW_ => ?_)
       generalize wr.drew = w53 at BK282 BK283 BK284 BK292 BK298 BK299 HB hHeld ⊢
       refine pureA HT_ (i := 0) (N := some 65) (bA 13 1) ?_
       refine pureA HT_ (i := 1) (N := some 66) (bA 13 3) ?_
       refine pureA HT_ (i := 2) (N := some 67) (bA 13 7) ?_
       refine pureA HT_ (i := 3) (N := some 68) (bA 13 15) ?_
       refine pureA HT_ (i := 5) (N := some 70) (bA 13 47) ?_
       refine pureA HT_ (i := 7) (N := some 72) (bA 13 175) ?_
       refine pureA HT_ (i := 9) (N := some 74) (bA 13 687) ?_
       refine takeA HT_ HW_ hHeld (i := 4) (N := some 69) (bA 13 703) ?_ (hy := by rintro w' ⟨s0, s1, s2, s3⟩; go_simp; with_reducible rfl)
       refine takeA HT_ HW_ hHeld (i := 8) (N := some 73) (bA 13 959) ?_ (hy := by rintro w' ⟨s0, s1, s2, s3⟩; go_simp; with_reducible rfl)
       refine one_ (i := 6) (N := some 71) (bA 13 1023) rfl rfl (one_of HT_.out (by kernel_rfl)) (by decide) (fun K hK => ?_)
       refine gO Try.func71 #[.int .u64 t293, .int .i64 x15_1] ?_
       with_reducible refine (jacquardref12_Bit.calls t293 x15_1 t300 _ A51.out).mono ?_
       rintro e w' ⟨rfl, ⟨nd, rfl⟩⟩
       refine ⟨_, rfl, ?_⟩
       refine hK.out _ _ (by repeat' (first | apply And.intro | exact (blk_cell BK298.out _).trans rfl)) (fun hHeld => ?_)
       clear hK K
       refine normA (some 71) ?_
       refine one_ (i := 10) (N := some 75) (bA 13 2047) rfl rfl (one_of HT_.out (by kernel_rfl)) (by decide) (fun K hK => ?_)
       refine gO Try.func71 #[.int .u64 t294, .int .i64 x15_1] ?_
       with_reducible refine (jacquardref12_Bit.calls t294 x15_1 t301 _ A52.out).mono ?_
       rintro e w' ⟨rfl, ⟨nd, rfl⟩⟩
       refine ⟨_, rfl, ?_⟩
       refine hK.out _ _ (by repeat' (first | apply And.intro | exact (blk_cell BK298.out _).trans rfl)) (fun hHeld => ?_)
       clear hK K
       refine normA (some 75) ?_
       refine pureA HT_ (i := 11) (N := some 76) (bA 13 4095) ?_
       refine pureA HT_ (i := 12) (N := some 77) (bA 13 8191) ?_
       refine done_ (done_of HT_.out (by kernel_rfl)) ?_
       try go_wp2
       go_meet
       case rel => exact ⟨_, ((t300 == t301)), (by first | rfl | (simp; done) | (simp [*]; done)), H', ⟨by have := HK1.out; first | omega | exact Nat.le_refl _⟩, ⟨bkL BK282.out⟩, ⟨bkL BK283.out⟩, ⟨bkL BK284.out⟩, ⟨bkL BK292.out⟩, ⟨bkL BK298.out⟩, ⟨bkL BK299.out⟩, ⟨bsL HB.out⟩⟩
      ·
       rw [if_neg c50] at H
       have c50b0 : decide (0 ≤ x15_1) = false := decide_eq_false c50
       clear c50
       (first | rw [c50b0] | (simp only [i64_w, i32_w]; rw [c50b0]) | skip)
       have H' := Aside0.mk H
       clear H
       try go_wp2
       have n0_ := Aside0.mk (blk_drew BK282.out)
       have n1_ := Aside0.mk (blk_drew BK283.out)
       have n2_ := Aside0.mk (blk_drew BK284.out)
       have n3_ := Aside0.mk (blk_drew BK292.out)
       have n4_ := Aside0.mk (blk_drew BK298.out)
       have n5_ := Aside0.mk (blk_drew BK299.out)
       have n6_ := Aside0.mk (below_drew1 HB.out)
       clear BK282
       clear BK283
       clear BK284
       clear BK292
       clear BK298
       clear BK299
       clear HB
       have BK282 := n0_
       have BK283 := n1_
       have BK284 := n2_
       have BK292 := n3_
       have BK298 := n4_
       have BK299 := n5_
       have HB := n6_
       clear n0_ n1_ n2_ n3_ n4_ n5_ n6_
       refine start_ (n := 13) (S := fun w' => True) (ds := []) (bA 13 0) (by kernel_rfl) rfl rfl trivial (fun hHeld => ?_); refine with_tabW jacquardref14_Tighten.tab12 jacquardref14_Tighten.bits12 (fun HT_ HW_ => ?_)
       generalize wr.drew = w54 at BK282 BK283 BK284 BK292 BK298 BK299 HB hHeld ⊢
       refine pureA HT_ (i := 0) (N := some 65) (bA 13 1) ?_
       refine pureA HT_ (i := 1) (N := some 66) (bA 13 3) ?_
       refine pureA HT_ (i := 2) (N := some 67) (bA 13 7) ?_
       refine pureU HT_ (i := 3) (N := some 68) (bA 13 15) ?_
       refine pureU HT_ (i := 4) (N := some 69) (bA 13 31) ?_
       refine pureU HT_ (i := 5) (N := some 70) (bA 13 63) ?_
       refine pureU HT_ (i := 6) (N := some 71) (bA 13 127) ?_
       refine pureU HT_ (i := 7) (N := some 72) (bA 13 255) ?_
       refine pureU HT_ (i := 8) (N := some 73) (bA 13 511) ?_
       refine pureU HT_ (i := 9) (N := some 74) (bA 13 1023) ?_
       refine pureU HT_ (i := 10) (N := some 75) (bA 13 2047) ?_
       refine pureU HT_ (i := 11) (N := some 76) (bA 13 4095) ?_
       refine pureA HT_ (i := 12) (N := some 77) (bA 13 8191) ?_
       refine done_ (done_of HT_.out (by kernel_rfl)) ?_
       try go_wp2
       go_meet
       case rel => exact ⟨_, (false), (by first | rfl | (simp; done) | (simp [*]; done)), H', ⟨by have := HK1.out; first | omega | exact Nat.le_refl _⟩, ⟨bkL BK282.out⟩, ⟨bkL BK283.out⟩, ⟨bkL BK284.out⟩, ⟨bkL BK292.out⟩, ⟨bkL BK298.out⟩, ⟨bkL BK299.out⟩, ⟨bsL HB.out⟩⟩
     case rest =>
      clear HC49
      try clear c1
      try clear c2
      try clear p2
      try clear c3
      try clear c4
      try clear c5
      try clear p6
      try clear c7
      try clear c8
      try clear c13
      try clear c17
      try clear c18
      try clear c26
      try clear c27
      try clear c29
      try clear c30
      try clear c31
      try clear c35
      try clear c36
      try clear c37
      try clear c38
      try clear c43
      try clear c44
      try clear c45
      try clear c46
      try clear c47
      try clear c50
      try clear c50b0
      try clear hcz19_0
      try clear hcz19_1
      try clear hcz19_2
      try clear hcz19_3
      try clear hcz19_4
      try clear hcz19_5
      try clear hcz21_0
      try clear hcz21_1
      try clear hcz21_2
      try clear hcz21_3
      try clear hcz21_4
      try clear hcz21_5
      try clear hcz24_0
      try clear hcz24_1
      try clear hcz24_2
      try clear hcz24_3
      try clear hcz24_4
      try clear hcz24_5
      try clear hcz27_0
      try clear hcz27_1
      try clear hcz27_2
      try clear hcz27_3
      try clear hcz27_4
      try clear hcz27_5
      try clear hcz32_0
      try clear hcz32_1
      try clear hcz32_2
      try clear hcz32_3
      try clear hcz39_0
      try clear hcz39_1
      try clear hcz39_2
      try clear hcz39_3
      try clear hcz40_0
      try clear hcz40_1
      try clear hcz40_2
      try clear hcz40_3
      try clear hcz40_4
      try clear hcz40_5
      try clear hcz48_0
      try clear hcz48_1
      try clear hfz19_0
      try clear hfz19_1
      try clear hfz19_2
      try clear hfz19_3
      try clear hfz19_4
      try clear hfz19_5
      try clear hfz21_0
      try clear hfz21_1
      try clear hfz21_2
      try clear hfz21_3
      try clear hfz21_4
      try clear hfz21_5
      try clear hfz24_0
      try clear hfz24_1
      try clear hfz24_2
      try clear hfz24_3
      try clear hfz24_4
      try clear hfz24_5
      try clear hfz27_0
      try clear hfz27_1
      try clear hfz27_2
      try clear hfz27_3
      try clear hfz27_4
      try clear hfz27_5
      try clear hfz32_0
      try clear hfz32_1
      try clear hfz32_2
      try clear hfz32_3
      try clear hfz39_0
      try clear hfz39_1
      try clear hfz39_2
      try clear hfz39_3
      try clear hfz40_0
      try clear hfz40_1
      try clear hfz40_2
      try clear hfz40_3
      try clear hfz40_4
      try clear hfz40_5
      try clear hfz48_0
      try clear hfz48_1
      try clear p2
      try clear p6
      obtain ⟨kq, x77_48, rfl, HA, HJ48, BK282, BK283, BK284, BK292, BK298, BK299, HB⟩ := hcut
      cases kq with
      | zero => exact absurd HA.out (by simp [jacquardref14_Tighten.j1])
      | succ kj48 =>
       have H := HA.out
       clear HA
       simp only [jacquardref14_Tighten.j1] at H
       by_cases c55 : x77_48 = true
       ·
        subst c55
        have H1 : ((jacquardref12_Bit.f t293 x15_1).bind fun t302 => (if t302 = 1 then (if 0 ≤ x15_1 then (jacquardref14_Tighten.l0 kj48 (wrap64 (x15_1 - 1)) 0 0 0 0 0 0 t293 t294 t295 t296 x300000_1 (Go.bits .or .u64 x300001_1 (shl .u64 1 x15_1))) else (none)) else (if 0 ≤ x15_1 then (jacquardref14_Tighten.l0 kj48 (wrap64 (x15_1 - 1)) 0 0 0 0 0 0 t293 t294 t295 t296 (Go.bits .or .u64 x300000_1 (shl .u64 1 x15_1)) x300001_1) else (none)))) = some (r1, r2, r3, r4, r5, r6, r7) := by rw [if_pos rfl] at H; exact H
        clear H
        have H := H1
        clear H1
        replace H := Option.bind_eq_some_iff.mp H
        obtain ⟨t302, A560, H⟩ := H
        replace H : (if t302 = 1 then (if 0 ≤ x15_1 then (jacquardref14_Tighten.l0 kj48 (wrap64 (x15_1 - 1)) 0 0 0 0 0 0 t293 t294 t295 t296 x300000_1 (Go.bits .or .u64 x300001_1 (shl .u64 1 x15_1))) else (none)) else (if 0 ≤ x15_1 then (jacquardref14_Tighten.l0 kj48 (wrap64 (x15_1 - 1)) 0 0 0 0 0 0 t293 t294 t295 t296 (Go.bits .or .u64 x300000_1 (shl .u64 1 x15_1)) x300001_1) else (none))) = some (r1, r2, r3, r4, r5, r6, r7) := H
        have A56 := Aside0.mk A560
        clear A560
        by_cases c57 : t302 = 1
        ·
         rw [if_pos c57] at H
         have c57b0 : (t302 == 1) = true := beq_iff_eq.mpr c57
         have c57b1 : (t302 != 1) = false := bne_eq_false_iff_eq.mpr c57
         clear c57
         by_cases c58 : 0 ≤ x15_1
         ·
          rw [if_pos c58] at H
          have c58b0 := eq_true c58
          have c58b1 : decide (0 ≤ x15_1) = true := decide_eq_true c58
          clear c58
          obtain ⟨ji59, hji59⟩ : ∃ j_ : Int, (shl .u64 1 x15_1) = j_ := ⟨_, rfl⟩
          replace H : (jacquardref14_Tighten.l0 kj48 (wrap64 (x15_1 - 1)) 0 0 0 0 0 0 t293 t294 t295 t296 x300000_1 (Go.bits .or .u64 x300001_1 (ji59))) = some (r1, r2, r3, r4, r5, r6, r7) := by first | (rw [hji59] at H; exact H) | (simp only [hji59] at H ⊢; exact H)
          (try rw [hji59] at A56)
          have hji59_ : (IntKind.u64.wrap (1 * 2 ^ min x15_1.toNat 64)) = ji59 := hji59
          have hji59z : x15_1 ≤ 64 → (IntKind.u64.wrap (1 * 2 ^ x15_1.toNat)) = ji59 := shl_small hji59
          have hji59u : (IntKind.u64.wrap (2 ^ min x15_1.toNat 64)) = ji59 := by have h_ := hji59_; rw [Int.one_mul] at h_; exact h_
          have hji59v : x15_1 ≤ 64 → (IntKind.u64.wrap (2 ^ x15_1.toNat)) = ji59 := fun hle_ => by have h_ := hji59z hle_; rw [Int.one_mul] at h_; exact h_
          have H' := Aside0.mk H
          clear H
          have hnb60 := NB298_282.out
          have hnc60 := NB282_298.out
          have hnb61 := NB298_283.out
          have hnc61 := NB283_298.out
          have hnb62 := NB298_284.out
          have hnc62 := NB284_298.out
          have hnb63 := NB298_292.out
          have hnc63 := NB292_298.out
          have hnb64 := NB298_299.out
          have hnc64 := NB299_298.out
          have hcz65_0 : wc.cell? ⟨gb298, 0, none⟩ = some (.int .u64 t293) := (blk_cell BK298.out 0).trans rfl
          have hcz65_1 : wc.cell? ⟨gb298, 1, none⟩ = some (.int .u64 t294) := (blk_cell BK298.out 1).trans rfl
          have hcz65_2 : wc.cell? ⟨gb298, 2, none⟩ = some (.int .i64 t295) := (blk_cell BK298.out 2).trans rfl
          have hcz65_3 : wc.cell? ⟨gb298, 3, none⟩ = some (.int .i64 t296) := (blk_cell BK298.out 3).trans rfl
          have hfz65_0 := blk_frozen BK298.out 0
          have hfz65_1 := blk_frozen BK298.out 1
          have hfz65_2 := blk_frozen BK298.out 2
          have hfz65_3 := blk_frozen BK298.out 3
          try go_wp2_with (first | ((with_reducible refine gate_callee (f := 71) rfl ?_); refine gL (some 83) Try.func71 #[.int .u64 t293, .int .i64 x15_1] ?_; (with_reducible refine (jacquardref12_Bit.calls t293 x15_1 t302 _ A56.out).mono ?_); rintro e w' ⟨rfl, ⟨nd, rfl⟩⟩; refine ⟨_, rfl, ?_⟩; (try (rw [drewN_self wc]; generalize hq_ : World.drewN wc _ = wc; have n0_ : Aside0 (wc.heap[gb282]? = some (.cells #[.int .u64 a1_0, .int .u64 a1_1, .int .u64 a1_2, .int .u64 a1_3, .int .i64 a1_4, .int .i64 a1_5] 50 (0, 0))) := ⟨by rw [← hq_]; exact (by exact bfL BK282.out)⟩; have n1_ : Aside0 (wc.heap[gb283]? = some (.cells #[.int .u64 0, .int .u64 0, .int .u64 0, .int .u64 0, .int .i64 0, .int .i64 0] 50 (0, 0))) := ⟨by rw [← hq_]; exact (by exact bfL BK283.out)⟩; have n2_ : Aside0 (wc.heap[gb284]? = some (.cells #[.int .u64 0, .int .u64 0, .int .u64 0, .int .u64 0, .int .i64 0, .int .i64 0] 50 (0, 0))) := ⟨by rw [← hq_]; exact (by exact bfL BK284.out)⟩; have n3_ : Aside0 (wc.heap[gb292]? = some (.cells #[.int .u64 ji8, .int .u64 ji9, .int .i64 ji10, .int .i64 ji11] 30 (0, 0))) := ⟨by rw [← hq_]; exact (by exact bfL BK292.out)⟩; have n4_ : Aside0 (wc.heap[gb298]? = some (.cells #[.int .u64 t293, .int .u64 t294, .int .i64 t295, .int .i64 t296] 30 (0, 0))) := ⟨by rw [← hq_]; exact (by exact bfL BK298.out)⟩; have n5_ : Aside0 (wc.heap[gb299]? = some (.cells #[.int .u64 x300000_1, .int .u64 x300001_1] 110 (0, 0))) := ⟨by rw [← hq_]; exact (by exact bfL BK299.out)⟩; have n6_ : Aside0 (Below w.heap.size w wc) := ⟨by rw [← hq_]; exact (by repeat (first | (with_reducible first | exact HB.out | apply below_alloc | apply pw_below_drewN | apply below_drew1 | refine below_set ?_ GE282.out | refine below_set ?_ GE283.out | refine below_set ?_ GE284.out | refine below_set ?_ GE292.out | refine below_set ?_ GE298.out | refine below_set ?_ GE299.out) | exact HB.out))⟩; clear BK282 BK283 BK284 BK292 BK298 BK299 HB hq_; have BK282 := n0_; have BK283 := n1_; have BK284 := n2_; have BK292 := n3_; have BK298 := n4_; have BK299 := n5_; have HB := n6_; clear n0_ n1_ n2_ n3_ n4_ n5_ n6_))))
          have n0_ := Aside0.mk (blk_drew BK282.out)
          have n1_ := Aside0.mk (blk_drew BK283.out)
          have n2_ := Aside0.mk (blk_drew BK284.out)
          have n3_ := Aside0.mk (blk_drew BK292.out)
          have n4_ := Aside0.mk (blk_drew BK298.out)
          have n5_ := Aside0.mk (blk_drew BK299.out)
          have n6_ := Aside0.mk (below_drew1 HB.out)
          clear BK282
          clear BK283
          clear BK284
          clear BK292
          clear BK298
          clear BK299
          clear HB
          have BK282 := n0_
          have BK283 := n1_
          have BK284 := n2_
          have BK292 := n3_
          have BK298 := n4_
          have BK299 := n5_
          have HB := n6_
          clear n0_ n1_ n2_ n3_ n4_ n5_ n6_
          refine start_ (n := 7) (S := fun w' => w'.cell? ⟨gb299, 0, none⟩ = some (.int .u64 x300000_1) ∧ w'.cell? ⟨gb299, 1, none⟩ = some (.int .u64 x300001_1)) (ds := [6]) (bA 7 0) (by kernel_rfl) rfl rfl ⟨(blk_cell BK299.out 0).trans rfl, (blk_cell BK299.out 1).trans rfl⟩ (fun hHeld => ?_)
          generalize wc.drew = w66 at BK282 BK283 BK284 BK292 BK298 BK299 HB hHeld ⊢
          refine pure_ (i := 0) (N := some 85) (v := ?_) (a' := ?_) (bA 7 1) rfl rfl (by kernel_rfl) (fun _ _ _ h => h) (Or.inl ⟨by rfl, ?_⟩) ?_ ?_
          rotate_left
          ·
           intro w'
           go_simp
           with_reducible rfl
          rotate_left
          ·
           simp only [Act.put, List.setIfInBounds_toArray, List.set_cons_zero, List.set_cons_succ, i64_w, i32_w]
           rfl
          refine pure_ (i := 2) (N := some 87) (v := ?_) (a' := ?_) (bA 7 5) rfl rfl (by kernel_rfl) (fun _ _ _ h => h) (Or.inl ⟨by rfl, ?_⟩) ?_ ?_
          rotate_left
          ·
           intro w'
           go_simp
           with_reducible rfl
          rotate_left
          ·
           simp only [Act.put, List.setIfInBounds_toArray, List.set_cons_zero, List.set_cons_succ, i64_w, i32_w]
           rfl
          refine pure_ (i := 3) (N := some 88) (v := ?_) (a' := ?_) (bA 7 13) rfl rfl (by kernel_rfl) (fun _ _ _ h => h) (Or.inl ⟨by rfl, ?_⟩) ?_ ?_
          rotate_left
          ·
           intro w'
           go_simp
           with_reducible rfl
          rotate_left
          ·
           simp only [Act.put, List.setIfInBounds_toArray, List.set_cons_zero, List.set_cons_succ, i64_w, i32_w]
           rfl
          refine take_ (i := 1) (N := some 86) (v := ?_) (a' := ?_) (bA 7 15) rfl rfl (by kernel_rfl) (fun _ _ _ h => h) (Or.inl ⟨by rfl, ?_⟩) hHeld ?_ ?_
          rotate_left
          ·
           rintro w' ⟨s0, s1⟩
           go_simp
           with_reducible rfl
          rotate_left
          ·
           simp only [Act.put, List.setIfInBounds_toArray, List.set_cons_zero, List.set_cons_succ, i64_w, i32_w]
           rfl
          refine pure_ (i := 4) (N := some 89) (v := ?_) (a' := ?_) (bA 7 31) rfl rfl (by kernel_rfl) (fun _ _ _ h => h) (Or.inl ⟨by rfl, ?_⟩) ?_ ?_
          rotate_left
          ·
           intro w'
           go_simp
           with_reducible rfl
          rotate_left
          ·
           simp only [Act.put, List.setIfInBounds_toArray, List.set_cons_zero, List.set_cons_succ, i64_w, i32_w]
           rfl
          refine pure_ (i := 5) (N := some 90) (v := ?_) (a' := ?_) (bA 7 63) rfl rfl (by kernel_rfl) (fun _ _ _ h => h) (Or.inl ⟨by rfl, ?_⟩) ?_ ?_
          rotate_left
          ·
           intro w'
           go_simp
           with_reducible rfl
          rotate_left
          ·
           simp only [Act.put, List.setIfInBounds_toArray, List.set_cons_zero, List.set_cons_succ, i64_w, i32_w]
           rfl
          refine last_ (i := 6) (N := none) (bA 7 127) rfl rfl (by kernel_rfl) (by decide) (fun K hK => ?_)
          have hs67 : w66.cell? ⟨gb299, 1, none⟩ = some (.int .u64 x300001_1) := (blk_cell BK299.out 1).trans rfl
          have hfs67 := blk_frozen BK299.out 1
          have hns67_0 := NB282_299.out
          have hns67_1 := NB283_299.out
          have hns67_2 := NB284_299.out
          have hns67_3 := NB292_299.out
          have hns67_4 := NB298_299.out
          have hms67_0 := NB299_282.out
          have hms67_1 := NB299_283.out
          have hms67_2 := NB299_284.out
          have hms67_3 := NB299_292.out
          have hms67_4 := NB299_298.out
          refine skip_ (w1 := ?_) (by rfl) rfl ?_ ?_
          rotate_left
          ·
           go_simp
           rfl
          refine hK.out _ _ ?_
          clear hK K
          refine done_ (by kernel_rfl) ?_
          try go_wp2
          go_roundg kj48
          case measure => have := HK1.out; have := HJ48.out; omega
          case rel => exact ⟨(wrap64 (x15_1 - 1)), (x300000_1), (Go.bits .or .u64 x300001_1 (ji59)), (by first | rfl | (simp; done) | (simp [*]; done)), H', ⟨by have := HK1.out; have := HJ48.out; omega⟩, ⟨by exact bfL BK282.out⟩, ⟨by exact bfL BK283.out⟩, ⟨by exact bfL BK284.out⟩, ⟨by exact bfL BK292.out⟩, ⟨by exact bfL BK298.out⟩, ⟨by (with_reducible repeat (first | refine blk_drewN ?_ _ | refine blk_drew ?_ | refine blk_alloc ?_ _)); refine blk_put (cs := #[.int .u64 x300000_1, .int .u64 x300001_1]) ?_ 1 _ rfl; exact bfL BK299.out⟩, ⟨bsL HB.out⟩⟩
         ·
          rw [if_neg c58] at H
          exact absurd H (by simp)
        ·
         rw [if_neg c57] at H
         have c57b0 : (t302 == 1) = false := beq_eq_false_iff_ne.mpr c57
         have c57b1 : (t302 != 1) = true := bne_iff_ne.mpr c57
         by_cases c68 : 0 ≤ x15_1
         ·
          rw [if_pos c68] at H
          have c68b0 := eq_true c68
          have c68b1 : decide (0 ≤ x15_1) = true := decide_eq_true c68
          clear c68
          obtain ⟨ji69, hji69⟩ : ∃ j_ : Int, (shl .u64 1 x15_1) = j_ := ⟨_, rfl⟩
          replace H : (jacquardref14_Tighten.l0 kj48 (wrap64 (x15_1 - 1)) 0 0 0 0 0 0 t293 t294 t295 t296 (Go.bits .or .u64 x300000_1 (ji69)) x300001_1) = some (r1, r2, r3, r4, r5, r6, r7) := by first | (rw [hji69] at H; exact H) | (simp only [hji69] at H ⊢; exact H)
          (try rw [hji69] at A56)
          have hji69_ : (IntKind.u64.wrap (1 * 2 ^ min x15_1.toNat 64)) = ji69 := hji69
          have hji69z : x15_1 ≤ 64 → (IntKind.u64.wrap (1 * 2 ^ x15_1.toNat)) = ji69 := shl_small hji69
          have hji69u : (IntKind.u64.wrap (2 ^ min x15_1.toNat 64)) = ji69 := by have h_ := hji69_; rw [Int.one_mul] at h_; exact h_
          have hji69v : x15_1 ≤ 64 → (IntKind.u64.wrap (2 ^ x15_1.toNat)) = ji69 := fun hle_ => by have h_ := hji69z hle_; rw [Int.one_mul] at h_; exact h_
          have H' := Aside0.mk H
          clear H
          have hnb70 := NB298_282.out
          have hnc70 := NB282_298.out
          have hnb71 := NB298_283.out
          have hnc71 := NB283_298.out
          have hnb72 := NB298_284.out
          have hnc72 := NB284_298.out
          have hnb73 := NB298_292.out
          have hnc73 := NB292_298.out
          have hnb74 := NB298_299.out
          have hnc74 := NB299_298.out
          have hcz75_0 : wc.cell? ⟨gb298, 0, none⟩ = some (.int .u64 t293) := (blk_cell BK298.out 0).trans rfl
          have hcz75_1 : wc.cell? ⟨gb298, 1, none⟩ = some (.int .u64 t294) := (blk_cell BK298.out 1).trans rfl
          have hcz75_2 : wc.cell? ⟨gb298, 2, none⟩ = some (.int .i64 t295) := (blk_cell BK298.out 2).trans rfl
          have hcz75_3 : wc.cell? ⟨gb298, 3, none⟩ = some (.int .i64 t296) := (blk_cell BK298.out 3).trans rfl
          have hfz75_0 := blk_frozen BK298.out 0
          have hfz75_1 := blk_frozen BK298.out 1
          have hfz75_2 := blk_frozen BK298.out 2
          have hfz75_3 := blk_frozen BK298.out 3
          try go_wp2_with (first | ((with_reducible refine gate_callee (f := 71) rfl ?_); refine gL (some 83) Try.func71 #[.int .u64 t293, .int .i64 x15_1] ?_; (with_reducible refine (jacquardref12_Bit.calls t293 x15_1 t302 _ A56.out).mono ?_); rintro e w' ⟨rfl, ⟨nd, rfl⟩⟩; refine ⟨_, rfl, ?_⟩; (try (rw [drewN_self wc]; generalize hq_ : World.drewN wc _ = wc; have n0_ : Aside0 (wc.heap[gb282]? = some (.cells #[.int .u64 a1_0, .int .u64 a1_1, .int .u64 a1_2, .int .u64 a1_3, .int .i64 a1_4, .int .i64 a1_5] 50 (0, 0))) := ⟨by rw [← hq_]; exact (by exact bfL BK282.out)⟩; have n1_ : Aside0 (wc.heap[gb283]? = some (.cells #[.int .u64 0, .int .u64 0, .int .u64 0, .int .u64 0, .int .i64 0, .int .i64 0] 50 (0, 0))) := ⟨by rw [← hq_]; exact (by exact bfL BK283.out)⟩; have n2_ : Aside0 (wc.heap[gb284]? = some (.cells #[.int .u64 0, .int .u64 0, .int .u64 0, .int .u64 0, .int .i64 0, .int .i64 0] 50 (0, 0))) := ⟨by rw [← hq_]; exact (by exact bfL BK284.out)⟩; have n3_ : Aside0 (wc.heap[gb292]? = some (.cells #[.int .u64 ji8, .int .u64 ji9, .int .i64 ji10, .int .i64 ji11] 30 (0, 0))) := ⟨by rw [← hq_]; exact (by exact bfL BK292.out)⟩; have n4_ : Aside0 (wc.heap[gb298]? = some (.cells #[.int .u64 t293, .int .u64 t294, .int .i64 t295, .int .i64 t296] 30 (0, 0))) := ⟨by rw [← hq_]; exact (by exact bfL BK298.out)⟩; have n5_ : Aside0 (wc.heap[gb299]? = some (.cells #[.int .u64 x300000_1, .int .u64 x300001_1] 110 (0, 0))) := ⟨by rw [← hq_]; exact (by exact bfL BK299.out)⟩; have n6_ : Aside0 (Below w.heap.size w wc) := ⟨by rw [← hq_]; exact (by repeat (first | (with_reducible first | exact HB.out | apply below_alloc | apply pw_below_drewN | apply below_drew1 | refine below_set ?_ GE282.out | refine below_set ?_ GE283.out | refine below_set ?_ GE284.out | refine below_set ?_ GE292.out | refine below_set ?_ GE298.out | refine below_set ?_ GE299.out) | exact HB.out))⟩; clear BK282 BK283 BK284 BK292 BK298 BK299 HB hq_; have BK282 := n0_; have BK283 := n1_; have BK284 := n2_; have BK292 := n3_; have BK298 := n4_; have BK299 := n5_; have HB := n6_; clear n0_ n1_ n2_ n3_ n4_ n5_ n6_))))
          have n0_ := Aside0.mk (blk_drew BK282.out)
          have n1_ := Aside0.mk (blk_drew BK283.out)
          have n2_ := Aside0.mk (blk_drew BK284.out)
          have n3_ := Aside0.mk (blk_drew BK292.out)
          have n4_ := Aside0.mk (blk_drew BK298.out)
          have n5_ := Aside0.mk (blk_drew BK299.out)
          have n6_ := Aside0.mk (below_drew1 HB.out)
          clear BK282
          clear BK283
          clear BK284
          clear BK292
          clear BK298
          clear BK299
          clear HB
          have BK282 := n0_
          have BK283 := n1_
          have BK284 := n2_
          have BK292 := n3_
          have BK298 := n4_
          have BK299 := n5_
          have HB := n6_
          clear n0_ n1_ n2_ n3_ n4_ n5_ n6_
          refine start_ (n := 7) (S := fun w' => w'.cell? ⟨gb299, 0, none⟩ = some (.int .u64 x300000_1) ∧ w'.cell? ⟨gb299, 1, none⟩ = some (.int .u64 x300001_1)) (ds := [6]) (bA 7 0) (by kernel_rfl) rfl rfl ⟨(blk_cell BK299.out 0).trans rfl, (blk_cell BK299.out 1).trans rfl⟩ (fun hHeld => ?_)
          generalize wc.drew = w76 at BK282 BK283 BK284 BK292 BK298 BK299 HB hHeld ⊢
          refine pure_ (i := 0) (N := some 91) (v := ?_) (a' := ?_) (bA 7 1) rfl rfl (by kernel_rfl) (fun _ _ _ h => h) (Or.inl ⟨by rfl, ?_⟩) ?_ ?_
          rotate_left
          ·
           intro w'
           go_simp
           with_reducible rfl
          rotate_left
          ·
           simp only [Act.put, List.setIfInBounds_toArray, List.set_cons_zero, List.set_cons_succ, i64_w, i32_w]
           rfl
          refine pure_ (i := 2) (N := some 93) (v := ?_) (a' := ?_) (bA 7 5) rfl rfl (by kernel_rfl) (fun _ _ _ h => h) (Or.inl ⟨by rfl, ?_⟩) ?_ ?_
          rotate_left
          ·
           intro w'
           go_simp
           with_reducible rfl
          rotate_left
          ·
           simp only [Act.put, List.setIfInBounds_toArray, List.set_cons_zero, List.set_cons_succ, i64_w, i32_w]
           rfl
          refine pure_ (i := 3) (N := some 94) (v := ?_) (a' := ?_) (bA 7 13) rfl rfl (by kernel_rfl) (fun _ _ _ h => h) (Or.inl ⟨by rfl, ?_⟩) ?_ ?_
          rotate_left
          ·
           intro w'
           go_simp
           with_reducible rfl
          rotate_left
          ·
           simp only [Act.put, List.setIfInBounds_toArray, List.set_cons_zero, List.set_cons_succ, i64_w, i32_w]
           rfl
          refine take_ (i := 1) (N := some 92) (v := ?_) (a' := ?_) (bA 7 15) rfl rfl (by kernel_rfl) (fun _ _ _ h => h) (Or.inl ⟨by rfl, ?_⟩) hHeld ?_ ?_
          rotate_left
          ·
           rintro w' ⟨s0, s1⟩
           go_simp
           with_reducible rfl
          rotate_left
          ·
           simp only [Act.put, List.setIfInBounds_toArray, List.set_cons_zero, List.set_cons_succ, i64_w, i32_w]
           rfl
          refine pure_ (i := 4) (N := some 95) (v := ?_) (a' := ?_) (bA 7 31) rfl rfl (by kernel_rfl) (fun _ _ _ h => h) (Or.inl ⟨by rfl, ?_⟩) ?_ ?_
          rotate_left
          ·
           intro w'
           go_simp
           with_reducible rfl
          rotate_left
          ·
           simp only [Act.put, List.setIfInBounds_toArray, List.set_cons_zero, List.set_cons_succ, i64_w, i32_w]
           rfl
          refine pure_ (i := 5) (N := some 96) (v := ?_) (a' := ?_) (bA 7 63) rfl rfl (by kernel_rfl) (fun _ _ _ h => h) (Or.inl ⟨by rfl, ?_⟩) ?_ ?_
          rotate_left
          ·
           intro w'
           go_simp
           with_reducible rfl
          rotate_left
          ·
           simp only [Act.put, List.setIfInBounds_toArray, List.set_cons_zero, List.set_cons_succ, i64_w, i32_w]
           rfl
          refine last_ (i := 6) (N := none) (bA 7 127) rfl rfl (by kernel_rfl) (by decide) (fun K hK => ?_)
          have hs77 : w76.cell? ⟨gb299, 0, none⟩ = some (.int .u64 x300000_1) := (blk_cell BK299.out 0).trans rfl
          have hfs77 := blk_frozen BK299.out 0
          have hns77_0 := NB282_299.out
          have hns77_1 := NB283_299.out
          have hns77_2 := NB284_299.out
          have hns77_3 := NB292_299.out
          have hns77_4 := NB298_299.out
          have hms77_0 := NB299_282.out
          have hms77_1 := NB299_283.out
          have hms77_2 := NB299_284.out
          have hms77_3 := NB299_292.out
          have hms77_4 := NB299_298.out
          refine skip_ (w1 := ?_) (by rfl) rfl ?_ ?_
          rotate_left
          ·
           go_simp
           rfl
          refine hK.out _ _ ?_
          clear hK K
          refine done_ (by kernel_rfl) ?_
          try go_wp2
          go_roundg kj48
          case measure => have := HK1.out; have := HJ48.out; omega
          case rel => exact ⟨(wrap64 (x15_1 - 1)), (Go.bits .or .u64 x300000_1 (ji69)), (x300001_1), (by first | rfl | (simp; done) | (simp [*]; done)), H', ⟨by have := HK1.out; have := HJ48.out; omega⟩, ⟨by exact bfL BK282.out⟩, ⟨by exact bfL BK283.out⟩, ⟨by exact bfL BK284.out⟩, ⟨by exact bfL BK292.out⟩, ⟨by exact bfL BK298.out⟩, ⟨by (with_reducible repeat (first | refine blk_drewN ?_ _ | refine blk_drew ?_ | refine blk_alloc ?_ _)); refine blk_put (cs := #[.int .u64 x300000_1, .int .u64 x300001_1]) ?_ 0 _ rfl; exact bfL BK299.out⟩, ⟨bsL HB.out⟩⟩
         ·
          rw [if_neg c68] at H
          exact absurd H (by simp)
       ·
        replace c55 := Bool.eq_false_iff.mpr c55
        subst c55
        have H1 : (if (Go.bits .and .u64 x300000_1 x300001_1) = 0 then ((jacquardref14_fact.f x300000_1 x300001_1 t293 t294 t295 t296).bind fun bt303 => (some (bt303.1, bt303.2.1, bt303.2.2.1, bt303.2.2.2.1, bt303.2.2.2.2.1, bt303.2.2.2.2.2, true))) else (some (0, 0, 0, 0, 0, 0, false))) = some (r1, r2, r3, r4, r5, r6, r7) := by rw [if_neg (show ¬ (false = true) by decide)] at H; exact H
        clear H
        have H := H1
        clear H1
        by_cases c78 : (Go.bits .and .u64 x300000_1 x300001_1) = 0
        ·
         rw [if_pos c78] at H
         have c78b0 : ((Go.bits .and .u64 x300000_1 x300001_1) == 0) = true := beq_iff_eq.mpr c78
         have c78b1 : ((Go.bits .and .u64 x300000_1 x300001_1) != 0) = false := bne_eq_false_iff_eq.mpr c78
         clear c78
         replace H := Option.bind_eq_some_iff.mp H
         obtain ⟨⟨t303, t304, t305, t306, t307, t308⟩, A790, H⟩ := H
         replace H : (some (t303, t304, t305, t306, t307, t308, true)) = some (r1, r2, r3, r4, r5, r6, r7) := H
         have A79 := Aside0.mk A790
         clear A790
         simp only [Option.some.injEq, Prod.mk.injEq] at H
         obtain ⟨rfl, rfl, rfl, rfl, rfl, rfl, rfl⟩ := H
         have hnb80 := NB299_282.out
         have hnc80 := NB282_299.out
         have hnb81 := NB299_283.out
         have hnc81 := NB283_299.out
         have hnb82 := NB299_284.out
         have hnc82 := NB284_299.out
         have hnb83 := NB299_292.out
         have hnc83 := NB292_299.out
         have hnb84 := NB299_298.out
         have hnc84 := NB298_299.out
         have hcz85_0 : wc.cell? ⟨gb299, 0, none⟩ = some (.int .u64 x300000_1) := (blk_cell BK299.out 0).trans rfl
         have hcz85_1 : wc.cell? ⟨gb299, 1, none⟩ = some (.int .u64 x300001_1) := (blk_cell BK299.out 1).trans rfl
         have hfz85_0 := blk_frozen BK299.out 0
         have hfz85_1 := blk_frozen BK299.out 1
         have hnb86 := NB298_282.out
         have hnc86 := NB282_298.out
         have hnb87 := NB298_283.out
         have hnc87 := NB283_298.out
         have hnb88 := NB298_284.out
         have hnc88 := NB284_298.out
         have hnb89 := NB298_292.out
         have hnc89 := NB292_298.out
         have hcz90_0 : wc.cell? ⟨gb298, 0, none⟩ = some (.int .u64 t293) := (blk_cell BK298.out 0).trans rfl
         have hcz90_1 : wc.cell? ⟨gb298, 1, none⟩ = some (.int .u64 t294) := (blk_cell BK298.out 1).trans rfl
         have hcz90_2 : wc.cell? ⟨gb298, 2, none⟩ = some (.int .i64 t295) := (blk_cell BK298.out 2).trans rfl
         have hcz90_3 : wc.cell? ⟨gb298, 3, none⟩ = some (.int .i64 t296) := (blk_cell BK298.out 3).trans rfl
         have hfz90_0 := blk_frozen BK298.out 0
         have hfz90_1 := blk_frozen BK298.out 1
         have hfz90_2 := blk_frozen BK298.out 2
         have hfz90_3 := blk_frozen BK298.out 3
         go_wp2_with (first | ((with_reducible refine gate_callee (f := 82) rfl ?_); refine gL (some 106) Try.func82 #[.agg #[.int .u64 x300000_1, .int .u64 x300001_1], .agg #[.int .u64 t293, .int .u64 t294, .int .i64 t295, .int .i64 t296]] ?_; (with_reducible refine (jacquardref14_fact.calls x300000_1 x300001_1 t293 t294 t295 t296 t303 t304 t305 t306 t307 t308 _ A79.out).mono ?_); rintro e w91 ⟨rfl, hb⟩; refine ⟨_, rfl, ?_⟩; replace BK282 := bkB BK282.out hb; replace BK283 := bkB BK283.out hb; replace BK284 := bkB BK284.out hb; replace BK292 := bkB BK292.out hb; replace BK298 := bkB BK298.out hb; replace BK299 := bkB BK299.out hb; replace HB := bsB HB.out hb; (try clear hb); have hnb92 := NB283_282.out; have hnc92 := NB282_283.out; have hnb93 := NB283_284.out; have hnc93 := NB284_283.out; have hnb94 := NB283_292.out; have hnc94 := NB292_283.out; have hcz95_0 : w91.cell? ⟨gb283, 0, none⟩ = some (.int .u64 0) := (blk_cell BK283.out 0).trans rfl; have hcz95_1 : w91.cell? ⟨gb283, 1, none⟩ = some (.int .u64 0) := (blk_cell BK283.out 1).trans rfl; have hcz95_2 : w91.cell? ⟨gb283, 2, none⟩ = some (.int .u64 0) := (blk_cell BK283.out 2).trans rfl; have hcz95_3 : w91.cell? ⟨gb283, 3, none⟩ = some (.int .u64 0) := (blk_cell BK283.out 3).trans rfl; have hcz95_4 : w91.cell? ⟨gb283, 4, none⟩ = some (.int .i64 0) := (blk_cell BK283.out 4).trans rfl; have hcz95_5 : w91.cell? ⟨gb283, 5, none⟩ = some (.int .i64 0) := (blk_cell BK283.out 5).trans rfl; have hfz95_0 := blk_frozen BK283.out 0; have hfz95_1 := blk_frozen BK283.out 1; have hfz95_2 := blk_frozen BK283.out 2; have hfz95_3 := blk_frozen BK283.out 3; have hfz95_4 := blk_frozen BK283.out 4; have hfz95_5 := blk_frozen BK283.out 5))
         refine bodyPost_ret (results_ct rfl _ _ gb283 50 #[.int .u64 t303, .int .u64 t304, .int .u64 t305, .int .u64 t306, .int .i64 t307, .int .i64 t308] (0, 0) _ rfl (by (with_reducible repeat (first | refine blk_drewN ?_ _ | refine blk_drew ?_ | refine blk_alloc ?_ _)); refine blk_put (cs := #[.int .u64 t303, .int .u64 t304, .int .u64 t305, .int .u64 t306, .int .i64 t307, .int .i64 0]) ?_ 5 _ rfl; (with_reducible repeat (first | refine blk_drewN ?_ _ | refine blk_drew ?_ | refine blk_alloc ?_ _)); refine blk_put (cs := #[.int .u64 t303, .int .u64 t304, .int .u64 t305, .int .u64 t306, .int .i64 0, .int .i64 0]) ?_ 4 _ rfl; (with_reducible repeat (first | refine blk_drewN ?_ _ | refine blk_drew ?_ | refine blk_alloc ?_ _)); refine blk_put (cs := #[.int .u64 t303, .int .u64 t304, .int .u64 t305, .int .u64 0, .int .i64 0, .int .i64 0]) ?_ 3 _ rfl; (with_reducible repeat (first | refine blk_drewN ?_ _ | refine blk_drew ?_ | refine blk_alloc ?_ _)); refine blk_put (cs := #[.int .u64 t303, .int .u64 t304, .int .u64 0, .int .u64 0, .int .i64 0, .int .i64 0]) ?_ 2 _ rfl; (with_reducible repeat (first | refine blk_drewN ?_ _ | refine blk_drew ?_ | refine blk_alloc ?_ _)); refine blk_put (cs := #[.int .u64 t303, .int .u64 0, .int .u64 0, .int .u64 0, .int .i64 0, .int .i64 0]) ?_ 1 _ rfl; (with_reducible repeat (first | refine blk_drewN ?_ _ | refine blk_drew ?_ | refine blk_alloc ?_ _)); refine blk_put (cs := #[.int .u64 0, .int .u64 0, .int .u64 0, .int .u64 0, .int .i64 0, .int .i64 0]) ?_ 0 _ rfl; exact bfL BK283.out) Try.underlying50 rfl (by kernel_rfl)) rfl ?_
         exact ⟨by first | rfl | (simp [errW_none, errW_some] <;> rfl) | (simp only [← hji8, ← hji9, ← hji10, ← hji11]; first | rfl | (simp [errW_none, errW_some] <;> rfl)) | (simp [*, errW_none, errW_some] <;> rfl), bsL HB.out⟩
        ·
         rw [if_neg c78] at H
         have c78b0 : ((Go.bits .and .u64 x300000_1 x300001_1) == 0) = false := beq_eq_false_iff_ne.mpr c78
         have c78b1 : ((Go.bits .and .u64 x300000_1 x300001_1) != 0) = true := bne_iff_ne.mpr c78
         simp only [Option.some.injEq, Prod.mk.injEq] at H
         obtain ⟨rfl, rfl, rfl, rfl, rfl, rfl, rfl⟩ := H
         have hnb96 := NB299_282.out
         have hnc96 := NB282_299.out
         have hnb97 := NB299_283.out
         have hnc97 := NB283_299.out
         have hnb98 := NB299_284.out
         have hnc98 := NB284_299.out
         have hnb99 := NB299_292.out
         have hnc99 := NB292_299.out
         have hnb100 := NB299_298.out
         have hnc100 := NB298_299.out
         have hcz101_0 : wc.cell? ⟨gb299, 0, none⟩ = some (.int .u64 x300000_1) := (blk_cell BK299.out 0).trans rfl
         have hcz101_1 : wc.cell? ⟨gb299, 1, none⟩ = some (.int .u64 x300001_1) := (blk_cell BK299.out 1).trans rfl
         have hfz101_0 := blk_frozen BK299.out 0
         have hfz101_1 := blk_frozen BK299.out 1
         have hnb102 := NB284_282.out
         have hnc102 := NB282_284.out
         have hnb103 := NB284_283.out
         have hnc103 := NB283_284.out
         have hnb104 := NB284_292.out
         have hnc104 := NB292_284.out
         have hnb105 := NB284_298.out
         have hnc105 := NB298_284.out
         have hcz106_0 : wc.cell? ⟨gb284, 0, none⟩ = some (.int .u64 0) := (blk_cell BK284.out 0).trans rfl
         have hcz106_1 : wc.cell? ⟨gb284, 1, none⟩ = some (.int .u64 0) := (blk_cell BK284.out 1).trans rfl
         have hcz106_2 : wc.cell? ⟨gb284, 2, none⟩ = some (.int .u64 0) := (blk_cell BK284.out 2).trans rfl
         have hcz106_3 : wc.cell? ⟨gb284, 3, none⟩ = some (.int .u64 0) := (blk_cell BK284.out 3).trans rfl
         have hcz106_4 : wc.cell? ⟨gb284, 4, none⟩ = some (.int .i64 0) := (blk_cell BK284.out 4).trans rfl
         have hcz106_5 : wc.cell? ⟨gb284, 5, none⟩ = some (.int .i64 0) := (blk_cell BK284.out 5).trans rfl
         have hfz106_0 := blk_frozen BK284.out 0
         have hfz106_1 := blk_frozen BK284.out 1
         have hfz106_2 := blk_frozen BK284.out 2
         have hfz106_3 := blk_frozen BK284.out 3
         have hfz106_4 := blk_frozen BK284.out 4
         have hfz106_5 := blk_frozen BK284.out 5
         have hnb107 := NB283_282.out
         have hnc107 := NB282_283.out
         have hnb108 := NB283_292.out
         have hnc108 := NB292_283.out
         have hnb109 := NB283_298.out
         have hnc109 := NB298_283.out
         have hcz110_0 : wc.cell? ⟨gb283, 0, none⟩ = some (.int .u64 0) := (blk_cell BK283.out 0).trans rfl
         have hcz110_1 : wc.cell? ⟨gb283, 1, none⟩ = some (.int .u64 0) := (blk_cell BK283.out 1).trans rfl
         have hcz110_2 : wc.cell? ⟨gb283, 2, none⟩ = some (.int .u64 0) := (blk_cell BK283.out 2).trans rfl
         have hcz110_3 : wc.cell? ⟨gb283, 3, none⟩ = some (.int .u64 0) := (blk_cell BK283.out 3).trans rfl
         have hcz110_4 : wc.cell? ⟨gb283, 4, none⟩ = some (.int .i64 0) := (blk_cell BK283.out 4).trans rfl
         have hcz110_5 : wc.cell? ⟨gb283, 5, none⟩ = some (.int .i64 0) := (blk_cell BK283.out 5).trans rfl
         have hfz110_0 := blk_frozen BK283.out 0
         have hfz110_1 := blk_frozen BK283.out 1
         have hfz110_2 := blk_frozen BK283.out 2
         have hfz110_3 := blk_frozen BK283.out 3
         have hfz110_4 := blk_frozen BK283.out 4
         have hfz110_5 := blk_frozen BK283.out 5
         go_wp2
         refine bodyPost_ret (results_ct rfl _ _ gb283 50 #[.int .u64 0, .int .u64 0, .int .u64 0, .int .u64 0, .int .i64 0, .int .i64 0] (0, 0) _ rfl (by (with_reducible repeat (first | refine blk_drewN ?_ _ | refine blk_drew ?_ | refine blk_alloc ?_ _)); refine blk_put (cs := #[.int .u64 0, .int .u64 0, .int .u64 0, .int .u64 0, .int .i64 0, .int .i64 0]) ?_ 5 _ rfl; (with_reducible repeat (first | refine blk_drewN ?_ _ | refine blk_drew ?_ | refine blk_alloc ?_ _)); refine blk_put (cs := #[.int .u64 0, .int .u64 0, .int .u64 0, .int .u64 0, .int .i64 0, .int .i64 0]) ?_ 4 _ rfl; (with_reducible repeat (first | refine blk_drewN ?_ _ | refine blk_drew ?_ | refine blk_alloc ?_ _)); refine blk_put (cs := #[.int .u64 0, .int .u64 0, .int .u64 0, .int .u64 0, .int .i64 0, .int .i64 0]) ?_ 3 _ rfl; (with_reducible repeat (first | refine blk_drewN ?_ _ | refine blk_drew ?_ | refine blk_alloc ?_ _)); refine blk_put (cs := #[.int .u64 0, .int .u64 0, .int .u64 0, .int .u64 0, .int .i64 0, .int .i64 0]) ?_ 2 _ rfl; (with_reducible repeat (first | refine blk_drewN ?_ _ | refine blk_drew ?_ | refine blk_alloc ?_ _)); refine blk_put (cs := #[.int .u64 0, .int .u64 0, .int .u64 0, .int .u64 0, .int .i64 0, .int .i64 0]) ?_ 1 _ rfl; (with_reducible repeat (first | refine blk_drewN ?_ _ | refine blk_drew ?_ | refine blk_alloc ?_ _)); refine blk_put (cs := #[.int .u64 0, .int .u64 0, .int .u64 0, .int .u64 0, .int .i64 0, .int .i64 0]) ?_ 0 _ rfl; exact bfL BK283.out) Try.underlying50 rfl (by kernel_rfl)) rfl ?_
         exact ⟨by first | rfl | (simp [errW_none, errW_some] <;> rfl) | (simp only [← hji8, ← hji9, ← hji10, ← hji11]; first | rfl | (simp [errW_none, errW_some] <;> rfl)) | (simp [*, errW_none, errW_some] <;> rfl), bsL HB.out⟩
  ·
   replace c13 := Bool.eq_false_iff.mpr c13
   subst c13
   have H1 : (some (0, 0, 0, 0, 0, 0, false)) = some (r1, r2, r3, r4, r5, r6, r7) := by rw [if_neg (show ¬ (false = true) by decide)] at H; exact H
   clear H
   have H := H1
   clear H1
   simp only [Option.some.injEq, Prod.mk.injEq] at H
   obtain ⟨rfl, rfl, rfl, rfl, rfl, rfl, rfl⟩ := H
   go_enter Try.func26, Try.ntmps26
   go_wp2_with (first | ((with_reducible refine gate_dst (N := 3) rfl ?_); refine box_event ?hg (N := 3) ?hd (cs := #[.int .u64 a1_0, .int .u64 a1_1, .int .u64 a1_2, .int .u64 a1_3, .int .i64 a1_4, .int .i64 a1_5]) (t := 50) ?hr ?_; (case hd => rfl); (case hg => rfl); (case hr => first | (go_simp; done) | (go_simp; rfl)); intro gb282 hg w111 hbox hb; have n0_ := bsB HB.out hb; have n1_ := Aside0.mk (hbox); have n2_ := szB hg HB.out; have n3_ := szB hg HB.out; clear HB; have HB := n0_; have BK282 := n1_; have GW282 := n2_; have GE282 := n3_; clear n0_ n1_ n2_ n3_; clear hb hbox hg) | ((with_reducible refine gate_dst (N := 4) rfl ?_); refine box_event ?hg (N := 4) ?hd (cs := #[.int .u64 0, .int .u64 0, .int .u64 0, .int .u64 0, .int .i64 0, .int .i64 0]) (t := 50) ?hr ?_; (case hd => rfl); (case hg => rfl); (case hr => first | (go_simp; done) | (go_simp; rfl)); intro gb283 hg w112 hbox hb; have n0_ := bkB BK282.out hb; have n1_ := bsB HB.out hb; have n2_ := Aside0.mk (hbox); have n3_ := szB hg HB.out; have n4_ := szB hg HB.out; have n5_ := Aside0.mk ((by rw [hg]; exact Nat.ne_of_lt (blk_lt (g := gb282) (o := .cells #[.int .u64 a1_0, .int .u64 a1_1, .int .u64 a1_2, .int .u64 a1_3, .int .i64 a1_4, .int .i64 a1_5] 50 (0, 0)) (by exact bfL BK282.out)) : gb282 ≠ gb283)); have n6_ := Aside0.mk ((by rw [hg]; exact Nat.ne_of_gt (blk_lt (g := gb282) (o := .cells #[.int .u64 a1_0, .int .u64 a1_1, .int .u64 a1_2, .int .u64 a1_3, .int .i64 a1_4, .int .i64 a1_5] 50 (0, 0)) (by exact bfL BK282.out)) : gb283 ≠ gb282)); clear BK282; clear HB; have BK282 := n0_; have HB := n1_; have BK283 := n2_; have GW283 := n3_; have GE283 := n4_; have NB282_283 := n5_; have NB283_282 := n6_; clear n0_ n1_ n2_ n3_ n4_ n5_ n6_; clear hb hbox hg) | ((with_reducible refine gate_dst (N := 6) rfl ?_); refine box_event ?hg (N := 6) ?hd (cs := #[.int .u64 0, .int .u64 0, .int .u64 0, .int .u64 0, .int .i64 0, .int .i64 0]) (t := 50) ?hr ?_; (case hd => rfl); (case hg => rfl); (case hr => first | (go_simp; done) | (go_simp; rfl)); intro gb284 hg w113 hbox hb; have n0_ := bkB BK282.out hb; have n1_ := bkB BK283.out hb; have n2_ := bsB HB.out hb; have n3_ := Aside0.mk (hbox); have n4_ := szB hg HB.out; have n5_ := szB hg HB.out; have n6_ := Aside0.mk ((by rw [hg]; exact Nat.ne_of_lt (blk_lt (g := gb282) (o := .cells #[.int .u64 a1_0, .int .u64 a1_1, .int .u64 a1_2, .int .u64 a1_3, .int .i64 a1_4, .int .i64 a1_5] 50 (0, 0)) (by exact bfL BK282.out)) : gb282 ≠ gb284)); have n7_ := Aside0.mk ((by rw [hg]; exact Nat.ne_of_gt (blk_lt (g := gb282) (o := .cells #[.int .u64 a1_0, .int .u64 a1_1, .int .u64 a1_2, .int .u64 a1_3, .int .i64 a1_4, .int .i64 a1_5] 50 (0, 0)) (by exact bfL BK282.out)) : gb284 ≠ gb282)); have n8_ := Aside0.mk ((by rw [hg]; exact Nat.ne_of_lt (blk_lt (g := gb283) (o := .cells #[.int .u64 0, .int .u64 0, .int .u64 0, .int .u64 0, .int .i64 0, .int .i64 0] 50 (0, 0)) (by exact bfL BK283.out)) : gb283 ≠ gb284)); have n9_ := Aside0.mk ((by rw [hg]; exact Nat.ne_of_gt (blk_lt (g := gb283) (o := .cells #[.int .u64 0, .int .u64 0, .int .u64 0, .int .u64 0, .int .i64 0, .int .i64 0] 50 (0, 0)) (by exact bfL BK283.out)) : gb284 ≠ gb283)); clear BK282; clear BK283; clear HB; have BK282 := n0_; have BK283 := n1_; have HB := n2_; have BK284 := n3_; have GW284 := n4_; have GE284 := n5_; have NB282_284 := n6_; have NB284_282 := n7_; have NB283_284 := n8_; have NB284_283 := n9_; clear n0_ n1_ n2_ n3_ n4_ n5_ n6_ n7_ n8_ n9_; clear hb hbox hg; have hnb114 := NB282_283.out; have hnc114 := NB283_282.out; have hnb115 := NB282_284.out; have hnc115 := NB284_282.out; have hcz116_0 : w113.cell? ⟨gb282, 0, none⟩ = some (.int .u64 a1_0) := (blk_cell BK282.out 0).trans rfl; have hcz116_1 : w113.cell? ⟨gb282, 1, none⟩ = some (.int .u64 a1_1) := (blk_cell BK282.out 1).trans rfl; have hcz116_2 : w113.cell? ⟨gb282, 2, none⟩ = some (.int .u64 a1_2) := (blk_cell BK282.out 2).trans rfl; have hcz116_3 : w113.cell? ⟨gb282, 3, none⟩ = some (.int .u64 a1_3) := (blk_cell BK282.out 3).trans rfl; have hcz116_4 : w113.cell? ⟨gb282, 4, none⟩ = some (.int .i64 a1_4) := (blk_cell BK282.out 4).trans rfl; have hcz116_5 : w113.cell? ⟨gb282, 5, none⟩ = some (.int .i64 a1_5) := (blk_cell BK282.out 5).trans rfl; have hfz116_0 := blk_frozen BK282.out 0; have hfz116_1 := blk_frozen BK282.out 1; have hfz116_2 := blk_frozen BK282.out 2; have hfz116_3 := blk_frozen BK282.out 3; have hfz116_4 := blk_frozen BK282.out 4; have hfz116_5 := blk_frozen BK282.out 5) | ((with_reducible refine gate_callee (f := 27) rfl ?_); refine gL (some 18) Try.func27 #[.int .i64 a0, .agg #[.int .u64 a1_0, .int .u64 a1_1, .int .u64 a1_2, .int .u64 a1_3, .int .i64 a1_4, .int .i64 a1_5]] ?_; (with_reducible refine (jacquardref14_Valid.calls k a0 a1_0 a1_1 a1_2 a1_3 a1_4 a1_5 true _ A3.out).mono ?_); rintro e w117 ⟨rfl, hb⟩; refine ⟨_, rfl, ?_⟩; have n0_ := bkB BK282.out hb; have n1_ := bkB BK283.out hb; have n2_ := bkB BK284.out hb; have n3_ := bsB HB.out hb; clear BK282; clear BK283; clear BK284; clear HB; have BK282 := n0_; have BK283 := n1_; have BK284 := n2_; have HB := n3_; clear n0_ n1_ n2_ n3_; (try clear hb); (try clear hb2); (try clear hk); (try clear hi); have hcz118_0 : w117.cell? ⟨gb282, 0, none⟩ = some (.int .u64 a1_0) := (blk_cell BK282.out 0).trans rfl; have hcz118_1 : w117.cell? ⟨gb282, 1, none⟩ = some (.int .u64 a1_1) := (blk_cell BK282.out 1).trans rfl; have hcz118_2 : w117.cell? ⟨gb282, 2, none⟩ = some (.int .u64 a1_2) := (blk_cell BK282.out 2).trans rfl; have hcz118_3 : w117.cell? ⟨gb282, 3, none⟩ = some (.int .u64 a1_3) := (blk_cell BK282.out 3).trans rfl; have hcz118_4 : w117.cell? ⟨gb282, 4, none⟩ = some (.int .i64 a1_4) := (blk_cell BK282.out 4).trans rfl; have hcz118_5 : w117.cell? ⟨gb282, 5, none⟩ = some (.int .i64 a1_5) := (blk_cell BK282.out 5).trans rfl; have hfz118_0 := blk_frozen BK282.out 0; have hfz118_1 := blk_frozen BK282.out 1; have hfz118_2 := blk_frozen BK282.out 2; have hfz118_3 := blk_frozen BK282.out 3; have hfz118_4 := blk_frozen BK282.out 4; have hfz118_5 := blk_frozen BK282.out 5) | ((with_reducible refine gate_callee (f := 80) rfl ?_); refine gL (some 24) Try.func80 #[.agg #[.int .u64 a1_0, .int .u64 a1_1, .int .u64 a1_2, .int .u64 a1_3, .int .i64 a1_4, .int .i64 a1_5]] ?_; (with_reducible refine (jacquardref14_bits.calls a1_0 a1_1 a1_2 a1_3 a1_4 a1_5 t286 t287 _ A5.out).mono ?_); rintro e w119 ⟨rfl, hb⟩; refine ⟨_, rfl, ?_⟩; have n0_ := bkB BK282.out hb; have n1_ := bkB BK283.out hb; have n2_ := bkB BK284.out hb; have n3_ := bsB HB.out hb; clear BK282; clear BK283; clear BK284; clear HB; have BK282 := n0_; have BK283 := n1_; have BK284 := n2_; have HB := n3_; clear n0_ n1_ n2_ n3_; (try clear hb); (try clear hb2); (try clear hk); (try clear hi)) | ((with_reducible refine gate_callee (f := 79) rfl ?_); refine gL (some 25) Try.func79 #[.int .i64 a0, .agg #[.int .u64 t286, .int .u64 t287]] ?_; (with_reducible refine (jacquardref12_Limits.calls k a0 t286 t287 t288 t289 _ A6.out).mono ?_); rintro e w120 ⟨rfl, hb⟩; refine ⟨_, rfl, ?_⟩; have n0_ := bkB BK282.out hb; have n1_ := bkB BK283.out hb; have n2_ := bkB BK284.out hb; have n3_ := bsB HB.out hb; clear BK282; clear BK283; clear BK284; clear HB; have BK282 := n0_; have BK283 := n1_; have BK284 := n2_; have HB := n3_; clear n0_ n1_ n2_ n3_; (try clear hb); (try clear hb2); (try clear hk); (try clear hi); have hcz121_0 : w120.cell? ⟨gb282, 0, none⟩ = some (.int .u64 a1_0) := (blk_cell BK282.out 0).trans rfl; have hcz121_1 : w120.cell? ⟨gb282, 1, none⟩ = some (.int .u64 a1_1) := (blk_cell BK282.out 1).trans rfl; have hcz121_2 : w120.cell? ⟨gb282, 2, none⟩ = some (.int .u64 a1_2) := (blk_cell BK282.out 2).trans rfl; have hcz121_3 : w120.cell? ⟨gb282, 3, none⟩ = some (.int .u64 a1_3) := (blk_cell BK282.out 3).trans rfl; have hcz121_4 : w120.cell? ⟨gb282, 4, none⟩ = some (.int .i64 a1_4) := (blk_cell BK282.out 4).trans rfl; have hcz121_5 : w120.cell? ⟨gb282, 5, none⟩ = some (.int .i64 a1_5) := (blk_cell BK282.out 5).trans rfl; have hfz121_0 := blk_frozen BK282.out 0; have hfz121_1 := blk_frozen BK282.out 1; have hfz121_2 := blk_frozen BK282.out 2; have hfz121_3 := blk_frozen BK282.out 3; have hfz121_4 := blk_frozen BK282.out 4; have hfz121_5 := blk_frozen BK282.out 5) | ((with_reducible refine gate_callee (f := 80) rfl ?_); refine gL (some 31) Try.func80 #[.agg #[.int .u64 a1_0, .int .u64 a1_1, .int .u64 a1_2, .int .u64 a1_3, .int .i64 a1_4, .int .i64 a1_5]] ?_; (with_reducible refine (jacquardref14_bits.calls a1_0 a1_1 a1_2 a1_3 a1_4 a1_5 t286 t287 _ A5.out).mono ?_); rintro e w122 ⟨rfl, hb⟩; refine ⟨_, rfl, ?_⟩; have n0_ := bkB BK282.out hb; have n1_ := bkB BK283.out hb; have n2_ := bkB BK284.out hb; have n3_ := bsB HB.out hb; clear BK282; clear BK283; clear BK284; clear HB; have BK282 := n0_; have BK283 := n1_; have BK284 := n2_; have HB := n3_; clear n0_ n1_ n2_ n3_; (try clear hb); (try clear hb2); (try clear hk); (try clear hi)) | ((with_reducible refine gate_callee (f := 81) rfl ?_); refine gL (some 32) Try.func81 #[.int .i64 a0, .agg #[.int .u64 t286, .int .u64 t287]] ?_; (with_reducible refine (jacquardref12_SignedLimits.calls k a0 t286 t287 t290 t291 _ A7.out).mono ?_); rintro e w123 ⟨rfl, hb⟩; refine ⟨_, rfl, ?_⟩; have n0_ := bkB BK282.out hb; have n1_ := bkB BK283.out hb; have n2_ := bkB BK284.out hb; have n3_ := bsB HB.out hb; clear BK282; clear BK283; clear BK284; clear HB; have BK282 := n0_; have BK283 := n1_; have BK284 := n2_; have HB := n3_; clear n0_ n1_ n2_ n3_; (try clear hb); (try clear hb2); (try clear hk); (try clear hi); have hcz124_0 : w123.cell? ⟨gb282, 0, none⟩ = some (.int .u64 a1_0) := (blk_cell BK282.out 0).trans rfl; have hcz124_1 : w123.cell? ⟨gb282, 1, none⟩ = some (.int .u64 a1_1) := (blk_cell BK282.out 1).trans rfl; have hcz124_2 : w123.cell? ⟨gb282, 2, none⟩ = some (.int .u64 a1_2) := (blk_cell BK282.out 2).trans rfl; have hcz124_3 : w123.cell? ⟨gb282, 3, none⟩ = some (.int .u64 a1_3) := (blk_cell BK282.out 3).trans rfl; have hcz124_4 : w123.cell? ⟨gb282, 4, none⟩ = some (.int .i64 a1_4) := (blk_cell BK282.out 4).trans rfl; have hcz124_5 : w123.cell? ⟨gb282, 5, none⟩ = some (.int .i64 a1_5) := (blk_cell BK282.out 5).trans rfl; have hfz124_0 := blk_frozen BK282.out 0; have hfz124_1 := blk_frozen BK282.out 1; have hfz124_2 := blk_frozen BK282.out 2; have hfz124_3 := blk_frozen BK282.out 3; have hfz124_4 := blk_frozen BK282.out 4; have hfz124_5 := blk_frozen BK282.out 5) | ((with_reducible refine gate_dst (N := 11) rfl ?_); refine box_event ?hg (N := 11) ?hd (cs := #[.int .u64 0, .int .u64 0, .int .i64 0, .int .i64 0]) (t := 30) ?hr ?_; (case hd => rfl); (case hg => rfl); (case hr => first | (go_simp; done) | (go_simp; rfl)); intro gb292 hg w125 hbox hb; have n0_ := bkB BK282.out hb; have n1_ := bkB BK283.out hb; have n2_ := bkB BK284.out hb; have n3_ := bsB HB.out hb; have n4_ := Aside0.mk (hbox); have n5_ := szB hg HB.out; have n6_ := szB hg HB.out; have n7_ := Aside0.mk ((by rw [hg]; exact Nat.ne_of_lt (blk_lt (g := gb282) (o := .cells #[.int .u64 a1_0, .int .u64 a1_1, .int .u64 a1_2, .int .u64 a1_3, .int .i64 a1_4, .int .i64 a1_5] 50 (0, 0)) (by exact bfL BK282.out)) : gb282 ≠ gb292)); have n8_ := Aside0.mk ((by rw [hg]; exact Nat.ne_of_gt (blk_lt (g := gb282) (o := .cells #[.int .u64 a1_0, .int .u64 a1_1, .int .u64 a1_2, .int .u64 a1_3, .int .i64 a1_4, .int .i64 a1_5] 50 (0, 0)) (by exact bfL BK282.out)) : gb292 ≠ gb282)); have n9_ := Aside0.mk ((by rw [hg]; exact Nat.ne_of_lt (blk_lt (g := gb283) (o := .cells #[.int .u64 0, .int .u64 0, .int .u64 0, .int .u64 0, .int .i64 0, .int .i64 0] 50 (0, 0)) (by exact bfL BK283.out)) : gb283 ≠ gb292)); have n10_ := Aside0.mk ((by rw [hg]; exact Nat.ne_of_gt (blk_lt (g := gb283) (o := .cells #[.int .u64 0, .int .u64 0, .int .u64 0, .int .u64 0, .int .i64 0, .int .i64 0] 50 (0, 0)) (by exact bfL BK283.out)) : gb292 ≠ gb283)); have n11_ := Aside0.mk ((by rw [hg]; exact Nat.ne_of_lt (blk_lt (g := gb284) (o := .cells #[.int .u64 0, .int .u64 0, .int .u64 0, .int .u64 0, .int .i64 0, .int .i64 0] 50 (0, 0)) (by exact bfL BK284.out)) : gb284 ≠ gb292)); have n12_ := Aside0.mk ((by rw [hg]; exact Nat.ne_of_gt (blk_lt (g := gb284) (o := .cells #[.int .u64 0, .int .u64 0, .int .u64 0, .int .u64 0, .int .i64 0, .int .i64 0] 50 (0, 0)) (by exact bfL BK284.out)) : gb292 ≠ gb284)); clear BK282; clear BK283; clear BK284; clear HB; have BK282 := n0_; have BK283 := n1_; have BK284 := n2_; have HB := n3_; have BK292 := n4_; have GW292 := n5_; have GE292 := n6_; have NB282_292 := n7_; have NB292_282 := n8_; have NB283_292 := n9_; have NB292_283 := n10_; have NB284_292 := n11_; have NB292_284 := n12_; clear n0_ n1_ n2_ n3_ n4_ n5_ n6_ n7_ n8_ n9_ n10_ n11_ n12_; clear hb hbox hg; have hnb126 := NB292_282.out; have hnc126 := NB282_292.out; have hnb127 := NB292_283.out; have hnc127 := NB283_292.out; have hnb128 := NB292_284.out; have hnc128 := NB284_292.out; have hcz129_0 : w125.cell? ⟨gb292, 0, none⟩ = some (.int .u64 0) := (blk_cell BK292.out 0).trans rfl; have hcz129_1 : w125.cell? ⟨gb292, 1, none⟩ = some (.int .u64 0) := (blk_cell BK292.out 1).trans rfl; have hcz129_2 : w125.cell? ⟨gb292, 2, none⟩ = some (.int .i64 0) := (blk_cell BK292.out 2).trans rfl; have hcz129_3 : w125.cell? ⟨gb292, 3, none⟩ = some (.int .i64 0) := (blk_cell BK292.out 3).trans rfl; have hfz129_0 := blk_frozen BK292.out 0; have hfz129_1 := blk_frozen BK292.out 1; have hfz129_2 := blk_frozen BK292.out 2; have hfz129_3 := blk_frozen BK292.out 3) | ((with_reducible refine gate_callee (f := 59) rfl ?_); refine goesL_ (some 55) rfl rfl Try.func59 (by kernel_rfl) rfl #[.int .i64 a0, .agg #[.int .u64 ji8, .int .u64 ji9, .int .i64 ji10, .int .i64 ji11]] rfl (by (try simp only [List.map_toArray, List.map_cons, List.map_nil]); first | done | (simp only [hji10, hji11, hji8, hji9]; rfl) | rfl | (simp only [List.length_drop, List.length_take]; rfl)) ?_; (with_reducible refine (jacquardref13_Tighten.calls k a0 ji8 ji9 ji10 ji11 t293 t294 t295 t296 false _ A12.out).mono ?_); rintro e w130 ⟨rfl, hb⟩; refine ⟨_, rfl, ?_⟩; have n0_ := Aside0.mk (blk_below (g := gb282) (o := .cells #[.int .u64 a1_0, .int .u64 a1_1, .int .u64 a1_2, .int .u64 a1_3, .int .i64 a1_4, .int .i64 a1_5] 50 (0, 0)) (by exact bfL BK282.out) hb); have n1_ := Aside0.mk (blk_below (g := gb283) (o := .cells #[.int .u64 0, .int .u64 0, .int .u64 0, .int .u64 0, .int .i64 0, .int .i64 0] 50 (0, 0)) (by exact bfL BK283.out) hb); have n2_ := Aside0.mk (blk_below (g := gb284) (o := .cells #[.int .u64 0, .int .u64 0, .int .u64 0, .int .u64 0, .int .i64 0, .int .i64 0] 50 (0, 0)) (by exact bfL BK284.out) hb); have n3_ := Aside0.mk (blk_below (g := gb292) (o := .cells #[.int .u64 ji8, .int .u64 ji9, .int .i64 ji10, .int .i64 ji11] 30 (0, 0)) (by (with_reducible repeat (first | refine blk_drewN ?_ _ | refine blk_drew ?_ | refine blk_alloc ?_ _)); refine blk_put (cs := #[.int .u64 ji8, .int .u64 ji9, .int .i64 ji10, .int .i64 0]) ?_ 3 _ rfl; (with_reducible repeat (first | refine blk_drewN ?_ _ | refine blk_drew ?_ | refine blk_alloc ?_ _)); refine blk_put (cs := #[.int .u64 ji8, .int .u64 ji9, .int .i64 0, .int .i64 0]) ?_ 2 _ rfl; (with_reducible repeat (first | refine blk_drewN ?_ _ | refine blk_drew ?_ | refine blk_alloc ?_ _)); refine blk_put (cs := #[.int .u64 ji8, .int .u64 0, .int .i64 0, .int .i64 0]) ?_ 1 _ rfl; (with_reducible repeat (first | refine blk_drewN ?_ _ | refine blk_drew ?_ | refine blk_alloc ?_ _)); refine blk_put (cs := #[.int .u64 0, .int .u64 0, .int .i64 0, .int .i64 0]) ?_ 0 _ rfl; exact bfL BK292.out) hb); have n4_ := bsB HB.out hb; clear BK282; clear BK283; clear BK284; clear BK292; clear HB; have BK282 := n0_; have BK283 := n1_; have BK284 := n2_; have BK292 := n3_; have HB := n4_; clear n0_ n1_ n2_ n3_ n4_; (try clear hb); (try clear hb2); (try clear hk); (try clear hi)) | ((with_reducible refine gate_dst (N := 12) rfl ?_); refine box_event ?hg (N := 12) ?hd (cs := #[.int .u64 0, .int .u64 0, .int .i64 0, .int .i64 0]) (t := 30) ?hr ?_; (case hd => rfl); (case hg => rfl); (case hr => first | (go_simp; done) | (go_simp; rfl)); intro gb298 hg w131 hbox hb; have n0_ := bkB BK282.out hb; have n1_ := bkB BK283.out hb; have n2_ := bkB BK284.out hb; have n3_ := bkB BK292.out hb; have n4_ := bsB HB.out hb; have n5_ := Aside0.mk (hbox); have n6_ := szB hg HB.out; have n7_ := szB hg HB.out; have n8_ := Aside0.mk ((by rw [hg]; exact Nat.ne_of_lt (blk_lt (g := gb282) (o := .cells #[.int .u64 a1_0, .int .u64 a1_1, .int .u64 a1_2, .int .u64 a1_3, .int .i64 a1_4, .int .i64 a1_5] 50 (0, 0)) (by exact bfL BK282.out)) : gb282 ≠ gb298)); have n9_ := Aside0.mk ((by rw [hg]; exact Nat.ne_of_gt (blk_lt (g := gb282) (o := .cells #[.int .u64 a1_0, .int .u64 a1_1, .int .u64 a1_2, .int .u64 a1_3, .int .i64 a1_4, .int .i64 a1_5] 50 (0, 0)) (by exact bfL BK282.out)) : gb298 ≠ gb282)); have n10_ := Aside0.mk ((by rw [hg]; exact Nat.ne_of_lt (blk_lt (g := gb283) (o := .cells #[.int .u64 0, .int .u64 0, .int .u64 0, .int .u64 0, .int .i64 0, .int .i64 0] 50 (0, 0)) (by exact bfL BK283.out)) : gb283 ≠ gb298)); have n11_ := Aside0.mk ((by rw [hg]; exact Nat.ne_of_gt (blk_lt (g := gb283) (o := .cells #[.int .u64 0, .int .u64 0, .int .u64 0, .int .u64 0, .int .i64 0, .int .i64 0] 50 (0, 0)) (by exact bfL BK283.out)) : gb298 ≠ gb283)); have n12_ := Aside0.mk ((by rw [hg]; exact Nat.ne_of_lt (blk_lt (g := gb284) (o := .cells #[.int .u64 0, .int .u64 0, .int .u64 0, .int .u64 0, .int .i64 0, .int .i64 0] 50 (0, 0)) (by exact bfL BK284.out)) : gb284 ≠ gb298)); have n13_ := Aside0.mk ((by rw [hg]; exact Nat.ne_of_gt (blk_lt (g := gb284) (o := .cells #[.int .u64 0, .int .u64 0, .int .u64 0, .int .u64 0, .int .i64 0, .int .i64 0] 50 (0, 0)) (by exact bfL BK284.out)) : gb298 ≠ gb284)); have n14_ := Aside0.mk ((by rw [hg]; exact Nat.ne_of_lt (blk_lt (g := gb292) (o := .cells #[.int .u64 ji8, .int .u64 ji9, .int .i64 ji10, .int .i64 ji11] 30 (0, 0)) (by exact bfL BK292.out)) : gb292 ≠ gb298)); have n15_ := Aside0.mk ((by rw [hg]; exact Nat.ne_of_gt (blk_lt (g := gb292) (o := .cells #[.int .u64 ji8, .int .u64 ji9, .int .i64 ji10, .int .i64 ji11] 30 (0, 0)) (by exact bfL BK292.out)) : gb298 ≠ gb292)); clear BK282; clear BK283; clear BK284; clear BK292; clear HB; have BK282 := n0_; have BK283 := n1_; have BK284 := n2_; have BK292 := n3_; have HB := n4_; have BK298 := n5_; have GW298 := n6_; have GE298 := n7_; have NB282_298 := n8_; have NB298_282 := n9_; have NB283_298 := n10_; have NB298_283 := n11_; have NB284_298 := n12_; have NB298_284 := n13_; have NB292_298 := n14_; have NB298_292 := n15_; clear n0_ n1_ n2_ n3_ n4_ n5_ n6_ n7_ n8_ n9_ n10_ n11_ n12_ n13_ n14_ n15_; clear hb hbox hg; have hnb132 := NB298_282.out; have hnc132 := NB282_298.out; have hnb133 := NB298_283.out; have hnc133 := NB283_298.out; have hnb134 := NB298_284.out; have hnc134 := NB284_298.out; have hnb135 := NB298_292.out; have hnc135 := NB292_298.out; have hcz136_0 : w131.cell? ⟨gb298, 0, none⟩ = some (.int .u64 0) := (blk_cell BK298.out 0).trans rfl; have hcz136_1 : w131.cell? ⟨gb298, 1, none⟩ = some (.int .u64 0) := (blk_cell BK298.out 1).trans rfl; have hcz136_2 : w131.cell? ⟨gb298, 2, none⟩ = some (.int .i64 0) := (blk_cell BK298.out 2).trans rfl; have hcz136_3 : w131.cell? ⟨gb298, 3, none⟩ = some (.int .i64 0) := (blk_cell BK298.out 3).trans rfl; have hfz136_0 := blk_frozen BK298.out 0; have hfz136_1 := blk_frozen BK298.out 1; have hfz136_2 := blk_frozen BK298.out 2; have hfz136_3 := blk_frozen BK298.out 3; have hnb137 := NB284_283.out; have hnc137 := NB283_284.out; have hcz138_0 : w131.cell? ⟨gb284, 0, none⟩ = some (.int .u64 0) := (blk_cell BK284.out 0).trans rfl; have hcz138_1 : w131.cell? ⟨gb284, 1, none⟩ = some (.int .u64 0) := (blk_cell BK284.out 1).trans rfl; have hcz138_2 : w131.cell? ⟨gb284, 2, none⟩ = some (.int .u64 0) := (blk_cell BK284.out 2).trans rfl; have hcz138_3 : w131.cell? ⟨gb284, 3, none⟩ = some (.int .u64 0) := (blk_cell BK284.out 3).trans rfl; have hcz138_4 : w131.cell? ⟨gb284, 4, none⟩ = some (.int .i64 0) := (blk_cell BK284.out 4).trans rfl; have hcz138_5 : w131.cell? ⟨gb284, 5, none⟩ = some (.int .i64 0) := (blk_cell BK284.out 5).trans rfl; have hfz138_0 := blk_frozen BK284.out 0; have hfz138_1 := blk_frozen BK284.out 1; have hfz138_2 := blk_frozen BK284.out 2; have hfz138_3 := blk_frozen BK284.out 3; have hfz138_4 := blk_frozen BK284.out 4; have hfz138_5 := blk_frozen BK284.out 5; have hcz139_0 : w131.cell? ⟨gb283, 0, none⟩ = some (.int .u64 0) := (blk_cell BK283.out 0).trans rfl; have hcz139_1 : w131.cell? ⟨gb283, 1, none⟩ = some (.int .u64 0) := (blk_cell BK283.out 1).trans rfl; have hcz139_2 : w131.cell? ⟨gb283, 2, none⟩ = some (.int .u64 0) := (blk_cell BK283.out 2).trans rfl; have hcz139_3 : w131.cell? ⟨gb283, 3, none⟩ = some (.int .u64 0) := (blk_cell BK283.out 3).trans rfl; have hcz139_4 : w131.cell? ⟨gb283, 4, none⟩ = some (.int .i64 0) := (blk_cell BK283.out 4).trans rfl; have hcz139_5 : w131.cell? ⟨gb283, 5, none⟩ = some (.int .i64 0) := (blk_cell BK283.out 5).trans rfl; have hfz139_0 := blk_frozen BK283.out 0; have hfz139_1 := blk_frozen BK283.out 1; have hfz139_2 := blk_frozen BK283.out 2; have hfz139_3 := blk_frozen BK283.out 3; have hfz139_4 := blk_frozen BK283.out 4; have hfz139_5 := blk_frozen BK283.out 5))
   refine bodyPost_ret (results_ct rfl _ _ gb283 50 #[.int .u64 0, .int .u64 0, .int .u64 0, .int .u64 0, .int .i64 0, .int .i64 0] (0, 0) _ rfl (by (with_reducible repeat (first | refine blk_drewN ?_ _ | refine blk_drew ?_ | refine blk_alloc ?_ _)); refine blk_put (cs := #[.int .u64 0, .int .u64 0, .int .u64 0, .int .u64 0, .int .i64 0, .int .i64 0]) ?_ 5 _ rfl; (with_reducible repeat (first | refine blk_drewN ?_ _ | refine blk_drew ?_ | refine blk_alloc ?_ _)); refine blk_put (cs := #[.int .u64 0, .int .u64 0, .int .u64 0, .int .u64 0, .int .i64 0, .int .i64 0]) ?_ 4 _ rfl; (with_reducible repeat (first | refine blk_drewN ?_ _ | refine blk_drew ?_ | refine blk_alloc ?_ _)); refine blk_put (cs := #[.int .u64 0, .int .u64 0, .int .u64 0, .int .u64 0, .int .i64 0, .int .i64 0]) ?_ 3 _ rfl; (with_reducible repeat (first | refine blk_drewN ?_ _ | refine blk_drew ?_ | refine blk_alloc ?_ _)); refine blk_put (cs := #[.int .u64 0, .int .u64 0, .int .u64 0, .int .u64 0, .int .i64 0, .int .i64 0]) ?_ 2 _ rfl; (with_reducible repeat (first | refine blk_drewN ?_ _ | refine blk_drew ?_ | refine blk_alloc ?_ _)); refine blk_put (cs := #[.int .u64 0, .int .u64 0, .int .u64 0, .int .u64 0, .int .i64 0, .int .i64 0]) ?_ 1 _ rfl; (with_reducible repeat (first | refine blk_drewN ?_ _ | refine blk_drew ?_ | refine blk_alloc ?_ _)); refine blk_put (cs := #[.int .u64 0, .int .u64 0, .int .u64 0, .int .u64 0, .int .i64 0, .int .i64 0]) ?_ 0 _ rfl; exact bfL BK283.out) Try.underlying50 rfl (by kernel_rfl)) rfl ?_
   exact ⟨by first | rfl | (simp [errW_none, errW_some] <;> rfl) | (simp only [← hji8, ← hji9, ← hji10, ← hji11]; first | rfl | (simp [errW_none, errW_some] <;> rfl)) | (simp [*, errW_none, errW_some] <;> rfl), bsL HB.out⟩
 ·
  replace c4 := Bool.eq_false_iff.mpr c4
  subst c4
  have H1 : (some (0, 0, 0, 0, 0, 0, false)) = some (r1, r2, r3, r4, r5, r6, r7) := by rw [if_neg (show ¬ (false = true) by decide)] at H; exact H
  clear H
  have H := H1
  clear H1
  simp only [Option.some.injEq, Prod.mk.injEq] at H
  obtain ⟨rfl, rfl, rfl, rfl, rfl, rfl, rfl⟩ := H
  go_enter Try.func26, Try.ntmps26
  go_wp2_with (first | ((with_reducible refine gate_dst (N := 3) rfl ?_); refine box_event ?hg (N := 3) ?hd (cs := #[.int .u64 a1_0, .int .u64 a1_1, .int .u64 a1_2, .int .u64 a1_3, .int .i64 a1_4, .int .i64 a1_5]) (t := 50) ?hr ?_; (case hd => rfl); (case hg => rfl); (case hr => first | (go_simp; done) | (go_simp; rfl)); intro gb282 hg w140 hbox hb; have n0_ := bsB HB.out hb; have n1_ := Aside0.mk (hbox); have n2_ := szB hg HB.out; have n3_ := szB hg HB.out; clear HB; have HB := n0_; have BK282 := n1_; have GW282 := n2_; have GE282 := n3_; clear n0_ n1_ n2_ n3_; clear hb hbox hg) | ((with_reducible refine gate_dst (N := 4) rfl ?_); refine box_event ?hg (N := 4) ?hd (cs := #[.int .u64 0, .int .u64 0, .int .u64 0, .int .u64 0, .int .i64 0, .int .i64 0]) (t := 50) ?hr ?_; (case hd => rfl); (case hg => rfl); (case hr => first | (go_simp; done) | (go_simp; rfl)); intro gb283 hg w141 hbox hb; have n0_ := bkB BK282.out hb; have n1_ := bsB HB.out hb; have n2_ := Aside0.mk (hbox); have n3_ := szB hg HB.out; have n4_ := szB hg HB.out; have n5_ := Aside0.mk ((by rw [hg]; exact Nat.ne_of_lt (blk_lt (g := gb282) (o := .cells #[.int .u64 a1_0, .int .u64 a1_1, .int .u64 a1_2, .int .u64 a1_3, .int .i64 a1_4, .int .i64 a1_5] 50 (0, 0)) (by exact bfL BK282.out)) : gb282 ≠ gb283)); have n6_ := Aside0.mk ((by rw [hg]; exact Nat.ne_of_gt (blk_lt (g := gb282) (o := .cells #[.int .u64 a1_0, .int .u64 a1_1, .int .u64 a1_2, .int .u64 a1_3, .int .i64 a1_4, .int .i64 a1_5] 50 (0, 0)) (by exact bfL BK282.out)) : gb283 ≠ gb282)); clear BK282; clear HB; have BK282 := n0_; have HB := n1_; have BK283 := n2_; have GW283 := n3_; have GE283 := n4_; have NB282_283 := n5_; have NB283_282 := n6_; clear n0_ n1_ n2_ n3_ n4_ n5_ n6_; clear hb hbox hg) | ((with_reducible refine gate_dst (N := 6) rfl ?_); refine box_event ?hg (N := 6) ?hd (cs := #[.int .u64 0, .int .u64 0, .int .u64 0, .int .u64 0, .int .i64 0, .int .i64 0]) (t := 50) ?hr ?_; (case hd => rfl); (case hg => rfl); (case hr => first | (go_simp; done) | (go_simp; rfl)); intro gb284 hg w142 hbox hb; have n0_ := bkB BK282.out hb; have n1_ := bkB BK283.out hb; have n2_ := bsB HB.out hb; have n3_ := Aside0.mk (hbox); have n4_ := szB hg HB.out; have n5_ := szB hg HB.out; have n6_ := Aside0.mk ((by rw [hg]; exact Nat.ne_of_lt (blk_lt (g := gb282) (o := .cells #[.int .u64 a1_0, .int .u64 a1_1, .int .u64 a1_2, .int .u64 a1_3, .int .i64 a1_4, .int .i64 a1_5] 50 (0, 0)) (by exact bfL BK282.out)) : gb282 ≠ gb284)); have n7_ := Aside0.mk ((by rw [hg]; exact Nat.ne_of_gt (blk_lt (g := gb282) (o := .cells #[.int .u64 a1_0, .int .u64 a1_1, .int .u64 a1_2, .int .u64 a1_3, .int .i64 a1_4, .int .i64 a1_5] 50 (0, 0)) (by exact bfL BK282.out)) : gb284 ≠ gb282)); have n8_ := Aside0.mk ((by rw [hg]; exact Nat.ne_of_lt (blk_lt (g := gb283) (o := .cells #[.int .u64 0, .int .u64 0, .int .u64 0, .int .u64 0, .int .i64 0, .int .i64 0] 50 (0, 0)) (by exact bfL BK283.out)) : gb283 ≠ gb284)); have n9_ := Aside0.mk ((by rw [hg]; exact Nat.ne_of_gt (blk_lt (g := gb283) (o := .cells #[.int .u64 0, .int .u64 0, .int .u64 0, .int .u64 0, .int .i64 0, .int .i64 0] 50 (0, 0)) (by exact bfL BK283.out)) : gb284 ≠ gb283)); clear BK282; clear BK283; clear HB; have BK282 := n0_; have BK283 := n1_; have HB := n2_; have BK284 := n3_; have GW284 := n4_; have GE284 := n5_; have NB282_284 := n6_; have NB284_282 := n7_; have NB283_284 := n8_; have NB284_283 := n9_; clear n0_ n1_ n2_ n3_ n4_ n5_ n6_ n7_ n8_ n9_; clear hb hbox hg; have hnb143 := NB282_283.out; have hnc143 := NB283_282.out; have hnb144 := NB282_284.out; have hnc144 := NB284_282.out; have hcz145_0 : w142.cell? ⟨gb282, 0, none⟩ = some (.int .u64 a1_0) := (blk_cell BK282.out 0).trans rfl; have hcz145_1 : w142.cell? ⟨gb282, 1, none⟩ = some (.int .u64 a1_1) := (blk_cell BK282.out 1).trans rfl; have hcz145_2 : w142.cell? ⟨gb282, 2, none⟩ = some (.int .u64 a1_2) := (blk_cell BK282.out 2).trans rfl; have hcz145_3 : w142.cell? ⟨gb282, 3, none⟩ = some (.int .u64 a1_3) := (blk_cell BK282.out 3).trans rfl; have hcz145_4 : w142.cell? ⟨gb282, 4, none⟩ = some (.int .i64 a1_4) := (blk_cell BK282.out 4).trans rfl; have hcz145_5 : w142.cell? ⟨gb282, 5, none⟩ = some (.int .i64 a1_5) := (blk_cell BK282.out 5).trans rfl; have hfz145_0 := blk_frozen BK282.out 0; have hfz145_1 := blk_frozen BK282.out 1; have hfz145_2 := blk_frozen BK282.out 2; have hfz145_3 := blk_frozen BK282.out 3; have hfz145_4 := blk_frozen BK282.out 4; have hfz145_5 := blk_frozen BK282.out 5) | ((with_reducible refine gate_callee (f := 27) rfl ?_); refine gL (some 18) Try.func27 #[.int .i64 a0, .agg #[.int .u64 a1_0, .int .u64 a1_1, .int .u64 a1_2, .int .u64 a1_3, .int .i64 a1_4, .int .i64 a1_5]] ?_; (with_reducible refine (jacquardref14_Valid.calls k a0 a1_0 a1_1 a1_2 a1_3 a1_4 a1_5 false _ A3.out).mono ?_); rintro e w146 ⟨rfl, hb⟩; refine ⟨_, rfl, ?_⟩; have n0_ := bkB BK282.out hb; have n1_ := bkB BK283.out hb; have n2_ := bkB BK284.out hb; have n3_ := bsB HB.out hb; clear BK282; clear BK283; clear BK284; clear HB; have BK282 := n0_; have BK283 := n1_; have BK284 := n2_; have HB := n3_; clear n0_ n1_ n2_ n3_; (try clear hb); (try clear hb2); (try clear hk); (try clear hi); have hnb147 := NB284_283.out; have hnc147 := NB283_284.out; have hcz148_0 : w146.cell? ⟨gb284, 0, none⟩ = some (.int .u64 0) := (blk_cell BK284.out 0).trans rfl; have hcz148_1 : w146.cell? ⟨gb284, 1, none⟩ = some (.int .u64 0) := (blk_cell BK284.out 1).trans rfl; have hcz148_2 : w146.cell? ⟨gb284, 2, none⟩ = some (.int .u64 0) := (blk_cell BK284.out 2).trans rfl; have hcz148_3 : w146.cell? ⟨gb284, 3, none⟩ = some (.int .u64 0) := (blk_cell BK284.out 3).trans rfl; have hcz148_4 : w146.cell? ⟨gb284, 4, none⟩ = some (.int .i64 0) := (blk_cell BK284.out 4).trans rfl; have hcz148_5 : w146.cell? ⟨gb284, 5, none⟩ = some (.int .i64 0) := (blk_cell BK284.out 5).trans rfl; have hfz148_0 := blk_frozen BK284.out 0; have hfz148_1 := blk_frozen BK284.out 1; have hfz148_2 := blk_frozen BK284.out 2; have hfz148_3 := blk_frozen BK284.out 3; have hfz148_4 := blk_frozen BK284.out 4; have hfz148_5 := blk_frozen BK284.out 5; have hcz149_0 : w146.cell? ⟨gb283, 0, none⟩ = some (.int .u64 0) := (blk_cell BK283.out 0).trans rfl; have hcz149_1 : w146.cell? ⟨gb283, 1, none⟩ = some (.int .u64 0) := (blk_cell BK283.out 1).trans rfl; have hcz149_2 : w146.cell? ⟨gb283, 2, none⟩ = some (.int .u64 0) := (blk_cell BK283.out 2).trans rfl; have hcz149_3 : w146.cell? ⟨gb283, 3, none⟩ = some (.int .u64 0) := (blk_cell BK283.out 3).trans rfl; have hcz149_4 : w146.cell? ⟨gb283, 4, none⟩ = some (.int .i64 0) := (blk_cell BK283.out 4).trans rfl; have hcz149_5 : w146.cell? ⟨gb283, 5, none⟩ = some (.int .i64 0) := (blk_cell BK283.out 5).trans rfl; have hfz149_0 := blk_frozen BK283.out 0; have hfz149_1 := blk_frozen BK283.out 1; have hfz149_2 := blk_frozen BK283.out 2; have hfz149_3 := blk_frozen BK283.out 3; have hfz149_4 := blk_frozen BK283.out 4; have hfz149_5 := blk_frozen BK283.out 5))
  refine bodyPost_ret (results_ct rfl _ _ gb283 50 #[.int .u64 0, .int .u64 0, .int .u64 0, .int .u64 0, .int .i64 0, .int .i64 0] (0, 0) _ rfl (by (with_reducible repeat (first | refine blk_drewN ?_ _ | refine blk_drew ?_ | refine blk_alloc ?_ _)); refine blk_put (cs := #[.int .u64 0, .int .u64 0, .int .u64 0, .int .u64 0, .int .i64 0, .int .i64 0]) ?_ 5 _ rfl; (with_reducible repeat (first | refine blk_drewN ?_ _ | refine blk_drew ?_ | refine blk_alloc ?_ _)); refine blk_put (cs := #[.int .u64 0, .int .u64 0, .int .u64 0, .int .u64 0, .int .i64 0, .int .i64 0]) ?_ 4 _ rfl; (with_reducible repeat (first | refine blk_drewN ?_ _ | refine blk_drew ?_ | refine blk_alloc ?_ _)); refine blk_put (cs := #[.int .u64 0, .int .u64 0, .int .u64 0, .int .u64 0, .int .i64 0, .int .i64 0]) ?_ 3 _ rfl; (with_reducible repeat (first | refine blk_drewN ?_ _ | refine blk_drew ?_ | refine blk_alloc ?_ _)); refine blk_put (cs := #[.int .u64 0, .int .u64 0, .int .u64 0, .int .u64 0, .int .i64 0, .int .i64 0]) ?_ 2 _ rfl; (with_reducible repeat (first | refine blk_drewN ?_ _ | refine blk_drew ?_ | refine blk_alloc ?_ _)); refine blk_put (cs := #[.int .u64 0, .int .u64 0, .int .u64 0, .int .u64 0, .int .i64 0, .int .i64 0]) ?_ 1 _ rfl; (with_reducible repeat (first | refine blk_drewN ?_ _ | refine blk_drew ?_ | refine blk_alloc ?_ _)); refine blk_put (cs := #[.int .u64 0, .int .u64 0, .int .u64 0, .int .u64 0, .int .i64 0, .int .i64 0]) ?_ 0 _ rfl; exact bfL BK283.out) Try.underlying50 rfl (by kernel_rfl)) rfl ?_
  exact ⟨by first | rfl | (simp [errW_none, errW_some] <;> rfl) | (simp [*, errW_none, errW_some] <;> rfl), bsL HB.out⟩

end Go.Proofs.Ytbiohdgeclokmaa.P
