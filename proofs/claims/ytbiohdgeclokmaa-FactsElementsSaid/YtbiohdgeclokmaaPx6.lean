-- made by a program of this work (wip/mkprint.py, wip/mp.sh) out of the translation
import Derived.Test.YtbiohdgeclokmaaPx0
import Derived.Test.YtbiohdgeclokmaaPx2
import Derived.Test.YtbiohdgeclokmaaPx4
import Derived.Test.YtbiohdgeclokmaaPx5
namespace Go.Proofs.Ytbiohdgeclokmaa.P
open Go.RowKit Go.Proofs.YtbiohdgeclokmaaW.PrintWords Go.Proofs.YtbiohdgeclokmaaW.PrintLast Go.Proofs.YtbiohdgeclokmaaW.PrintMore
attribute [local go_sem] max2_int min2_int max_two min_two max_three min_three max_four min_four   -- for this text's walks alone
set_option linter.unusedVariables false
set_option linter.unusedSimpArgs false

/-! ### jacquardref14_Tighten: function 26 -/
mutual
def jacquardref14_Tighten.l0 : Nat → Int → Int → Int → Int → Int → Int → Int → Int → Int → Int → Int → Int → Int → Option (Int × Int × Int × Int × Int × Int × Bool)
 | 0, _, _, _, _, _, _, _, _, _, _, _, _, _ => none
 | k + 1, x15, x285000, x285001, x285002, x285003, x285004, x285005, x299000, x299001, x299002, x299003, x300000, x300001 => if x15 ≥ 0 then ((jacquardref12_Bit.f x299000 x15).bind fun t300 => ((jacquardref12_Bit.f x299001 x15).bind fun t301 => (jacquardref14_Tighten.j1 k x15 (t300 == t301) x285000 x285001 x285002 x285003 x285004 x285005 x299000 x299001 x299002 x299003 x300000 x300001))) else (jacquardref14_Tighten.j1 k x15 false x285000 x285001 x285002 x285003 x285004 x285005 x299000 x299001 x299002 x299003 x300000 x300001)
def jacquardref14_Tighten.j1 : Nat → Int → Bool → Int → Int → Int → Int → Int → Int → Int → Int → Int → Int → Int → Int → Option (Int × Int × Int × Int × Int × Int × Bool)
 | 0, _, _, _, _, _, _, _, _, _, _, _, _, _, _ => none
 | k + 1, x15, x77, x285000, x285001, x285002, x285003, x285004, x285005, x299000, x299001, x299002, x299003, x300000, x300001 => if x77 = true then ((jacquardref12_Bit.f x299000 x15).bind fun t302 => (if t302 = 1 then (if 0 ≤ x15 then (jacquardref14_Tighten.l0 k (wrap64 (x15 - 1)) x285000 x285001 x285002 x285003 x285004 x285005 x299000 x299001 x299002 x299003 x300000 (Go.bits .or .u64 x300001 (shl .u64 1 x15))) else (none)) else (if 0 ≤ x15 then (jacquardref14_Tighten.l0 k (wrap64 (x15 - 1)) x285000 x285001 x285002 x285003 x285004 x285005 x299000 x299001 x299002 x299003 (Go.bits .or .u64 x300000 (shl .u64 1 x15)) x300001) else (none)))) else (if (Go.bits .and .u64 x300000 x300001) = 0 then ((jacquardref14_fact.f x300000 x300001 x299000 x299001 x299002 x299003).bind fun bt303 => (some (bt303.1, bt303.2.1, bt303.2.2.1, bt303.2.2.2.1, bt303.2.2.2.2.1, bt303.2.2.2.2.2, true))) else (some (x285000, x285001, x285002, x285003, x285004, x285005, false)))
end
def jacquardref14_Tighten.f (k : Nat) (a0 : Int) (a1_0 : Int) (a1_1 : Int) (a1_2 : Int) (a1_3 : Int) (a1_4 : Int) (a1_5 : Int) : Option (Int × Int × Int × Int × Int × Int × Bool) := (jacquardref14_Valid.f k a0 a1_0 a1_1 a1_2 a1_3 a1_4 a1_5).bind fun t285 => (if t285 = true then ((jacquardref14_bits.f a1_0 a1_1 a1_2 a1_3 a1_4 a1_5).bind fun bt286 => ((jacquardref12_Limits.f k a0 bt286.1 bt286.2).bind fun bt288 => ((jacquardref12_SignedLimits.f k a0 bt286.1 bt286.2).bind fun bt290 => ((jacquardref13_Tighten.f k a0 (mx bt288.1 a1_2) (mn bt288.2 a1_3) (mx bt290.1 a1_4) (mn bt290.2 a1_5)).bind fun bt293 => (if bt293.2.2.2.2 = true then (jacquardref14_Tighten.l0 k (wrap64 (a0 - 1)) 0 0 0 0 0 0 bt293.1 bt293.2.1 bt293.2.2.1 bt293.2.2.2.1 bt286.1 bt286.2) else (some (0, 0, 0, 0, 0, 0, false))))))) else (some (0, 0, 0, 0, 0, 0, false)))
theorem jacquardref14_Tighten.mono_l : ∀ k, (∀ y0 y1 y2 y3 y4 y5 y6 y7 y8 y9 y10 y11 y12, LeO (jacquardref14_Tighten.l0 k y0 y1 y2 y3 y4 y5 y6 y7 y8 y9 y10 y11 y12) (jacquardref14_Tighten.l0 (k + 1) y0 y1 y2 y3 y4 y5 y6 y7 y8 y9 y10 y11 y12)) ∧ (∀ y0 y1 y2 y3 y4 y5 y6 y7 y8 y9 y10 y11 y12 y13, LeO (jacquardref14_Tighten.j1 k y0 y1 y2 y3 y4 y5 y6 y7 y8 y9 y10 y11 y12 y13) (jacquardref14_Tighten.j1 (k + 1) y0 y1 y2 y3 y4 y5 y6 y7 y8 y9 y10 y11 y12 y13))
 | 0 => ⟨fun _ _ _ _ _ _ _ _ _ _ _ _ _ r h => by simp [jacquardref14_Tighten.l0] at h, fun _ _ _ _ _ _ _ _ _ _ _ _ _ _ r h => by simp [jacquardref14_Tighten.j1] at h⟩
 | k + 1 => by
  obtain ⟨ih0, ih1⟩ := jacquardref14_Tighten.mono_l k
  refine ⟨?_, ?_⟩
  ·
   intro y0 y1 y2 y3 y4 y5 y6 y7 y8 y9 y10 y11 y12
   unfold jacquardref14_Tighten.l0
   repeat' first
   | (with_reducible exact ih0 _ _ _ _ _ _ _ _ _ _ _ _ _)
   | (with_reducible exact ih1 _ _ _ _ _ _ _ _ _ _ _ _ _ _)
   | (with_reducible exact jacquardref12_Limits.mono _ _ _ _)
   | (with_reducible exact jacquardref12_SignedLimits.mono _ _ _ _)
   | (with_reducible exact jacquardref13_Tighten.mono _ _ _ _ _ _)
   | (with_reducible exact jacquardref14_Valid.mono _ _ _ _ _ _ _ _)
   | (with_reducible exact LeO.refl _)
   | (with_reducible exact LeO.none _)
   | (with_reducible refine LeO.ite ?_ ?_)
   | (with_reducible refine LeO.bind ?_ (fun _ => ?_))
   | exact ih0 _ _ _ _ _ _ _ _ _ _ _ _ _
   | exact ih1 _ _ _ _ _ _ _ _ _ _ _ _ _ _
   | exact jacquardref12_Limits.mono _ _ _ _
   | exact jacquardref12_SignedLimits.mono _ _ _ _
   | exact jacquardref13_Tighten.mono _ _ _ _ _ _
   | exact jacquardref14_Valid.mono _ _ _ _ _ _ _ _
   | exact LeO.none _
   | refine LeO.ite ?_ ?_
   | refine LeO.bind ?_ (fun _ => ?_)
  ·
   intro y0 y1 y2 y3 y4 y5 y6 y7 y8 y9 y10 y11 y12 y13
   unfold jacquardref14_Tighten.j1
   repeat' first
   | (with_reducible exact ih0 _ _ _ _ _ _ _ _ _ _ _ _ _)
   | (with_reducible exact ih1 _ _ _ _ _ _ _ _ _ _ _ _ _ _)
   | (with_reducible exact jacquardref12_Limits.mono _ _ _ _)
   | (with_reducible exact jacquardref12_SignedLimits.mono _ _ _ _)
   | (with_reducible exact jacquardref13_Tighten.mono _ _ _ _ _ _)
   | (with_reducible exact jacquardref14_Valid.mono _ _ _ _ _ _ _ _)
   | (with_reducible exact LeO.refl _)
   | (with_reducible exact LeO.none _)
   | (with_reducible refine LeO.ite ?_ ?_)
   | (with_reducible refine LeO.bind ?_ (fun _ => ?_))
   | exact ih0 _ _ _ _ _ _ _ _ _ _ _ _ _
   | exact ih1 _ _ _ _ _ _ _ _ _ _ _ _ _ _
   | exact jacquardref12_Limits.mono _ _ _ _
   | exact jacquardref12_SignedLimits.mono _ _ _ _
   | exact jacquardref13_Tighten.mono _ _ _ _ _ _
   | exact jacquardref14_Valid.mono _ _ _ _ _ _ _ _
   | exact LeO.none _
   | refine LeO.ite ?_ ?_
   | refine LeO.bind ?_ (fun _ => ?_)
theorem jacquardref14_Tighten.mono : ∀ a0 a1 a2 a3 a4 a5 a6 k, LeO (jacquardref14_Tighten.f k a0 a1 a2 a3 a4 a5 a6) (jacquardref14_Tighten.f (k + 1) a0 a1 a2 a3 a4 a5 a6) := by
 intro a0 a1 a2 a3 a4 a5 a6 k
 obtain ⟨ih0, ih1⟩ := jacquardref14_Tighten.mono_l k
 unfold jacquardref14_Tighten.f
 repeat' first
   | (with_reducible exact ih0 _ _ _ _ _ _ _ _ _ _ _ _ _)
   | (with_reducible exact ih1 _ _ _ _ _ _ _ _ _ _ _ _ _ _)
   | (with_reducible exact jacquardref12_Limits.mono _ _ _ _)
   | (with_reducible exact jacquardref12_SignedLimits.mono _ _ _ _)
   | (with_reducible exact jacquardref13_Tighten.mono _ _ _ _ _ _)
   | (with_reducible exact jacquardref14_Valid.mono _ _ _ _ _ _ _ _)
   | (with_reducible exact LeO.refl _)
   | (with_reducible exact LeO.none _)
   | (with_reducible refine LeO.ite ?_ ?_)
   | (with_reducible refine LeO.bind ?_ (fun _ => ?_))
   | exact ih0 _ _ _ _ _ _ _ _ _ _ _ _ _
   | exact ih1 _ _ _ _ _ _ _ _ _ _ _ _ _ _
   | exact jacquardref12_Limits.mono _ _ _ _
   | exact jacquardref12_SignedLimits.mono _ _ _ _
   | exact jacquardref13_Tighten.mono _ _ _ _ _ _
   | exact jacquardref14_Valid.mono _ _ _ _ _ _ _ _
   | exact LeO.none _
   | refine LeO.ite ?_ ?_
   | refine LeO.bind ?_ (fun _ => ?_)
def jacquardref14_Tighten.T12 : Bool × List (List Nat × List Nat) := (true, [([], []), ([0], [0]), ([1], [1]), ([2], [2]), ([3, 2], [2, 3]), ([2], [2]), ([4, 5, 2, 2], [2, 4, 5]), ([2], [2]), ([7, 2], [2, 7]), ([2], [2]), ([8, 9, 6, 2], [2, 8, 9]), ([6, 10, 2], [2, 6, 10]), ([2, 11], [2, 11])])
def jacquardref14_Tighten.B12 : List Nat := [0, 1, 3, 7, 15, 7, 63, 7, 135, 7, 1023, 2047, 4095]
theorem jacquardref14_Tighten.tab12 : rtab .any (opsOf Try.f26 12) = jacquardref14_Tighten.T12 := by kernel_rfl
theorem jacquardref14_Tighten.bits12 : waitsOk jacquardref14_Tighten.T12.2 jacquardref14_Tighten.B12 = true := by kernel_rfl
set_option maxHeartbeats 8000000 in
set_option maxRecDepth 100000 in
theorem jacquardref14_Tighten.calls (k : Nat) (a0 : Int) (a1_0 : Int) (a1_1 : Int) (a1_2 : Int) (a1_3 : Int) (a1_4 : Int) (a1_5 : Int) (r1 : Int) (r2 : Int) (r3 : Int) (r4 : Int) (r5 : Int) (r6 : Int) (r7 : Bool) (w : World) (h : jacquardref14_Tighten.f k a0 a1_0 a1_1 a1_2 a1_3 a1_4 a1_5 = some (r1, r2, r3, r4, r5, r6, r7)) :
  Calls Try.prog 26 #[.int .i64 a0, .agg #[.int .u64 a1_0, .int .u64 a1_1, .int .u64 a1_2, .int .u64 a1_3, .int .i64 a1_4, .int .i64 a1_5]] w fun e w' => e = .returned (.tuple #[.agg #[.int .u64 r1, .int .u64 r2, .int .u64 r3, .int .u64 r4, .int .i64 r5, .int .i64 r6], .bool r7]) ∧ Below w.heap.size w w' := by
 have hu50 := Try.underlying50
 have hu30 := Try.underlying30
 have hu110 := Try.underlying110
 have HB := Aside0.mk (Below.refl w.heap.size w)
 have H : ((jacquardref14_Valid.f k a0 a1_0 a1_1 a1_2 a1_3 a1_4 a1_5).bind fun t285 => (if t285 = true then ((jacquardref14_bits.f a1_0 a1_1 a1_2 a1_3 a1_4 a1_5).bind fun bt286 => ((jacquardref12_Limits.f k a0 bt286.1 bt286.2).bind fun bt288 => ((jacquardref12_SignedLimits.f k a0 bt286.1 bt286.2).bind fun bt290 => ((jacquardref13_Tighten.f k a0 (mx bt288.1 a1_2) (mn bt288.2 a1_3) (mx bt290.1 a1_4) (mn bt290.2 a1_5)).bind fun bt293 => (if bt293.2.2.2.2 = true then (jacquardref14_Tighten.l0 k (wrap64 (a0 - 1)) 0 0 0 0 0 0 bt293.1 bt293.2.1 bt293.2.2.1 bt293.2.2.2.1 bt286.1 bt286.2) else (some (0, 0, 0, 0, 0, 0, false))))))) else (some (0, 0, 0, 0, 0, 0, false)))) = some (r1, r2, r3, r4, r5, r6, r7) := h
 clear h
 replace H := Option.bind_eq_some_iff.mp H
 obtain ⟨t285, A30, H⟩ := H
 replace H : (if t285 = true then ((jacquardref14_bits.f a1_0 a1_1 a1_2 a1_3 a1_4 a1_5).bind fun bt286 => ((jacquardref12_Limits.f k a0 bt286.1 bt286.2).bind fun bt288 => ((jacquardref12_SignedLimits.f k a0 bt286.1 bt286.2).bind fun bt290 => ((jacquardref13_Tighten.f k a0 (mx bt288.1 a1_2) (mn bt288.2 a1_3) (mx bt290.1 a1_4) (mn bt290.2 a1_5)).bind fun bt293 => (if bt293.2.2.2.2 = true then (jacquardref14_Tighten.l0 k (wrap64 (a0 - 1)) 0 0 0 0 0 0 bt293.1 bt293.2.1 bt293.2.2.1 bt293.2.2.2.1 bt286.1 bt286.2) else (some (0, 0, 0, 0, 0, 0, false))))))) else (some (0, 0, 0, 0, 0, 0, false))) = some (r1, r2, r3, r4, r5, r6, r7) := H
 have A3 := Aside0.mk A30
 clear A30
 by_cases c4 : t285 = true
 ·
  subst c4
  have H1 : ((jacquardref14_bits.f a1_0 a1_1 a1_2 a1_3 a1_4 a1_5).bind fun bt286 => ((jacquardref12_Limits.f k a0 bt286.1 bt286.2).bind fun bt288 => ((jacquardref12_SignedLimits.f k a0 bt286.1 bt286.2).bind fun bt290 => ((jacquardref13_Tighten.f k a0 (mx bt288.1 a1_2) (mn bt288.2 a1_3) (mx bt290.1 a1_4) (mn bt290.2 a1_5)).bind fun bt293 => (if bt293.2.2.2.2 = true then (jacquardref14_Tighten.l0 k (wrap64 (a0 - 1)) 0 0 0 0 0 0 bt293.1 bt293.2.1 bt293.2.2.1 bt293.2.2.2.1 bt286.1 bt286.2) else (some (0, 0, 0, 0, 0, 0, false))))))) = some (r1, r2, r3, r4, r5, r6, r7) := by rw [if_pos rfl] at H; exact H
  clear H
  have H := H1
  clear H1
  replace H := Option.bind_eq_some_iff.mp H
  obtain ⟨⟨t286, t287⟩, A50, H⟩ := H
  replace H : ((jacquardref12_Limits.f k a0 t286 t287).bind fun bt288 => ((jacquardref12_SignedLimits.f k a0 t286 t287).bind fun bt290 => ((jacquardref13_Tighten.f k a0 (mx bt288.1 a1_2) (mn bt288.2 a1_3) (mx bt290.1 a1_4) (mn bt290.2 a1_5)).bind fun bt293 => (if bt293.2.2.2.2 = true then (jacquardref14_Tighten.l0 k (wrap64 (a0 - 1)) 0 0 0 0 0 0 bt293.1 bt293.2.1 bt293.2.2.1 bt293.2.2.2.1 t286 t287) else (some (0, 0, 0, 0, 0, 0, false)))))) = some (r1, r2, r3, r4, r5, r6, r7) := H
  have A5 := Aside0.mk A50
  clear A50
  replace H := Option.bind_eq_some_iff.mp H
  obtain ⟨⟨t288, t289⟩, A60, H⟩ := H
  replace H : ((jacquardref12_SignedLimits.f k a0 t286 t287).bind fun bt290 => ((jacquardref13_Tighten.f k a0 (mx t288 a1_2) (mn t289 a1_3) (mx bt290.1 a1_4) (mn bt290.2 a1_5)).bind fun bt293 => (if bt293.2.2.2.2 = true then (jacquardref14_Tighten.l0 k (wrap64 (a0 - 1)) 0 0 0 0 0 0 bt293.1 bt293.2.1 bt293.2.2.1 bt293.2.2.2.1 t286 t287) else (some (0, 0, 0, 0, 0, 0, false))))) = some (r1, r2, r3, r4, r5, r6, r7) := H
  have A6 := Aside0.mk A60
  clear A60
  replace H := Option.bind_eq_some_iff.mp H
  obtain ⟨⟨t290, t291⟩, A70, H⟩ := H
  replace H : ((jacquardref13_Tighten.f k a0 (mx t288 a1_2) (mn t289 a1_3) (mx t290 a1_4) (mn t291 a1_5)).bind fun bt293 => (if bt293.2.2.2.2 = true then (jacquardref14_Tighten.l0 k (wrap64 (a0 - 1)) 0 0 0 0 0 0 bt293.1 bt293.2.1 bt293.2.2.1 bt293.2.2.2.1 t286 t287) else (some (0, 0, 0, 0, 0, 0, false)))) = some (r1, r2, r3, r4, r5, r6, r7) := H
  have A7 := Aside0.mk A70
  clear A70
  obtain ⟨ji8, hji8⟩ : ∃ j_ : Int, (mx t288 a1_2) = j_ := ⟨_, rfl⟩
  replace H : ((jacquardref13_Tighten.f k a0 (ji8) (mn t289 a1_3) (mx t290 a1_4) (mn t291 a1_5)).bind fun bt293 => (if bt293.2.2.2.2 = true then (jacquardref14_Tighten.l0 k (wrap64 (a0 - 1)) 0 0 0 0 0 0 bt293.1 bt293.2.1 bt293.2.2.1 bt293.2.2.2.1 t286 t287) else (some (0, 0, 0, 0, 0, 0, false)))) = some (r1, r2, r3, r4, r5, r6, r7) := by first | (rw [hji8] at H; exact H) | (simp only [hji8] at H ⊢; exact H)
  (try rw [hji8] at A3)
  (try rw [hji8] at A5)
  (try rw [hji8] at A6)
  (try rw [hji8] at A5)
  (try rw [hji8] at A7)
  have hji8_ : (if t288 < a1_2 then a1_2 else t288) = ji8 := hji8
  obtain ⟨ji9, hji9⟩ : ∃ j_ : Int, (mn t289 a1_3) = j_ := ⟨_, rfl⟩
  replace H : ((jacquardref13_Tighten.f k a0 (ji8) (ji9) (mx t290 a1_4) (mn t291 a1_5)).bind fun bt293 => (if bt293.2.2.2.2 = true then (jacquardref14_Tighten.l0 k (wrap64 (a0 - 1)) 0 0 0 0 0 0 bt293.1 bt293.2.1 bt293.2.2.1 bt293.2.2.2.1 t286 t287) else (some (0, 0, 0, 0, 0, 0, false)))) = some (r1, r2, r3, r4, r5, r6, r7) := by first | (rw [hji9] at H; exact H) | (simp only [hji9] at H ⊢; exact H)
  (try rw [hji9] at A3)
  (try rw [hji9] at A5)
  (try rw [hji9] at A6)
  (try rw [hji9] at A5)
  (try rw [hji9] at A7)
  have hji9_ : (if a1_3 < t289 then a1_3 else t289) = ji9 := hji9
  obtain ⟨ji10, hji10⟩ : ∃ j_ : Int, (mx t290 a1_4) = j_ := ⟨_, rfl⟩
  replace H : ((jacquardref13_Tighten.f k a0 (ji8) (ji9) (ji10) (mn t291 a1_5)).bind fun bt293 => (if bt293.2.2.2.2 = true then (jacquardref14_Tighten.l0 k (wrap64 (a0 - 1)) 0 0 0 0 0 0 bt293.1 bt293.2.1 bt293.2.2.1 bt293.2.2.2.1 t286 t287) else (some (0, 0, 0, 0, 0, 0, false)))) = some (r1, r2, r3, r4, r5, r6, r7) := by first | (rw [hji10] at H; exact H) | (simp only [hji10] at H ⊢; exact H)
  (try rw [hji10] at A3)
  (try rw [hji10] at A5)
  (try rw [hji10] at A6)
  (try rw [hji10] at A5)
  (try rw [hji10] at A7)
  have hji10_ : (if t290 < a1_4 then a1_4 else t290) = ji10 := hji10
  obtain ⟨ji11, hji11⟩ : ∃ j_ : Int, (mn t291 a1_5) = j_ := ⟨_, rfl⟩
  replace H : ((jacquardref13_Tighten.f k a0 (ji8) (ji9) (ji10) (ji11)).bind fun bt293 => (if bt293.2.2.2.2 = true then (jacquardref14_Tighten.l0 k (wrap64 (a0 - 1)) 0 0 0 0 0 0 bt293.1 bt293.2.1 bt293.2.2.1 bt293.2.2.2.1 t286 t287) else (some (0, 0, 0, 0, 0, 0, false)))) = some (r1, r2, r3, r4, r5, r6, r7) := by first | (rw [hji11] at H; exact H) | (simp only [hji11] at H ⊢; exact H)
  (try rw [hji11] at A3)
  (try rw [hji11] at A5)
  (try rw [hji11] at A6)
  (try rw [hji11] at A5)
  (try rw [hji11] at A7)
  have hji11_ : (if a1_5 < t291 then a1_5 else t291) = ji11 := hji11
  replace H := Option.bind_eq_some_iff.mp H
  obtain ⟨⟨t293, t294, t295, t296, t297⟩, A120, H⟩ := H
  replace H : (if t297 = true then (jacquardref14_Tighten.l0 k (wrap64 (a0 - 1)) 0 0 0 0 0 0 t293 t294 t295 t296 t286 t287) else (some (0, 0, 0, 0, 0, 0, false))) = some (r1, r2, r3, r4, r5, r6, r7) := H
  have A12 := Aside0.mk A120
  clear A120
  by_cases c13 : t297 = true
  ·
   subst c13
   have H1 : (jacquardref14_Tighten.l0 k (wrap64 (a0 - 1)) 0 0 0 0 0 0 t293 t294 t295 t296 t286 t287) = some (r1, r2, r3, r4, r5, r6, r7) := by rw [if_pos rfl] at H; exact H
   clear H
   have H := H1
   clear H1
   have H' := Aside0.mk H
   clear H
   go_enter Try.func26, Try.ntmps26
   go_wp2_with (first | ((with_reducible refine gate_dst (N := 3) rfl ?_); refine boxE (N := 3) (cs := #[.int .u64 a1_0, .int .u64 a1_1, .int .u64 a1_2, .int .u64 a1_3, .int .i64 a1_4, .int .i64 a1_5]) (t := 50) ?_; intro gb282 hg w14 hbox hb; have BK282 := Aside0.mk (hbox); have GW282 := szB hg HB.out; have GE282 := szB hg HB.out; replace HB := bsB HB.out hb; clear hb hbox hg) | ((with_reducible refine gate_dst (N := 4) rfl ?_); refine boxE (N := 4) (cs := #[.int .u64 0, .int .u64 0, .int .u64 0, .int .u64 0, .int .i64 0, .int .i64 0]) (t := 50) ?_; intro gb283 hg w15 hbox hb; have BK283 := Aside0.mk (hbox); have GW283 := szB hg HB.out; have GE283 := szB hg HB.out; have NB282_283 := neL hg BK282.out; have NB283_282 := neG hg BK282.out; replace BK282 := bkB BK282.out hb; replace HB := bsB HB.out hb; clear hb hbox hg) | ((with_reducible refine gate_dst (N := 6) rfl ?_); refine boxE (N := 6) (cs := #[.int .u64 0, .int .u64 0, .int .u64 0, .int .u64 0, .int .i64 0, .int .i64 0]) (t := 50) ?_; intro gb284 hg w16 hbox hb; have BK284 := Aside0.mk (hbox); have GW284 := szB hg HB.out; have GE284 := szB hg HB.out; have NB282_284 := neL hg BK282.out; have NB284_282 := neG hg BK282.out; have NB283_284 := neL hg BK283.out; have NB284_283 := neG hg BK283.out; replace BK282 := bkB BK282.out hb; replace BK283 := bkB BK283.out hb; replace HB := bsB HB.out hb; clear hb hbox hg; have hnb17 := NB282_283.out; have hnc17 := NB283_282.out; have hnb18 := NB282_284.out; have hnc18 := NB284_282.out; obtain ⟨hcz19_0, hcz19_1, hcz19_2, hcz19_3, hcz19_4, hcz19_5, hfz19_0, hfz19_1, hfz19_2, hfz19_3, hfz19_4, hfz19_5⟩ := own6 BK282.out) | ((with_reducible refine gate_callee (f := 27) rfl ?_); refine gL (some 18) Try.func27 #[.int .i64 a0, .agg #[.int .u64 a1_0, .int .u64 a1_1, .int .u64 a1_2, .int .u64 a1_3, .int .i64 a1_4, .int .i64 a1_5]] ?_; (with_reducible refine (jacquardref14_Valid.calls k a0 a1_0 a1_1 a1_2 a1_3 a1_4 a1_5 true _ A3.out).mono ?_); rintro e w20 ⟨rfl, hb⟩; refine ⟨_, rfl, ?_⟩; replace BK282 := bkB BK282.out hb; replace BK283 := bkB BK283.out hb; replace BK284 := bkB BK284.out hb; replace HB := bsB HB.out hb; (try clear hb); (try clear hb2); (try clear hk); (try clear hi); obtain ⟨hcz21_0, hcz21_1, hcz21_2, hcz21_3, hcz21_4, hcz21_5, hfz21_0, hfz21_1, hfz21_2, hfz21_3, hfz21_4, hfz21_5⟩ := own6 BK282.out) | ((with_reducible refine gate_callee (f := 80) rfl ?_); refine gL (some 24) Try.func80 #[.agg #[.int .u64 a1_0, .int .u64 a1_1, .int .u64 a1_2, .int .u64 a1_3, .int .i64 a1_4, .int .i64 a1_5]] ?_; (with_reducible refine (jacquardref14_bits.calls a1_0 a1_1 a1_2 a1_3 a1_4 a1_5 t286 t287 _ A5.out).mono ?_); rintro e w22 ⟨rfl, hb⟩; refine ⟨_, rfl, ?_⟩; replace BK282 := bkB BK282.out hb; replace BK283 := bkB BK283.out hb; replace BK284 := bkB BK284.out hb; replace HB := bsB HB.out hb; (try clear hb); (try clear hb2); (try clear hk); (try clear hi)) | ((with_reducible refine gate_callee (f := 79) rfl ?_); refine gL (some 25) Try.func79 #[.int .i64 a0, .agg #[.int .u64 t286, .int .u64 t287]] ?_; (with_reducible refine (jacquardref12_Limits.calls k a0 t286 t287 t288 t289 _ A6.out).mono ?_); rintro e w23 ⟨rfl, hb⟩; refine ⟨_, rfl, ?_⟩; replace BK282 := bkB BK282.out hb; replace BK283 := bkB BK283.out hb; replace BK284 := bkB BK284.out hb; replace HB := bsB HB.out hb; (try clear hb); (try clear hb2); (try clear hk); (try clear hi); obtain ⟨hcz24_0, hcz24_1, hcz24_2, hcz24_3, hcz24_4, hcz24_5, hfz24_0, hfz24_1, hfz24_2, hfz24_3, hfz24_4, hfz24_5⟩ := own6 BK282.out) | ((with_reducible refine gate_callee (f := 80) rfl ?_); refine gL (some 31) Try.func80 #[.agg #[.int .u64 a1_0, .int .u64 a1_1, .int .u64 a1_2, .int .u64 a1_3, .int .i64 a1_4, .int .i64 a1_5]] ?_; (with_reducible refine (jacquardref14_bits.calls a1_0 a1_1 a1_2 a1_3 a1_4 a1_5 t286 t287 _ A5.out).mono ?_); rintro e w25 ⟨rfl, hb⟩; refine ⟨_, rfl, ?_⟩; replace BK282 := bkB BK282.out hb; replace BK283 := bkB BK283.out hb; replace BK284 := bkB BK284.out hb; replace HB := bsB HB.out hb; (try clear hb); (try clear hb2); (try clear hk); (try clear hi)) | ((with_reducible refine gate_callee (f := 81) rfl ?_); refine gL (some 32) Try.func81 #[.int .i64 a0, .agg #[.int .u64 t286, .int .u64 t287]] ?_; (with_reducible refine (jacquardref12_SignedLimits.calls k a0 t286 t287 t290 t291 _ A7.out).mono ?_); rintro e w26 ⟨rfl, hb⟩; refine ⟨_, rfl, ?_⟩; replace BK282 := bkB BK282.out hb; replace BK283 := bkB BK283.out hb; replace BK284 := bkB BK284.out hb; replace HB := bsB HB.out hb; (try clear hb); (try clear hb2); (try clear hk); (try clear hi); obtain ⟨hcz27_0, hcz27_1, hcz27_2, hcz27_3, hcz27_4, hcz27_5, hfz27_0, hfz27_1, hfz27_2, hfz27_3, hfz27_4, hfz27_5⟩ := own6 BK282.out) | ((with_reducible refine gate_dst (N := 11) rfl ?_); refine boxE (N := 11) (cs := #[.int .u64 0, .int .u64 0, .int .i64 0, .int .i64 0]) (t := 30) ?_; intro gb292 hg w28 hbox hb; have BK292 := Aside0.mk (hbox); have GW292 := szB hg HB.out; have GE292 := szB hg HB.out; have NB282_292 := neL hg BK282.out; have NB292_282 := neG hg BK282.out; have NB283_292 := neL hg BK283.out; have NB292_283 := neG hg BK283.out; have NB284_292 := neL hg BK284.out; have NB292_284 := neG hg BK284.out; replace BK282 := bkB BK282.out hb; replace BK283 := bkB BK283.out hb; replace BK284 := bkB BK284.out hb; replace HB := bsB HB.out hb; clear hb hbox hg; have hnb29 := NB292_282.out; have hnc29 := NB282_292.out; have hnb30 := NB292_283.out; have hnc30 := NB283_292.out; have hnb31 := NB292_284.out; have hnc31 := NB284_292.out; obtain ⟨hcz32_0, hcz32_1, hcz32_2, hcz32_3, hfz32_0, hfz32_1, hfz32_2, hfz32_3⟩ := own4 BK292.out) | ((with_reducible refine gate_callee (f := 59) rfl ?_); refine goesL_ (some 55) rfl rfl Try.func59 (by kernel_rfl) rfl #[.int .i64 a0, .agg #[.int .u64 ji8, .int .u64 ji9, .int .i64 ji10, .int .i64 ji11]] rfl (by (try simp only [List.map_toArray, List.map_cons, List.map_nil]); first | done | (simp only [hji10, hji11, hji8, hji9]; rfl) | rfl | (simp only [List.length_drop, List.length_take]; rfl)) ?_; (with_reducible refine (jacquardref13_Tighten.calls k a0 ji8 ji9 ji10 ji11 t293 t294 t295 t296 true _ A12.out).mono ?_); rintro e w33 ⟨rfl, hb⟩; refine ⟨_, rfl, ?_⟩; replace BK282 := Aside0.mk (blk_below (g := gb282) (o := .cells #[.int .u64 a1_0, .int .u64 a1_1, .int .u64 a1_2, .int .u64 a1_3, .int .i64 a1_4, .int .i64 a1_5] 50 (0, 0)) (by exact bfL BK282.out) hb); replace BK283 := Aside0.mk (blk_below (g := gb283) (o := .cells #[.int .u64 0, .int .u64 0, .int .u64 0, .int .u64 0, .int .i64 0, .int .i64 0] 50 (0, 0)) (by exact bfL BK283.out) hb); replace BK284 := Aside0.mk (blk_below (g := gb284) (o := .cells #[.int .u64 0, .int .u64 0, .int .u64 0, .int .u64 0, .int .i64 0, .int .i64 0] 50 (0, 0)) (by exact bfL BK284.out) hb); replace BK292 := Aside0.mk (blk_below (g := gb292) (o := .cells #[.int .u64 ji8, .int .u64 ji9, .int .i64 ji10, .int .i64 ji11] 30 (0, 0)) (by (with_reducible repeat (first | refine blk_drewN ?_ _ | refine blk_drew ?_ | refine blk_alloc ?_ _)); refine blk_put (cs := #[.int .u64 ji8, .int .u64 ji9, .int .i64 ji10, .int .i64 0]) ?_ 3 _ rfl; (with_reducible repeat (first | refine blk_drewN ?_ _ | refine blk_drew ?_ | refine blk_alloc ?_ _)); refine blk_put (cs := #[.int .u64 ji8, .int .u64 ji9, .int .i64 0, .int .i64 0]) ?_ 2 _ rfl; (with_reducible repeat (first | refine blk_drewN ?_ _ | refine blk_drew ?_ | refine blk_alloc ?_ _)); refine blk_put (cs := #[.int .u64 ji8, .int .u64 0, .int .i64 0, .int .i64 0]) ?_ 1 _ rfl; (with_reducible repeat (first | refine blk_drewN ?_ _ | refine blk_drew ?_ | refine blk_alloc ?_ _)); refine blk_put (cs := #[.int .u64 0, .int .u64 0, .int .i64 0, .int .i64 0]) ?_ 0 _ rfl; exact bfL BK292.out) hb); replace HB := bsB HB.out hb; (try clear hb); (try clear hb2); (try clear hk); (try clear hi)) | ((with_reducible refine gate_dst (N := 12) rfl ?_); refine boxE (N := 12) (cs := #[.int .u64 0, .int .u64 0, .int .i64 0, .int .i64 0]) (t := 30) ?_; intro gb298 hg w34 hbox hb; have BK298 := Aside0.mk (hbox); have GW298 := szB hg HB.out; have GE298 := szB hg HB.out; have NB282_298 := neL hg BK282.out; have NB298_282 := neG hg BK282.out; have NB283_298 := neL hg BK283.out; have NB298_283 := neG hg BK283.out; have NB284_298 := neL hg BK284.out; have NB298_284 := neG hg BK284.out; have NB292_298 := neL hg BK292.out; have NB298_292 := neG hg BK292.out; replace BK282 := bkB BK282.out hb; replace BK283 := bkB BK283.out hb; replace BK284 := bkB BK284.out hb; replace BK292 := bkB BK292.out hb; replace HB := bsB HB.out hb; clear hb hbox hg; have hnb35 := NB298_282.out; have hnc35 := NB282_298.out; have hnb36 := NB298_283.out; have hnc36 := NB283_298.out; have hnb37 := NB298_284.out; have hnc37 := NB284_298.out; have hnb38 := NB298_292.out; have hnc38 := NB292_298.out; obtain ⟨hcz39_0, hcz39_1, hcz39_2, hcz39_3, hfz39_0, hfz39_1, hfz39_2, hfz39_3⟩ := own4 BK298.out; obtain ⟨hcz40_0, hcz40_1, hcz40_2, hcz40_3, hcz40_4, hcz40_5, hfz40_0, hfz40_1, hfz40_2, hfz40_3, hfz40_4, hfz40_5⟩ := own6 BK282.out) | ((with_reducible refine gate_callee (f := 80) rfl ?_); refine gL (some 62) Try.func80 #[.agg #[.int .u64 a1_0, .int .u64 a1_1, .int .u64 a1_2, .int .u64 a1_3, .int .i64 a1_4, .int .i64 a1_5]] ?_; (with_reducible refine (jacquardref14_bits.calls a1_0 a1_1 a1_2 a1_3 a1_4 a1_5 t286 t287 _ A5.out).mono ?_); rintro e w41 ⟨rfl, hb⟩; refine ⟨_, rfl, ?_⟩; replace BK282 := Aside0.mk (blk_below (g := gb282) (o := .cells #[.int .u64 a1_0, .int .u64 a1_1, .int .u64 a1_2, .int .u64 a1_3, .int .i64 a1_4, .int .i64 a1_5] 50 (0, 0)) (by exact bfL BK282.out) hb); replace BK283 := Aside0.mk (blk_below (g := gb283) (o := .cells #[.int .u64 0, .int .u64 0, .int .u64 0, .int .u64 0, .int .i64 0, .int .i64 0] 50 (0, 0)) (by exact bfL BK283.out) hb); replace BK284 := Aside0.mk (blk_below (g := gb284) (o := .cells #[.int .u64 0, .int .u64 0, .int .u64 0, .int .u64 0, .int .i64 0, .int .i64 0] 50 (0, 0)) (by exact bfL BK284.out) hb); replace BK292 := Aside0.mk (blk_below (g := gb292) (o := .cells #[.int .u64 ji8, .int .u64 ji9, .int .i64 ji10, .int .i64 ji11] 30 (0, 0)) (by exact bfL BK292.out) hb); replace BK298 := Aside0.mk (blk_below (g := gb298) (o := .cells #[.int .u64 t293, .int .u64 t294, .int .i64 t295, .int .i64 t296] 30 (0, 0)) (by (with_reducible repeat (first | refine blk_drewN ?_ _ | refine blk_drew ?_ | refine blk_alloc ?_ _)); refine blk_put (cs := #[.int .u64 t293, .int .u64 t294, .int .i64 t295, .int .i64 0]) ?_ 3 _ rfl; (with_reducible repeat (first | refine blk_drewN ?_ _ | refine blk_drew ?_ | refine blk_alloc ?_ _)); refine blk_put (cs := #[.int .u64 t293, .int .u64 t294, .int .i64 0, .int .i64 0]) ?_ 2 _ rfl; (with_reducible repeat (first | refine blk_drewN ?_ _ | refine blk_drew ?_ | refine blk_alloc ?_ _)); refine blk_put (cs := #[.int .u64 t293, .int .u64 0, .int .i64 0, .int .i64 0]) ?_ 1 _ rfl; (with_reducible repeat (first | refine blk_drewN ?_ _ | refine blk_drew ?_ | refine blk_alloc ?_ _)); refine blk_put (cs := #[.int .u64 0, .int .u64 0, .int .i64 0, .int .i64 0]) ?_ 0 _ rfl; exact bfL BK298.out) hb); replace HB := bsB HB.out hb; (try clear hb); (try clear hb2); (try clear hk); (try clear hi)) | ((with_reducible refine gate_dst (N := 14) rfl ?_); refine boxE (N := 14) (cs := #[.int .u64 0, .int .u64 0]) (t := 110) ?_; intro gb299 hg w42 hbox hb; have BK299 := Aside0.mk (hbox); have GW299 := szB hg HB.out; have GE299 := szB hg HB.out; have NB282_299 := neL hg BK282.out; have NB299_282 := neG hg BK282.out; have NB283_299 := neL hg BK283.out; have NB299_283 := neG hg BK283.out; have NB284_299 := neL hg BK284.out; have NB299_284 := neG hg BK284.out; have NB292_299 := neL hg BK292.out; have NB299_292 := neG hg BK292.out; have NB298_299 := neL hg BK298.out; have NB299_298 := neG hg BK298.out; replace BK282 := bkB BK282.out hb; replace BK283 := bkB BK283.out hb; replace BK284 := bkB BK284.out hb; replace BK292 := bkB BK292.out hb; replace BK298 := bkB BK298.out hb; replace HB := bsB HB.out hb; clear hb hbox hg; have hnb43 := NB299_282.out; have hnc43 := NB282_299.out; have hnb44 := NB299_283.out; have hnc44 := NB283_299.out; have hnb45 := NB299_284.out; have hnc45 := NB284_299.out; have hnb46 := NB299_292.out; have hnc46 := NB292_299.out; have hnb47 := NB299_298.out; have hnc47 := NB298_299.out; obtain ⟨hcz48_0, hcz48_1, hfz48_0, hfz48_1⟩ := own2 BK299.out))
   go_loopg [15] k (fun kq v15 w' => ∃ (x15_1 : Int) (x300000_1 : Int) (x300001_1 : Int), v15 = .int .i64 x15_1 ∧ Aside0 (jacquardref14_Tighten.l0 kq x15_1 0 0 0 0 0 0 t293 t294 t295 t296 x300000_1 x300001_1 = some (r1, r2, r3, r4, r5, r6, r7)) ∧ Aside0 (kq ≤ k) ∧ Aside0 (w'.heap[gb282]? = some (.cells #[.int .u64 a1_0, .int .u64 a1_1, .int .u64 a1_2, .int .u64 a1_3, .int .i64 a1_4, .int .i64 a1_5] 50 (0, 0))) ∧ Aside0 (w'.heap[gb283]? = some (.cells #[.int .u64 0, .int .u64 0, .int .u64 0, .int .u64 0, .int .i64 0, .int .i64 0] 50 (0, 0))) ∧ Aside0 (w'.heap[gb284]? = some (.cells #[.int .u64 0, .int .u64 0, .int .u64 0, .int .u64 0, .int .i64 0, .int .i64 0] 50 (0, 0))) ∧ Aside0 (w'.heap[gb292]? = some (.cells #[.int .u64 ji8, .int .u64 ji9, .int .i64 ji10, .int .i64 ji11] 30 (0, 0))) ∧ Aside0 (w'.heap[gb298]? = some (.cells #[.int .u64 t293, .int .u64 t294, .int .i64 t295, .int .i64 t296] 30 (0, 0))) ∧ Aside0 (w'.heap[gb299]? = some (.cells #[.int .u64 x300000_1, .int .u64 x300001_1] 110 (0, 0))) ∧ Aside0 (Below w.heap.size w w'))
   case atStart => exact ⟨(wrap64 (a0 - 1)), (t286), (t287), (by first | rfl | (simp; done) | (simp [*]; done)), H', ⟨Nat.le_refl _⟩, ⟨by exact bfL BK282.out⟩, ⟨by exact bfL BK283.out⟩, ⟨by exact bfL BK284.out⟩, ⟨by exact bfL BK292.out⟩, ⟨by exact bfL BK298.out⟩, ⟨by (with_reducible repeat (first | refine blk_drewN ?_ _ | refine blk_drew ?_ | refine blk_alloc ?_ _)); refine blk_put (cs := #[.int .u64 t286, .int .u64 0]) ?_ 1 _ rfl; (with_reducible repeat (first | refine blk_drewN ?_ _ | refine blk_drew ?_ | refine blk_alloc ?_ _)); refine blk_put (cs := #[.int .u64 0, .int .u64 0]) ?_ 0 _ rfl; exact bfL BK299.out⟩, ⟨bsL HB.out⟩⟩
   case round =>
    clear H'
    try clear c1
    try clear c2
    try clear p2
    try clear c3
    try clear c4
    try clear c5
    try clear p6
    try clear c7
    try clear c8
    try clear c13
    try clear c17
    try clear c18
    try clear c26
    try clear c27
    try clear c29
    try clear c30
    try clear c31
    try clear c35
    try clear c36
    try clear c37
    try clear c38
    try clear c43
    try clear c44
    try clear c45
    try clear c46
    try clear c47
    try clear hcz19_0
    try clear hcz19_1
    try clear hcz19_2
    try clear hcz19_3
    try clear hcz19_4
    try clear hcz19_5
    try clear hcz21_0
    try clear hcz21_1
    try clear hcz21_2
    try clear hcz21_3
    try clear hcz21_4
    try clear hcz21_5
    try clear hcz24_0
    try clear hcz24_1
    try clear hcz24_2
    try clear hcz24_3
    try clear hcz24_4
    try clear hcz24_5
    try clear hcz27_0
    try clear hcz27_1
    try clear hcz27_2
    try clear hcz27_3
    try clear hcz27_4
    try clear hcz27_5
    try clear hcz32_0
    try clear hcz32_1
    try clear hcz32_2
    try clear hcz32_3
    try clear hcz39_0
    try clear hcz39_1
    try clear hcz39_2
    try clear hcz39_3
    try clear hcz40_0
    try clear hcz40_1
    try clear hcz40_2
    try clear hcz40_3
    try clear hcz40_4
    try clear hcz40_5
    try clear hcz48_0
    try clear hcz48_1
    try clear hfz19_0
    try clear hfz19_1
    try clear hfz19_2
    try clear hfz19_3
    try clear hfz19_4
    try clear hfz19_5
    try clear hfz21_0
    try clear hfz21_1
    try clear hfz21_2
    try clear hfz21_3
    try clear hfz21_4
    try clear hfz21_5
    try clear hfz24_0
    try clear hfz24_1
    try clear hfz24_2
    try clear hfz24_3
    try clear hfz24_4
    try clear hfz24_5
    try clear hfz27_0
    try clear hfz27_1
    try clear hfz27_2
    try clear hfz27_3
    try clear hfz27_4
    try clear hfz27_5
    try clear hfz32_0
    try clear hfz32_1
    try clear hfz32_2
    try clear hfz32_3
    try clear hfz39_0
    try clear hfz39_1
    try clear hfz39_2
    try clear hfz39_3
    try clear hfz40_0
    try clear hfz40_1
    try clear hfz40_2
    try clear hfz40_3
    try clear hfz40_4
    try clear hfz40_5
    try clear hfz48_0
    try clear hfz48_1
    obtain ⟨x15_1, x300000_1, x300001_1, rfl, HA, HK1, BK282, BK283, BK284, BK292, BK298, BK299, HB⟩ := hrel
    cases gk with
    | zero => exact absurd HA.out (by simp [jacquardref14_Tighten.l0])
    | succ k1 =>
     have H := HA.out
     clear HA
     simp only [jacquardref14_Tighten.l0] at H
     have HC49 := Aside0.mk H
     clear H
     go_upto_region 12 with (fail)
     go_cut [77] (fun v77 wc => ∃ (kq : Nat) (x77_48 : Bool), v77 = .bool x77_48 ∧ Aside0 (jacquardref14_Tighten.j1 kq x15_1 x77_48 0 0 0 0 0 0 t293 t294 t295 t296 x300000_1 x300001_1 = some (r1, r2, r3, r4, r5, r6, r7)) ∧ Aside0 (kq ≤ k1) ∧ Aside0 (wc.heap[gb282]? = some (.cells #[.int .u64 a1_0, .int .u64 a1_1, .int .u64 a1_2, .int .u64 a1_3, .int .i64 a1_4, .int .i64 a1_5] 50 (0, 0))) ∧ Aside0 (wc.heap[gb283]? = some (.cells #[.int .u64 0, .int .u64 0, .int .u64 0, .int .u64 0, .int .i64 0, .int .i64 0] 50 (0, 0))) ∧ Aside0 (wc.heap[gb284]? = some (.cells #[.int .u64 0, .int .u64 0, .int .u64 0, .int .u64 0, .int .i64 0, .int .i64 0] 50 (0, 0))) ∧ Aside0 (wc.heap[gb292]? = some (.cells #[.int .u64 ji8, .int .u64 ji9, .int .i64 ji10, .int .i64 ji11] 30 (0, 0))) ∧ Aside0 (wc.heap[gb298]? = some (.cells #[.int .u64 t293, .int .u64 t294, .int .i64 t295, .int .i64 t296] 30 (0, 0))) ∧ Aside0 (wc.heap[gb299]? = some (.cells #[.int .u64 x300000_1, .int .u64 x300001_1] 110 (0, 0))) ∧ Aside0 (Below w.heap.size w wc))
     case first =>
      have H := HC49.out
      clear HC49
      by_cases c50 : x15_1 ≥ 0
      ·
       rw [if_pos c50] at H
       have c50b0 : decide (0 ≤ x15_1) = true := decide_eq_true c50
       clear c50
       (first | rw [c50b0] | (simp only [i64_w, i32_w]; rw [c50b0]) | skip)
       replace H := Option.bind_eq_some_iff.mp H
       obtain ⟨t300, A510, H⟩ := H
       replace H : ((jacquardref12_Bit.f t294 x15_1).bind fun t301 => (jacquardref14_Tighten.j1 k1 x15_1 (t300 == t301) 0 0 0 0 0 0 t293 t294 t295 t296 x300000_1 x300001_1)) = some (r1, r2, r3, r4, r5, r6, r7) := H
       have A51 := Aside0.mk A510
       clear A510
       replace H := Option.bind_eq_some_iff.mp H
       obtain ⟨t301, A520, H⟩ := H
       replace H : (jacquardref14_Tighten.j1 k1 x15_1 (t300 == t301) 0 0 0 0 0 0 t293 t294 t295 t296 x300000_1 x300001_1) = some (r1, r2, r3, r4, r5, r6, r7) := H
       have A52 := Aside0.mk A520
       clear A520
       have H' := Aside0.mk H
       clear H
       try go_wp2
       replace BK282 := Aside0.mk (blk_drew BK282.out)
       replace BK283 := Aside0.mk (blk_drew BK283.out)
       replace BK284 := Aside0.mk (blk_drew BK284.out)
       replace BK292 := Aside0.mk (blk_drew BK292.out)
       replace BK298 := Aside0.mk (blk_drew BK298.out)
       replace BK299 := Aside0.mk (blk_drew BK299.out)
       replace HB := Aside0.mk (below_drew1 HB.out)
       refine start_ (n := 13) (S := fun w' => w'.cell? ⟨gb298, 0, none⟩ = some (.int .u64 t293) ∧ w'.cell? ⟨gb298, 1, none⟩ = some (.int .u64 t294) ∧ w'.cell? ⟨gb298, 2, none⟩ = some (.int .i64 t295) ∧ w'.cell? ⟨gb298, 3, none⟩ = some (.int .i64 t296)) (ds := []) (bA 13 0) (by kernel_rfl) rfl rfl (by repeat' (first | apply And.intro | exact (blk_cell BK298.out _).trans rfl)) (fun hHeld => ?_); refine with_tabW jacquardref14_Tighten.tab12 jacquardref14_Tighten.bits12 (fun HT_ HW_ => ?_)
       generalize wr.drew = w53 at BK282 BK283 BK284 BK292 BK298 BK299 HB hHeld ⊢
       refine pureA HT_ (i := 0) (N := some 65) (bA 13 1) ?_
       refine pureA HT_ (i := 1) (N := some 66) (bA 13 3) ?_
       refine pureA HT_ (i := 2) (N := some 67) (bA 13 7) ?_
       refine pureA HT_ (i := 3) (N := some 68) (bA 13 15) ?_
       refine pureA HT_ (i := 5) (N := some 70) (bA 13 47) ?_
       refine pureA HT_ (i := 7) (N := some 72) (bA 13 175) ?_
       refine pureA HT_ (i := 9) (N := some 74) (bA 13 687) ?_
       refine takeA HT_ HW_ hHeld (i := 4) (N := some 69) (bA 13 703) ?_ (hy := by rintro w' ⟨s0, s1, s2, s3⟩; go_simp; with_reducible rfl)
       refine takeA HT_ HW_ hHeld (i := 8) (N := some 73) (bA 13 959) ?_ (hy := by rintro w' ⟨s0, s1, s2, s3⟩; go_simp; with_reducible rfl)
       refine one_ (i := 6) (N := some 71) (bA 13 1023) rfl rfl (one_of HT_.out (by kernel_rfl)) (by decide) (fun K hK => ?_)
       refine gO Try.func71 #[.int .u64 t293, .int .i64 x15_1] ?_
       with_reducible refine (jacquardref12_Bit.calls t293 x15_1 t300 _ A51.out).mono ?_
       rintro e w' ⟨rfl, ⟨nd, rfl⟩⟩
       refine ⟨_, rfl, ?_⟩
       refine hK.out _ _ (by repeat' (first | apply And.intro | exact (blk_cell BK298.out _).trans rfl)) (fun hHeld => ?_)
       clear hK K
       refine normA (some 71) ?_
       refine one_ (i := 10) (N := some 75) (bA 13 2047) rfl rfl (one_of HT_.out (by kernel_rfl)) (by decide) (fun K hK => ?_)
       refine gO Try.func71 #[.int .u64 t294, .int .i64 x15_1] ?_
       with_reducible refine (jacquardref12_Bit.calls t294 x15_1 t301 _ A52.out).mono ?_
       rintro e w' ⟨rfl, ⟨nd, rfl⟩⟩
       refine ⟨_, rfl, ?_⟩
       refine hK.out _ _ (by repeat' (first | apply And.intro | exact (blk_cell BK298.out _).trans rfl)) (fun hHeld => ?_)
       clear hK K
       refine normA (some 75) ?_
       refine pureA HT_ (i := 11) (N := some 76) (bA 13 4095) ?_
       refine pureA HT_ (i := 12) (N := some 77) (bA 13 8191) ?_
       refine done_ (done_of HT_.out (by kernel_rfl)) ?_
       try go_wp2
       go_meet
       case rel => exact ⟨_, ((t300 == t301)), (by first | rfl | (simp; done) | (simp [*]; done)), H', ⟨by have := HK1.out; first | omega | exact Nat.le_refl _⟩, ⟨bkL BK282.out⟩, ⟨bkL BK283.out⟩, ⟨bkL BK284.out⟩, ⟨bkL BK292.out⟩, ⟨bkL BK298.out⟩, ⟨bkL BK299.out⟩, ⟨bsL HB.out⟩⟩
      ·
       rw [if_neg c50] at H
       have c50b0 : decide (0 ≤ x15_1) = false := decide_eq_false c50
       clear c50
       (first | rw [c50b0] | (simp only [i64_w, i32_w]; rw [c50b0]) | skip)
       have H' := Aside0.mk H
       clear H
       try go_wp2
       replace BK282 := Aside0.mk (blk_drew BK282.out)
       replace BK283 := Aside0.mk (blk_drew BK283.out)
       replace BK284 := Aside0.mk (blk_drew BK284.out)
       replace BK292 := Aside0.mk (blk_drew BK292.out)
       replace BK298 := Aside0.mk (blk_drew BK298.out)
       replace BK299 := Aside0.mk (blk_drew BK299.out)
       replace HB := Aside0.mk (below_drew1 HB.out)
       refine start_ (n := 13) (S := fun w' => True) (ds := []) (bA 13 0) (by kernel_rfl) rfl rfl trivial (fun hHeld => ?_); refine with_tabW jacquardref14_Tighten.tab12 jacquardref14_Tighten.bits12 (fun HT_ HW_ => ?_)
       generalize wr.drew = w54 at BK282 BK283 BK284 BK292 BK298 BK299 HB hHeld ⊢
       refine pureA HT_ (i := 0) (N := some 65) (bA 13 1) ?_
       refine pureA HT_ (i := 1) (N := some 66) (bA 13 3) ?_
       refine pureA HT_ (i := 2) (N := some 67) (bA 13 7) ?_
       refine pureU HT_ (i := 3) (N := some 68) (bA 13 15) ?_
       refine pureU HT_ (i := 4) (N := some 69) (bA 13 31) ?_
       refine pureU HT_ (i := 5) (N := some 70) (bA 13 63) ?_
       refine pureU HT_ (i := 6) (N := some 71) (bA 13 127) ?_
       refine pureU HT_ (i := 7) (N := some 72) (bA 13 255) ?_
       refine pureU HT_ (i := 8) (N := some 73) (bA 13 511) ?_
       refine pureU HT_ (i := 9) (N := some 74) (bA 13 1023) ?_
       refine pureU HT_ (i := 10) (N := some 75) (bA 13 2047) ?_
       refine pureU HT_ (i := 11) (N := some 76) (bA 13 4095) ?_
       refine pureA HT_ (i := 12) (N := some 77) (bA 13 8191) ?_
       refine done_ (done_of HT_.out (by kernel_rfl)) ?_
       try go_wp2
       go_meet
       case rel => exact ⟨_, (false), (by first | rfl | (simp; done) | (simp [*]; done)), H', ⟨by have := HK1.out; first | omega | exact Nat.le_refl _⟩, ⟨bkL BK282.out⟩, ⟨bkL BK283.out⟩, ⟨bkL BK284.out⟩, ⟨bkL BK292.out⟩, ⟨bkL BK298.out⟩, ⟨bkL BK299.out⟩, ⟨bsL HB.out⟩⟩
     case rest =>
      clear HC49
      try clear c1
      try clear c2
      try clear p2
      try clear c3
      try clear c4
      try clear c5
      try clear p6
      try clear c7
      try clear c8
      try clear c13
      try clear c17
      try clear c18
      try clear c26
      try clear c27
      try clear c29
      try clear c30
      try clear c31
      try clear c35
      try clear c36
      try clear c37
      try clear c38
      try clear c43
      try clear c44
      try clear c45
      try clear c46
      try clear c47
      try clear c50
      try clear c50b0
      try clear hcz19_0
      try clear hcz19_1
      try clear hcz19_2
      try clear hcz19_3
      try clear hcz19_4
      try clear hcz19_5
      try clear hcz21_0
      try clear hcz21_1
      try clear hcz21_2
      try clear hcz21_3
      try clear hcz21_4
      try clear hcz21_5
      try clear hcz24_0
      try clear hcz24_1
      try clear hcz24_2
      try clear hcz24_3
      try clear hcz24_4
      try clear hcz24_5
      try clear hcz27_0
      try clear hcz27_1
      try clear hcz27_2
      try clear hcz27_3
      try clear hcz27_4
      try clear hcz27_5
      try clear hcz32_0
      try clear hcz32_1
      try clear hcz32_2
      try clear hcz32_3
      try clear hcz39_0
      try clear hcz39_1
      try clear hcz39_2
      try clear hcz39_3
      try clear hcz40_0
      try clear hcz40_1
      try clear hcz40_2
      try clear hcz40_3
      try clear hcz40_4
      try clear hcz40_5
      try clear hcz48_0
      try clear hcz48_1
      try clear hfz19_0
      try clear hfz19_1
      try clear hfz19_2
      try clear hfz19_3
      try clear hfz19_4
      try clear hfz19_5
      try clear hfz21_0
      try clear hfz21_1
      try clear hfz21_2
      try clear hfz21_3
      try clear hfz21_4
      try clear hfz21_5
      try clear hfz24_0
      try clear hfz24_1
      try clear hfz24_2
      try clear hfz24_3
      try clear hfz24_4
      try clear hfz24_5
      try clear hfz27_0
      try clear hfz27_1
      try clear hfz27_2
      try clear hfz27_3
      try clear hfz27_4
      try clear hfz27_5
      try clear hfz32_0
      try clear hfz32_1
      try clear hfz32_2
      try clear hfz32_3
      try clear hfz39_0
      try clear hfz39_1
      try clear hfz39_2
      try clear hfz39_3
      try clear hfz40_0
      try clear hfz40_1
      try clear hfz40_2
      try clear hfz40_3
      try clear hfz40_4
      try clear hfz40_5
      try clear hfz48_0
      try clear hfz48_1
      try clear p2
      try clear p6
      obtain ⟨kq, x77_48, rfl, HA, HJ48, BK282, BK283, BK284, BK292, BK298, BK299, HB⟩ := hcut
      cases kq with
      | zero => exact absurd HA.out (by simp [jacquardref14_Tighten.j1])
      | succ kj48 =>
       have H := HA.out
       clear HA
       simp only [jacquardref14_Tighten.j1] at H
       by_cases c55 : x77_48 = true
       ·
        subst c55
        have H1 : ((jacquardref12_Bit.f t293 x15_1).bind fun t302 => (if t302 = 1 then (if 0 ≤ x15_1 then (jacquardref14_Tighten.l0 kj48 (wrap64 (x15_1 - 1)) 0 0 0 0 0 0 t293 t294 t295 t296 x300000_1 (Go.bits .or .u64 x300001_1 (shl .u64 1 x15_1))) else (none)) else (if 0 ≤ x15_1 then (jacquardref14_Tighten.l0 kj48 (wrap64 (x15_1 - 1)) 0 0 0 0 0 0 t293 t294 t295 t296 (Go.bits .or .u64 x300000_1 (shl .u64 1 x15_1)) x300001_1) else (none)))) = some (r1, r2, r3, r4, r5, r6, r7) := by rw [if_pos rfl] at H; exact H
        clear H
        have H := H1
        clear H1
        replace H := Option.bind_eq_some_iff.mp H
        obtain ⟨t302, A560, H⟩ := H
        replace H : (if t302 = 1 then (if 0 ≤ x15_1 then (jacquardref14_Tighten.l0 kj48 (wrap64 (x15_1 - 1)) 0 0 0 0 0 0 t293 t294 t295 t296 x300000_1 (Go.bits .or .u64 x300001_1 (shl .u64 1 x15_1))) else (none)) else (if 0 ≤ x15_1 then (jacquardref14_Tighten.l0 kj48 (wrap64 (x15_1 - 1)) 0 0 0 0 0 0 t293 t294 t295 t296 (Go.bits .or .u64 x300000_1 (shl .u64 1 x15_1)) x300001_1) else (none))) = some (r1, r2, r3, r4, r5, r6, r7) := H
        have A56 := Aside0.mk A560
        clear A560
        by_cases c57 : t302 = 1
        ·
         rw [if_pos c57] at H
         have c57b0 : (t302 == 1) = true := beq_iff_eq.mpr c57
         have c57b1 : (t302 != 1) = false := bne_eq_false_iff_eq.mpr c57
         clear c57
         by_cases c58 : 0 ≤ x15_1
         ·
          rw [if_pos c58] at H
          have c58b0 := eq_true c58
          have c58b1 : decide (0 ≤ x15_1) = true := decide_eq_true c58
          clear c58
          obtain ⟨ji59, hji59⟩ : ∃ j_ : Int, (shl .u64 1 x15_1) = j_ := ⟨_, rfl⟩
          replace H : (jacquardref14_Tighten.l0 kj48 (wrap64 (x15_1 - 1)) 0 0 0 0 0 0 t293 t294 t295 t296 x300000_1 (Go.bits .or .u64 x300001_1 (ji59))) = some (r1, r2, r3, r4, r5, r6, r7) := by first | (rw [hji59] at H; exact H) | (simp only [hji59] at H ⊢; exact H)
          (try rw [hji59] at A56)
          have hji59_ : (IntKind.u64.wrap (1 * 2 ^ min x15_1.toNat 64)) = ji59 := hji59
          have hji59z : x15_1 ≤ 64 → (IntKind.u64.wrap (1 * 2 ^ x15_1.toNat)) = ji59 := shl_small hji59
          have hji59u : (IntKind.u64.wrap (2 ^ min x15_1.toNat 64)) = ji59 := by have h_ := hji59_; rw [Int.one_mul] at h_; exact h_
          have hji59v : x15_1 ≤ 64 → (IntKind.u64.wrap (2 ^ x15_1.toNat)) = ji59 := fun hle_ => by have h_ := hji59z hle_; rw [Int.one_mul] at h_; exact h_
          have H' := Aside0.mk H
          clear H
          have hnb60 := NB298_282.out
          have hnc60 := NB282_298.out
          have hnb61 := NB298_283.out
          have hnc61 := NB283_298.out
          have hnb62 := NB298_284.out
          have hnc62 := NB284_298.out
          have hnb63 := NB298_292.out
          have hnc63 := NB292_298.out
          have hnb64 := NB298_299.out
          have hnc64 := NB299_298.out
          obtain ⟨hcz65_0, hcz65_1, hcz65_2, hcz65_3, hfz65_0, hfz65_1, hfz65_2, hfz65_3⟩ := own4 BK298.out
          try go_wp2_with (first | ((with_reducible refine gate_callee (f := 71) rfl ?_); refine gL (some 83) Try.func71 #[.int .u64 t293, .int .i64 x15_1] ?_; (with_reducible refine (jacquardref12_Bit.calls t293 x15_1 t302 _ A56.out).mono ?_); rintro e w' ⟨rfl, ⟨nd, rfl⟩⟩; refine ⟨_, rfl, ?_⟩; (try (rw [drewN_self wc]; generalize hq_ : World.drewN wc _ = wc; have n0_ : Aside0 (wc.heap[gb282]? = some (.cells #[.int .u64 a1_0, .int .u64 a1_1, .int .u64 a1_2, .int .u64 a1_3, .int .i64 a1_4, .int .i64 a1_5] 50 (0, 0))) := ⟨by rw [← hq_]; exact (by exact bfL BK282.out)⟩; have n1_ : Aside0 (wc.heap[gb283]? = some (.cells #[.int .u64 0, .int .u64 0, .int .u64 0, .int .u64 0, .int .i64 0, .int .i64 0] 50 (0, 0))) := ⟨by rw [← hq_]; exact (by exact bfL BK283.out)⟩; have n2_ : Aside0 (wc.heap[gb284]? = some (.cells #[.int .u64 0, .int .u64 0, .int .u64 0, .int .u64 0, .int .i64 0, .int .i64 0] 50 (0, 0))) := ⟨by rw [← hq_]; exact (by exact bfL BK284.out)⟩; have n3_ : Aside0 (wc.heap[gb292]? = some (.cells #[.int .u64 ji8, .int .u64 ji9, .int .i64 ji10, .int .i64 ji11] 30 (0, 0))) := ⟨by rw [← hq_]; exact (by exact bfL BK292.out)⟩; have n4_ : Aside0 (wc.heap[gb298]? = some (.cells #[.int .u64 t293, .int .u64 t294, .int .i64 t295, .int .i64 t296] 30 (0, 0))) := ⟨by rw [← hq_]; exact (by exact bfL BK298.out)⟩; have n5_ : Aside0 (wc.heap[gb299]? = some (.cells #[.int .u64 x300000_1, .int .u64 x300001_1] 110 (0, 0))) := ⟨by rw [← hq_]; exact (by exact bfL BK299.out)⟩; have n6_ : Aside0 (Below w.heap.size w wc) := ⟨by rw [← hq_]; exact (by repeat (first | (with_reducible first | exact HB.out | apply below_alloc | apply pw_below_drewN | apply below_drew1 | refine below_set ?_ GE282.out | refine below_set ?_ GE283.out | refine below_set ?_ GE284.out | refine below_set ?_ GE292.out | refine below_set ?_ GE298.out | refine below_set ?_ GE299.out) | exact HB.out))⟩; clear BK282 BK283 BK284 BK292 BK298 BK299 HB hq_; have BK282 := n0_; have BK283 := n1_; have BK284 := n2_; have BK292 := n3_; have BK298 := n4_; have BK299 := n5_; have HB := n6_; clear n0_ n1_ n2_ n3_ n4_ n5_ n6_))))
          replace BK282 := Aside0.mk (blk_drew BK282.out)
          replace BK283 := Aside0.mk (blk_drew BK283.out)
          replace BK284 := Aside0.mk (blk_drew BK284.out)
          replace BK292 := Aside0.mk (blk_drew BK292.out)
          replace BK298 := Aside0.mk (blk_drew BK298.out)
          replace BK299 := Aside0.mk (blk_drew BK299.out)
          replace HB := Aside0.mk (below_drew1 HB.out)
          refine start_ (n := 7) (S := fun w' => w'.cell? ⟨gb299, 0, none⟩ = some (.int .u64 x300000_1) ∧ w'.cell? ⟨gb299, 1, none⟩ = some (.int .u64 x300001_1)) (ds := [6]) (bA 7 0) (by kernel_rfl) rfl rfl ⟨(blk_cell BK299.out 0).trans rfl, (blk_cell BK299.out 1).trans rfl⟩ (fun hHeld => ?_)
          generalize wc.drew = w66 at BK282 BK283 BK284 BK292 BK298 BK299 HB hHeld ⊢
          refine pure_ (i := 0) (N := some 85) (v := ?_) (a' := ?_) (bA 7 1) rfl rfl (by kernel_rfl) (fun _ _ _ h => h) (Or.inl ⟨by rfl, ?_⟩) ?_ ?_
          rotate_left
          ·
           intro w'
           go_simp
           with_reducible rfl
          rotate_left
          ·
           simp only [Act.put, List.setIfInBounds_toArray, List.set_cons_zero, List.set_cons_succ, i64_w, i32_w]
           rfl
          refine pure_ (i := 2) (N := some 87) (v := ?_) (a' := ?_) (bA 7 5) rfl rfl (by kernel_rfl) (fun _ _ _ h => h) (Or.inl ⟨by rfl, ?_⟩) ?_ ?_
          rotate_left
          ·
           intro w'
           go_simp
           with_reducible rfl
          rotate_left
          ·
           simp only [Act.put, List.setIfInBounds_toArray, List.set_cons_zero, List.set_cons_succ, i64_w, i32_w]
           rfl
          refine pure_ (i := 3) (N := some 88) (v := ?_) (a' := ?_) (bA 7 13) rfl rfl (by kernel_rfl) (fun _ _ _ h => h) (Or.inl ⟨by rfl, ?_⟩) ?_ ?_
          rotate_left
          ·
           intro w'
           go_simp
           with_reducible rfl
          rotate_left
          ·
           simp only [Act.put, List.setIfInBounds_toArray, List.set_cons_zero, List.set_cons_succ, i64_w, i32_w]
           rfl
          refine take_ (i := 1) (N := some 86) (v := ?_) (a' := ?_) (bA 7 15) rfl rfl (by kernel_rfl) (fun _ _ _ h => h) (Or.inl ⟨by rfl, ?_⟩) hHeld ?_ ?_
          rotate_left
          ·
           rintro w' ⟨s0, s1⟩
           go_simp
           with_reducible rfl
          rotate_left
          ·
           simp only [Act.put, List.setIfInBounds_toArray, List.set_cons_zero, List.set_cons_succ, i64_w, i32_w]
           rfl
          refine pure_ (i := 4) (N := some 89) (v := ?_) (a' := ?_) (bA 7 31) rfl rfl (by kernel_rfl) (fun _ _ _ h => h) (Or.inl ⟨by rfl, ?_⟩) ?_ ?_
          rotate_left
          ·
           intro w'
           go_simp
           with_reducible rfl
          rotate_left
          ·
           simp only [Act.put, List.setIfInBounds_toArray, List.set_cons_zero, List.set_cons_succ, i64_w, i32_w]
           rfl
          refine pure_ (i := 5) (N := some 90) (v := ?_) (a' := ?_) (bA 7 63) rfl rfl (by kernel_rfl) (fun _ _ _ h => h) (Or.inl ⟨by rfl, ?_⟩) ?_ ?_
          rotate_left
          ·
           intro w'
           go_simp
           with_reducible rfl
          rotate_left
          ·
           simp only [Act.put, List.setIfInBounds_toArray, List.set_cons_zero, List.set_cons_succ, i64_w, i32_w]
           rfl
          refine last_ (i := 6) (N := none) (bA 7 127) rfl rfl (by kernel_rfl) (by decide) (fun K hK => ?_)
          have hs67 : w66.cell? ⟨gb299, 1, none⟩ = some (.int .u64 x300001_1) := (blk_cell BK299.out 1).trans rfl
          have hfs67 := blk_frozen BK299.out 1
          have hns67_0 := NB282_299.out
          have hns67_1 := NB283_299.out
          have hns67_2 := NB284_299.out
          have hns67_3 := NB292_299.out
          have hns67_4 := NB298_299.out
          have hms67_0 := NB299_282.out
          have hms67_1 := NB299_283.out
          have hms67_2 := NB299_284.out
          have hms67_3 := NB299_292.out
          have hms67_4 := NB299_298.out
          refine skip_ (w1 := ?_) (by rfl) rfl ?_ ?_
          rotate_left
          ·
           go_simp
           rfl
          refine hK.out _ _ ?_
          clear hK K
          refine done_ (by kernel_rfl) ?_
          try go_wp2
          go_roundg kj48
          case measure => have := HK1.out; have := HJ48.out; omega
          case rel => exact ⟨(wrap64 (x15_1 - 1)), (x300000_1), (Go.bits .or .u64 x300001_1 (ji59)), (by first | rfl | (simp; done) | (simp [*]; done)), H', ⟨by have := HK1.out; have := HJ48.out; omega⟩, ⟨by exact bfL BK282.out⟩, ⟨by exact bfL BK283.out⟩, ⟨by exact bfL BK284.out⟩, ⟨by exact bfL BK292.out⟩, ⟨by exact bfL BK298.out⟩, ⟨by (with_reducible repeat (first | refine blk_drewN ?_ _ | refine blk_drew ?_ | refine blk_alloc ?_ _)); refine blk_put (cs := #[.int .u64 x300000_1, .int .u64 x300001_1]) ?_ 1 _ rfl; exact bfL BK299.out⟩, ⟨bsL HB.out⟩⟩
         ·
          rw [if_neg c58] at H
          exact absurd H (by simp)
        ·
         rw [if_neg c57] at H
         have c57b0 : (t302 == 1) = false := beq_eq_false_iff_ne.mpr c57
         have c57b1 : (t302 != 1) = true := bne_iff_ne.mpr c57
         by_cases c68 : 0 ≤ x15_1
         ·
          rw [if_pos c68] at H
          have c68b0 := eq_true c68
          have c68b1 : decide (0 ≤ x15_1) = true := decide_eq_true c68
          clear c68
          obtain ⟨ji69, hji69⟩ : ∃ j_ : Int, (shl .u64 1 x15_1) = j_ := ⟨_, rfl⟩
          replace H : (jacquardref14_Tighten.l0 kj48 (wrap64 (x15_1 - 1)) 0 0 0 0 0 0 t293 t294 t295 t296 (Go.bits .or .u64 x300000_1 (ji69)) x300001_1) = some (r1, r2, r3, r4, r5, r6, r7) := by first | (rw [hji69] at H; exact H) | (simp only [hji69] at H ⊢; exact H)
          (try rw [hji69] at A56)
          have hji69_ : (IntKind.u64.wrap (1 * 2 ^ min x15_1.toNat 64)) = ji69 := hji69
          have hji69z : x15_1 ≤ 64 → (IntKind.u64.wrap (1 * 2 ^ x15_1.toNat)) = ji69 := shl_small hji69
          have hji69u : (IntKind.u64.wrap (2 ^ min x15_1.toNat 64)) = ji69 := by have h_ := hji69_; rw [Int.one_mul] at h_; exact h_
          have hji69v : x15_1 ≤ 64 → (IntKind.u64.wrap (2 ^ x15_1.toNat)) = ji69 := fun hle_ => by have h_ := hji69z hle_; rw [Int.one_mul] at h_; exact h_
          have H' := Aside0.mk H
          clear H
          have hnb70 := NB298_282.out
          have hnc70 := NB282_298.out
          have hnb71 := NB298_283.out
          have hnc71 := NB283_298.out
          have hnb72 := NB298_284.out
          have hnc72 := NB284_298.out
          have hnb73 := NB298_292.out
          have hnc73 := NB292_298.out
          have hnb74 := NB298_299.out
          have hnc74 := NB299_298.out
          obtain ⟨hcz75_0, hcz75_1, hcz75_2, hcz75_3, hfz75_0, hfz75_1, hfz75_2, hfz75_3⟩ := own4 BK298.out
          try go_wp2_with (first | ((with_reducible refine gate_callee (f := 71) rfl ?_); refine gL (some 83) Try.func71 #[.int .u64 t293, .int .i64 x15_1] ?_; (with_reducible refine (jacquardref12_Bit.calls t293 x15_1 t302 _ A56.out).mono ?_); rintro e w' ⟨rfl, ⟨nd, rfl⟩⟩; refine ⟨_, rfl, ?_⟩; (try (rw [drewN_self wc]; generalize hq_ : World.drewN wc _ = wc; have n0_ : Aside0 (wc.heap[gb282]? = some (.cells #[.int .u64 a1_0, .int .u64 a1_1, .int .u64 a1_2, .int .u64 a1_3, .int .i64 a1_4, .int .i64 a1_5] 50 (0, 0))) := ⟨by rw [← hq_]; exact (by exact bfL BK282.out)⟩; have n1_ : Aside0 (wc.heap[gb283]? = some (.cells #[.int .u64 0, .int .u64 0, .int .u64 0, .int .u64 0, .int .i64 0, .int .i64 0] 50 (0, 0))) := ⟨by rw [← hq_]; exact (by exact bfL BK283.out)⟩; have n2_ : Aside0 (wc.heap[gb284]? = some (.cells #[.int .u64 0, .int .u64 0, .int .u64 0, .int .u64 0, .int .i64 0, .int .i64 0] 50 (0, 0))) := ⟨by rw [← hq_]; exact (by exact bfL BK284.out)⟩; have n3_ : Aside0 (wc.heap[gb292]? = some (.cells #[.int .u64 ji8, .int .u64 ji9, .int .i64 ji10, .int .i64 ji11] 30 (0, 0))) := ⟨by rw [← hq_]; exact (by exact bfL BK292.out)⟩; have n4_ : Aside0 (wc.heap[gb298]? = some (.cells #[.int .u64 t293, .int .u64 t294, .int .i64 t295, .int .i64 t296] 30 (0, 0))) := ⟨by rw [← hq_]; exact (by exact bfL BK298.out)⟩; have n5_ : Aside0 (wc.heap[gb299]? = some (.cells #[.int .u64 x300000_1, .int .u64 x300001_1] 110 (0, 0))) := ⟨by rw [← hq_]; exact (by exact bfL BK299.out)⟩; have n6_ : Aside0 (Below w.heap.size w wc) := ⟨by rw [← hq_]; exact (by repeat (first | (with_reducible first | exact HB.out | apply below_alloc | apply pw_below_drewN | apply below_drew1 | refine below_set ?_ GE282.out | refine below_set ?_ GE283.out | refine below_set ?_ GE284.out | refine below_set ?_ GE292.out | refine below_set ?_ GE298.out | refine below_set ?_ GE299.out) | exact HB.out))⟩; clear BK282 BK283 BK284 BK292 BK298 BK299 HB hq_; have BK282 := n0_; have BK283 := n1_; have BK284 := n2_; have BK292 := n3_; have BK298 := n4_; have BK299 := n5_; have HB := n6_; clear n0_ n1_ n2_ n3_ n4_ n5_ n6_))))
          replace BK282 := Aside0.mk (blk_drew BK282.out)
          replace BK283 := Aside0.mk (blk_drew BK283.out)
          replace BK284 := Aside0.mk (blk_drew BK284.out)
          replace BK292 := Aside0.mk (blk_drew BK292.out)
          replace BK298 := Aside0.mk (blk_drew BK298.out)
          replace BK299 := Aside0.mk (blk_drew BK299.out)
          replace HB := Aside0.mk (below_drew1 HB.out)
          refine start_ (n := 7) (S := fun w' => w'.cell? ⟨gb299, 0, none⟩ = some (.int .u64 x300000_1) ∧ w'.cell? ⟨gb299, 1, none⟩ = some (.int .u64 x300001_1)) (ds := [6]) (bA 7 0) (by kernel_rfl) rfl rfl ⟨(blk_cell BK299.out 0).trans rfl, (blk_cell BK299.out 1).trans rfl⟩ (fun hHeld => ?_)
          generalize wc.drew = w76 at BK282 BK283 BK284 BK292 BK298 BK299 HB hHeld ⊢
          refine pure_ (i := 0) (N := some 91) (v := ?_) (a' := ?_) (bA 7 1) rfl rfl (by kernel_rfl) (fun _ _ _ h => h) (Or.inl ⟨by rfl, ?_⟩) ?_ ?_
          rotate_left
          ·
           intro w'
           go_simp
           with_reducible rfl
          rotate_left
          ·
           simp only [Act.put, List.setIfInBounds_toArray, List.set_cons_zero, List.set_cons_succ, i64_w, i32_w]
           rfl
          refine pure_ (i := 2) (N := some 93) (v := ?_) (a' := ?_) (bA 7 5) rfl rfl (by kernel_rfl) (fun _ _ _ h => h) (Or.inl ⟨by rfl, ?_⟩) ?_ ?_
          rotate_left
          ·
           intro w'
           go_simp
           with_reducible rfl
          rotate_left
          ·
           simp only [Act.put, List.setIfInBounds_toArray, List.set_cons_zero, List.set_cons_succ, i64_w, i32_w]
           rfl
          refine pure_ (i := 3) (N := some 94) (v := ?_) (a' := ?_) (bA 7 13) rfl rfl (by kernel_rfl) (fun _ _ _ h => h) (Or.inl ⟨by rfl, ?_⟩) ?_ ?_
          rotate_left
          ·
           intro w'
           go_simp
           with_reducible rfl
          rotate_left
          ·
           simp only [Act.put, List.setIfInBounds_toArray, List.set_cons_zero, List.set_cons_succ, i64_w, i32_w]
           rfl
          refine take_ (i := 1) (N := some 92) (v := ?_) (a' := ?_) (bA 7 15) rfl rfl (by kernel_rfl) (fun _ _ _ h => h) (Or.inl ⟨by rfl, ?_⟩) hHeld ?_ ?_
          rotate_left
          ·
           rintro w' ⟨s0, s1⟩
           go_simp
           with_reducible rfl
          rotate_left
          ·
           simp only [Act.put, List.setIfInBounds_toArray, List.set_cons_zero, List.set_cons_succ, i64_w, i32_w]
           rfl
          refine pure_ (i := 4) (N := some 95) (v := ?_) (a' := ?_) (bA 7 31) rfl rfl (by kernel_rfl) (fun _ _ _ h => h) (Or.inl ⟨by rfl, ?_⟩) ?_ ?_
          rotate_left
          ·
           intro w'
           go_simp
           with_reducible rfl
          rotate_left
          ·
           simp only [Act.put, List.setIfInBounds_toArray, List.set_cons_zero, List.set_cons_succ, i64_w, i32_w]
           rfl
          refine pure_ (i := 5) (N := some 96) (v := ?_) (a' := ?_) (bA 7 63) rfl rfl (by kernel_rfl) (fun _ _ _ h => h) (Or.inl ⟨by rfl, ?_⟩) ?_ ?_
          rotate_left
          ·
           intro w'
           go_simp
           with_reducible rfl
          rotate_left
          ·
           simp only [Act.put, List.setIfInBounds_toArray, List.set_cons_zero, List.set_cons_succ, i64_w, i32_w]
           rfl
          refine last_ (i := 6) (N := none) (bA 7 127) rfl rfl (by kernel_rfl) (by decide) (fun K hK => ?_)
          have hs77 : w76.cell? ⟨gb299, 0, none⟩ = some (.int .u64 x300000_1) := (blk_cell BK299.out 0).trans rfl
          have hfs77 := blk_frozen BK299.out 0
          have hns77_0 := NB282_299.out
          have hns77_1 := NB283_299.out
          have hns77_2 := NB284_299.out
          have hns77_3 := NB292_299.out
          have hns77_4 := NB298_299.out
          have hms77_0 := NB299_282.out
          have hms77_1 := NB299_283.out
          have hms77_2 := NB299_284.out
          have hms77_3 := NB299_292.out
          have hms77_4 := NB299_298.out
          refine skip_ (w1 := ?_) (by rfl) rfl ?_ ?_
          rotate_left
          ·
           go_simp
           rfl
          refine hK.out _ _ ?_
          clear hK K
          refine done_ (by kernel_rfl) ?_
          try go_wp2
          go_roundg kj48
          case measure => have := HK1.out; have := HJ48.out; omega
          case rel => exact ⟨(wrap64 (x15_1 - 1)), (Go.bits .or .u64 x300000_1 (ji69)), (x300001_1), (by first | rfl | (simp; done) | (simp [*]; done)), H', ⟨by have := HK1.out; have := HJ48.out; omega⟩, ⟨by exact bfL BK282.out⟩, ⟨by exact bfL BK283.out⟩, ⟨by exact bfL BK284.out⟩, ⟨by exact bfL BK292.out⟩, ⟨by exact bfL BK298.out⟩, ⟨by (with_reducible repeat (first | refine blk_drewN ?_ _ | refine blk_drew ?_ | refine blk_alloc ?_ _)); refine blk_put (cs := #[.int .u64 x300000_1, .int .u64 x300001_1]) ?_ 0 _ rfl; exact bfL BK299.out⟩, ⟨bsL HB.out⟩⟩
         ·
          rw [if_neg c68] at H
          exact absurd H (by simp)
       ·
        replace c55 := Bool.eq_false_iff.mpr c55
        subst c55
        have H1 : (if (Go.bits .and .u64 x300000_1 x300001_1) = 0 then ((jacquardref14_fact.f x300000_1 x300001_1 t293 t294 t295 t296).bind fun bt303 => (some (bt303.1, bt303.2.1, bt303.2.2.1, bt303.2.2.2.1, bt303.2.2.2.2.1, bt303.2.2.2.2.2, true))) else (some (0, 0, 0, 0, 0, 0, false))) = some (r1, r2, r3, r4, r5, r6, r7) := by rw [if_neg (show ¬ (false = true) by decide)] at H; exact H
        clear H
        have H := H1
        clear H1
        by_cases c78 : (Go.bits .and .u64 x300000_1 x300001_1) = 0
        ·
         rw [if_pos c78] at H
         have c78b0 : ((Go.bits .and .u64 x300000_1 x300001_1) == 0) = true := beq_iff_eq.mpr c78
         have c78b1 : ((Go.bits .and .u64 x300000_1 x300001_1) != 0) = false := bne_eq_false_iff_eq.mpr c78
         clear c78
         replace H := Option.bind_eq_some_iff.mp H
         obtain ⟨⟨t303, t304, t305, t306, t307, t308⟩, A790, H⟩ := H
         replace H : (some (t303, t304, t305, t306, t307, t308, true)) = some (r1, r2, r3, r4, r5, r6, r7) := H
         have A79 := Aside0.mk A790
         clear A790
         simp only [Option.some.injEq, Prod.mk.injEq] at H
         obtain ⟨rfl, rfl, rfl, rfl, rfl, rfl, rfl⟩ := H
         have hnb80 := NB299_282.out
         have hnc80 := NB282_299.out
         have hnb81 := NB299_283.out
         have hnc81 := NB283_299.out
         have hnb82 := NB299_284.out
         have hnc82 := NB284_299.out
         have hnb83 := NB299_292.out
         have hnc83 := NB292_299.out
         have hnb84 := NB299_298.out
         have hnc84 := NB298_299.out
         obtain ⟨hcz85_0, hcz85_1, hfz85_0, hfz85_1⟩ := own2 BK299.out
         have hnb86 := NB298_282.out
         have hnc86 := NB282_298.out
         have hnb87 := NB298_283.out
         have hnc87 := NB283_298.out
         have hnb88 := NB298_284.out
         have hnc88 := NB284_298.out
         have hnb89 := NB298_292.out
         have hnc89 := NB292_298.out
         obtain ⟨hcz90_0, hcz90_1, hcz90_2, hcz90_3, hfz90_0, hfz90_1, hfz90_2, hfz90_3⟩ := own4 BK298.out
         go_wp2_with (first | ((with_reducible refine gate_callee (f := 82) rfl ?_); refine gL (some 106) Try.func82 #[.agg #[.int .u64 x300000_1, .int .u64 x300001_1], .agg #[.int .u64 t293, .int .u64 t294, .int .i64 t295, .int .i64 t296]] ?_; (with_reducible refine (jacquardref14_fact.calls x300000_1 x300001_1 t293 t294 t295 t296 t303 t304 t305 t306 t307 t308 _ A79.out).mono ?_); rintro e w91 ⟨rfl, hb⟩; refine ⟨_, rfl, ?_⟩; replace BK282 := bkB BK282.out hb; replace BK283 := bkB BK283.out hb; replace BK284 := bkB BK284.out hb; replace BK292 := bkB BK292.out hb; replace BK298 := bkB BK298.out hb; replace BK299 := bkB BK299.out hb; replace HB := bsB HB.out hb; (try clear hb); have hnb92 := NB283_282.out; have hnc92 := NB282_283.out; have hnb93 := NB283_284.out; have hnc93 := NB284_283.out; have hnb94 := NB283_292.out; have hnc94 := NB292_283.out; obtain ⟨hcz95_0, hcz95_1, hcz95_2, hcz95_3, hcz95_4, hcz95_5, hfz95_0, hfz95_1, hfz95_2, hfz95_3, hfz95_4, hfz95_5⟩ := own6 BK283.out))
         refine bodyPost_ret (results_ct rfl _ _ gb283 50 #[.int .u64 t303, .int .u64 t304, .int .u64 t305, .int .u64 t306, .int .i64 t307, .int .i64 t308] (0, 0) _ rfl (by (with_reducible repeat (first | refine blk_drewN ?_ _ | refine blk_drew ?_ | refine blk_alloc ?_ _)); refine blk_put (cs := #[.int .u64 t303, .int .u64 t304, .int .u64 t305, .int .u64 t306, .int .i64 t307, .int .i64 0]) ?_ 5 _ rfl; (with_reducible repeat (first | refine blk_drewN ?_ _ | refine blk_drew ?_ | refine blk_alloc ?_ _)); refine blk_put (cs := #[.int .u64 t303, .int .u64 t304, .int .u64 t305, .int .u64 t306, .int .i64 0, .int .i64 0]) ?_ 4 _ rfl; (with_reducible repeat (first | refine blk_drewN ?_ _ | refine blk_drew ?_ | refine blk_alloc ?_ _)); refine blk_put (cs := #[.int .u64 t303, .int .u64 t304, .int .u64 t305, .int .u64 0, .int .i64 0, .int .i64 0]) ?_ 3 _ rfl; (with_reducible repeat (first | refine blk_drewN ?_ _ | refine blk_drew ?_ | refine blk_alloc ?_ _)); refine blk_put (cs := #[.int .u64 t303, .int .u64 t304, .int .u64 0, .int .u64 0, .int .i64 0, .int .i64 0]) ?_ 2 _ rfl; (with_reducible repeat (first | refine blk_drewN ?_ _ | refine blk_drew ?_ | refine blk_alloc ?_ _)); refine blk_put (cs := #[.int .u64 t303, .int .u64 0, .int .u64 0, .int .u64 0, .int .i64 0, .int .i64 0]) ?_ 1 _ rfl; (with_reducible repeat (first | refine blk_drewN ?_ _ | refine blk_drew ?_ | refine blk_alloc ?_ _)); refine blk_put (cs := #[.int .u64 0, .int .u64 0, .int .u64 0, .int .u64 0, .int .i64 0, .int .i64 0]) ?_ 0 _ rfl; exact bfL BK283.out) Try.underlying50 rfl (by kernel_rfl)) rfl ?_
         exact ⟨by first | rfl | (simp [errW_none, errW_some] <;> rfl) | (simp only [← hji8, ← hji9, ← hji10, ← hji11]; first | rfl | (simp [errW_none, errW_some] <;> rfl)) | (simp [*, errW_none, errW_some] <;> rfl), bsL HB.out⟩
        ·
         rw [if_neg c78] at H
         have c78b0 : ((Go.bits .and .u64 x300000_1 x300001_1) == 0) = false := beq_eq_false_iff_ne.mpr c78
         have c78b1 : ((Go.bits .and .u64 x300000_1 x300001_1) != 0) = true := bne_iff_ne.mpr c78
         simp only [Option.some.injEq, Prod.mk.injEq] at H
         obtain ⟨rfl, rfl, rfl, rfl, rfl, rfl, rfl⟩ := H
         have hnb96 := NB299_282.out
         have hnc96 := NB282_299.out
         have hnb97 := NB299_283.out
         have hnc97 := NB283_299.out
         have hnb98 := NB299_284.out
         have hnc98 := NB284_299.out
         have hnb99 := NB299_292.out
         have hnc99 := NB292_299.out
         have hnb100 := NB299_298.out
         have hnc100 := NB298_299.out
         obtain ⟨hcz101_0, hcz101_1, hfz101_0, hfz101_1⟩ := own2 BK299.out
         have hnb102 := NB284_282.out
         have hnc102 := NB282_284.out
         have hnb103 := NB284_283.out
         have hnc103 := NB283_284.out
         have hnb104 := NB284_292.out
         have hnc104 := NB292_284.out
         have hnb105 := NB284_298.out
         have hnc105 := NB298_284.out
         obtain ⟨hcz106_0, hcz106_1, hcz106_2, hcz106_3, hcz106_4, hcz106_5, hfz106_0, hfz106_1, hfz106_2, hfz106_3, hfz106_4, hfz106_5⟩ := own6 BK284.out
         have hnb107 := NB283_282.out
         have hnc107 := NB282_283.out
         have hnb108 := NB283_292.out
         have hnc108 := NB292_283.out
         have hnb109 := NB283_298.out
         have hnc109 := NB298_283.out
         obtain ⟨hcz110_0, hcz110_1, hcz110_2, hcz110_3, hcz110_4, hcz110_5, hfz110_0, hfz110_1, hfz110_2, hfz110_3, hfz110_4, hfz110_5⟩ := own6 BK283.out
         go_wp2
         refine bodyPost_ret (results_ct rfl _ _ gb283 50 #[.int .u64 0, .int .u64 0, .int .u64 0, .int .u64 0, .int .i64 0, .int .i64 0] (0, 0) _ rfl (by (with_reducible repeat (first | refine blk_drewN ?_ _ | refine blk_drew ?_ | refine blk_alloc ?_ _)); refine blk_put (cs := #[.int .u64 0, .int .u64 0, .int .u64 0, .int .u64 0, .int .i64 0, .int .i64 0]) ?_ 5 _ rfl; (with_reducible repeat (first | refine blk_drewN ?_ _ | refine blk_drew ?_ | refine blk_alloc ?_ _)); refine blk_put (cs := #[.int .u64 0, .int .u64 0, .int .u64 0, .int .u64 0, .int .i64 0, .int .i64 0]) ?_ 4 _ rfl; (with_reducible repeat (first | refine blk_drewN ?_ _ | refine blk_drew ?_ | refine blk_alloc ?_ _)); refine blk_put (cs := #[.int .u64 0, .int .u64 0, .int .u64 0, .int .u64 0, .int .i64 0, .int .i64 0]) ?_ 3 _ rfl; (with_reducible repeat (first | refine blk_drewN ?_ _ | refine blk_drew ?_ | refine blk_alloc ?_ _)); refine blk_put (cs := #[.int .u64 0, .int .u64 0, .int .u64 0, .int .u64 0, .int .i64 0, .int .i64 0]) ?_ 2 _ rfl; (with_reducible repeat (first | refine blk_drewN ?_ _ | refine blk_drew ?_ | refine blk_alloc ?_ _)); refine blk_put (cs := #[.int .u64 0, .int .u64 0, .int .u64 0, .int .u64 0, .int .i64 0, .int .i64 0]) ?_ 1 _ rfl; (with_reducible repeat (first | refine blk_drewN ?_ _ | refine blk_drew ?_ | refine blk_alloc ?_ _)); refine blk_put (cs := #[.int .u64 0, .int .u64 0, .int .u64 0, .int .u64 0, .int .i64 0, .int .i64 0]) ?_ 0 _ rfl; exact bfL BK283.out) Try.underlying50 rfl (by kernel_rfl)) rfl ?_
         exact ⟨by first | rfl | (simp [errW_none, errW_some] <;> rfl) | (simp only [← hji8, ← hji9, ← hji10, ← hji11]; first | rfl | (simp [errW_none, errW_some] <;> rfl)) | (simp [*, errW_none, errW_some] <;> rfl), bsL HB.out⟩
  ·
   replace c13 := Bool.eq_false_iff.mpr c13
   subst c13
   have H1 : (some (0, 0, 0, 0, 0, 0, false)) = some (r1, r2, r3, r4, r5, r6, r7) := by rw [if_neg (show ¬ (false = true) by decide)] at H; exact H
   clear H
   have H := H1
   clear H1
   simp only [Option.some.injEq, Prod.mk.injEq] at H
   obtain ⟨rfl, rfl, rfl, rfl, rfl, rfl, rfl⟩ := H
   go_enter Try.func26, Try.ntmps26
   go_wp2_with (first | ((with_reducible refine gate_dst (N := 3) rfl ?_); refine boxE (N := 3) (cs := #[.int .u64 a1_0, .int .u64 a1_1, .int .u64 a1_2, .int .u64 a1_3, .int .i64 a1_4, .int .i64 a1_5]) (t := 50) ?_; intro gb282 hg w111 hbox hb; have BK282 := Aside0.mk (hbox); have GW282 := szB hg HB.out; have GE282 := szB hg HB.out; replace HB := bsB HB.out hb; clear hb hbox hg) | ((with_reducible refine gate_dst (N := 4) rfl ?_); refine boxE (N := 4) (cs := #[.int .u64 0, .int .u64 0, .int .u64 0, .int .u64 0, .int .i64 0, .int .i64 0]) (t := 50) ?_; intro gb283 hg w112 hbox hb; have BK283 := Aside0.mk (hbox); have GW283 := szB hg HB.out; have GE283 := szB hg HB.out; have NB282_283 := neL hg BK282.out; have NB283_282 := neG hg BK282.out; replace BK282 := bkB BK282.out hb; replace HB := bsB HB.out hb; clear hb hbox hg) | ((with_reducible refine gate_dst (N := 6) rfl ?_); refine boxE (N := 6) (cs := #[.int .u64 0, .int .u64 0, .int .u64 0, .int .u64 0, .int .i64 0, .int .i64 0]) (t := 50) ?_; intro gb284 hg w113 hbox hb; have BK284 := Aside0.mk (hbox); have GW284 := szB hg HB.out; have GE284 := szB hg HB.out; have NB282_284 := neL hg BK282.out; have NB284_282 := neG hg BK282.out; have NB283_284 := neL hg BK283.out; have NB284_283 := neG hg BK283.out; replace BK282 := bkB BK282.out hb; replace BK283 := bkB BK283.out hb; replace HB := bsB HB.out hb; clear hb hbox hg; have hnb114 := NB282_283.out; have hnc114 := NB283_282.out; have hnb115 := NB282_284.out; have hnc115 := NB284_282.out; obtain ⟨hcz116_0, hcz116_1, hcz116_2, hcz116_3, hcz116_4, hcz116_5, hfz116_0, hfz116_1, hfz116_2, hfz116_3, hfz116_4, hfz116_5⟩ := own6 BK282.out) | ((with_reducible refine gate_callee (f := 27) rfl ?_); refine gL (some 18) Try.func27 #[.int .i64 a0, .agg #[.int .u64 a1_0, .int .u64 a1_1, .int .u64 a1_2, .int .u64 a1_3, .int .i64 a1_4, .int .i64 a1_5]] ?_; (with_reducible refine (jacquardref14_Valid.calls k a0 a1_0 a1_1 a1_2 a1_3 a1_4 a1_5 true _ A3.out).mono ?_); rintro e w117 ⟨rfl, hb⟩; refine ⟨_, rfl, ?_⟩; replace BK282 := bkB BK282.out hb; replace BK283 := bkB BK283.out hb; replace BK284 := bkB BK284.out hb; replace HB := bsB HB.out hb; (try clear hb); (try clear hb2); (try clear hk); (try clear hi); obtain ⟨hcz118_0, hcz118_1, hcz118_2, hcz118_3, hcz118_4, hcz118_5, hfz118_0, hfz118_1, hfz118_2, hfz118_3, hfz118_4, hfz118_5⟩ := own6 BK282.out) | ((with_reducible refine gate_callee (f := 80) rfl ?_); refine gL (some 24) Try.func80 #[.agg #[.int .u64 a1_0, .int .u64 a1_1, .int .u64 a1_2, .int .u64 a1_3, .int .i64 a1_4, .int .i64 a1_5]] ?_; (with_reducible refine (jacquardref14_bits.calls a1_0 a1_1 a1_2 a1_3 a1_4 a1_5 t286 t287 _ A5.out).mono ?_); rintro e w119 ⟨rfl, hb⟩; refine ⟨_, rfl, ?_⟩; replace BK282 := bkB BK282.out hb; replace BK283 := bkB BK283.out hb; replace BK284 := bkB BK284.out hb; replace HB := bsB HB.out hb; (try clear hb); (try clear hb2); (try clear hk); (try clear hi)) | ((with_reducible refine gate_callee (f := 79) rfl ?_); refine gL (some 25) Try.func79 #[.int .i64 a0, .agg #[.int .u64 t286, .int .u64 t287]] ?_; (with_reducible refine (jacquardref12_Limits.calls k a0 t286 t287 t288 t289 _ A6.out).mono ?_); rintro e w120 ⟨rfl, hb⟩; refine ⟨_, rfl, ?_⟩; replace BK282 := bkB BK282.out hb; replace BK283 := bkB BK283.out hb; replace BK284 := bkB BK284.out hb; replace HB := bsB HB.out hb; (try clear hb); (try clear hb2); (try clear hk); (try clear hi); obtain ⟨hcz121_0, hcz121_1, hcz121_2, hcz121_3, hcz121_4, hcz121_5, hfz121_0, hfz121_1, hfz121_2, hfz121_3, hfz121_4, hfz121_5⟩ := own6 BK282.out) | ((with_reducible refine gate_callee (f := 80) rfl ?_); refine gL (some 31) Try.func80 #[.agg #[.int .u64 a1_0, .int .u64 a1_1, .int .u64 a1_2, .int .u64 a1_3, .int .i64 a1_4, .int .i64 a1_5]] ?_; (with_reducible refine (jacquardref14_bits.calls a1_0 a1_1 a1_2 a1_3 a1_4 a1_5 t286 t287 _ A5.out).mono ?_); rintro e w122 ⟨rfl, hb⟩; refine ⟨_, rfl, ?_⟩; replace BK282 := bkB BK282.out hb; replace BK283 := bkB BK283.out hb; replace BK284 := bkB BK284.out hb; replace HB := bsB HB.out hb; (try clear hb); (try clear hb2); (try clear hk); (try clear hi)) | ((with_reducible refine gate_callee (f := 81) rfl ?_); refine gL (some 32) Try.func81 #[.int .i64 a0, .agg #[.int .u64 t286, .int .u64 t287]] ?_; (with_reducible refine (jacquardref12_SignedLimits.calls k a0 t286 t287 t290 t291 _ A7.out).mono ?_); rintro e w123 ⟨rfl, hb⟩; refine ⟨_, rfl, ?_⟩; replace BK282 := bkB BK282.out hb; replace BK283 := bkB BK283.out hb; replace BK284 := bkB BK284.out hb; replace HB := bsB HB.out hb; (try clear hb); (try clear hb2); (try clear hk); (try clear hi); obtain ⟨hcz124_0, hcz124_1, hcz124_2, hcz124_3, hcz124_4, hcz124_5, hfz124_0, hfz124_1, hfz124_2, hfz124_3, hfz124_4, hfz124_5⟩ := own6 BK282.out) | ((with_reducible refine gate_dst (N := 11) rfl ?_); refine boxE (N := 11) (cs := #[.int .u64 0, .int .u64 0, .int .i64 0, .int .i64 0]) (t := 30) ?_; intro gb292 hg w125 hbox hb; have BK292 := Aside0.mk (hbox); have GW292 := szB hg HB.out; have GE292 := szB hg HB.out; have NB282_292 := neL hg BK282.out; have NB292_282 := neG hg BK282.out; have NB283_292 := neL hg BK283.out; have NB292_283 := neG hg BK283.out; have NB284_292 := neL hg BK284.out; have NB292_284 := neG hg BK284.out; replace BK282 := bkB BK282.out hb; replace BK283 := bkB BK283.out hb; replace BK284 := bkB BK284.out hb; replace HB := bsB HB.out hb; clear hb hbox hg; have hnb126 := NB292_282.out; have hnc126 := NB282_292.out; have hnb127 := NB292_283.out; have hnc127 := NB283_292.out; have hnb128 := NB292_284.out; have hnc128 := NB284_292.out; obtain ⟨hcz129_0, hcz129_1, hcz129_2, hcz129_3, hfz129_0, hfz129_1, hfz129_2, hfz129_3⟩ := own4 BK292.out) | ((with_reducible refine gate_callee (f := 59) rfl ?_); refine goesL_ (some 55) rfl rfl Try.func59 (by kernel_rfl) rfl #[.int .i64 a0, .agg #[.int .u64 ji8, .int .u64 ji9, .int .i64 ji10, .int .i64 ji11]] rfl (by (try simp only [List.map_toArray, List.map_cons, List.map_nil]); first | done | (simp only [hji10, hji11, hji8, hji9]; rfl) | rfl | (simp only [List.length_drop, List.length_take]; rfl)) ?_; (with_reducible refine (jacquardref13_Tighten.calls k a0 ji8 ji9 ji10 ji11 t293 t294 t295 t296 false _ A12.out).mono ?_); rintro e w130 ⟨rfl, hb⟩; refine ⟨_, rfl, ?_⟩; replace BK282 := Aside0.mk (blk_below (g := gb282) (o := .cells #[.int .u64 a1_0, .int .u64 a1_1, .int .u64 a1_2, .int .u64 a1_3, .int .i64 a1_4, .int .i64 a1_5] 50 (0, 0)) (by exact bfL BK282.out) hb); replace BK283 := Aside0.mk (blk_below (g := gb283) (o := .cells #[.int .u64 0, .int .u64 0, .int .u64 0, .int .u64 0, .int .i64 0, .int .i64 0] 50 (0, 0)) (by exact bfL BK283.out) hb); replace BK284 := Aside0.mk (blk_below (g := gb284) (o := .cells #[.int .u64 0, .int .u64 0, .int .u64 0, .int .u64 0, .int .i64 0, .int .i64 0] 50 (0, 0)) (by exact bfL BK284.out) hb); replace BK292 := Aside0.mk (blk_below (g := gb292) (o := .cells #[.int .u64 ji8, .int .u64 ji9, .int .i64 ji10, .int .i64 ji11] 30 (0, 0)) (by (with_reducible repeat (first | refine blk_drewN ?_ _ | refine blk_drew ?_ | refine blk_alloc ?_ _)); refine blk_put (cs := #[.int .u64 ji8, .int .u64 ji9, .int .i64 ji10, .int .i64 0]) ?_ 3 _ rfl; (with_reducible repeat (first | refine blk_drewN ?_ _ | refine blk_drew ?_ | refine blk_alloc ?_ _)); refine blk_put (cs := #[.int .u64 ji8, .int .u64 ji9, .int .i64 0, .int .i64 0]) ?_ 2 _ rfl; (with_reducible repeat (first | refine blk_drewN ?_ _ | refine blk_drew ?_ | refine blk_alloc ?_ _)); refine blk_put (cs := #[.int .u64 ji8, .int .u64 0, .int .i64 0, .int .i64 0]) ?_ 1 _ rfl; (with_reducible repeat (first | refine blk_drewN ?_ _ | refine blk_drew ?_ | refine blk_alloc ?_ _)); refine blk_put (cs := #[.int .u64 0, .int .u64 0, .int .i64 0, .int .i64 0]) ?_ 0 _ rfl; exact bfL BK292.out) hb); replace HB := bsB HB.out hb; (try clear hb); (try clear hb2); (try clear hk); (try clear hi)) | ((with_reducible refine gate_dst (N := 12) rfl ?_); refine boxE (N := 12) (cs := #[.int .u64 0, .int .u64 0, .int .i64 0, .int .i64 0]) (t := 30) ?_; intro gb298 hg w131 hbox hb; have BK298 := Aside0.mk (hbox); have GW298 := szB hg HB.out; have GE298 := szB hg HB.out; have NB282_298 := neL hg BK282.out; have NB298_282 := neG hg BK282.out; have NB283_298 := neL hg BK283.out; have NB298_283 := neG hg BK283.out; have NB284_298 := neL hg BK284.out; have NB298_284 := neG hg BK284.out; have NB292_298 := neL hg BK292.out; have NB298_292 := neG hg BK292.out; replace BK282 := bkB BK282.out hb; replace BK283 := bkB BK283.out hb; replace BK284 := bkB BK284.out hb; replace BK292 := bkB BK292.out hb; replace HB := bsB HB.out hb; clear hb hbox hg; have hnb132 := NB298_282.out; have hnc132 := NB282_298.out; have hnb133 := NB298_283.out; have hnc133 := NB283_298.out; have hnb134 := NB298_284.out; have hnc134 := NB284_298.out; have hnb135 := NB298_292.out; have hnc135 := NB292_298.out; obtain ⟨hcz136_0, hcz136_1, hcz136_2, hcz136_3, hfz136_0, hfz136_1, hfz136_2, hfz136_3⟩ := own4 BK298.out; have hnb137 := NB284_283.out; have hnc137 := NB283_284.out; obtain ⟨hcz138_0, hcz138_1, hcz138_2, hcz138_3, hcz138_4, hcz138_5, hfz138_0, hfz138_1, hfz138_2, hfz138_3, hfz138_4, hfz138_5⟩ := own6 BK284.out; obtain ⟨hcz139_0, hcz139_1, hcz139_2, hcz139_3, hcz139_4, hcz139_5, hfz139_0, hfz139_1, hfz139_2, hfz139_3, hfz139_4, hfz139_5⟩ := own6 BK283.out))
   refine bodyPost_ret (results_ct rfl _ _ gb283 50 #[.int .u64 0, .int .u64 0, .int .u64 0, .int .u64 0, .int .i64 0, .int .i64 0] (0, 0) _ rfl (by (with_reducible repeat (first | refine blk_drewN ?_ _ | refine blk_drew ?_ | refine blk_alloc ?_ _)); refine blk_put (cs := #[.int .u64 0, .int .u64 0, .int .u64 0, .int .u64 0, .int .i64 0, .int .i64 0]) ?_ 5 _ rfl; (with_reducible repeat (first | refine blk_drewN ?_ _ | refine blk_drew ?_ | refine blk_alloc ?_ _)); refine blk_put (cs := #[.int .u64 0, .int .u64 0, .int .u64 0, .int .u64 0, .int .i64 0, .int .i64 0]) ?_ 4 _ rfl; (with_reducible repeat (first | refine blk_drewN ?_ _ | refine blk_drew ?_ | refine blk_alloc ?_ _)); refine blk_put (cs := #[.int .u64 0, .int .u64 0, .int .u64 0, .int .u64 0, .int .i64 0, .int .i64 0]) ?_ 3 _ rfl; (with_reducible repeat (first | refine blk_drewN ?_ _ | refine blk_drew ?_ | refine blk_alloc ?_ _)); refine blk_put (cs := #[.int .u64 0, .int .u64 0, .int .u64 0, .int .u64 0, .int .i64 0, .int .i64 0]) ?_ 2 _ rfl; (with_reducible repeat (first | refine blk_drewN ?_ _ | refine blk_drew ?_ | refine blk_alloc ?_ _)); refine blk_put (cs := #[.int .u64 0, .int .u64 0, .int .u64 0, .int .u64 0, .int .i64 0, .int .i64 0]) ?_ 1 _ rfl; (with_reducible repeat (first | refine blk_drewN ?_ _ | refine blk_drew ?_ | refine blk_alloc ?_ _)); refine blk_put (cs := #[.int .u64 0, .int .u64 0, .int .u64 0, .int .u64 0, .int .i64 0, .int .i64 0]) ?_ 0 _ rfl; exact bfL BK283.out) Try.underlying50 rfl (by kernel_rfl)) rfl ?_
   exact ⟨by first | rfl | (simp [errW_none, errW_some] <;> rfl) | (simp only [← hji8, ← hji9, ← hji10, ← hji11]; first | rfl | (simp [errW_none, errW_some] <;> rfl)) | (simp [*, errW_none, errW_some] <;> rfl), bsL HB.out⟩
 ·
  replace c4 := Bool.eq_false_iff.mpr c4
  subst c4
  have H1 : (some (0, 0, 0, 0, 0, 0, false)) = some (r1, r2, r3, r4, r5, r6, r7) := by rw [if_neg (show ¬ (false = true) by decide)] at H; exact H
  clear H
  have H := H1
  clear H1
  simp only [Option.some.injEq, Prod.mk.injEq] at H
  obtain ⟨rfl, rfl, rfl, rfl, rfl, rfl, rfl⟩ := H
  go_enter Try.func26, Try.ntmps26
  go_wp2_with (first | ((with_reducible refine gate_dst (N := 3) rfl ?_); refine boxE (N := 3) (cs := #[.int .u64 a1_0, .int .u64 a1_1, .int .u64 a1_2, .int .u64 a1_3, .int .i64 a1_4, .int .i64 a1_5]) (t := 50) ?_; intro gb282 hg w140 hbox hb; have BK282 := Aside0.mk (hbox); have GW282 := szB hg HB.out; have GE282 := szB hg HB.out; replace HB := bsB HB.out hb; clear hb hbox hg) | ((with_reducible refine gate_dst (N := 4) rfl ?_); refine boxE (N := 4) (cs := #[.int .u64 0, .int .u64 0, .int .u64 0, .int .u64 0, .int .i64 0, .int .i64 0]) (t := 50) ?_; intro gb283 hg w141 hbox hb; have BK283 := Aside0.mk (hbox); have GW283 := szB hg HB.out; have GE283 := szB hg HB.out; have NB282_283 := neL hg BK282.out; have NB283_282 := neG hg BK282.out; replace BK282 := bkB BK282.out hb; replace HB := bsB HB.out hb; clear hb hbox hg) | ((with_reducible refine gate_dst (N := 6) rfl ?_); refine boxE (N := 6) (cs := #[.int .u64 0, .int .u64 0, .int .u64 0, .int .u64 0, .int .i64 0, .int .i64 0]) (t := 50) ?_; intro gb284 hg w142 hbox hb; have BK284 := Aside0.mk (hbox); have GW284 := szB hg HB.out; have GE284 := szB hg HB.out; have NB282_284 := neL hg BK282.out; have NB284_282 := neG hg BK282.out; have NB283_284 := neL hg BK283.out; have NB284_283 := neG hg BK283.out; replace BK282 := bkB BK282.out hb; replace BK283 := bkB BK283.out hb; replace HB := bsB HB.out hb; clear hb hbox hg; have hnb143 := NB282_283.out; have hnc143 := NB283_282.out; have hnb144 := NB282_284.out; have hnc144 := NB284_282.out; obtain ⟨hcz145_0, hcz145_1, hcz145_2, hcz145_3, hcz145_4, hcz145_5, hfz145_0, hfz145_1, hfz145_2, hfz145_3, hfz145_4, hfz145_5⟩ := own6 BK282.out) | ((with_reducible refine gate_callee (f := 27) rfl ?_); refine gL (some 18) Try.func27 #[.int .i64 a0, .agg #[.int .u64 a1_0, .int .u64 a1_1, .int .u64 a1_2, .int .u64 a1_3, .int .i64 a1_4, .int .i64 a1_5]] ?_; (with_reducible refine (jacquardref14_Valid.calls k a0 a1_0 a1_1 a1_2 a1_3 a1_4 a1_5 false _ A3.out).mono ?_); rintro e w146 ⟨rfl, hb⟩; refine ⟨_, rfl, ?_⟩; replace BK282 := bkB BK282.out hb; replace BK283 := bkB BK283.out hb; replace BK284 := bkB BK284.out hb; replace HB := bsB HB.out hb; (try clear hb); (try clear hb2); (try clear hk); (try clear hi); have hnb147 := NB284_283.out; have hnc147 := NB283_284.out; obtain ⟨hcz148_0, hcz148_1, hcz148_2, hcz148_3, hcz148_4, hcz148_5, hfz148_0, hfz148_1, hfz148_2, hfz148_3, hfz148_4, hfz148_5⟩ := own6 BK284.out; obtain ⟨hcz149_0, hcz149_1, hcz149_2, hcz149_3, hcz149_4, hcz149_5, hfz149_0, hfz149_1, hfz149_2, hfz149_3, hfz149_4, hfz149_5⟩ := own6 BK283.out))
  refine bodyPost_ret (results_ct rfl _ _ gb283 50 #[.int .u64 0, .int .u64 0, .int .u64 0, .int .u64 0, .int .i64 0, .int .i64 0] (0, 0) _ rfl (by (with_reducible repeat (first | refine blk_drewN ?_ _ | refine blk_drew ?_ | refine blk_alloc ?_ _)); refine blk_put (cs := #[.int .u64 0, .int .u64 0, .int .u64 0, .int .u64 0, .int .i64 0, .int .i64 0]) ?_ 5 _ rfl; (with_reducible repeat (first | refine blk_drewN ?_ _ | refine blk_drew ?_ | refine blk_alloc ?_ _)); refine blk_put (cs := #[.int .u64 0, .int .u64 0, .int .u64 0, .int .u64 0, .int .i64 0, .int .i64 0]) ?_ 4 _ rfl; (with_reducible repeat (first | refine blk_drewN ?_ _ | refine blk_drew ?_ | refine blk_alloc ?_ _)); refine blk_put (cs := #[.int .u64 0, .int .u64 0, .int .u64 0, .int .u64 0, .int .i64 0, .int .i64 0]) ?_ 3 _ rfl; (with_reducible repeat (first | refine blk_drewN ?_ _ | refine blk_drew ?_ | refine blk_alloc ?_ _)); refine blk_put (cs := #[.int .u64 0, .int .u64 0, .int .u64 0, .int .u64 0, .int .i64 0, .int .i64 0]) ?_ 2 _ rfl; (with_reducible repeat (first | refine blk_drewN ?_ _ | refine blk_drew ?_ | refine blk_alloc ?_ _)); refine blk_put (cs := #[.int .u64 0, .int .u64 0, .int .u64 0, .int .u64 0, .int .i64 0, .int .i64 0]) ?_ 1 _ rfl; (with_reducible repeat (first | refine blk_drewN ?_ _ | refine blk_drew ?_ | refine blk_alloc ?_ _)); refine blk_put (cs := #[.int .u64 0, .int .u64 0, .int .u64 0, .int .u64 0, .int .i64 0, .int .i64 0]) ?_ 0 _ rfl; exact bfL BK283.out) Try.underlying50 rfl (by kernel_rfl)) rfl ?_
  exact ⟨by first | rfl | (simp [errW_none, errW_some] <;> rfl) | (simp [*, errW_none, errW_some] <;> rfl), bsL HB.out⟩

/-! ### interval_Contains: function 22 -/
def interval_Contains.f (a0 : Int) (a1_0 : Int) (a1_1 : Int) (a1_2 : Int) (a1_3 : Int) (a2 : Int) : Option (Bool) := (interval_good.f a0).bind fun t310 => (if t310 = true then ((bits_Mask.f a0).bind fun t311 => (if a2 > t311 then (some false) else ((bits_Signed.f a0 a2).bind fun t312 => (if a2 ≥ a1_0 then (if a2 ≤ a1_1 then (if t312 ≥ a1_2 then (some (decide (t312 ≤ a1_3))) else (some false)) else (some false)) else (some false))))) else (some false))
set_option maxHeartbeats 8000000 in
set_option maxRecDepth 100000 in
theorem interval_Contains.calls (a0 : Int) (a1_0 : Int) (a1_1 : Int) (a1_2 : Int) (a1_3 : Int) (a2 : Int) (r : Bool) (w : World) (h : interval_Contains.f a0 a1_0 a1_1 a1_2 a1_3 a2 = some r) :
  Calls Try.prog 22 #[.int .i64 a0, .agg #[.int .u64 a1_0, .int .u64 a1_1, .int .i64 a1_2, .int .i64 a1_3], .int .u64 a2] w fun e w' => e = .returned (.bool r) ∧ Below w.heap.size w w' := by
 have hu30 := Try.underlying30
 have HB := Aside0.mk (Below.refl w.heap.size w)
 have H : ((interval_good.f a0).bind fun t310 => (if t310 = true then ((bits_Mask.f a0).bind fun t311 => (if a2 > t311 then (some false) else ((bits_Signed.f a0 a2).bind fun t312 => (if a2 ≥ a1_0 then (if a2 ≤ a1_1 then (if t312 ≥ a1_2 then (some (decide (t312 ≤ a1_3))) else (some false)) else (some false)) else (some false))))) else (some false))) = some r := h
 clear h
 replace H := Option.bind_eq_some_iff.mp H
 obtain ⟨t310, A40, H⟩ := H
 replace H : (if t310 = true then ((bits_Mask.f a0).bind fun t311 => (if a2 > t311 then (some false) else ((bits_Signed.f a0 a2).bind fun t312 => (if a2 ≥ a1_0 then (if a2 ≤ a1_1 then (if t312 ≥ a1_2 then (some (decide (t312 ≤ a1_3))) else (some false)) else (some false)) else (some false))))) else (some false)) = some r := H
 have A4 := Aside0.mk A40
 clear A40
 by_cases c5 : t310 = true
 ·
  subst c5
  have H1 : ((bits_Mask.f a0).bind fun t311 => (if a2 > t311 then (some false) else ((bits_Signed.f a0 a2).bind fun t312 => (if a2 ≥ a1_0 then (if a2 ≤ a1_1 then (if t312 ≥ a1_2 then (some (decide (t312 ≤ a1_3))) else (some false)) else (some false)) else (some false))))) = some r := by rw [if_pos rfl] at H; exact H
  clear H
  have H := H1
  clear H1
  replace H := Option.bind_eq_some_iff.mp H
  obtain ⟨t311, A60, H⟩ := H
  replace H : (if a2 > t311 then (some false) else ((bits_Signed.f a0 a2).bind fun t312 => (if a2 ≥ a1_0 then (if a2 ≤ a1_1 then (if t312 ≥ a1_2 then (some (decide (t312 ≤ a1_3))) else (some false)) else (some false)) else (some false)))) = some r := H
  have A6 := Aside0.mk A60
  clear A60
  by_cases c7 : a2 > t311
  ·
   rw [if_pos c7] at H
   have c7b0 : decide (t311 < a2) = true := decide_eq_true c7
   clear c7
   obtain rfl := Option.some.inj H
   go_enter Try.func22, Try.ntmps22
   go_wp2_with (first | ((with_reducible refine gate_dst (N := 4) rfl ?_); refine boxE (N := 4) (cs := #[.int .u64 a1_0, .int .u64 a1_1, .int .i64 a1_2, .int .i64 a1_3]) (t := 30) ?_; intro gb309 hg w8 hbox hb; have BK309 := Aside0.mk (hbox); have GW309 := szB hg HB.out; have GE309 := szB hg HB.out; replace HB := bsB HB.out hb; clear hb hbox hg) | ((with_reducible refine gate_callee (f := 66) rfl ?_); refine gL (some 9) Try.func66 #[.int .i64 a0] ?_; (with_reducible refine (interval_good.calls a0 true _ A4.out).mono ?_); rintro e w' ⟨rfl, ⟨nd, rfl⟩⟩; refine ⟨_, rfl, ?_⟩) | (go_at_call 56; (with_reducible refine (bits_Mask.calls a0 t311 _ A6.out).mono ?_); rintro e w9 ⟨rfl, hb⟩; replace BK309 := bkB BK309.out hb; replace HB := bsB HB.out hb; (try clear hb); (try clear hb2); (try clear hk); (try clear hi)))
   go_ret
   exact ⟨by first | rfl | (simp [errW_none, errW_some] <;> rfl) | (simp [*, errW_none, errW_some] <;> rfl), bsL HB.out⟩
  ·
   rw [if_neg c7] at H
   have c7b0 : decide (t311 < a2) = false := decide_eq_false c7
   clear c7
   replace H := Option.bind_eq_some_iff.mp H
   obtain ⟨t312, A100, H⟩ := H
   replace H : (if a2 ≥ a1_0 then (if a2 ≤ a1_1 then (if t312 ≥ a1_2 then (some (decide (t312 ≤ a1_3))) else (some false)) else (some false)) else (some false)) = some r := H
   have A10 := Aside0.mk A100
   clear A100
   by_cases c11 : a2 ≥ a1_0
   ·
    rw [if_pos c11] at H
    have c11b0 : decide (a1_0 ≤ a2) = true := decide_eq_true c11
    clear c11
    by_cases c12 : a2 ≤ a1_1
    ·
     rw [if_pos c12] at H
     have c12b0 : decide (a2 ≤ a1_1) = true := decide_eq_true c12
     clear c12
     by_cases c13 : t312 ≥ a1_2
     ·
      rw [if_pos c13] at H
      have c13b0 : decide (a1_2 ≤ t312) = true := decide_eq_true c13
      clear c13
      obtain rfl := Option.some.inj H
      go_enter Try.func22, Try.ntmps22
      go_wp2_with (first | ((with_reducible refine gate_dst (N := 4) rfl ?_); refine boxE (N := 4) (cs := #[.int .u64 a1_0, .int .u64 a1_1, .int .i64 a1_2, .int .i64 a1_3]) (t := 30) ?_; intro gb309 hg w14 hbox hb; have BK309 := Aside0.mk (hbox); have GW309 := szB hg HB.out; have GE309 := szB hg HB.out; replace HB := bsB HB.out hb; clear hb hbox hg) | ((with_reducible refine gate_callee (f := 66) rfl ?_); refine gL (some 9) Try.func66 #[.int .i64 a0] ?_; (with_reducible refine (interval_good.calls a0 true _ A4.out).mono ?_); rintro e w' ⟨rfl, ⟨nd, rfl⟩⟩; refine ⟨_, rfl, ?_⟩) | (go_at_call 56; (with_reducible refine (bits_Mask.calls a0 t311 _ A6.out).mono ?_); rintro e w15 ⟨rfl, hb⟩; replace BK309 := bkB BK309.out hb; replace HB := bsB HB.out hb; (try clear hb); (try clear hb2); (try clear hk); (try clear hi)) | ((with_reducible refine gate_callee (f := 68) rfl ?_); refine gL (some 19) Try.func68 #[.int .i64 a0, .int .u64 a2] ?_; (with_reducible refine (bits_Signed.calls a0 a2 t312 _ A10.out).mono ?_); rintro e w16 ⟨rfl, hb⟩; refine ⟨_, rfl, ?_⟩; replace BK309 := bkB BK309.out hb; replace HB := bsB HB.out hb; (try clear hb); (try clear hb2); (try clear hk); (try clear hi); obtain ⟨hcz17_0, hcz17_1, hcz17_2, hcz17_3, hfz17_0, hfz17_1, hfz17_2, hfz17_3⟩ := own4 BK309.out))
      go_ret
      exact ⟨by first | rfl | (simp [errW_none, errW_some] <;> rfl) | (simp [*, errW_none, errW_some] <;> rfl), bsL HB.out⟩
     ·
      rw [if_neg c13] at H
      have c13b0 : decide (a1_2 ≤ t312) = false := decide_eq_false c13
      clear c13
      obtain rfl := Option.some.inj H
      go_enter Try.func22, Try.ntmps22
      go_wp2_with (first | ((with_reducible refine gate_dst (N := 4) rfl ?_); refine boxE (N := 4) (cs := #[.int .u64 a1_0, .int .u64 a1_1, .int .i64 a1_2, .int .i64 a1_3]) (t := 30) ?_; intro gb309 hg w18 hbox hb; have BK309 := Aside0.mk (hbox); have GW309 := szB hg HB.out; have GE309 := szB hg HB.out; replace HB := bsB HB.out hb; clear hb hbox hg) | ((with_reducible refine gate_callee (f := 66) rfl ?_); refine gL (some 9) Try.func66 #[.int .i64 a0] ?_; (with_reducible refine (interval_good.calls a0 true _ A4.out).mono ?_); rintro e w' ⟨rfl, ⟨nd, rfl⟩⟩; refine ⟨_, rfl, ?_⟩) | (go_at_call 56; (with_reducible refine (bits_Mask.calls a0 t311 _ A6.out).mono ?_); rintro e w19 ⟨rfl, hb⟩; replace BK309 := bkB BK309.out hb; replace HB := bsB HB.out hb; (try clear hb); (try clear hb2); (try clear hk); (try clear hi)) | ((with_reducible refine gate_callee (f := 68) rfl ?_); refine gL (some 19) Try.func68 #[.int .i64 a0, .int .u64 a2] ?_; (with_reducible refine (bits_Signed.calls a0 a2 t312 _ A10.out).mono ?_); rintro e w20 ⟨rfl, hb⟩; refine ⟨_, rfl, ?_⟩; replace BK309 := bkB BK309.out hb; replace HB := bsB HB.out hb; (try clear hb); (try clear hb2); (try clear hk); (try clear hi); obtain ⟨hcz21_0, hcz21_1, hcz21_2, hcz21_3, hfz21_0, hfz21_1, hfz21_2, hfz21_3⟩ := own4 BK309.out))
      go_ret
      exact ⟨by first | rfl | (simp [errW_none, errW_some] <;> rfl) | (simp [*, errW_none, errW_some] <;> rfl), bsL HB.out⟩
    ·
     rw [if_neg c12] at H
     have c12b0 : decide (a2 ≤ a1_1) = false := decide_eq_false c12
     clear c12
     obtain rfl := Option.some.inj H
     go_enter Try.func22, Try.ntmps22
     go_wp2_with (first | ((with_reducible refine gate_dst (N := 4) rfl ?_); refine boxE (N := 4) (cs := #[.int .u64 a1_0, .int .u64 a1_1, .int .i64 a1_2, .int .i64 a1_3]) (t := 30) ?_; intro gb309 hg w22 hbox hb; have BK309 := Aside0.mk (hbox); have GW309 := szB hg HB.out; have GE309 := szB hg HB.out; replace HB := bsB HB.out hb; clear hb hbox hg) | ((with_reducible refine gate_callee (f := 66) rfl ?_); refine gL (some 9) Try.func66 #[.int .i64 a0] ?_; (with_reducible refine (interval_good.calls a0 true _ A4.out).mono ?_); rintro e w' ⟨rfl, ⟨nd, rfl⟩⟩; refine ⟨_, rfl, ?_⟩) | (go_at_call 56; (with_reducible refine (bits_Mask.calls a0 t311 _ A6.out).mono ?_); rintro e w23 ⟨rfl, hb⟩; replace BK309 := bkB BK309.out hb; replace HB := bsB HB.out hb; (try clear hb); (try clear hb2); (try clear hk); (try clear hi)) | ((with_reducible refine gate_callee (f := 68) rfl ?_); refine gL (some 19) Try.func68 #[.int .i64 a0, .int .u64 a2] ?_; (with_reducible refine (bits_Signed.calls a0 a2 t312 _ A10.out).mono ?_); rintro e w24 ⟨rfl, hb⟩; refine ⟨_, rfl, ?_⟩; replace BK309 := bkB BK309.out hb; replace HB := bsB HB.out hb; (try clear hb); (try clear hb2); (try clear hk); (try clear hi); obtain ⟨hcz25_0, hcz25_1, hcz25_2, hcz25_3, hfz25_0, hfz25_1, hfz25_2, hfz25_3⟩ := own4 BK309.out))
     go_ret
     exact ⟨by first | rfl | (simp [errW_none, errW_some] <;> rfl) | (simp [*, errW_none, errW_some] <;> rfl), bsL HB.out⟩
   ·
    rw [if_neg c11] at H
    have c11b0 : decide (a1_0 ≤ a2) = false := decide_eq_false c11
    clear c11
    obtain rfl := Option.some.inj H
    go_enter Try.func22, Try.ntmps22
    go_wp2_with (first | ((with_reducible refine gate_dst (N := 4) rfl ?_); refine boxE (N := 4) (cs := #[.int .u64 a1_0, .int .u64 a1_1, .int .i64 a1_2, .int .i64 a1_3]) (t := 30) ?_; intro gb309 hg w26 hbox hb; have BK309 := Aside0.mk (hbox); have GW309 := szB hg HB.out; have GE309 := szB hg HB.out; replace HB := bsB HB.out hb; clear hb hbox hg) | ((with_reducible refine gate_callee (f := 66) rfl ?_); refine gL (some 9) Try.func66 #[.int .i64 a0] ?_; (with_reducible refine (interval_good.calls a0 true _ A4.out).mono ?_); rintro e w' ⟨rfl, ⟨nd, rfl⟩⟩; refine ⟨_, rfl, ?_⟩) | (go_at_call 56; (with_reducible refine (bits_Mask.calls a0 t311 _ A6.out).mono ?_); rintro e w27 ⟨rfl, hb⟩; replace BK309 := bkB BK309.out hb; replace HB := bsB HB.out hb; (try clear hb); (try clear hb2); (try clear hk); (try clear hi)) | ((with_reducible refine gate_callee (f := 68) rfl ?_); refine gL (some 19) Try.func68 #[.int .i64 a0, .int .u64 a2] ?_; (with_reducible refine (bits_Signed.calls a0 a2 t312 _ A10.out).mono ?_); rintro e w28 ⟨rfl, hb⟩; refine ⟨_, rfl, ?_⟩; replace BK309 := bkB BK309.out hb; replace HB := bsB HB.out hb; (try clear hb); (try clear hb2); (try clear hk); (try clear hi); obtain ⟨hcz29_0, hcz29_1, hcz29_2, hcz29_3, hfz29_0, hfz29_1, hfz29_2, hfz29_3⟩ := own4 BK309.out))
    go_ret
    exact ⟨by first | rfl | (simp [errW_none, errW_some] <;> rfl) | (simp [*, errW_none, errW_some] <;> rfl), bsL HB.out⟩
 ·
  replace c5 := Bool.eq_false_iff.mpr c5
  subst c5
  have H1 : (some false) = some r := by rw [if_neg (show ¬ (false = true) by decide)] at H; exact H
  clear H
  have H := H1
  clear H1
  obtain rfl := Option.some.inj H
  go_enter Try.func22, Try.ntmps22
  go_wp2_with (first | ((with_reducible refine gate_dst (N := 4) rfl ?_); refine boxE (N := 4) (cs := #[.int .u64 a1_0, .int .u64 a1_1, .int .i64 a1_2, .int .i64 a1_3]) (t := 30) ?_; intro gb309 hg w30 hbox hb; have BK309 := Aside0.mk (hbox); have GW309 := szB hg HB.out; have GE309 := szB hg HB.out; replace HB := bsB HB.out hb; clear hb hbox hg) | ((with_reducible refine gate_callee (f := 66) rfl ?_); refine gL (some 9) Try.func66 #[.int .i64 a0] ?_; (with_reducible refine (interval_good.calls a0 false _ A4.out).mono ?_); rintro e w' ⟨rfl, ⟨nd, rfl⟩⟩; refine ⟨_, rfl, ?_⟩))
  go_ret
  exact ⟨by first | rfl | (simp [errW_none, errW_some] <;> rfl) | (simp [*, errW_none, errW_some] <;> rfl), bsL HB.out⟩

/-! ### knownbits_Contains: function 85 -/
def knownbits_Contains.f (a0_0 : Int) (a0_1 : Int) (a1 : Int) : Option (Bool) := if (Go.bits .and .u64 a1 a0_0) = 0 then (some ((Go.bits .and .u64 a1 a0_1) == a0_1)) else (some false)
set_option maxHeartbeats 8000000 in
set_option maxRecDepth 100000 in
theorem knownbits_Contains.calls (a0_0 : Int) (a0_1 : Int) (a1 : Int) (r : Bool) (w : World) (h : knownbits_Contains.f a0_0 a0_1 a1 = some r) :
  Calls Try.prog 85 #[.agg #[.int .u64 a0_0, .int .u64 a0_1], .int .u64 a1] w fun e w' => e = .returned (.bool r) ∧ Below w.heap.size w w' := by
 have hu110 := Try.underlying110
 have HB := Aside0.mk (Below.refl w.heap.size w)
 have H : (if (Go.bits .and .u64 a1 a0_0) = 0 then (some ((Go.bits .and .u64 a1 a0_1) == a0_1)) else (some false)) = some r := h
 clear h
 by_cases c3 : (Go.bits .and .u64 a1 a0_0) = 0
 ·
  rw [if_pos c3] at H
  have c3b0 : ((Go.bits .and .u64 a1 a0_0) == 0) = true := beq_iff_eq.mpr c3
  have c3b1 : ((Go.bits .and .u64 a1 a0_0) != 0) = false := bne_eq_false_iff_eq.mpr c3
  clear c3
  obtain rfl := Option.some.inj H
  go_enter Try.func85, Try.ntmps85
  go_wp2_with (first | ((with_reducible refine gate_dst (N := 2) rfl ?_); refine boxE (N := 2) (cs := #[.int .u64 a0_0, .int .u64 a0_1]) (t := 110) ?_; intro gb313 hg w4 hbox hb; have BK313 := Aside0.mk (hbox); have GW313 := szB hg HB.out; have GE313 := szB hg HB.out; replace HB := bsB HB.out hb; clear hb hbox hg; obtain ⟨hcz5_0, hcz5_1, hfz5_0, hfz5_1⟩ := own2 BK313.out))
  go_ret
  exact ⟨by first | rfl | (simp [errW_none, errW_some] <;> rfl) | (simp [*, errW_none, errW_some] <;> rfl), bsL HB.out⟩
 ·
  rw [if_neg c3] at H
  have c3b0 : ((Go.bits .and .u64 a1 a0_0) == 0) = false := beq_eq_false_iff_ne.mpr c3
  have c3b1 : ((Go.bits .and .u64 a1 a0_0) != 0) = true := bne_iff_ne.mpr c3
  obtain rfl := Option.some.inj H
  go_enter Try.func85, Try.ntmps85
  go_wp2_with (first | ((with_reducible refine gate_dst (N := 2) rfl ?_); refine boxE (N := 2) (cs := #[.int .u64 a0_0, .int .u64 a0_1]) (t := 110) ?_; intro gb313 hg w6 hbox hb; have BK313 := Aside0.mk (hbox); have GW313 := szB hg HB.out; have GE313 := szB hg HB.out; replace HB := bsB HB.out hb; clear hb hbox hg; obtain ⟨hcz7_0, hcz7_1, hfz7_0, hfz7_1⟩ := own2 BK313.out))
  go_ret
  exact ⟨by first | rfl | (simp [errW_none, errW_some] <;> rfl) | (simp [*, errW_none, errW_some] <;> rfl), bsL HB.out⟩

/-! ### facts_Contains: function 28 -/
def facts_Contains.f (a0 : Int) (a1_0 : Int) (a1_1 : Int) (a1_2 : Int) (a1_3 : Int) (a1_4 : Int) (a1_5 : Int) (a2 : Int) : Option (Bool) := (facts_known.f a1_0 a1_1 a1_2 a1_3 a1_4 a1_5).bind fun bt315 => ((knownbits_Contains.f bt315.1 bt315.2 a2).bind fun t317 => (if t317 = true then ((facts_span.f a1_0 a1_1 a1_2 a1_3 a1_4 a1_5).bind fun bt318 => ((interval_Contains.f a0 bt318.1 bt318.2.1 bt318.2.2.1 bt318.2.2.2 a2).bind fun t322 => (some t322))) else (some false)))
set_option maxHeartbeats 8000000 in
set_option maxRecDepth 100000 in
theorem facts_Contains.calls (a0 : Int) (a1_0 : Int) (a1_1 : Int) (a1_2 : Int) (a1_3 : Int) (a1_4 : Int) (a1_5 : Int) (a2 : Int) (r : Bool) (w : World) (h : facts_Contains.f a0 a1_0 a1_1 a1_2 a1_3 a1_4 a1_5 a2 = some r) :
  Calls Try.prog 28 #[.int .i64 a0, .agg #[.int .u64 a1_0, .int .u64 a1_1, .int .u64 a1_2, .int .u64 a1_3, .int .i64 a1_4, .int .i64 a1_5], .int .u64 a2] w fun e w' => e = .returned (.bool r) ∧ Below w.heap.size w w' := by
 have hu50 := Try.underlying50
 have HB := Aside0.mk (Below.refl w.heap.size w)
 have H : ((facts_known.f a1_0 a1_1 a1_2 a1_3 a1_4 a1_5).bind fun bt315 => ((knownbits_Contains.f bt315.1 bt315.2 a2).bind fun t317 => (if t317 = true then ((facts_span.f a1_0 a1_1 a1_2 a1_3 a1_4 a1_5).bind fun bt318 => ((interval_Contains.f a0 bt318.1 bt318.2.1 bt318.2.2.1 bt318.2.2.2 a2).bind fun t322 => (some t322))) else (some false)))) = some r := h
 clear h
 replace H := Option.bind_eq_some_iff.mp H
 obtain ⟨⟨t315, t316⟩, A40, H⟩ := H
 replace H : ((knownbits_Contains.f t315 t316 a2).bind fun t317 => (if t317 = true then ((facts_span.f a1_0 a1_1 a1_2 a1_3 a1_4 a1_5).bind fun bt318 => ((interval_Contains.f a0 bt318.1 bt318.2.1 bt318.2.2.1 bt318.2.2.2 a2).bind fun t322 => (some t322))) else (some false))) = some r := H
 have A4 := Aside0.mk A40
 clear A40
 replace H := Option.bind_eq_some_iff.mp H
 obtain ⟨t317, A50, H⟩ := H
 replace H : (if t317 = true then ((facts_span.f a1_0 a1_1 a1_2 a1_3 a1_4 a1_5).bind fun bt318 => ((interval_Contains.f a0 bt318.1 bt318.2.1 bt318.2.2.1 bt318.2.2.2 a2).bind fun t322 => (some t322))) else (some false)) = some r := H
 have A5 := Aside0.mk A50
 clear A50
 by_cases c6 : t317 = true
 ·
  subst c6
  have H1 : ((facts_span.f a1_0 a1_1 a1_2 a1_3 a1_4 a1_5).bind fun bt318 => ((interval_Contains.f a0 bt318.1 bt318.2.1 bt318.2.2.1 bt318.2.2.2 a2).bind fun t322 => (some t322))) = some r := by rw [if_pos rfl] at H; exact H
  clear H
  have H := H1
  clear H1
  replace H := Option.bind_eq_some_iff.mp H
  obtain ⟨⟨t318, t319, t320, t321⟩, A70, H⟩ := H
  replace H : ((interval_Contains.f a0 t318 t319 t320 t321 a2).bind fun t322 => (some t322)) = some r := H
  have A7 := Aside0.mk A70
  clear A70
  replace H := Option.bind_eq_some_iff.mp H
  obtain ⟨t322, A80, H⟩ := H
  replace H : (some t322) = some r := H
  have A8 := Aside0.mk A80
  clear A80
  obtain rfl := Option.some.inj H
  go_enter Try.func28, Try.ntmps28
  go_wp2_with (first | ((with_reducible refine gate_dst (N := 4) rfl ?_); refine boxE (N := 4) (cs := #[.int .u64 a1_0, .int .u64 a1_1, .int .u64 a1_2, .int .u64 a1_3, .int .i64 a1_4, .int .i64 a1_5]) (t := 50) ?_; intro gb314 hg w9 hbox hb; have BK314 := Aside0.mk (hbox); have GW314 := szB hg HB.out; have GE314 := szB hg HB.out; replace HB := bsB HB.out hb; clear hb hbox hg; obtain ⟨hcz10_0, hcz10_1, hcz10_2, hcz10_3, hcz10_4, hcz10_5, hfz10_0, hfz10_1, hfz10_2, hfz10_3, hfz10_4, hfz10_5⟩ := own6 BK314.out) | ((with_reducible refine gate_callee (f := 86) rfl ?_); refine gL (some 8) Try.func86 #[.agg #[.int .u64 a1_0, .int .u64 a1_1, .int .u64 a1_2, .int .u64 a1_3, .int .i64 a1_4, .int .i64 a1_5]] ?_; (with_reducible refine (facts_known.calls a1_0 a1_1 a1_2 a1_3 a1_4 a1_5 t315 t316 _ A4.out).mono ?_); rintro e w11 ⟨rfl, hb⟩; refine ⟨_, rfl, ?_⟩; replace BK314 := bkB BK314.out hb; replace HB := bsB HB.out hb; (try clear hb); (try clear hb2); (try clear hk); (try clear hi)) | ((with_reducible refine gate_callee (f := 85) rfl ?_); refine gL (some 10) Try.func85 #[.agg #[.int .u64 t315, .int .u64 t316], .int .u64 a2] ?_; (with_reducible refine (knownbits_Contains.calls t315 t316 a2 true _ A5.out).mono ?_); rintro e w12 ⟨rfl, hb⟩; refine ⟨_, rfl, ?_⟩; replace BK314 := bkB BK314.out hb; replace HB := bsB HB.out hb; (try clear hb); (try clear hb2); (try clear hk); (try clear hi); obtain ⟨hcz13_0, hcz13_1, hcz13_2, hcz13_3, hcz13_4, hcz13_5, hfz13_0, hfz13_1, hfz13_2, hfz13_3, hfz13_4, hfz13_5⟩ := own6 BK314.out) | (go_at_call 76; (with_reducible refine (facts_span.calls a1_0 a1_1 a1_2 a1_3 a1_4 a1_5 t318 t319 t320 t321 _ A7.out).mono ?_); rintro e w14 ⟨rfl, hb⟩; replace BK314 := bkB BK314.out hb; replace HB := bsB HB.out hb; (try clear hb); (try clear hb2); (try clear hk); (try clear hi)) | (go_at_call 22; (with_reducible refine (interval_Contains.calls a0 t318 t319 t320 t321 a2 t322 _ A8.out).mono ?_); rintro e w15 ⟨rfl, hb⟩; replace BK314 := bkB BK314.out hb; replace HB := bsB HB.out hb; (try clear hb); (try clear hb2); (try clear hk); (try clear hi)))
  go_ret
  exact ⟨by first | rfl | (simp [errW_none, errW_some] <;> rfl) | (simp [*, errW_none, errW_some] <;> rfl), bsL HB.out⟩
 ·
  replace c6 := Bool.eq_false_iff.mpr c6
  subst c6
  have H1 : (some false) = some r := by rw [if_neg (show ¬ (false = true) by decide)] at H; exact H
  clear H
  have H := H1
  clear H1
  obtain rfl := Option.some.inj H
  go_enter Try.func28, Try.ntmps28
  go_wp2_with (first | ((with_reducible refine gate_dst (N := 4) rfl ?_); refine boxE (N := 4) (cs := #[.int .u64 a1_0, .int .u64 a1_1, .int .u64 a1_2, .int .u64 a1_3, .int .i64 a1_4, .int .i64 a1_5]) (t := 50) ?_; intro gb314 hg w16 hbox hb; have BK314 := Aside0.mk (hbox); have GW314 := szB hg HB.out; have GE314 := szB hg HB.out; replace HB := bsB HB.out hb; clear hb hbox hg; obtain ⟨hcz17_0, hcz17_1, hcz17_2, hcz17_3, hcz17_4, hcz17_5, hfz17_0, hfz17_1, hfz17_2, hfz17_3, hfz17_4, hfz17_5⟩ := own6 BK314.out) | ((with_reducible refine gate_callee (f := 86) rfl ?_); refine gL (some 8) Try.func86 #[.agg #[.int .u64 a1_0, .int .u64 a1_1, .int .u64 a1_2, .int .u64 a1_3, .int .i64 a1_4, .int .i64 a1_5]] ?_; (with_reducible refine (facts_known.calls a1_0 a1_1 a1_2 a1_3 a1_4 a1_5 t315 t316 _ A4.out).mono ?_); rintro e w18 ⟨rfl, hb⟩; refine ⟨_, rfl, ?_⟩; replace BK314 := bkB BK314.out hb; replace HB := bsB HB.out hb; (try clear hb); (try clear hb2); (try clear hk); (try clear hi)) | ((with_reducible refine gate_callee (f := 85) rfl ?_); refine gL (some 10) Try.func85 #[.agg #[.int .u64 t315, .int .u64 t316], .int .u64 a2] ?_; (with_reducible refine (knownbits_Contains.calls t315 t316 a2 false _ A5.out).mono ?_); rintro e w19 ⟨rfl, hb⟩; refine ⟨_, rfl, ?_⟩; replace BK314 := bkB BK314.out hb; replace HB := bsB HB.out hb; (try clear hb); (try clear hb2); (try clear hk); (try clear hi)))
  go_ret
  exact ⟨by first | rfl | (simp [errW_none, errW_some] <;> rfl) | (simp [*, errW_none, errW_some] <;> rfl), bsL HB.out⟩

/-! ### knownbits_Leq: function 87 -/
def knownbits_Leq.f (a0_0 : Int) (a0_1 : Int) (a1_0 : Int) (a1_1 : Int) : Option (Bool) := if (Go.bits .andNot .u64 a1_0 a0_0) = 0 then (some ((Go.bits .andNot .u64 a1_1 a0_1) == 0)) else (some false)
set_option maxHeartbeats 8000000 in
set_option maxRecDepth 100000 in
theorem knownbits_Leq.calls (a0_0 : Int) (a0_1 : Int) (a1_0 : Int) (a1_1 : Int) (r : Bool) (w : World) (h : knownbits_Leq.f a0_0 a0_1 a1_0 a1_1 = some r) :
  Calls Try.prog 87 #[.agg #[.int .u64 a0_0, .int .u64 a0_1], .agg #[.int .u64 a1_0, .int .u64 a1_1]] w fun e w' => e = .returned (.bool r) ∧ Below w.heap.size w w' := by
 have hu110 := Try.underlying110
 have HB := Aside0.mk (Below.refl w.heap.size w)
 have H : (if (Go.bits .andNot .u64 a1_0 a0_0) = 0 then (some ((Go.bits .andNot .u64 a1_1 a0_1) == 0)) else (some false)) = some r := h
 clear h
 by_cases c3 : (Go.bits .andNot .u64 a1_0 a0_0) = 0
 ·
  rw [if_pos c3] at H
  have c3b0 : ((Go.bits .andNot .u64 a1_0 a0_0) == 0) = true := beq_iff_eq.mpr c3
  have c3b1 : ((Go.bits .andNot .u64 a1_0 a0_0) != 0) = false := bne_eq_false_iff_eq.mpr c3
  clear c3
  obtain rfl := Option.some.inj H
  go_enter Try.func87, Try.ntmps87
  go_wp2_with (first | ((with_reducible refine gate_dst (N := 2) rfl ?_); refine boxE (N := 2) (cs := #[.int .u64 a0_0, .int .u64 a0_1]) (t := 110) ?_; intro gb323 hg w4 hbox hb; have BK323 := Aside0.mk (hbox); have GW323 := szB hg HB.out; have GE323 := szB hg HB.out; replace HB := bsB HB.out hb; clear hb hbox hg) | ((with_reducible refine gate_dst (N := 3) rfl ?_); refine boxE (N := 3) (cs := #[.int .u64 a1_0, .int .u64 a1_1]) (t := 110) ?_; intro gb324 hg w5 hbox hb; have BK324 := Aside0.mk (hbox); have GW324 := szB hg HB.out; have GE324 := szB hg HB.out; have NB323_324 := neL hg BK323.out; have NB324_323 := neG hg BK323.out; replace BK323 := bkB BK323.out hb; replace HB := bsB HB.out hb; clear hb hbox hg; have hnb6 := NB324_323.out; have hnc6 := NB323_324.out; obtain ⟨hcz7_0, hcz7_1, hfz7_0, hfz7_1⟩ := own2 BK324.out; obtain ⟨hcz8_0, hcz8_1, hfz8_0, hfz8_1⟩ := own2 BK323.out))
  go_ret
  exact ⟨by first | rfl | (simp [errW_none, errW_some] <;> rfl) | (simp [*, errW_none, errW_some] <;> rfl), bsL HB.out⟩
 ·
  rw [if_neg c3] at H
  have c3b0 : ((Go.bits .andNot .u64 a1_0 a0_0) == 0) = false := beq_eq_false_iff_ne.mpr c3
  have c3b1 : ((Go.bits .andNot .u64 a1_0 a0_0) != 0) = true := bne_iff_ne.mpr c3
  obtain rfl := Option.some.inj H
  go_enter Try.func87, Try.ntmps87
  go_wp2_with (first | ((with_reducible refine gate_dst (N := 2) rfl ?_); refine boxE (N := 2) (cs := #[.int .u64 a0_0, .int .u64 a0_1]) (t := 110) ?_; intro gb323 hg w9 hbox hb; have BK323 := Aside0.mk (hbox); have GW323 := szB hg HB.out; have GE323 := szB hg HB.out; replace HB := bsB HB.out hb; clear hb hbox hg) | ((with_reducible refine gate_dst (N := 3) rfl ?_); refine boxE (N := 3) (cs := #[.int .u64 a1_0, .int .u64 a1_1]) (t := 110) ?_; intro gb324 hg w10 hbox hb; have BK324 := Aside0.mk (hbox); have GW324 := szB hg HB.out; have GE324 := szB hg HB.out; have NB323_324 := neL hg BK323.out; have NB324_323 := neG hg BK323.out; replace BK323 := bkB BK323.out hb; replace HB := bsB HB.out hb; clear hb hbox hg; have hnb11 := NB324_323.out; have hnc11 := NB323_324.out; obtain ⟨hcz12_0, hcz12_1, hfz12_0, hfz12_1⟩ := own2 BK324.out; obtain ⟨hcz13_0, hcz13_1, hfz13_0, hfz13_1⟩ := own2 BK323.out))
  go_ret
  exact ⟨by first | rfl | (simp [errW_none, errW_some] <;> rfl) | (simp [*, errW_none, errW_some] <;> rfl), bsL HB.out⟩

/-! ### interval_Leq: function 88 -/
def interval_Leq.f (a0_0 : Int) (a0_1 : Int) (a0_2 : Int) (a0_3 : Int) (a1_0 : Int) (a1_1 : Int) (a1_2 : Int) (a1_3 : Int) : Option (Bool) := if a0_0 ≥ a1_0 then (if a0_1 ≤ a1_1 then (if a0_2 ≥ a1_2 then (some (decide (a0_3 ≤ a1_3))) else (some false)) else (some false)) else (some false)
set_option maxHeartbeats 8000000 in
set_option maxRecDepth 100000 in
theorem interval_Leq.calls (a0_0 : Int) (a0_1 : Int) (a0_2 : Int) (a0_3 : Int) (a1_0 : Int) (a1_1 : Int) (a1_2 : Int) (a1_3 : Int) (r : Bool) (w : World) (h : interval_Leq.f a0_0 a0_1 a0_2 a0_3 a1_0 a1_1 a1_2 a1_3 = some r) :
  Calls Try.prog 88 #[.agg #[.int .u64 a0_0, .int .u64 a0_1, .int .i64 a0_2, .int .i64 a0_3], .agg #[.int .u64 a1_0, .int .u64 a1_1, .int .i64 a1_2, .int .i64 a1_3]] w fun e w' => e = .returned (.bool r) ∧ Below w.heap.size w w' := by
 have hu30 := Try.underlying30
 have HB := Aside0.mk (Below.refl w.heap.size w)
 have H : (if a0_0 ≥ a1_0 then (if a0_1 ≤ a1_1 then (if a0_2 ≥ a1_2 then (some (decide (a0_3 ≤ a1_3))) else (some false)) else (some false)) else (some false)) = some r := h
 clear h
 by_cases c3 : a0_0 ≥ a1_0
 ·
  rw [if_pos c3] at H
  have c3b0 : decide (a1_0 ≤ a0_0) = true := decide_eq_true c3
  clear c3
  by_cases c4 : a0_1 ≤ a1_1
  ·
   rw [if_pos c4] at H
   have c4b0 : decide (a0_1 ≤ a1_1) = true := decide_eq_true c4
   clear c4
   by_cases c5 : a0_2 ≥ a1_2
   ·
    rw [if_pos c5] at H
    have c5b0 : decide (a1_2 ≤ a0_2) = true := decide_eq_true c5
    clear c5
    obtain rfl := Option.some.inj H
    go_enter Try.func88, Try.ntmps88
    go_wp2_with (first | ((with_reducible refine gate_dst (N := 2) rfl ?_); refine boxE (N := 2) (cs := #[.int .u64 a0_0, .int .u64 a0_1, .int .i64 a0_2, .int .i64 a0_3]) (t := 30) ?_; intro gb325 hg w6 hbox hb; have BK325 := Aside0.mk (hbox); have GW325 := szB hg HB.out; have GE325 := szB hg HB.out; replace HB := bsB HB.out hb; clear hb hbox hg) | ((with_reducible refine gate_dst (N := 3) rfl ?_); refine boxE (N := 3) (cs := #[.int .u64 a1_0, .int .u64 a1_1, .int .i64 a1_2, .int .i64 a1_3]) (t := 30) ?_; intro gb326 hg w7 hbox hb; have BK326 := Aside0.mk (hbox); have GW326 := szB hg HB.out; have GE326 := szB hg HB.out; have NB325_326 := neL hg BK325.out; have NB326_325 := neG hg BK325.out; replace BK325 := bkB BK325.out hb; replace HB := bsB HB.out hb; clear hb hbox hg; have hnb8 := NB325_326.out; have hnc8 := NB326_325.out; obtain ⟨hcz9_0, hcz9_1, hcz9_2, hcz9_3, hfz9_0, hfz9_1, hfz9_2, hfz9_3⟩ := own4 BK325.out; obtain ⟨hcz10_0, hcz10_1, hcz10_2, hcz10_3, hfz10_0, hfz10_1, hfz10_2, hfz10_3⟩ := own4 BK326.out))
    go_ret
    exact ⟨by first | rfl | (simp [errW_none, errW_some] <;> rfl) | (simp [*, errW_none, errW_some] <;> rfl), bsL HB.out⟩
   ·
    rw [if_neg c5] at H
    have c5b0 : decide (a1_2 ≤ a0_2) = false := decide_eq_false c5
    clear c5
    obtain rfl := Option.some.inj H
    go_enter Try.func88, Try.ntmps88
    go_wp2_with (first | ((with_reducible refine gate_dst (N := 2) rfl ?_); refine boxE (N := 2) (cs := #[.int .u64 a0_0, .int .u64 a0_1, .int .i64 a0_2, .int .i64 a0_3]) (t := 30) ?_; intro gb325 hg w11 hbox hb; have BK325 := Aside0.mk (hbox); have GW325 := szB hg HB.out; have GE325 := szB hg HB.out; replace HB := bsB HB.out hb; clear hb hbox hg) | ((with_reducible refine gate_dst (N := 3) rfl ?_); refine boxE (N := 3) (cs := #[.int .u64 a1_0, .int .u64 a1_1, .int .i64 a1_2, .int .i64 a1_3]) (t := 30) ?_; intro gb326 hg w12 hbox hb; have BK326 := Aside0.mk (hbox); have GW326 := szB hg HB.out; have GE326 := szB hg HB.out; have NB325_326 := neL hg BK325.out; have NB326_325 := neG hg BK325.out; replace BK325 := bkB BK325.out hb; replace HB := bsB HB.out hb; clear hb hbox hg; have hnb13 := NB325_326.out; have hnc13 := NB326_325.out; obtain ⟨hcz14_0, hcz14_1, hcz14_2, hcz14_3, hfz14_0, hfz14_1, hfz14_2, hfz14_3⟩ := own4 BK325.out; obtain ⟨hcz15_0, hcz15_1, hcz15_2, hcz15_3, hfz15_0, hfz15_1, hfz15_2, hfz15_3⟩ := own4 BK326.out))
    go_ret
    exact ⟨by first | rfl | (simp [errW_none, errW_some] <;> rfl) | (simp [*, errW_none, errW_some] <;> rfl), bsL HB.out⟩
  ·
   rw [if_neg c4] at H
   have c4b0 : decide (a0_1 ≤ a1_1) = false := decide_eq_false c4
   clear c4
   obtain rfl := Option.some.inj H
   go_enter Try.func88, Try.ntmps88
   go_wp2_with (first | ((with_reducible refine gate_dst (N := 2) rfl ?_); refine boxE (N := 2) (cs := #[.int .u64 a0_0, .int .u64 a0_1, .int .i64 a0_2, .int .i64 a0_3]) (t := 30) ?_; intro gb325 hg w16 hbox hb; have BK325 := Aside0.mk (hbox); have GW325 := szB hg HB.out; have GE325 := szB hg HB.out; replace HB := bsB HB.out hb; clear hb hbox hg) | ((with_reducible refine gate_dst (N := 3) rfl ?_); refine boxE (N := 3) (cs := #[.int .u64 a1_0, .int .u64 a1_1, .int .i64 a1_2, .int .i64 a1_3]) (t := 30) ?_; intro gb326 hg w17 hbox hb; have BK326 := Aside0.mk (hbox); have GW326 := szB hg HB.out; have GE326 := szB hg HB.out; have NB325_326 := neL hg BK325.out; have NB326_325 := neG hg BK325.out; replace BK325 := bkB BK325.out hb; replace HB := bsB HB.out hb; clear hb hbox hg; have hnb18 := NB325_326.out; have hnc18 := NB326_325.out; obtain ⟨hcz19_0, hcz19_1, hcz19_2, hcz19_3, hfz19_0, hfz19_1, hfz19_2, hfz19_3⟩ := own4 BK325.out; obtain ⟨hcz20_0, hcz20_1, hcz20_2, hcz20_3, hfz20_0, hfz20_1, hfz20_2, hfz20_3⟩ := own4 BK326.out))
   go_ret
   exact ⟨by first | rfl | (simp [errW_none, errW_some] <;> rfl) | (simp [*, errW_none, errW_some] <;> rfl), bsL HB.out⟩
 ·
  rw [if_neg c3] at H
  have c3b0 : decide (a1_0 ≤ a0_0) = false := decide_eq_false c3
  clear c3
  obtain rfl := Option.some.inj H
  go_enter Try.func88, Try.ntmps88
  go_wp2_with (first | ((with_reducible refine gate_dst (N := 2) rfl ?_); refine boxE (N := 2) (cs := #[.int .u64 a0_0, .int .u64 a0_1, .int .i64 a0_2, .int .i64 a0_3]) (t := 30) ?_; intro gb325 hg w21 hbox hb; have BK325 := Aside0.mk (hbox); have GW325 := szB hg HB.out; have GE325 := szB hg HB.out; replace HB := bsB HB.out hb; clear hb hbox hg) | ((with_reducible refine gate_dst (N := 3) rfl ?_); refine boxE (N := 3) (cs := #[.int .u64 a1_0, .int .u64 a1_1, .int .i64 a1_2, .int .i64 a1_3]) (t := 30) ?_; intro gb326 hg w22 hbox hb; have BK326 := Aside0.mk (hbox); have GW326 := szB hg HB.out; have GE326 := szB hg HB.out; have NB325_326 := neL hg BK325.out; have NB326_325 := neG hg BK325.out; replace BK325 := bkB BK325.out hb; replace HB := bsB HB.out hb; clear hb hbox hg; have hnb23 := NB325_326.out; have hnc23 := NB326_325.out; obtain ⟨hcz24_0, hcz24_1, hcz24_2, hcz24_3, hfz24_0, hfz24_1, hfz24_2, hfz24_3⟩ := own4 BK325.out; obtain ⟨hcz25_0, hcz25_1, hcz25_2, hcz25_3, hfz25_0, hfz25_1, hfz25_2, hfz25_3⟩ := own4 BK326.out))
  go_ret
  exact ⟨by first | rfl | (simp [errW_none, errW_some] <;> rfl) | (simp [*, errW_none, errW_some] <;> rfl), bsL HB.out⟩

/-! ### facts_Leq: function 29 -/
def facts_Leq.f (a0_0 : Int) (a0_1 : Int) (a0_2 : Int) (a0_3 : Int) (a0_4 : Int) (a0_5 : Int) (a1_0 : Int) (a1_1 : Int) (a1_2 : Int) (a1_3 : Int) (a1_4 : Int) (a1_5 : Int) : Option (Bool) := (facts_known.f a0_0 a0_1 a0_2 a0_3 a0_4 a0_5).bind fun bt329 => ((facts_known.f a1_0 a1_1 a1_2 a1_3 a1_4 a1_5).bind fun bt331 => ((knownbits_Leq.f bt329.1 bt329.2 bt331.1 bt331.2).bind fun t333 => (if t333 = true then ((facts_span.f a0_0 a0_1 a0_2 a0_3 a0_4 a0_5).bind fun bt334 => ((facts_span.f a1_0 a1_1 a1_2 a1_3 a1_4 a1_5).bind fun bt338 => ((interval_Leq.f bt334.1 bt334.2.1 bt334.2.2.1 bt334.2.2.2 bt338.1 bt338.2.1 bt338.2.2.1 bt338.2.2.2).bind fun t342 => (some t342)))) else (some false))))
def facts_Leq.T1 : Bool × List (List Nat × List Nat) := (true, [([], []), ([0], [0]), ([], []), ([2, 1], [2]), ([1, 3, 3], [1, 3]), ([4, 4], [4]), ([5], [5]), ([6, 5, 5], [5, 6]), ([5], [5]), ([8, 7, 5], [5, 8]), ([7, 9, 9, 5], [5, 7, 9]), ([5, 10], [5, 10]), ([11, 10, 0, 1, 2, 3, 4, 5, 6, 7, 8, 9, 10, 11], [11])])
def facts_Leq.B1 : List Nat := [0, 1, 0, 7, 15, 31, 63, 127, 63, 511, 1023, 2047, 4095]
theorem facts_Leq.tab1 : rtab .any (opsOf Try.f29 1) = facts_Leq.T1 := by kernel_rfl
theorem facts_Leq.bits1 : waitsOk facts_Leq.T1.2 facts_Leq.B1 = true := by kernel_rfl
set_option maxHeartbeats 8000000 in
set_option maxRecDepth 100000 in
theorem facts_Leq.calls (a0_0 : Int) (a0_1 : Int) (a0_2 : Int) (a0_3 : Int) (a0_4 : Int) (a0_5 : Int) (a1_0 : Int) (a1_1 : Int) (a1_2 : Int) (a1_3 : Int) (a1_4 : Int) (a1_5 : Int) (r : Bool) (w : World) (h : facts_Leq.f a0_0 a0_1 a0_2 a0_3 a0_4 a0_5 a1_0 a1_1 a1_2 a1_3 a1_4 a1_5 = some r) :
  Calls Try.prog 29 #[.agg #[.int .u64 a0_0, .int .u64 a0_1, .int .u64 a0_2, .int .u64 a0_3, .int .i64 a0_4, .int .i64 a0_5], .agg #[.int .u64 a1_0, .int .u64 a1_1, .int .u64 a1_2, .int .u64 a1_3, .int .i64 a1_4, .int .i64 a1_5]] w fun e w' => e = .returned (.bool r) ∧ Below w.heap.size w w' := by
 have hu50 := Try.underlying50
 have HB := Aside0.mk (Below.refl w.heap.size w)
 have H : ((facts_known.f a0_0 a0_1 a0_2 a0_3 a0_4 a0_5).bind fun bt329 => ((facts_known.f a1_0 a1_1 a1_2 a1_3 a1_4 a1_5).bind fun bt331 => ((knownbits_Leq.f bt329.1 bt329.2 bt331.1 bt331.2).bind fun t333 => (if t333 = true then ((facts_span.f a0_0 a0_1 a0_2 a0_3 a0_4 a0_5).bind fun bt334 => ((facts_span.f a1_0 a1_1 a1_2 a1_3 a1_4 a1_5).bind fun bt338 => ((interval_Leq.f bt334.1 bt334.2.1 bt334.2.2.1 bt334.2.2.2 bt338.1 bt338.2.1 bt338.2.2.1 bt338.2.2.2).bind fun t342 => (some t342)))) else (some false))))) = some r := h
 clear h
 replace H := Option.bind_eq_some_iff.mp H
 obtain ⟨⟨t329, t330⟩, A30, H⟩ := H
 replace H : ((facts_known.f a1_0 a1_1 a1_2 a1_3 a1_4 a1_5).bind fun bt331 => ((knownbits_Leq.f t329 t330 bt331.1 bt331.2).bind fun t333 => (if t333 = true then ((facts_span.f a0_0 a0_1 a0_2 a0_3 a0_4 a0_5).bind fun bt334 => ((facts_span.f a1_0 a1_1 a1_2 a1_3 a1_4 a1_5).bind fun bt338 => ((interval_Leq.f bt334.1 bt334.2.1 bt334.2.2.1 bt334.2.2.2 bt338.1 bt338.2.1 bt338.2.2.1 bt338.2.2.2).bind fun t342 => (some t342)))) else (some false)))) = some r := H
 have A3 := Aside0.mk A30
 clear A30
 replace H := Option.bind_eq_some_iff.mp H
 obtain ⟨⟨t331, t332⟩, A40, H⟩ := H
 replace H : ((knownbits_Leq.f t329 t330 t331 t332).bind fun t333 => (if t333 = true then ((facts_span.f a0_0 a0_1 a0_2 a0_3 a0_4 a0_5).bind fun bt334 => ((facts_span.f a1_0 a1_1 a1_2 a1_3 a1_4 a1_5).bind fun bt338 => ((interval_Leq.f bt334.1 bt334.2.1 bt334.2.2.1 bt334.2.2.2 bt338.1 bt338.2.1 bt338.2.2.1 bt338.2.2.2).bind fun t342 => (some t342)))) else (some false))) = some r := H
 have A4 := Aside0.mk A40
 clear A40
 replace H := Option.bind_eq_some_iff.mp H
 obtain ⟨t333, A50, H⟩ := H
 replace H : (if t333 = true then ((facts_span.f a0_0 a0_1 a0_2 a0_3 a0_4 a0_5).bind fun bt334 => ((facts_span.f a1_0 a1_1 a1_2 a1_3 a1_4 a1_5).bind fun bt338 => ((interval_Leq.f bt334.1 bt334.2.1 bt334.2.2.1 bt334.2.2.2 bt338.1 bt338.2.1 bt338.2.2.1 bt338.2.2.2).bind fun t342 => (some t342)))) else (some false)) = some r := H
 have A5 := Aside0.mk A50
 clear A50
 by_cases c6 : t333 = true
 ·
  subst c6
  have H1 : ((facts_span.f a0_0 a0_1 a0_2 a0_3 a0_4 a0_5).bind fun bt334 => ((facts_span.f a1_0 a1_1 a1_2 a1_3 a1_4 a1_5).bind fun bt338 => ((interval_Leq.f bt334.1 bt334.2.1 bt334.2.2.1 bt334.2.2.2 bt338.1 bt338.2.1 bt338.2.2.1 bt338.2.2.2).bind fun t342 => (some t342)))) = some r := by rw [if_pos rfl] at H; exact H
  clear H
  have H := H1
  clear H1
  replace H := Option.bind_eq_some_iff.mp H
  obtain ⟨⟨t334, t335, t336, t337⟩, A70, H⟩ := H
  replace H : ((facts_span.f a1_0 a1_1 a1_2 a1_3 a1_4 a1_5).bind fun bt338 => ((interval_Leq.f t334 t335 t336 t337 bt338.1 bt338.2.1 bt338.2.2.1 bt338.2.2.2).bind fun t342 => (some t342))) = some r := H
  have A7 := Aside0.mk A70
  clear A70
  replace H := Option.bind_eq_some_iff.mp H
  obtain ⟨⟨t338, t339, t340, t341⟩, A80, H⟩ := H
  replace H : ((interval_Leq.f t334 t335 t336 t337 t338 t339 t340 t341).bind fun t342 => (some t342)) = some r := H
  have A8 := Aside0.mk A80
  clear A80
  replace H := Option.bind_eq_some_iff.mp H
  obtain ⟨t342, A90, H⟩ := H
  replace H : (some t342) = some r := H
  have A9 := Aside0.mk A90
  clear A90
  obtain rfl := Option.some.inj H
  go_enter Try.func29, Try.ntmps29
  try go_wp2_with (first | ((with_reducible refine gate_dst (N := 2) rfl ?_); refine boxE (N := 2) (cs := #[.int .u64 a0_0, .int .u64 a0_1, .int .u64 a0_2, .int .u64 a0_3, .int .i64 a0_4, .int .i64 a0_5]) (t := 50) ?_; intro gb327 hg w10 hbox hb; have BK327 := Aside0.mk (hbox); have GW327 := szB hg HB.out; have GE327 := szB hg HB.out; replace HB := bsB HB.out hb; clear hb hbox hg) | ((with_reducible refine gate_dst (N := 3) rfl ?_); refine boxE (N := 3) (cs := #[.int .u64 a1_0, .int .u64 a1_1, .int .u64 a1_2, .int .u64 a1_3, .int .i64 a1_4, .int .i64 a1_5]) (t := 50) ?_; intro gb328 hg w11 hbox hb; have BK328 := Aside0.mk (hbox); have GW328 := szB hg HB.out; have GE328 := szB hg HB.out; have NB327_328 := neL hg BK327.out; have NB328_327 := neG hg BK327.out; replace BK327 := bkB BK327.out hb; replace HB := bsB HB.out hb; clear hb hbox hg))
  replace BK327 := Aside0.mk (blk_drew BK327.out)
  replace BK328 := Aside0.mk (blk_drew BK328.out)
  replace HB := Aside0.mk (below_drew1 HB.out)
  refine start_ (n := 13) (S := fun w' => w'.cell? ⟨gb327, 0, none⟩ = some (.int .u64 a0_0) ∧ w'.cell? ⟨gb327, 1, none⟩ = some (.int .u64 a0_1) ∧ w'.cell? ⟨gb327, 2, none⟩ = some (.int .u64 a0_2) ∧ w'.cell? ⟨gb327, 3, none⟩ = some (.int .u64 a0_3) ∧ w'.cell? ⟨gb327, 4, none⟩ = some (.int .i64 a0_4) ∧ w'.cell? ⟨gb327, 5, none⟩ = some (.int .i64 a0_5) ∧ w'.cell? ⟨gb328, 0, none⟩ = some (.int .u64 a1_0) ∧ w'.cell? ⟨gb328, 1, none⟩ = some (.int .u64 a1_1) ∧ w'.cell? ⟨gb328, 2, none⟩ = some (.int .u64 a1_2) ∧ w'.cell? ⟨gb328, 3, none⟩ = some (.int .u64 a1_3) ∧ w'.cell? ⟨gb328, 4, none⟩ = some (.int .i64 a1_4) ∧ w'.cell? ⟨gb328, 5, none⟩ = some (.int .i64 a1_5)) (ds := []) (bA 13 0) (by kernel_rfl) rfl rfl (by repeat' (first | apply And.intro | exact (blk_cell BK327.out _).trans rfl | exact (blk_cell BK328.out _).trans rfl)) (fun hHeld => ?_); refine with_tabW facts_Leq.tab1 facts_Leq.bits1 (fun HT_ HW_ => ?_)
  generalize w11.drew = w12 at BK327 BK328 HB hHeld ⊢
  refine takeA HT_ HW_ hHeld (i := 0) (N := some 5) (bA 13 1) ?_ (hy := by rintro w' ⟨s0, s1, s2, s3, s4, s5, s6, s7, s8, s9, s10, s11⟩; go_simp; with_reducible rfl)
  refine takeA HT_ HW_ hHeld (i := 2) (N := some 7) (bA 13 5) ?_ (hy := by rintro w' ⟨s0, s1, s2, s3, s4, s5, s6, s7, s8, s9, s10, s11⟩; go_simp; with_reducible rfl)
  refine one_ (i := 1) (N := some 6) (bA 13 7) rfl rfl (one_of HT_.out (by kernel_rfl)) (by decide) (fun K hK => ?_)
  refine gO Try.func86 #[.agg #[.int .u64 a0_0, .int .u64 a0_1, .int .u64 a0_2, .int .u64 a0_3, .int .i64 a0_4, .int .i64 a0_5]] ?_
  with_reducible refine (facts_known.calls a0_0 a0_1 a0_2 a0_3 a0_4 a0_5 t329 t330 _ A3.out).mono ?_
  rintro e w13 ⟨rfl, hb⟩
  refine ⟨_, rfl, ?_⟩
  replace BK327 := bkB BK327.out hb
  replace BK328 := bkB BK328.out hb
  replace HB := bsB HB.out hb
  (try clear hb)
  refine hK.out _ _ (by repeat' (first | apply And.intro | exact (blk_cell BK327.out _).trans rfl | exact (blk_cell BK328.out _).trans rfl)) (fun hHeld => ?_)
  clear hK K
  refine normA (some 6) ?_
  refine one_ (i := 3) (N := some 8) (bA 13 15) rfl rfl (one_of HT_.out (by kernel_rfl)) (by decide) (fun K hK => ?_)
  refine gO Try.func86 #[.agg #[.int .u64 a1_0, .int .u64 a1_1, .int .u64 a1_2, .int .u64 a1_3, .int .i64 a1_4, .int .i64 a1_5]] ?_
  with_reducible refine (facts_known.calls a1_0 a1_1 a1_2 a1_3 a1_4 a1_5 t331 t332 _ A4.out).mono ?_
  rintro e w14 ⟨rfl, hb⟩
  refine ⟨_, rfl, ?_⟩
  replace BK327 := bkB BK327.out hb
  replace BK328 := bkB BK328.out hb
  replace HB := bsB HB.out hb
  (try clear hb)
  refine hK.out _ _ (by repeat' (first | apply And.intro | exact (blk_cell BK327.out _).trans rfl | exact (blk_cell BK328.out _).trans rfl)) (fun hHeld => ?_)
  clear hK K
  refine normA (some 8) ?_
  refine one_ (i := 4) (N := some 9) (bA 13 31) rfl rfl (one_of HT_.out (by kernel_rfl)) (by decide) (fun K hK => ?_)
  refine gO Try.func87 #[.agg #[.int .u64 t329, .int .u64 t330], .agg #[.int .u64 t331, .int .u64 t332]] ?_
  with_reducible refine (knownbits_Leq.calls t329 t330 t331 t332 true _ A5.out).mono ?_
  rintro e w15 ⟨rfl, hb⟩
  refine ⟨_, rfl, ?_⟩
  replace BK327 := bkB BK327.out hb
  replace BK328 := bkB BK328.out hb
  replace HB := bsB HB.out hb
  (try clear hb)
  refine hK.out _ _ (by repeat' (first | apply And.intro | exact (blk_cell BK327.out _).trans rfl | exact (blk_cell BK328.out _).trans rfl)) (fun hHeld => ?_)
  clear hK K
  refine normA (some 9) ?_
  refine pureA HT_ (i := 5) (N := some 10) (bA 13 63) ?_
  refine takeA HT_ HW_ hHeld (i := 6) (N := some 11) (bA 13 127) ?_ (hy := by rintro w' ⟨s0, s1, s2, s3, s4, s5, s6, s7, s8, s9, s10, s11⟩; go_simp; with_reducible rfl)
  refine takeA HT_ HW_ hHeld (i := 8) (N := some 13) (bA 13 383) ?_ (hy := by rintro w' ⟨s0, s1, s2, s3, s4, s5, s6, s7, s8, s9, s10, s11⟩; go_simp; with_reducible rfl)
  refine one_ (i := 7) (N := some 12) (bA 13 511) rfl rfl (one_of HT_.out (by kernel_rfl)) (by decide) (fun K hK => ?_)
  refine gO Try.func76 #[.agg #[.int .u64 a0_0, .int .u64 a0_1, .int .u64 a0_2, .int .u64 a0_3, .int .i64 a0_4, .int .i64 a0_5]] ?_
  with_reducible refine (facts_span.calls a0_0 a0_1 a0_2 a0_3 a0_4 a0_5 t334 t335 t336 t337 _ A7.out).mono ?_
  rintro e w16 ⟨rfl, hb⟩
  refine ⟨_, rfl, ?_⟩
  replace BK327 := bkB BK327.out hb
  replace BK328 := bkB BK328.out hb
  replace HB := bsB HB.out hb
  (try clear hb)
  refine hK.out _ _ (by repeat' (first | apply And.intro | exact (blk_cell BK327.out _).trans rfl | exact (blk_cell BK328.out _).trans rfl)) (fun hHeld => ?_)
  clear hK K
  refine normA (some 12) ?_
  refine one_ (i := 9) (N := some 14) (bA 13 1023) rfl rfl (one_of HT_.out (by kernel_rfl)) (by decide) (fun K hK => ?_)
  refine gO Try.func76 #[.agg #[.int .u64 a1_0, .int .u64 a1_1, .int .u64 a1_2, .int .u64 a1_3, .int .i64 a1_4, .int .i64 a1_5]] ?_
  with_reducible refine (facts_span.calls a1_0 a1_1 a1_2 a1_3 a1_4 a1_5 t338 t339 t340 t341 _ A8.out).mono ?_
  rintro e w17 ⟨rfl, hb⟩
  refine ⟨_, rfl, ?_⟩
  replace BK327 := bkB BK327.out hb
  replace BK328 := bkB BK328.out hb
  replace HB := bsB HB.out hb
  (try clear hb)
  refine hK.out _ _ (by repeat' (first | apply And.intro | exact (blk_cell BK327.out _).trans rfl | exact (blk_cell BK328.out _).trans rfl)) (fun hHeld => ?_)
  clear hK K
  refine normA (some 14) ?_
  refine one_ (i := 10) (N := some 15) (bA 13 2047) rfl rfl (one_of HT_.out (by kernel_rfl)) (by decide) (fun K hK => ?_)
  refine gO Try.func88 #[.agg #[.int .u64 t334, .int .u64 t335, .int .i64 t336, .int .i64 t337], .agg #[.int .u64 t338, .int .u64 t339, .int .i64 t340, .int .i64 t341]] ?_
  with_reducible refine (interval_Leq.calls t334 t335 t336 t337 t338 t339 t340 t341 t342 _ A9.out).mono ?_
  rintro e w18 ⟨rfl, hb⟩
  refine ⟨_, rfl, ?_⟩
  replace BK327 := bkB BK327.out hb
  replace BK328 := bkB BK328.out hb
  replace HB := bsB HB.out hb
  (try clear hb)
  refine hK.out _ _ (by repeat' (first | apply And.intro | exact (blk_cell BK327.out _).trans rfl | exact (blk_cell BK328.out _).trans rfl)) (fun hHeld => ?_)
  clear hK K
  refine normA (some 15) ?_
  refine pureA HT_ (i := 11) (N := some 16) (bA 13 4095) ?_
  refine pureA HT_ (i := 12) (N := some 4) (bA 13 8191) ?_
  refine done_ (done_of HT_.out (by kernel_rfl)) ?_
  try go_wp2
  go_ret
  exact ⟨by first | rfl | (simp [errW_none, errW_some] <;> rfl) | (simp [*, errW_none, errW_some] <;> rfl), bsL HB.out⟩
 ·
  replace c6 := Bool.eq_false_iff.mpr c6
  subst c6
  have H1 : (some false) = some r := by rw [if_neg (show ¬ (false = true) by decide)] at H; exact H
  clear H
  have H := H1
  clear H1
  obtain rfl := Option.some.inj H
  go_enter Try.func29, Try.ntmps29
  try go_wp2_with (first | ((with_reducible refine gate_dst (N := 2) rfl ?_); refine boxE (N := 2) (cs := #[.int .u64 a0_0, .int .u64 a0_1, .int .u64 a0_2, .int .u64 a0_3, .int .i64 a0_4, .int .i64 a0_5]) (t := 50) ?_; intro gb327 hg w19 hbox hb; have BK327 := Aside0.mk (hbox); have GW327 := szB hg HB.out; have GE327 := szB hg HB.out; replace HB := bsB HB.out hb; clear hb hbox hg) | ((with_reducible refine gate_dst (N := 3) rfl ?_); refine boxE (N := 3) (cs := #[.int .u64 a1_0, .int .u64 a1_1, .int .u64 a1_2, .int .u64 a1_3, .int .i64 a1_4, .int .i64 a1_5]) (t := 50) ?_; intro gb328 hg w20 hbox hb; have BK328 := Aside0.mk (hbox); have GW328 := szB hg HB.out; have GE328 := szB hg HB.out; have NB327_328 := neL hg BK327.out; have NB328_327 := neG hg BK327.out; replace BK327 := bkB BK327.out hb; replace HB := bsB HB.out hb; clear hb hbox hg))
  replace BK327 := Aside0.mk (blk_drew BK327.out)
  replace BK328 := Aside0.mk (blk_drew BK328.out)
  replace HB := Aside0.mk (below_drew1 HB.out)
  refine start_ (n := 13) (S := fun w' => w'.cell? ⟨gb327, 0, none⟩ = some (.int .u64 a0_0) ∧ w'.cell? ⟨gb327, 1, none⟩ = some (.int .u64 a0_1) ∧ w'.cell? ⟨gb327, 2, none⟩ = some (.int .u64 a0_2) ∧ w'.cell? ⟨gb327, 3, none⟩ = some (.int .u64 a0_3) ∧ w'.cell? ⟨gb327, 4, none⟩ = some (.int .i64 a0_4) ∧ w'.cell? ⟨gb327, 5, none⟩ = some (.int .i64 a0_5) ∧ w'.cell? ⟨gb328, 0, none⟩ = some (.int .u64 a1_0) ∧ w'.cell? ⟨gb328, 1, none⟩ = some (.int .u64 a1_1) ∧ w'.cell? ⟨gb328, 2, none⟩ = some (.int .u64 a1_2) ∧ w'.cell? ⟨gb328, 3, none⟩ = some (.int .u64 a1_3) ∧ w'.cell? ⟨gb328, 4, none⟩ = some (.int .i64 a1_4) ∧ w'.cell? ⟨gb328, 5, none⟩ = some (.int .i64 a1_5)) (ds := []) (bA 13 0) (by kernel_rfl) rfl rfl (by repeat' (first | apply And.intro | exact (blk_cell BK327.out _).trans rfl | exact (blk_cell BK328.out _).trans rfl)) (fun hHeld => ?_); refine with_tabW facts_Leq.tab1 facts_Leq.bits1 (fun HT_ HW_ => ?_)
  generalize w20.drew = w21 at BK327 BK328 HB hHeld ⊢
  refine takeA HT_ HW_ hHeld (i := 0) (N := some 5) (bA 13 1) ?_ (hy := by rintro w' ⟨s0, s1, s2, s3, s4, s5, s6, s7, s8, s9, s10, s11⟩; go_simp; with_reducible rfl)
  refine takeA HT_ HW_ hHeld (i := 2) (N := some 7) (bA 13 5) ?_ (hy := by rintro w' ⟨s0, s1, s2, s3, s4, s5, s6, s7, s8, s9, s10, s11⟩; go_simp; with_reducible rfl)
  refine one_ (i := 1) (N := some 6) (bA 13 7) rfl rfl (one_of HT_.out (by kernel_rfl)) (by decide) (fun K hK => ?_)
  refine gO Try.func86 #[.agg #[.int .u64 a0_0, .int .u64 a0_1, .int .u64 a0_2, .int .u64 a0_3, .int .i64 a0_4, .int .i64 a0_5]] ?_
  with_reducible refine (facts_known.calls a0_0 a0_1 a0_2 a0_3 a0_4 a0_5 t329 t330 _ A3.out).mono ?_
  rintro e w22 ⟨rfl, hb⟩
  refine ⟨_, rfl, ?_⟩
  replace BK327 := bkB BK327.out hb
  replace BK328 := bkB BK328.out hb
  replace HB := bsB HB.out hb
  (try clear hb)
  refine hK.out _ _ (by repeat' (first | apply And.intro | exact (blk_cell BK327.out _).trans rfl | exact (blk_cell BK328.out _).trans rfl)) (fun hHeld => ?_)
  clear hK K
  refine normA (some 6) ?_
  refine one_ (i := 3) (N := some 8) (bA 13 15) rfl rfl (one_of HT_.out (by kernel_rfl)) (by decide) (fun K hK => ?_)
  refine gO Try.func86 #[.agg #[.int .u64 a1_0, .int .u64 a1_1, .int .u64 a1_2, .int .u64 a1_3, .int .i64 a1_4, .int .i64 a1_5]] ?_
  with_reducible refine (facts_known.calls a1_0 a1_1 a1_2 a1_3 a1_4 a1_5 t331 t332 _ A4.out).mono ?_
  rintro e w23 ⟨rfl, hb⟩
  refine ⟨_, rfl, ?_⟩
  replace BK327 := bkB BK327.out hb
  replace BK328 := bkB BK328.out hb
  replace HB := bsB HB.out hb
  (try clear hb)
  refine hK.out _ _ (by repeat' (first | apply And.intro | exact (blk_cell BK327.out _).trans rfl | exact (blk_cell BK328.out _).trans rfl)) (fun hHeld => ?_)
  clear hK K
  refine normA (some 8) ?_
  refine one_ (i := 4) (N := some 9) (bA 13 31) rfl rfl (one_of HT_.out (by kernel_rfl)) (by decide) (fun K hK => ?_)
  refine gO Try.func87 #[.agg #[.int .u64 t329, .int .u64 t330], .agg #[.int .u64 t331, .int .u64 t332]] ?_
  with_reducible refine (knownbits_Leq.calls t329 t330 t331 t332 false _ A5.out).mono ?_
  rintro e w24 ⟨rfl, hb⟩
  refine ⟨_, rfl, ?_⟩
  replace BK327 := bkB BK327.out hb
  replace BK328 := bkB BK328.out hb
  replace HB := bsB HB.out hb
  (try clear hb)
  refine hK.out _ _ (by repeat' (first | apply And.intro | exact (blk_cell BK327.out _).trans rfl | exact (blk_cell BK328.out _).trans rfl)) (fun hHeld => ?_)
  clear hK K
  refine normA (some 9) ?_
  refine pureA HT_ (i := 5) (N := some 10) (bA 13 63) ?_
  refine pureU HT_ (i := 6) (N := some 11) (bA 13 127) ?_
  refine pureU HT_ (i := 7) (N := some 12) (bA 13 255) ?_
  refine pureU HT_ (i := 8) (N := some 13) (bA 13 511) ?_
  refine pureU HT_ (i := 9) (N := some 14) (bA 13 1023) ?_
  refine pureU HT_ (i := 10) (N := some 15) (bA 13 2047) ?_
  refine pureA HT_ (i := 11) (N := some 16) (bA 13 4095) ?_
  refine pureA HT_ (i := 12) (N := some 4) (bA 13 8191) ?_
  refine done_ (done_of HT_.out (by kernel_rfl)) ?_
  try go_wp2
  go_ret
  exact ⟨by first | rfl | (simp [errW_none, errW_some] <;> rfl) | (simp [*, errW_none, errW_some] <;> rfl), bsL HB.out⟩

end Go.Proofs.Ytbiohdgeclokmaa.P
