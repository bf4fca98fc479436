-- made by a program of this work (wip/mkprint.py, wip/mp.sh) out of the translation
import Derived.Test.YtbiohdgeclokmaaPx0
import Derived.Test.YtbiohdgeclokmaaPx2
import Derived.Test.YtbiohdgeclokmaaPx3
namespace Go.Proofs.Ytbiohdgeclokmaa.P
open Go.RowKit Go.Proofs.YtbiohdgeclokmaaW.PrintWords Go.Proofs.YtbiohdgeclokmaaW.PrintLast Go.Proofs.YtbiohdgeclokmaaW.PrintMore
attribute [local go_sem] max2_int min2_int max_two min_two max_three min_three max_four min_four   -- for this text's walks alone
set_option linter.unusedVariables false
set_option linter.unusedSimpArgs false

/-! ### facts_Tighten: function 25 -/
mutual
def facts_Tighten.j0 : Nat → Int → Int → Int → Int → Int → Int → Int → Int → Int → Int → Int → Option (Int × Int × Int × Int × Int × Int × Bool)
 | 0, _, _, _, _, _, _, _, _, _, _, _ => none
 | k + 1, x0, x6, x7, x8, x9, x191000, x191001, x191002, x191003, x191004, x191005 => if (Go.bits .and .u64 x191001 x7) = 0 then (facts_Tighten.j1 k x0 x6 x8 (Go.bits .andNot .u64 x9 x7) x191000 x191001 x191002 x191003 x191004 x191005) else (facts_Tighten.j1 k x0 x6 x8 x9 x191000 x191001 x191002 x191003 x191004 x191005)
def facts_Tighten.j1 : Nat → Int → Int → Int → Int → Int → Int → Int → Int → Int → Int → Option (Int × Int × Int × Int × Int × Int × Bool)
 | 0, _, _, _, _, _, _, _, _, _, _ => none
 | k + 1, x0, x6, x8, x9, x191000, x191001, x191002, x191003, x191004, x191005 => (bits_Signed.f x0 x8).bind fun t194 => ((bits_Signed.f x0 x9).bind fun t195 => (if x191002 > x191003 then (facts_Tighten.j2 k x0 x6 true x191000 x191001 x191002 x191003 (mx x191004 t194) (mn x191005 t195)) else (facts_Tighten.j2 k x0 x6 (decide ((mx x191004 t194) > (mn x191005 t195))) x191000 x191001 x191002 x191003 (mx x191004 t194) (mn x191005 t195))))
def facts_Tighten.j2 : Nat → Int → Int → Bool → Int → Int → Int → Int → Int → Int → Option (Int × Int × Int × Int × Int × Int × Bool)
 | 0, _, _, _, _, _, _, _, _, _ => none
 | k + 1, x0, x6, x81, x191000, x191001, x191002, x191003, x191004, x191005 => if x81 = true then (some (0, 0, 0, 0, 0, 0, false)) else ((facts_span.f x191000 x191001 x191002 x191003 x191004 x191005).bind fun bt196 => ((interval_Tighten.f k x0 bt196.1 bt196.2.1 bt196.2.2.1 bt196.2.2.2).bind fun bt200 => (if bt200.2.2.2.2 = true then ((bits_Len64.f k (Go.bits .xor .u64 bt200.1 bt200.2.1)).bind fun t206 => ((bits_Mask.f t206).bind fun t207 => (if (Go.bits .and .u64 (Go.bits .or .u64 x191000 (Go.bits .and .u64 (Go.bits .xor .u64 18446744073709551615 bt200.1) (Go.bits .andNot .u64 x6 t207))) (Go.bits .or .u64 x191001 (Go.bits .and .u64 bt200.1 (Go.bits .andNot .u64 x6 t207)))) = 0 then ((facts_fact.f (Go.bits .or .u64 x191000 (Go.bits .and .u64 (Go.bits .xor .u64 18446744073709551615 bt200.1) (Go.bits .andNot .u64 x6 t207))) (Go.bits .or .u64 x191001 (Go.bits .and .u64 bt200.1 (Go.bits .andNot .u64 x6 t207))) bt200.1 bt200.2.1 bt200.2.2.1 bt200.2.2.2.1).bind fun bt209 => (some (bt209.1, bt209.2.1, bt209.2.2.1, bt209.2.2.2.1, bt209.2.2.2.2.1, bt209.2.2.2.2.2, true))) else (some (0, 0, 0, 0, 0, 0, false))))) else (some (0, 0, 0, 0, 0, 0, false)))))
end
def facts_Tighten.f (k : Nat) (a0 : Int) (a1_0 : Int) (a1_1 : Int) (a1_2 : Int) (a1_3 : Int) (a1_4 : Int) (a1_5 : Int) : Option (Int × Int × Int × Int × Int × Int × Bool) := (facts_Valid.f a0 a1_0 a1_1 a1_2 a1_3 a1_4 a1_5).bind fun t192 => (if t192 = true then ((bits_Mask.f a0).bind fun t193 => (if 0 ≤ (wrap64 (a0 - 1)) then (if (Go.bits .and .u64 a1_0 (shl .u64 1 (wrap64 (a0 - 1)))) = 0 then (facts_Tighten.j0 k a0 t193 (shl .u64 1 (wrap64 (a0 - 1))) (Go.bits .or .u64 a1_1 (shl .u64 1 (wrap64 (a0 - 1)))) (Go.bits .andNot .u64 t193 a1_0) a1_0 a1_1 (mx a1_2 a1_1) (mn a1_3 (Go.bits .andNot .u64 t193 a1_0)) a1_4 a1_5) else (facts_Tighten.j0 k a0 t193 (shl .u64 1 (wrap64 (a0 - 1))) a1_1 (Go.bits .andNot .u64 t193 a1_0) a1_0 a1_1 (mx a1_2 a1_1) (mn a1_3 (Go.bits .andNot .u64 t193 a1_0)) a1_4 a1_5)) else (none))) else (some (0, 0, 0, 0, 0, 0, false)))
theorem facts_Tighten.mono_l : ∀ k, (∀ y0 y1 y2 y3 y4 y5 y6 y7 y8 y9 y10, LeO (facts_Tighten.j0 k y0 y1 y2 y3 y4 y5 y6 y7 y8 y9 y10) (facts_Tighten.j0 (k + 1) y0 y1 y2 y3 y4 y5 y6 y7 y8 y9 y10)) ∧ (∀ y0 y1 y2 y3 y4 y5 y6 y7 y8 y9, LeO (facts_Tighten.j1 k y0 y1 y2 y3 y4 y5 y6 y7 y8 y9) (facts_Tighten.j1 (k + 1) y0 y1 y2 y3 y4 y5 y6 y7 y8 y9)) ∧ (∀ y0 y1 y2 y3 y4 y5 y6 y7 y8, LeO (facts_Tighten.j2 k y0 y1 y2 y3 y4 y5 y6 y7 y8) (facts_Tighten.j2 (k + 1) y0 y1 y2 y3 y4 y5 y6 y7 y8))
 | 0 => ⟨fun _ _ _ _ _ _ _ _ _ _ _ r h => by simp [facts_Tighten.j0] at h, fun _ _ _ _ _ _ _ _ _ _ r h => by simp [facts_Tighten.j1] at h, fun _ _ _ _ _ _ _ _ _ r h => by simp [facts_Tighten.j2] at h⟩
 | k + 1 => by
  obtain ⟨ih0, ih1, ih2⟩ := facts_Tighten.mono_l k
  refine ⟨?_, ?_, ?_⟩
  ·
   intro y0 y1 y2 y3 y4 y5 y6 y7 y8 y9 y10
   unfold facts_Tighten.j0
   repeat' first
   | (with_reducible exact ih0 _ _ _ _ _ _ _ _ _ _ _)
   | (with_reducible exact ih1 _ _ _ _ _ _ _ _ _ _)
   | (with_reducible exact ih2 _ _ _ _ _ _ _ _ _)
   | (with_reducible exact bits_Len64.mono _ _)
   | (with_reducible exact interval_Tighten.mono _ _ _ _ _ _)
   | (with_reducible exact LeO.refl _)
   | (with_reducible exact LeO.none _)
   | (with_reducible refine LeO.ite ?_ ?_)
   | (with_reducible refine LeO.bind ?_ (fun _ => ?_))
   | exact ih0 _ _ _ _ _ _ _ _ _ _ _
   | exact ih1 _ _ _ _ _ _ _ _ _ _
   | exact ih2 _ _ _ _ _ _ _ _ _
   | exact bits_Len64.mono _ _
   | exact interval_Tighten.mono _ _ _ _ _ _
   | exact LeO.none _
   | refine LeO.ite ?_ ?_
   | refine LeO.bind ?_ (fun _ => ?_)
  ·
   intro y0 y1 y2 y3 y4 y5 y6 y7 y8 y9
   unfold facts_Tighten.j1
   repeat' first
   | (with_reducible exact ih0 _ _ _ _ _ _ _ _ _ _ _)
   | (with_reducible exact ih1 _ _ _ _ _ _ _ _ _ _)
   | (with_reducible exact ih2 _ _ _ _ _ _ _ _ _)
   | (with_reducible exact bits_Len64.mono _ _)
   | (with_reducible exact interval_Tighten.mono _ _ _ _ _ _)
   | (with_reducible exact LeO.refl _)
   | (with_reducible exact LeO.none _)
   | (with_reducible refine LeO.ite ?_ ?_)
   | (with_reducible refine LeO.bind ?_ (fun _ => ?_))
   | exact ih0 _ _ _ _ _ _ _ _ _ _ _
   | exact ih1 _ _ _ _ _ _ _ _ _ _
   | exact ih2 _ _ _ _ _ _ _ _ _
   | exact bits_Len64.mono _ _
   | exact interval_Tighten.mono _ _ _ _ _ _
   | exact LeO.none _
   | refine LeO.ite ?_ ?_
   | refine LeO.bind ?_ (fun _ => ?_)
  ·
   intro y0 y1 y2 y3 y4 y5 y6 y7 y8
   unfold facts_Tighten.j2
   repeat' first
   | (with_reducible exact ih0 _ _ _ _ _ _ _ _ _ _ _)
   | (with_reducible exact ih1 _ _ _ _ _ _ _ _ _ _)
   | (with_reducible exact ih2 _ _ _ _ _ _ _ _ _)
   | (with_reducible exact bits_Len64.mono _ _)
   | (with_reducible exact interval_Tighten.mono _ _ _ _ _ _)
   | (with_reducible exact LeO.refl _)
   | (with_reducible exact LeO.none _)
   | (with_reducible refine LeO.ite ?_ ?_)
   | (with_reducible refine LeO.bind ?_ (fun _ => ?_))
   | exact ih0 _ _ _ _ _ _ _ _ _ _ _
   | exact ih1 _ _ _ _ _ _ _ _ _ _
   | exact ih2 _ _ _ _ _ _ _ _ _
   | exact bits_Len64.mono _ _
   | exact interval_Tighten.mono _ _ _ _ _ _
   | exact LeO.none _
   | refine LeO.ite ?_ ?_
   | refine LeO.bind ?_ (fun _ => ?_)
theorem facts_Tighten.mono : ∀ a0 a1 a2 a3 a4 a5 a6 k, LeO (facts_Tighten.f k a0 a1 a2 a3 a4 a5 a6) (facts_Tighten.f (k + 1) a0 a1 a2 a3 a4 a5 a6) := by
 intro a0 a1 a2 a3 a4 a5 a6 k
 obtain ⟨ih0, ih1, ih2⟩ := facts_Tighten.mono_l k
 unfold facts_Tighten.f
 repeat' first
   | (with_reducible exact ih0 _ _ _ _ _ _ _ _ _ _ _)
   | (with_reducible exact ih1 _ _ _ _ _ _ _ _ _ _)
   | (with_reducible exact ih2 _ _ _ _ _ _ _ _ _)
   | (with_reducible exact bits_Len64.mono _ _)
   | (with_reducible exact interval_Tighten.mono _ _ _ _ _ _)
   | (with_reducible exact LeO.refl _)
   | (with_reducible exact LeO.none _)
   | (with_reducible refine LeO.ite ?_ ?_)
   | (with_reducible refine LeO.bind ?_ (fun _ => ?_))
   | exact ih0 _ _ _ _ _ _ _ _ _ _ _
   | exact ih1 _ _ _ _ _ _ _ _ _ _
   | exact ih2 _ _ _ _ _ _ _ _ _
   | exact bits_Len64.mono _ _
   | exact interval_Tighten.mono _ _ _ _ _ _
   | exact LeO.none _
   | refine LeO.ite ?_ ?_
   | refine LeO.bind ?_ (fun _ => ?_)
def facts_Tighten.T4 : Bool × List (List Nat × List Nat) := (true, [([], []), ([0], [0]), ([], []), ([], []), ([3], [3]), ([2, 4], [2, 4]), ([1, 0, 1], [1]), ([5, 6, 0, 1, 2, 3, 4, 5, 6], [5])])
def facts_Tighten.B4 : List Nat := [0, 1, 0, 0, 8, 28, 3, 127]
theorem facts_Tighten.tab4 : rtab .any (opsOf Try.f25 4) = facts_Tighten.T4 := by kernel_rfl
theorem facts_Tighten.bits4 : waitsOk facts_Tighten.T4.2 facts_Tighten.B4 = true := by kernel_rfl
def facts_Tighten.T10 : Bool × List (List Nat × List Nat) := (true, [([], []), ([0], [0]), ([], []), ([], []), ([2, 3], [2, 3]), ([1, 4], [1, 4]), ([], []), ([6], [6]), ([], []), ([], []), ([8, 9, 4], [8, 9]), ([7, 10], [7, 10]), ([0, 1, 2, 3, 4, 5, 6, 7], []), ([12, 5, 10, 0, 1, 2, 3, 4, 5, 6, 7], [5, 12]), ([0, 1, 2, 3, 4, 5, 6, 7, 8, 9, 10, 11, 12, 13], []), ([14, 11, 13, 0, 1, 2, 3, 4, 5, 6, 7, 8, 9, 10, 11, 12, 13], [11, 14])])
def facts_Tighten.B10 : List Nat := [0, 1, 0, 0, 12, 31, 0, 64, 0, 0, 796, 2012, 255, 6143, 16383, 32767]
theorem facts_Tighten.tab10 : rtab .any (opsOf Try.f25 10) = facts_Tighten.T10 := by kernel_rfl
theorem facts_Tighten.bits10 : waitsOk facts_Tighten.T10.2 facts_Tighten.B10 = true := by kernel_rfl
set_option maxHeartbeats 8000000 in
set_option maxRecDepth 100000 in
theorem facts_Tighten.calls (k : Nat) (a0 : Int) (a1_0 : Int) (a1_1 : Int) (a1_2 : Int) (a1_3 : Int) (a1_4 : Int) (a1_5 : Int) (r1 : Int) (r2 : Int) (r3 : Int) (r4 : Int) (r5 : Int) (r6 : Int) (r7 : Bool) (w : World) (h : facts_Tighten.f k a0 a1_0 a1_1 a1_2 a1_3 a1_4 a1_5 = some (r1, r2, r3, r4, r5, r6, r7)) :
  Calls Try.prog 25 #[.int .i64 a0, .agg #[.int .u64 a1_0, .int .u64 a1_1, .int .u64 a1_2, .int .u64 a1_3, .int .i64 a1_4, .int .i64 a1_5]] w fun e w' => e = .returned (.tuple #[.agg #[.int .u64 r1, .int .u64 r2, .int .u64 r3, .int .u64 r4, .int .i64 r5, .int .i64 r6], .bool r7]) ∧ Below w.heap.size w w' := by
 have hu50 := Try.underlying50
 have hu30 := Try.underlying30
 have hu110 := Try.underlying110
 have HB := Aside0.mk (Below.refl w.heap.size w)
 have H : ((facts_Valid.f a0 a1_0 a1_1 a1_2 a1_3 a1_4 a1_5).bind fun t192 => (if t192 = true then ((bits_Mask.f a0).bind fun t193 => (if 0 ≤ (wrap64 (a0 - 1)) then (if (Go.bits .and .u64 a1_0 (shl .u64 1 (wrap64 (a0 - 1)))) = 0 then (facts_Tighten.j0 k a0 t193 (shl .u64 1 (wrap64 (a0 - 1))) (Go.bits .or .u64 a1_1 (shl .u64 1 (wrap64 (a0 - 1)))) (Go.bits .andNot .u64 t193 a1_0) a1_0 a1_1 (mx a1_2 a1_1) (mn a1_3 (Go.bits .andNot .u64 t193 a1_0)) a1_4 a1_5) else (facts_Tighten.j0 k a0 t193 (shl .u64 1 (wrap64 (a0 - 1))) a1_1 (Go.bits .andNot .u64 t193 a1_0) a1_0 a1_1 (mx a1_2 a1_1) (mn a1_3 (Go.bits .andNot .u64 t193 a1_0)) a1_4 a1_5)) else (none))) else (some (0, 0, 0, 0, 0, 0, false)))) = some (r1, r2, r3, r4, r5, r6, r7) := h
 clear h
 replace H := Option.bind_eq_some_iff.mp H
 obtain ⟨t192, A30, H⟩ := H
 replace H : (if t192 = true then ((bits_Mask.f a0).bind fun t193 => (if 0 ≤ (wrap64 (a0 - 1)) then (if (Go.bits .and .u64 a1_0 (shl .u64 1 (wrap64 (a0 - 1)))) = 0 then (facts_Tighten.j0 k a0 t193 (shl .u64 1 (wrap64 (a0 - 1))) (Go.bits .or .u64 a1_1 (shl .u64 1 (wrap64 (a0 - 1)))) (Go.bits .andNot .u64 t193 a1_0) a1_0 a1_1 (mx a1_2 a1_1) (mn a1_3 (Go.bits .andNot .u64 t193 a1_0)) a1_4 a1_5) else (facts_Tighten.j0 k a0 t193 (shl .u64 1 (wrap64 (a0 - 1))) a1_1 (Go.bits .andNot .u64 t193 a1_0) a1_0 a1_1 (mx a1_2 a1_1) (mn a1_3 (Go.bits .andNot .u64 t193 a1_0)) a1_4 a1_5)) else (none))) else (some (0, 0, 0, 0, 0, 0, false))) = some (r1, r2, r3, r4, r5, r6, r7) := H
 have A3 := Aside0.mk A30
 clear A30
 by_cases c4 : t192 = true
 ·
  subst c4
  have H1 : ((bits_Mask.f a0).bind fun t193 => (if 0 ≤ (wrap64 (a0 - 1)) then (if (Go.bits .and .u64 a1_0 (shl .u64 1 (wrap64 (a0 - 1)))) = 0 then (facts_Tighten.j0 k a0 t193 (shl .u64 1 (wrap64 (a0 - 1))) (Go.bits .or .u64 a1_1 (shl .u64 1 (wrap64 (a0 - 1)))) (Go.bits .andNot .u64 t193 a1_0) a1_0 a1_1 (mx a1_2 a1_1) (mn a1_3 (Go.bits .andNot .u64 t193 a1_0)) a1_4 a1_5) else (facts_Tighten.j0 k a0 t193 (shl .u64 1 (wrap64 (a0 - 1))) a1_1 (Go.bits .andNot .u64 t193 a1_0) a1_0 a1_1 (mx a1_2 a1_1) (mn a1_3 (Go.bits .andNot .u64 t193 a1_0)) a1_4 a1_5)) else (none))) = some (r1, r2, r3, r4, r5, r6, r7) := by rw [if_pos rfl] at H; exact H
  clear H
  have H := H1
  clear H1
  replace H := Option.bind_eq_some_iff.mp H
  obtain ⟨t193, A50, H⟩ := H
  replace H : (if 0 ≤ (wrap64 (a0 - 1)) then (if (Go.bits .and .u64 a1_0 (shl .u64 1 (wrap64 (a0 - 1)))) = 0 then (facts_Tighten.j0 k a0 t193 (shl .u64 1 (wrap64 (a0 - 1))) (Go.bits .or .u64 a1_1 (shl .u64 1 (wrap64 (a0 - 1)))) (Go.bits .andNot .u64 t193 a1_0) a1_0 a1_1 (mx a1_2 a1_1) (mn a1_3 (Go.bits .andNot .u64 t193 a1_0)) a1_4 a1_5) else (facts_Tighten.j0 k a0 t193 (shl .u64 1 (wrap64 (a0 - 1))) a1_1 (Go.bits .andNot .u64 t193 a1_0) a1_0 a1_1 (mx a1_2 a1_1) (mn a1_3 (Go.bits .andNot .u64 t193 a1_0)) a1_4 a1_5)) else (none)) = some (r1, r2, r3, r4, r5, r6, r7) := H
  have A5 := Aside0.mk A50
  clear A50
  obtain ⟨ji6, hji6⟩ : ∃ j_ : Int, (wrap64 (a0 - 1)) = j_ := ⟨_, rfl⟩
  replace H : (if 0 ≤ (ji6) then (if (Go.bits .and .u64 a1_0 (shl .u64 1 (ji6))) = 0 then (facts_Tighten.j0 k a0 t193 (shl .u64 1 (ji6)) (Go.bits .or .u64 a1_1 (shl .u64 1 (ji6))) (Go.bits .andNot .u64 t193 a1_0) a1_0 a1_1 (mx a1_2 a1_1) (mn a1_3 (Go.bits .andNot .u64 t193 a1_0)) a1_4 a1_5) else (facts_Tighten.j0 k a0 t193 (shl .u64 1 (ji6)) a1_1 (Go.bits .andNot .u64 t193 a1_0) a1_0 a1_1 (mx a1_2 a1_1) (mn a1_3 (Go.bits .andNot .u64 t193 a1_0)) a1_4 a1_5)) else (none)) = some (r1, r2, r3, r4, r5, r6, r7) := by first | (rw [hji6] at H; exact H) | (simp only [hji6] at H ⊢; exact H)
  (try rw [hji6] at A3)
  (try rw [hji6] at A5)
  have hji6w : (IntKind.i64.wrap (a0 - 1)) = ji6 := (i64_w _).trans hji6
  by_cases c7 : 0 ≤ (ji6)
  ·
   rw [if_pos c7] at H
   have c7b0 := eq_true c7
   have c7b1 : decide (0 ≤ (ji6)) = true := decide_eq_true c7
   clear c7
   obtain ⟨ji8, hji8⟩ : ∃ j_ : Int, (shl .u64 1 (ji6)) = j_ := ⟨_, rfl⟩
   replace H : (if (Go.bits .and .u64 a1_0 (ji8)) = 0 then (facts_Tighten.j0 k a0 t193 ji8 (Go.bits .or .u64 a1_1 (ji8)) (Go.bits .andNot .u64 t193 a1_0) a1_0 a1_1 (mx a1_2 a1_1) (mn a1_3 (Go.bits .andNot .u64 t193 a1_0)) a1_4 a1_5) else (facts_Tighten.j0 k a0 t193 ji8 a1_1 (Go.bits .andNot .u64 t193 a1_0) a1_0 a1_1 (mx a1_2 a1_1) (mn a1_3 (Go.bits .andNot .u64 t193 a1_0)) a1_4 a1_5)) = some (r1, r2, r3, r4, r5, r6, r7) := by first | (rw [hji8] at H; exact H) | (simp only [hji8] at H ⊢; exact H)
   (try rw [hji8] at A3)
   (try rw [hji8] at A5)
   have hji8_ : (IntKind.u64.wrap (1 * 2 ^ min (ji6).toNat 64)) = ji8 := hji8
   have hji8z : (ji6) ≤ 64 → (IntKind.u64.wrap (1 * 2 ^ (ji6).toNat)) = ji8 := shl_small hji8
   have hji8u : (IntKind.u64.wrap (2 ^ min (ji6).toNat 64)) = ji8 := by have h_ := hji8_; rw [Int.one_mul] at h_; exact h_
   have hji8v : (ji6) ≤ 64 → (IntKind.u64.wrap (2 ^ (ji6).toNat)) = ji8 := fun hle_ => by have h_ := hji8z hle_; rw [Int.one_mul] at h_; exact h_
   obtain ⟨ji9, hji9⟩ : ∃ j_ : Int, (mx a1_2 a1_1) = j_ := ⟨_, rfl⟩
   replace H : (if (Go.bits .and .u64 a1_0 (ji8)) = 0 then (facts_Tighten.j0 k a0 t193 ji8 (Go.bits .or .u64 a1_1 (ji8)) (Go.bits .andNot .u64 t193 a1_0) a1_0 a1_1 ji9 (mn a1_3 (Go.bits .andNot .u64 t193 a1_0)) a1_4 a1_5) else (facts_Tighten.j0 k a0 t193 ji8 a1_1 (Go.bits .andNot .u64 t193 a1_0) a1_0 a1_1 ji9 (mn a1_3 (Go.bits .andNot .u64 t193 a1_0)) a1_4 a1_5)) = some (r1, r2, r3, r4, r5, r6, r7) := by first | (rw [hji9] at H; exact H) | (simp only [hji9] at H ⊢; exact H)
   (try rw [hji9] at A3)
   (try rw [hji9] at A5)
   have hji9_ : (if a1_2 < a1_1 then a1_1 else a1_2) = ji9 := hji9
   obtain ⟨ji10, hji10⟩ : ∃ j_ : Int, (mn a1_3 (Go.bits .andNot .u64 t193 a1_0)) = j_ := ⟨_, rfl⟩
   replace H : (if (Go.bits .and .u64 a1_0 (ji8)) = 0 then (facts_Tighten.j0 k a0 t193 ji8 (Go.bits .or .u64 a1_1 (ji8)) (Go.bits .andNot .u64 t193 a1_0) a1_0 a1_1 ji9 ji10 a1_4 a1_5) else (facts_Tighten.j0 k a0 t193 ji8 a1_1 (Go.bits .andNot .u64 t193 a1_0) a1_0 a1_1 ji9 ji10 a1_4 a1_5)) = some (r1, r2, r3, r4, r5, r6, r7) := by first | (rw [hji10] at H; exact H) | (simp only [hji10] at H ⊢; exact H)
   (try rw [hji10] at A3)
   (try rw [hji10] at A5)
   have hji10_ : (if (Go.bits .andNot .u64 t193 a1_0) < a1_3 then (Go.bits .andNot .u64 t193 a1_0) else a1_3) = ji10 := hji10
   have HC11 := Aside0.mk H
   clear H
   go_enter Try.func25, Try.ntmps25
   try go_wp2_with (first | ((with_reducible refine gate_dst (N := 3) rfl ?_); refine boxE (N := 3) (cs := #[.int .u64 a1_0, .int .u64 a1_1, .int .u64 a1_2, .int .u64 a1_3, .int .i64 a1_4, .int .i64 a1_5]) (t := 50) ?_; intro gb190 hg w12 hbox hb; have BK190 := Aside0.mk (hbox); have GW190 := szB hg HB.out; have GE190 := szB hg HB.out; replace HB := bsB HB.out hb; clear hb hbox hg) | ((with_reducible refine gate_dst (N := 4) rfl ?_); refine boxE (N := 4) (cs := #[.int .u64 0, .int .u64 0, .int .u64 0, .int .u64 0, .int .i64 0, .int .i64 0]) (t := 50) ?_; intro gb191 hg w13 hbox hb; have BK191 := Aside0.mk (hbox); have GW191 := szB hg HB.out; have GE191 := szB hg HB.out; have NB190_191 := neL hg BK190.out; have NB191_190 := neG hg BK190.out; replace BK190 := bkB BK190.out hb; replace HB := bsB HB.out hb; clear hb hbox hg; have hnb14 := NB190_191.out; have hnc14 := NB191_190.out; obtain ⟨hcz15_0, hcz15_1, hcz15_2, hcz15_3, hcz15_4, hcz15_5, hfz15_0, hfz15_1, hfz15_2, hfz15_3, hfz15_4, hfz15_5⟩ := own6 BK190.out) | ((with_reducible refine gate_callee (f := 34) rfl ?_); refine gL (some 16) Try.func34 #[.int .i64 a0, .agg #[.int .u64 a1_0, .int .u64 a1_1, .int .u64 a1_2, .int .u64 a1_3, .int .i64 a1_4, .int .i64 a1_5]] ?_; (with_reducible refine (facts_Valid.calls a0 a1_0 a1_1 a1_2 a1_3 a1_4 a1_5 true _ A3.out).mono ?_); rintro e w16 ⟨rfl, hb⟩; refine ⟨_, rfl, ?_⟩; replace BK190 := bkB BK190.out hb; replace BK191 := bkB BK191.out hb; replace HB := bsB HB.out hb; (try clear hb); (try clear hb2); (try clear hk); (try clear hi)))
   replace BK190 := Aside0.mk (blk_drew BK190.out)
   replace BK191 := Aside0.mk (blk_drew BK191.out)
   replace HB := Aside0.mk (below_drew1 HB.out)
   refine start_ (n := 7) (S := fun w' => True) (ds := []) (bA 7 0) (by kernel_rfl) rfl rfl trivial (fun hHeld => ?_)
   generalize w16.drew = w17 at BK190 BK191 HB hHeld ⊢
   refine pure_ (i := 0) (N := some 19) (v := ?_) (a' := ?_) (bA 7 1) rfl rfl (by kernel_rfl) (fun _ _ _ h => h) (Or.inl ⟨by rfl, ?_⟩) ?_ ?_
   rotate_left
   ·
    intro w'
    go_simp
    with_reducible rfl
   rotate_left
   ·
    simp only [Act.put, List.setIfInBounds_toArray, List.set_cons_zero, List.set_cons_succ, i64_w, i32_w]
    rfl
   refine pure_ (i := 2) (N := some 21) (v := ?_) (a' := ?_) (bA 7 5) rfl rfl (by kernel_rfl) (fun _ _ _ h => h) (Or.inl ⟨by rfl, ?_⟩) ?_ ?_
   rotate_left
   ·
    intro w'
    go_simp
    with_reducible rfl
   rotate_left
   ·
    simp only [Act.put, List.setIfInBounds_toArray, List.set_cons_zero, List.set_cons_succ, i64_w, i32_w]
    rfl
   refine pure_ (i := 3) (N := some 22) (v := ?_) (a' := ?_) (bA 7 13) rfl rfl (by kernel_rfl) (fun _ _ _ h => h) (Or.inl ⟨by rfl, ?_⟩) ?_ ?_
   rotate_left
   ·
    intro w'
    go_simp
    with_reducible rfl
   rotate_left
   ·
    simp only [Act.put, List.setIfInBounds_toArray, List.set_cons_zero, List.set_cons_succ, i64_w, i32_w]
    rfl
   refine pure_ (i := 4) (N := some 23) (v := ?_) (a' := ?_) (bA 7 29) rfl rfl (by kernel_rfl) (fun _ _ _ h => h) (Or.inl ⟨by rfl, ?_⟩) ?_ ?_
   rotate_left
   ·
    intro w'
    go_simp
    with_reducible rfl
   rotate_left
   ·
    simp only [Act.put, List.setIfInBounds_toArray, List.set_cons_zero, List.set_cons_succ, i64_w, i32_w]
    rfl
   refine one_ (i := 1) (N := some 20) (bA 7 31) rfl rfl (by kernel_rfl) (by decide) (fun K hK => ?_)
   refine gO Try.func56 #[.int .i64 a0] ?_
   with_reducible refine (bits_Mask.calls a0 t193 _ A5.out).mono ?_
   rintro e w18 ⟨rfl, hb⟩
   refine ⟨_, rfl, ?_⟩
   replace BK190 := bkB BK190.out hb
   replace BK191 := bkB BK191.out hb
   replace HB := bsB HB.out hb
   (try clear hb)
   refine hK.out _ _ trivial (fun hHeld => ?_)
   clear hK K
   refine normA (some 20) ?_
   refine pure_ (i := 5) (N := some 6) (v := ?_) (a' := ?_) (bA 7 63) rfl rfl (by kernel_rfl) (fun _ _ _ h => h) (Or.inl ⟨by rfl, ?_⟩) ?_ ?_
   rotate_left
   ·
    intro w'
    go_simp
    with_reducible rfl
   rotate_left
   ·
    simp only [Act.put, List.setIfInBounds_toArray, List.set_cons_zero, List.set_cons_succ, i64_w, i32_w]
    rfl
   refine pure_ (i := 6) (N := some 7) (v := ?_) (a' := ?_) (bA 7 127) rfl rfl (by kernel_rfl) (fun _ _ _ h => h) (Or.inl ⟨by rfl, ?_⟩) ?_ ?_
   rotate_left
   ·
    intro w'
    go_simp
    with_reducible rfl
   rotate_left
   ·
    simp only [Act.put, List.setIfInBounds_toArray, List.set_cons_zero, List.set_cons_succ, i64_w, i32_w]
    rfl
   refine done_ (by kernel_rfl) ?_
   try go_wp2
   replace BK190 := Aside0.mk (blk_drew BK190.out)
   replace BK191 := Aside0.mk (blk_drew BK191.out)
   replace HB := Aside0.mk (below_drew1 HB.out)
   refine start_ (n := 8) (S := fun w' => w'.cell? ⟨gb190, 0, none⟩ = some (.int .u64 a1_0) ∧ w'.cell? ⟨gb190, 1, none⟩ = some (.int .u64 a1_1) ∧ w'.cell? ⟨gb190, 2, none⟩ = some (.int .u64 a1_2) ∧ w'.cell? ⟨gb190, 3, none⟩ = some (.int .u64 a1_3) ∧ w'.cell? ⟨gb190, 4, none⟩ = some (.int .i64 a1_4) ∧ w'.cell? ⟨gb190, 5, none⟩ = some (.int .i64 a1_5)) (ds := []) (bA 8 0) (by kernel_rfl) rfl rfl (by repeat' (first | apply And.intro | exact (blk_cell BK190.out _).trans rfl)) (fun hHeld => ?_); refine with_tabW facts_Tighten.tab4 facts_Tighten.bits4 (fun HT_ HW_ => ?_)
   generalize w18.drew = w19 at BK190 BK191 HB hHeld ⊢
   refine pureA HT_ (i := 0) (N := some 24) (bA 8 1) ?_
   refine pureA HT_ (i := 2) (N := some 26) (bA 8 5) ?_
   refine pureA HT_ (i := 3) (N := some 27) (bA 8 13) ?_
   refine takeA HT_ HW_ hHeld (i := 1) (N := some 25) (bA 8 15) ?_ (hy := by rintro w' ⟨s0, s1, s2, s3, s4, s5⟩; go_simp; with_reducible rfl)
   refine pureA HT_ (i := 6) (N := some 8) (bA 8 79) ?_
   refine takeA HT_ HW_ hHeld (i := 4) (N := some 28) (bA 8 95) ?_ (hy := by rintro w' ⟨s0, s1, s2, s3, s4, s5⟩; go_simp; with_reducible rfl)
   refine pureA HT_ (i := 5) (N := some 29) (bA 8 127) ?_
   refine pureA HT_ (i := 7) (N := some 9) (bA 8 255) ?_
   refine done_ (done_of HT_.out (by kernel_rfl)) ?_
   obtain ⟨hcz20_0, hcz20_1, hcz20_2, hcz20_3, hcz20_4, hcz20_5, hfz20_0, hfz20_1, hfz20_2, hfz20_3, hfz20_4, hfz20_5⟩ := own6 BK190.out
   go_upto_if 44 with (fail)
   go_cut [8] (fun v8 wc => ∃ (kq : Nat) (x8_10 : Int), v8 = .int .u64 x8_10 ∧ Aside0 (facts_Tighten.j0 kq a0 t193 ji8 x8_10 (Go.bits .andNot .u64 t193 a1_0) a1_0 a1_1 ji9 ji10 a1_4 a1_5 = some (r1, r2, r3, r4, r5, r6, r7)) ∧ Aside0 (kq ≤ k) ∧ Aside0 (wc.heap[gb190]? = some (.cells #[.int .u64 a1_0, .int .u64 a1_1, .int .u64 ji9, .int .u64 ji10, .int .i64 a1_4, .int .i64 a1_5] 50 (0, 0))) ∧ Aside0 (wc.heap[gb191]? = some (.cells #[.int .u64 0, .int .u64 0, .int .u64 0, .int .u64 0, .int .i64 0, .int .i64 0] 50 (0, 0))) ∧ Aside0 (Below w.heap.size w wc))
   case first =>
    have H := HC11.out
    clear HC11
    by_cases c21 : (Go.bits .and .u64 a1_0 (ji8)) = 0
    ·
     rw [if_pos c21] at H
     have c21b0 : ((Go.bits .and .u64 a1_0 (ji8)) == 0) = true := beq_iff_eq.mpr c21
     have c21b1 : ((Go.bits .and .u64 a1_0 (ji8)) != 0) = false := bne_eq_false_iff_eq.mpr c21
     clear c21
     (first | rw [c21b0] | (simp only [i64_w, i32_w]; rw [c21b0]) | skip)
     have H' := Aside0.mk H
     clear H
     go_wp2
     go_meet
     case rel => exact ⟨_, (Go.bits .or .u64 a1_1 (ji8)), (by first | rfl | (simp; done) | (simp only [← hji8] <;> (first | rfl | simp)) | (simp [*]; done)), H', ⟨by first | omega | exact Nat.le_refl _⟩, ⟨by (with_reducible repeat (first | refine blk_drewN ?_ _ | refine blk_drew ?_ | refine blk_alloc ?_ _)); refine blk_put (cs := #[.int .u64 a1_0, .int .u64 a1_1, .int .u64 ji9, .int .u64 a1_3, .int .i64 a1_4, .int .i64 a1_5]) ?_ 3 _ rfl; (with_reducible repeat (first | refine blk_drewN ?_ _ | refine blk_drew ?_ | refine blk_alloc ?_ _)); refine blk_put (cs := #[.int .u64 a1_0, .int .u64 a1_1, .int .u64 a1_2, .int .u64 a1_3, .int .i64 a1_4, .int .i64 a1_5]) ?_ 2 _ rfl; exact bfL BK190.out⟩, ⟨by exact bfL BK191.out⟩, ⟨bsL HB.out⟩⟩
    ·
     rw [if_neg c21] at H
     have c21b0 : ((Go.bits .and .u64 a1_0 (ji8)) == 0) = false := beq_eq_false_iff_ne.mpr c21
     have c21b1 : ((Go.bits .and .u64 a1_0 (ji8)) != 0) = true := bne_iff_ne.mpr c21
     (first | rw [c21b0] | (simp only [i64_w, i32_w]; rw [c21b0]) | skip)
     have H' := Aside0.mk H
     clear H
     go_wp2
     go_meet
     case rel => exact ⟨_, (a1_1), (by first | rfl | (simp; done) | (simp [*]; done)), H', ⟨by first | omega | exact Nat.le_refl _⟩, ⟨by (with_reducible repeat (first | refine blk_drewN ?_ _ | refine blk_drew ?_ | refine blk_alloc ?_ _)); refine blk_put (cs := #[.int .u64 a1_0, .int .u64 a1_1, .int .u64 ji9, .int .u64 a1_3, .int .i64 a1_4, .int .i64 a1_5]) ?_ 3 _ rfl; (with_reducible repeat (first | refine blk_drewN ?_ _ | refine blk_drew ?_ | refine blk_alloc ?_ _)); refine blk_put (cs := #[.int .u64 a1_0, .int .u64 a1_1, .int .u64 a1_2, .int .u64 a1_3, .int .i64 a1_4, .int .i64 a1_5]) ?_ 2 _ rfl; exact bfL BK190.out⟩, ⟨by exact bfL BK191.out⟩, ⟨bsL HB.out⟩⟩
   case rest =>
    clear HC11
    try clear c1
    try clear c2
    try clear p2
    try clear c3
    try clear c4
    try clear c5
    try clear p6
    try clear c7
    try clear c7b0
    try clear c7b1
    try clear c14
    try clear c21
    try clear c21b0
    try clear c21b1
    try clear hcz15_0
    try clear hcz15_1
    try clear hcz15_2
    try clear hcz15_3
    try clear hcz15_4
    try clear hcz15_5
    try clear hcz20_0
    try clear hcz20_1
    try clear hcz20_2
    try clear hcz20_3
    try clear hcz20_4
    try clear hcz20_5
    try clear hfz15_0
    try clear hfz15_1
    try clear hfz15_2
    try clear hfz15_3
    try clear hfz15_4
    try clear hfz15_5
    try clear hfz20_0
    try clear hfz20_1
    try clear hfz20_2
    try clear hfz20_3
    try clear hfz20_4
    try clear hfz20_5
    obtain ⟨kq, x8_10, rfl, HA, HJ10, BK190, BK191, HB⟩ := hcut
    cases kq with
    | zero => exact absurd HA.out (by simp [facts_Tighten.j0])
    | succ kj10 =>
     have H := HA.out
     clear HA
     simp only [facts_Tighten.j0] at H
     have HC22 := Aside0.mk H
     clear H
     have hnb23 := NB190_191.out
     have hnc23 := NB191_190.out
     obtain ⟨hcz24_0, hcz24_1, hcz24_2, hcz24_3, hcz24_4, hcz24_5, hfz24_0, hfz24_1, hfz24_2, hfz24_3, hfz24_4, hfz24_5⟩ := own6 BK190.out
     go_upto_if 52 with (fail)
     go_cut [9] (fun v9 wc => ∃ (kq : Nat) (x9_21 : Int), v9 = .int .u64 x9_21 ∧ Aside0 (facts_Tighten.j1 kq a0 t193 x8_10 x9_21 a1_0 a1_1 ji9 ji10 a1_4 a1_5 = some (r1, r2, r3, r4, r5, r6, r7)) ∧ Aside0 (kq ≤ kj10) ∧ Aside0 (wc.heap[gb190]? = some (.cells #[.int .u64 a1_0, .int .u64 a1_1, .int .u64 ji9, .int .u64 ji10, .int .i64 a1_4, .int .i64 a1_5] 50 (0, 0))) ∧ Aside0 (wc.heap[gb191]? = some (.cells #[.int .u64 0, .int .u64 0, .int .u64 0, .int .u64 0, .int .i64 0, .int .i64 0] 50 (0, 0))) ∧ Aside0 (Below w.heap.size w wc))
     case first =>
      have H := HC22.out
      clear HC22
      by_cases c25 : (Go.bits .and .u64 a1_1 ji8) = 0
      ·
       rw [if_pos c25] at H
       have c25b0 : ((Go.bits .and .u64 a1_1 ji8) == 0) = true := beq_iff_eq.mpr c25
       have c25b1 : ((Go.bits .and .u64 a1_1 ji8) != 0) = false := bne_eq_false_iff_eq.mpr c25
       clear c25
       (first | rw [c25b0] | (simp only [i64_w, i32_w]; rw [c25b0]) | skip)
       have H' := Aside0.mk H
       clear H
       go_wp2
       go_meet
       case rel => exact ⟨_, (Go.bits .andNot .u64 (Go.bits .andNot .u64 t193 a1_0) ji8), (by first | rfl | (simp; done) | (simp only [← hji8] <;> (first | rfl | simp)) | (simp [*]; done)), H', ⟨by have := HJ10.out; first | omega | exact Nat.le_refl _⟩, ⟨bkL BK190.out⟩, ⟨bkL BK191.out⟩, ⟨bsL HB.out⟩⟩
      ·
       rw [if_neg c25] at H
       have c25b0 : ((Go.bits .and .u64 a1_1 ji8) == 0) = false := beq_eq_false_iff_ne.mpr c25
       have c25b1 : ((Go.bits .and .u64 a1_1 ji8) != 0) = true := bne_iff_ne.mpr c25
       (first | rw [c25b0] | (simp only [i64_w, i32_w]; rw [c25b0]) | skip)
       have H' := Aside0.mk H
       clear H
       go_wp2
       go_meet
       case rel => exact ⟨_, ((Go.bits .andNot .u64 t193 a1_0)), (by first | rfl | (simp; done) | (simp [*]; done)), H', ⟨by have := HJ10.out; first | omega | exact Nat.le_refl _⟩, ⟨bkL BK190.out⟩, ⟨bkL BK191.out⟩, ⟨bsL HB.out⟩⟩
     case rest =>
      clear HC22
      try clear c1
      try clear c2
      try clear p2
      try clear c3
      try clear c4
      try clear c5
      try clear p6
      try clear c7
      try clear c7b0
      try clear c7b1
      try clear c14
      try clear c21
      try clear c21b0
      try clear c21b1
      try clear c23
      try clear c25
      try clear c25b0
      try clear c25b1
      try clear hcz15_0
      try clear hcz15_1
      try clear hcz15_2
      try clear hcz15_3
      try clear hcz15_4
      try clear hcz15_5
      try clear hcz20_0
      try clear hcz20_1
      try clear hcz20_2
      try clear hcz20_3
      try clear hcz20_4
      try clear hcz20_5
      try clear hcz24_0
      try clear hcz24_1
      try clear hcz24_2
      try clear hcz24_3
      try clear hcz24_4
      try clear hcz24_5
      try clear hfz15_0
      try clear hfz15_1
      try clear hfz15_2
      try clear hfz15_3
      try clear hfz15_4
      try clear hfz15_5
      try clear hfz20_0
      try clear hfz20_1
      try clear hfz20_2
      try clear hfz20_3
      try clear hfz20_4
      try clear hfz20_5
      try clear hfz24_0
      try clear hfz24_1
      try clear hfz24_2
      try clear hfz24_3
      try clear hfz24_4
      try clear hfz24_5
      try clear p2
      try clear p6
      obtain ⟨kq, x9_21, rfl, HA, HJ21, BK190, BK191, HB⟩ := hcut
      cases kq with
      | zero => exact absurd HA.out (by simp [facts_Tighten.j1])
      | succ kj21 =>
       have H := HA.out
       clear HA
       simp only [facts_Tighten.j1] at H
       replace H := Option.bind_eq_some_iff.mp H
       obtain ⟨t194, A260, H⟩ := H
       replace H : ((bits_Signed.f a0 x9_21).bind fun t195 => (if ji9 > ji10 then (facts_Tighten.j2 kj21 a0 t193 true a1_0 a1_1 ji9 ji10 (mx a1_4 t194) (mn a1_5 t195)) else (facts_Tighten.j2 kj21 a0 t193 (decide ((mx a1_4 t194) > (mn a1_5 t195))) a1_0 a1_1 ji9 ji10 (mx a1_4 t194) (mn a1_5 t195)))) = some (r1, r2, r3, r4, r5, r6, r7) := H
       have A26 := Aside0.mk A260
       clear A260
       obtain ⟨ji27, hji27⟩ : ∃ j_ : Int, (mx a1_4 t194) = j_ := ⟨_, rfl⟩
       replace H : ((bits_Signed.f a0 x9_21).bind fun t195 => (if ji9 > ji10 then (facts_Tighten.j2 kj21 a0 t193 true a1_0 a1_1 ji9 ji10 ji27 (mn a1_5 t195)) else (facts_Tighten.j2 kj21 a0 t193 (decide ((ji27) > (mn a1_5 t195))) a1_0 a1_1 ji9 ji10 ji27 (mn a1_5 t195)))) = some (r1, r2, r3, r4, r5, r6, r7) := by first | (rw [hji27] at H; exact H) | (simp only [hji27] at H ⊢; exact H)
       (try rw [hji27] at A26)
       have hji27_ : (if a1_4 < t194 then t194 else a1_4) = ji27 := hji27
       replace H := Option.bind_eq_some_iff.mp H
       obtain ⟨t195, A280, H⟩ := H
       replace H : (if ji9 > ji10 then (facts_Tighten.j2 kj21 a0 t193 true a1_0 a1_1 ji9 ji10 ji27 (mn a1_5 t195)) else (facts_Tighten.j2 kj21 a0 t193 (decide ((ji27) > (mn a1_5 t195))) a1_0 a1_1 ji9 ji10 ji27 (mn a1_5 t195))) = some (r1, r2, r3, r4, r5, r6, r7) := H
       have A28 := Aside0.mk A280
       clear A280
       obtain ⟨ji29, hji29⟩ : ∃ j_ : Int, (mn a1_5 t195) = j_ := ⟨_, rfl⟩
       replace H : (if ji9 > ji10 then (facts_Tighten.j2 kj21 a0 t193 true a1_0 a1_1 ji9 ji10 ji27 ji29) else (facts_Tighten.j2 kj21 a0 t193 (decide ((ji27) > (ji29))) a1_0 a1_1 ji9 ji10 ji27 ji29)) = some (r1, r2, r3, r4, r5, r6, r7) := by first | (rw [hji29] at H; exact H) | (simp only [hji29] at H ⊢; exact H)
       (try rw [hji29] at A26)
       (try rw [hji29] at A28)
       have hji29_ : (if t195 < a1_5 then t195 else a1_5) = ji29 := hji29
       have HC30 := Aside0.mk H
       clear H
       try go_wp2
       replace BK190 := Aside0.mk (blk_drew BK190.out)
       replace BK191 := Aside0.mk (blk_drew BK191.out)
       replace HB := Aside0.mk (below_drew1 HB.out)
       refine start_ (n := 16) (S := fun w' => w'.cell? ⟨gb190, 0, none⟩ = some (.int .u64 a1_0) ∧ w'.cell? ⟨gb190, 1, none⟩ = some (.int .u64 a1_1) ∧ w'.cell? ⟨gb190, 2, none⟩ = some (.int .u64 ji9) ∧ w'.cell? ⟨gb190, 3, none⟩ = some (.int .u64 ji10) ∧ w'.cell? ⟨gb190, 4, none⟩ = some (.int .i64 a1_4) ∧ w'.cell? ⟨gb190, 5, none⟩ = some (.int .i64 a1_5)) (ds := [13, 15]) (bA 16 0) (by kernel_rfl) rfl rfl (by repeat' (first | apply And.intro | exact (blk_cell BK190.out _).trans rfl)) (fun hHeld => ?_); refine with_tabW facts_Tighten.tab10 facts_Tighten.bits10 (fun HT_ HW_ => ?_)
       generalize wc.drew = w31 at BK190 BK191 HB hHeld ⊢
       refine pureA HT_ (i := 0) (N := some 56) (bA 16 1) ?_
       refine pureA HT_ (i := 2) (N := some 58) (bA 16 5) ?_
       refine pureA HT_ (i := 3) (N := some 59) (bA 16 13) ?_
       refine pureA HT_ (i := 6) (N := some 62) (bA 16 77) ?_
       refine pureA HT_ (i := 8) (N := some 64) (bA 16 333) ?_
       refine pureA HT_ (i := 9) (N := some 65) (bA 16 845) ?_
       refine takeA HT_ HW_ hHeld (i := 1) (N := some 57) (bA 16 847) ?_ (hy := by rintro w' ⟨s0, s1, s2, s3, s4, s5⟩; go_simp; with_reducible rfl)
       refine takeA HT_ HW_ hHeld (i := 7) (N := some 63) (bA 16 975) ?_ (hy := by rintro w' ⟨s0, s1, s2, s3, s4, s5⟩; go_simp; with_reducible rfl)
       refine one_ (i := 4) (N := some 60) (bA 16 991) rfl rfl (one_of HT_.out (by kernel_rfl)) (by decide) (fun K hK => ?_)
       refine gO Try.func68 #[.int .i64 a0, .int .u64 x8_10] ?_
       with_reducible refine (bits_Signed.calls a0 x8_10 t194 _ A26.out).mono ?_
       rintro e w32 ⟨rfl, hb⟩
       refine ⟨_, rfl, ?_⟩
       replace BK190 := bkB BK190.out hb
       replace BK191 := bkB BK191.out hb
       replace HB := bsB HB.out hb
       (try clear hb)
       refine hK.out _ _ (by repeat' (first | apply And.intro | exact (blk_cell BK190.out _).trans rfl)) (fun hHeld => ?_)
       clear hK K
       refine normA (some 60) ?_
       refine pureA HT_ (i := 5) (N := some 61) (bA 16 1023) ?_
       refine pureA HT_ (i := 12) (N := some 68) (bA 16 5119) ?_
       refine one_ (i := 10) (N := some 66) (bA 16 6143) rfl rfl (one_of HT_.out (by kernel_rfl)) (by decide) (fun K hK => ?_)
       refine gO Try.func68 #[.int .i64 a0, .int .u64 x9_21] ?_
       with_reducible refine (bits_Signed.calls a0 x9_21 t195 _ A28.out).mono ?_
       rintro e w33 ⟨rfl, hb⟩
       refine ⟨_, rfl, ?_⟩
       replace BK190 := bkB BK190.out hb
       replace BK191 := bkB BK191.out hb
       replace HB := bsB HB.out hb
       (try clear hb)
       refine hK.out _ _ (by repeat' (first | apply And.intro | exact (blk_cell BK190.out _).trans rfl)) (fun hHeld => ?_)
       clear hK K
       refine normA (some 66) ?_
       refine pureA HT_ (i := 11) (N := some 67) (bA 16 8191) ?_
       refine last_ (i := 13) (N := none) (bA 16 16383) rfl rfl (one_of HT_.out (by kernel_rfl)) (by decide) (fun K hK => ?_)
       have hs34 : w33.cell? ⟨gb190, 4, none⟩ = some (.int .i64 a1_4) := (blk_cell BK190.out 4).trans rfl
       have hfs34 := blk_frozen BK190.out 4
       have hns34_1 := NB191_190.out
       have hms34_1 := NB190_191.out
       refine skip_ (w1 := ?_) (by rfl) rfl ?_ ?_
       rotate_left
       ·
        go_simp
        rfl
       refine hK.out _ _ ?_
       clear hK K
       refine pureA HT_ (i := 14) (N := some 69) (bA 16 32767) ?_
       refine last_ (i := 15) (N := none) (bA 16 65535) rfl rfl (one_of HT_.out (by kernel_rfl)) (by decide) (fun K hK => ?_)
       have hs35 : w33.cell? ⟨gb190, 5, none⟩ = some (.int .i64 a1_5) := (blk_cell BK190.out 5).trans rfl
       have hfs35 := blk_frozen BK190.out 5
       have hns35_1 := NB191_190.out
       have hms35_1 := NB190_191.out
       refine skip_ (w1 := ?_) (by rfl) rfl ?_ ?_
       rotate_left
       ·
        go_simp
        rfl
       refine hK.out _ _ ?_
       clear hK K
       refine done_ (done_of HT_.out (by kernel_rfl)) ?_
       go_upto_region 11 with (fail)
       go_cut [81] (fun v81 wc => ∃ (kq : Nat) (x81_29 : Bool), v81 = .bool x81_29 ∧ Aside0 (facts_Tighten.j2 kq a0 t193 x81_29 a1_0 a1_1 ji9 ji10 ji27 ji29 = some (r1, r2, r3, r4, r5, r6, r7)) ∧ Aside0 (kq ≤ kj21) ∧ Aside0 (wc.heap[gb190]? = some (.cells #[.int .u64 a1_0, .int .u64 a1_1, .int .u64 ji9, .int .u64 ji10, .int .i64 ji27, .int .i64 ji29] 50 (0, 0))) ∧ Aside0 (wc.heap[gb191]? = some (.cells #[.int .u64 0, .int .u64 0, .int .u64 0, .int .u64 0, .int .i64 0, .int .i64 0] 50 (0, 0))) ∧ Aside0 (Below w.heap.size w wc))
       case first =>
        have H := HC30.out
        clear HC30
        by_cases c36 : ji9 > ji10
        ·
         rw [if_pos c36] at H
         have c36b0 : decide (ji10 < ji9) = true := decide_eq_true c36
         clear c36
         (first | rw [c36b0] | (simp only [i64_w, i32_w]; rw [c36b0]) | skip)
         have H' := Aside0.mk H
         clear H
         have hnb37 := NB190_191.out
         have hnc37 := NB191_190.out
         obtain ⟨hcz38_0, hcz38_1, hcz38_2, hcz38_3, hcz38_4, hcz38_5, hfz38_0, hfz38_1, hfz38_2, hfz38_3, hfz38_4, hfz38_5⟩ := own6 BK190.out
         go_wp2
         go_meet
         case rel => exact ⟨_, (true), (by first | rfl | (simp; done) | (simp [*]; done)), H', ⟨by have := HJ10.out; have := HJ21.out; first | omega | exact Nat.le_refl _⟩, ⟨by (with_reducible repeat (first | refine blk_drewN ?_ _ | refine blk_drew ?_ | refine blk_alloc ?_ _)); refine blk_put (cs := #[.int .u64 a1_0, .int .u64 a1_1, .int .u64 ji9, .int .u64 ji10, .int .i64 ji27, .int .i64 a1_5]) ?_ 5 _ rfl; (with_reducible repeat (first | refine blk_drewN ?_ _ | refine blk_drew ?_ | refine blk_alloc ?_ _)); refine blk_put (cs := #[.int .u64 a1_0, .int .u64 a1_1, .int .u64 ji9, .int .u64 ji10, .int .i64 a1_4, .int .i64 a1_5]) ?_ 4 _ rfl; exact bfL BK190.out⟩, ⟨by exact bfL BK191.out⟩, ⟨bsL HB.out⟩⟩
        ·
         rw [if_neg c36] at H
         have c36b0 : decide (ji10 < ji9) = false := decide_eq_false c36
         clear c36
         (first | rw [c36b0] | (simp only [i64_w, i32_w]; rw [c36b0]) | skip)
         have H' := Aside0.mk H
         clear H
         have hnb39 := NB190_191.out
         have hnc39 := NB191_190.out
         obtain ⟨hcz40_0, hcz40_1, hcz40_2, hcz40_3, hcz40_4, hcz40_5, hfz40_0, hfz40_1, hfz40_2, hfz40_3, hfz40_4, hfz40_5⟩ := own6 BK190.out
         go_wp2
         go_meet
         case rel => exact ⟨_, (decide ((ji27) > (ji29))), (by first | rfl | (simp; done) | (simp only [← hji27, ← hji29] <;> (first | rfl | simp)) | (simp [*]; done)), H', ⟨by have := HJ10.out; have := HJ21.out; first | omega | exact Nat.le_refl _⟩, ⟨by (with_reducible repeat (first | refine blk_drewN ?_ _ | refine blk_drew ?_ | refine blk_alloc ?_ _)); refine blk_put (cs := #[.int .u64 a1_0, .int .u64 a1_1, .int .u64 ji9, .int .u64 ji10, .int .i64 ji27, .int .i64 a1_5]) ?_ 5 _ rfl; (with_reducible repeat (first | refine blk_drewN ?_ _ | refine blk_drew ?_ | refine blk_alloc ?_ _)); refine blk_put (cs := #[.int .u64 a1_0, .int .u64 a1_1, .int .u64 ji9, .int .u64 ji10, .int .i64 a1_4, .int .i64 a1_5]) ?_ 4 _ rfl; exact bfL BK190.out⟩, ⟨by exact bfL BK191.out⟩, ⟨bsL HB.out⟩⟩
       case rest =>
        clear HC30
        try clear c1
        try clear c2
        try clear p2
        try clear c3
        try clear c4
        try clear c5
        try clear c6
        try clear p6
        try clear c7
        try clear c7b0
        try clear c7b1
        try clear c14
        try clear c21
        try clear c21b0
        try clear c21b1
        try clear c23
        try clear c25
        try clear c25b0
        try clear c25b1
        try clear c36
        try clear c36b0
        try clear c37
        try clear c39
        try clear hcz15_0
        try clear hcz15_1
        try clear hcz15_2
        try clear hcz15_3
        try clear hcz15_4
        try clear hcz15_5
        try clear hcz20_0
        try clear hcz20_1
        try clear hcz20_2
        try clear hcz20_3
        try clear hcz20_4
        try clear hcz20_5
        try clear hcz24_0
        try clear hcz24_1
        try clear hcz24_2
        try clear hcz24_3
        try clear hcz24_4
        try clear hcz24_5
        try clear hcz38_0
        try clear hcz38_1
        try clear hcz38_2
        try clear hcz38_3
        try clear hcz38_4
        try clear hcz38_5
        try clear hcz40_0
        try clear hcz40_1
        try clear hcz40_2
        try clear hcz40_3
        try clear hcz40_4
        try clear hcz40_5
        try clear hfz15_0
        try clear hfz15_1
        try clear hfz15_2
        try clear hfz15_3
        try clear hfz15_4
        try clear hfz15_5
        try clear hfz20_0
        try clear hfz20_1
        try clear hfz20_2
        try clear hfz20_3
        try clear hfz20_4
        try clear hfz20_5
        try clear hfz24_0
        try clear hfz24_1
        try clear hfz24_2
        try clear hfz24_3
        try clear hfz24_4
        try clear hfz24_5
        try clear hfz38_0
        try clear hfz38_1
        try clear hfz38_2
        try clear hfz38_3
        try clear hfz38_4
        try clear hfz38_5
        try clear hfz40_0
        try clear hfz40_1
        try clear hfz40_2
        try clear hfz40_3
        try clear hfz40_4
        try clear hfz40_5
        try clear p2
        try clear p6
        obtain ⟨kq, x81_29, rfl, HA, HJ29, BK190, BK191, HB⟩ := hcut
        cases kq with
        | zero => exact absurd HA.out (by simp [facts_Tighten.j2])
        | succ kj29 =>
         have H := HA.out
         clear HA
         simp only [facts_Tighten.j2] at H
         by_cases c41 : x81_29 = true
         ·
          subst c41
          have H1 : (some (0, 0, 0, 0, 0, 0, false)) = some (r1, r2, r3, r4, r5, r6, r7) := by rw [if_pos rfl] at H; exact H
          clear H
          have H := H1
          clear H1
          simp only [Option.some.injEq, Prod.mk.injEq] at H
          obtain ⟨rfl, rfl, rfl, rfl, rfl, rfl, rfl⟩ := H
          have hnb42 := NB191_190.out
          have hnc42 := NB190_191.out
          obtain ⟨hcz43_0, hcz43_1, hcz43_2, hcz43_3, hcz43_4, hcz43_5, hfz43_0, hfz43_1, hfz43_2, hfz43_3, hfz43_4, hfz43_5⟩ := own6 BK191.out
          go_wp2
          refine bodyPost_ret (results_ct rfl _ _ gb191 50 #[.int .u64 0, .int .u64 0, .int .u64 0, .int .u64 0, .int .i64 0, .int .i64 0] (0, 0) _ rfl (by (with_reducible repeat (first | refine blk_drewN ?_ _ | refine blk_drew ?_ | refine blk_alloc ?_ _)); refine blk_put (cs := #[.int .u64 0, .int .u64 0, .int .u64 0, .int .u64 0, .int .i64 0, .int .i64 0]) ?_ 5 _ rfl; (with_reducible repeat (first | refine blk_drewN ?_ _ | refine blk_drew ?_ | refine blk_alloc ?_ _)); refine blk_put (cs := #[.int .u64 0, .int .u64 0, .int .u64 0, .int .u64 0, .int .i64 0, .int .i64 0]) ?_ 4 _ rfl; (with_reducible repeat (first | refine blk_drewN ?_ _ | refine blk_drew ?_ | refine blk_alloc ?_ _)); refine blk_put (cs := #[.int .u64 0, .int .u64 0, .int .u64 0, .int .u64 0, .int .i64 0, .int .i64 0]) ?_ 3 _ rfl; (with_reducible repeat (first | refine blk_drewN ?_ _ | refine blk_drew ?_ | refine blk_alloc ?_ _)); refine blk_put (cs := #[.int .u64 0, .int .u64 0, .int .u64 0, .int .u64 0, .int .i64 0, .int .i64 0]) ?_ 2 _ rfl; (with_reducible repeat (first | refine blk_drewN ?_ _ | refine blk_drew ?_ | refine blk_alloc ?_ _)); refine blk_put (cs := #[.int .u64 0, .int .u64 0, .int .u64 0, .int .u64 0, .int .i64 0, .int .i64 0]) ?_ 1 _ rfl; (with_reducible repeat (first | refine blk_drewN ?_ _ | refine blk_drew ?_ | refine blk_alloc ?_ _)); refine blk_put (cs := #[.int .u64 0, .int .u64 0, .int .u64 0, .int .u64 0, .int .i64 0, .int .i64 0]) ?_ 0 _ rfl; exact bfL BK191.out) Try.underlying50 rfl (by kernel_rfl)) rfl ?_
          exact ⟨by first | rfl | (simp [errW_none, errW_some] <;> rfl) | (simp only [← hji6, ← hji8, ← hji9, ← hji10, ← hji27, ← hji29]; first | rfl | (simp [errW_none, errW_some] <;> rfl)) | (simp [*, errW_none, errW_some] <;> rfl), bsL HB.out⟩
         ·
          replace c41 := Bool.eq_false_iff.mpr c41
          subst c41
          have H1 : ((facts_span.f a1_0 a1_1 ji9 ji10 ji27 ji29).bind fun bt196 => ((interval_Tighten.f kj29 a0 bt196.1 bt196.2.1 bt196.2.2.1 bt196.2.2.2).bind fun bt200 => (if bt200.2.2.2.2 = true then ((bits_Len64.f kj29 (Go.bits .xor .u64 bt200.1 bt200.2.1)).bind fun t206 => ((bits_Mask.f t206).bind fun t207 => (if (Go.bits .and .u64 (Go.bits .or .u64 a1_0 (Go.bits .and .u64 (Go.bits .xor .u64 18446744073709551615 bt200.1) (Go.bits .andNot .u64 t193 t207))) (Go.bits .or .u64 a1_1 (Go.bits .and .u64 bt200.1 (Go.bits .andNot .u64 t193 t207)))) = 0 then ((facts_fact.f (Go.bits .or .u64 a1_0 (Go.bits .and .u64 (Go.bits .xor .u64 18446744073709551615 bt200.1) (Go.bits .andNot .u64 t193 t207))) (Go.bits .or .u64 a1_1 (Go.bits .and .u64 bt200.1 (Go.bits .andNot .u64 t193 t207))) bt200.1 bt200.2.1 bt200.2.2.1 bt200.2.2.2.1).bind fun bt209 => (some (bt209.1, bt209.2.1, bt209.2.2.1, bt209.2.2.2.1, bt209.2.2.2.2.1, bt209.2.2.2.2.2, true))) else (some (0, 0, 0, 0, 0, 0, false))))) else (some (0, 0, 0, 0, 0, 0, false))))) = some (r1, r2, r3, r4, r5, r6, r7) := by rw [if_neg (show ¬ (false = true) by decide)] at H; exact H
          clear H
          have H := H1
          clear H1
          replace H := Option.bind_eq_some_iff.mp H
          obtain ⟨⟨t196, t197, t198, t199⟩, A440, H⟩ := H
          replace H : ((interval_Tighten.f kj29 a0 t196 t197 t198 t199).bind fun bt200 => (if bt200.2.2.2.2 = true then ((bits_Len64.f kj29 (Go.bits .xor .u64 bt200.1 bt200.2.1)).bind fun t206 => ((bits_Mask.f t206).bind fun t207 => (if (Go.bits .and .u64 (Go.bits .or .u64 a1_0 (Go.bits .and .u64 (Go.bits .xor .u64 18446744073709551615 bt200.1) (Go.bits .andNot .u64 t193 t207))) (Go.bits .or .u64 a1_1 (Go.bits .and .u64 bt200.1 (Go.bits .andNot .u64 t193 t207)))) = 0 then ((facts_fact.f (Go.bits .or .u64 a1_0 (Go.bits .and .u64 (Go.bits .xor .u64 18446744073709551615 bt200.1) (Go.bits .andNot .u64 t193 t207))) (Go.bits .or .u64 a1_1 (Go.bits .and .u64 bt200.1 (Go.bits .andNot .u64 t193 t207))) bt200.1 bt200.2.1 bt200.2.2.1 bt200.2.2.2.1).bind fun bt209 => (some (bt209.1, bt209.2.1, bt209.2.2.1, bt209.2.2.2.1, bt209.2.2.2.2.1, bt209.2.2.2.2.2, true))) else (some (0, 0, 0, 0, 0, 0, false))))) else (some (0, 0, 0, 0, 0, 0, false)))) = some (r1, r2, r3, r4, r5, r6, r7) := H
          have A44 := Aside0.mk A440
          clear A440
          replace H := Option.bind_eq_some_iff.mp H
          obtain ⟨⟨t200, t201, t202, t203, t204⟩, A450, H⟩ := H
          replace H : (if t204 = true then ((bits_Len64.f kj29 (Go.bits .xor .u64 t200 t201)).bind fun t206 => ((bits_Mask.f t206).bind fun t207 => (if (Go.bits .and .u64 (Go.bits .or .u64 a1_0 (Go.bits .and .u64 (Go.bits .xor .u64 18446744073709551615 t200) (Go.bits .andNot .u64 t193 t207))) (Go.bits .or .u64 a1_1 (Go.bits .and .u64 t200 (Go.bits .andNot .u64 t193 t207)))) = 0 then ((facts_fact.f (Go.bits .or .u64 a1_0 (Go.bits .and .u64 (Go.bits .xor .u64 18446744073709551615 t200) (Go.bits .andNot .u64 t193 t207))) (Go.bits .or .u64 a1_1 (Go.bits .and .u64 t200 (Go.bits .andNot .u64 t193 t207))) t200 t201 t202 t203).bind fun bt209 => (some (bt209.1, bt209.2.1, bt209.2.2.1, bt209.2.2.2.1, bt209.2.2.2.2.1, bt209.2.2.2.2.2, true))) else (some (0, 0, 0, 0, 0, 0, false))))) else (some (0, 0, 0, 0, 0, 0, false))) = some (r1, r2, r3, r4, r5, r6, r7) := H
          have A45 := Aside0.mk A450
          clear A450
          by_cases c46 : t204 = true
          ·
           subst c46
           have H1 : ((bits_Len64.f kj29 (Go.bits .xor .u64 t200 t201)).bind fun t206 => ((bits_Mask.f t206).bind fun t207 => (if (Go.bits .and .u64 (Go.bits .or .u64 a1_0 (Go.bits .and .u64 (Go.bits .xor .u64 18446744073709551615 t200) (Go.bits .andNot .u64 t193 t207))) (Go.bits .or .u64 a1_1 (Go.bits .and .u64 t200 (Go.bits .andNot .u64 t193 t207)))) = 0 then ((facts_fact.f (Go.bits .or .u64 a1_0 (Go.bits .and .u64 (Go.bits .xor .u64 18446744073709551615 t200) (Go.bits .andNot .u64 t193 t207))) (Go.bits .or .u64 a1_1 (Go.bits .and .u64 t200 (Go.bits .andNot .u64 t193 t207))) t200 t201 t202 t203).bind fun bt209 => (some (bt209.1, bt209.2.1, bt209.2.2.1, bt209.2.2.2.1, bt209.2.2.2.2.1, bt209.2.2.2.2.2, true))) else (some (0, 0, 0, 0, 0, 0, false))))) = some (r1, r2, r3, r4, r5, r6, r7) := by rw [if_pos rfl] at H; exact H
           clear H
           have H := H1
           clear H1
           replace H := Option.bind_eq_some_iff.mp H
           obtain ⟨t206, A470, H⟩ := H
           replace H : ((bits_Mask.f t206).bind fun t207 => (if (Go.bits .and .u64 (Go.bits .or .u64 a1_0 (Go.bits .and .u64 (Go.bits .xor .u64 18446744073709551615 t200) (Go.bits .andNot .u64 t193 t207))) (Go.bits .or .u64 a1_1 (Go.bits .and .u64 t200 (Go.bits .andNot .u64 t193 t207)))) = 0 then ((facts_fact.f (Go.bits .or .u64 a1_0 (Go.bits .and .u64 (Go.bits .xor .u64 18446744073709551615 t200) (Go.bits .andNot .u64 t193 t207))) (Go.bits .or .u64 a1_1 (Go.bits .and .u64 t200 (Go.bits .andNot .u64 t193 t207))) t200 t201 t202 t203).bind fun bt209 => (some (bt209.1, bt209.2.1, bt209.2.2.1, bt209.2.2.2.1, bt209.2.2.2.2.1, bt209.2.2.2.2.2, true))) else (some (0, 0, 0, 0, 0, 0, false)))) = some (r1, r2, r3, r4, r5, r6, r7) := H
           have A47 := Aside0.mk A470
           clear A470
           replace H := Option.bind_eq_some_iff.mp H
           obtain ⟨t207, A480, H⟩ := H
           replace H : (if (Go.bits .and .u64 (Go.bits .or .u64 a1_0 (Go.bits .and .u64 (Go.bits .xor .u64 18446744073709551615 t200) (Go.bits .andNot .u64 t193 t207))) (Go.bits .or .u64 a1_1 (Go.bits .and .u64 t200 (Go.bits .andNot .u64 t193 t207)))) = 0 then ((facts_fact.f (Go.bits .or .u64 a1_0 (Go.bits .and .u64 (Go.bits .xor .u64 18446744073709551615 t200) (Go.bits .andNot .u64 t193 t207))) (Go.bits .or .u64 a1_1 (Go.bits .and .u64 t200 (Go.bits .andNot .u64 t193 t207))) t200 t201 t202 t203).bind fun bt209 => (some (bt209.1, bt209.2.1, bt209.2.2.1, bt209.2.2.2.1, bt209.2.2.2.2.1, bt209.2.2.2.2.2, true))) else (some (0, 0, 0, 0, 0, 0, false))) = some (r1, r2, r3, r4, r5, r6, r7) := H
           have A48 := Aside0.mk A480
           clear A480
           by_cases c49 : (Go.bits .and .u64 (Go.bits .or .u64 a1_0 (Go.bits .and .u64 (Go.bits .xor .u64 18446744073709551615 t200) (Go.bits .andNot .u64 t193 t207))) (Go.bits .or .u64 a1_1 (Go.bits .and .u64 t200 (Go.bits .andNot .u64 t193 t207)))) = 0
           ·
            rw [if_pos c49] at H
            have c49b0 : ((Go.bits .and .u64 (Go.bits .or .u64 a1_0 (Go.bits .and .u64 (Go.bits .xor .u64 18446744073709551615 t200) (Go.bits .andNot .u64 t193 t207))) (Go.bits .or .u64 a1_1 (Go.bits .and .u64 t200 (Go.bits .andNot .u64 t193 t207)))) == 0) = true := beq_iff_eq.mpr c49
            have c49x0 : ((Go.bits .and .u64 (Go.bits .or .u64 a1_0 (Go.bits .and .u64 (Go.bits .xor .u64 (if IntKind.u64.signed = true then -1 else IntKind.u64.max) t200) (Go.bits .andNot .u64 t193 t207))) (Go.bits .or .u64 a1_1 (Go.bits .and .u64 t200 (Go.bits .andNot .u64 t193 t207)))) == 0) = true := c49b0
            have c49b1 : ((Go.bits .and .u64 (Go.bits .or .u64 a1_0 (Go.bits .and .u64 (Go.bits .xor .u64 18446744073709551615 t200) (Go.bits .andNot .u64 t193 t207))) (Go.bits .or .u64 a1_1 (Go.bits .and .u64 t200 (Go.bits .andNot .u64 t193 t207)))) != 0) = false := bne_eq_false_iff_eq.mpr c49
            have c49x1 : ((Go.bits .and .u64 (Go.bits .or .u64 a1_0 (Go.bits .and .u64 (Go.bits .xor .u64 (if IntKind.u64.signed = true then -1 else IntKind.u64.max) t200) (Go.bits .andNot .u64 t193 t207))) (Go.bits .or .u64 a1_1 (Go.bits .and .u64 t200 (Go.bits .andNot .u64 t193 t207)))) != 0) = false := c49b1
            clear c49
            replace H := Option.bind_eq_some_iff.mp H
            obtain ⟨⟨t209, t210, t211, t212, t213, t214⟩, A500, H⟩ := H
            replace H : (some (t209, t210, t211, t212, t213, t214, true)) = some (r1, r2, r3, r4, r5, r6, r7) := H
            have A50 := Aside0.mk A500
            clear A500
            simp only [Option.some.injEq, Prod.mk.injEq] at H
            obtain ⟨rfl, rfl, rfl, rfl, rfl, rfl, rfl⟩ := H
            have hnb51 := NB190_191.out
            have hnc51 := NB191_190.out
            obtain ⟨hcz52_0, hcz52_1, hcz52_2, hcz52_3, hcz52_4, hcz52_5, hfz52_0, hfz52_1, hfz52_2, hfz52_3, hfz52_4, hfz52_5⟩ := own6 BK190.out
            go_wp2_with (first | ((with_reducible refine gate_callee (f := 76) rfl ?_); refine goesL_ (some 86) rfl rfl Try.func76 (by kernel_rfl) rfl #[.agg #[.int .u64 a1_0, .int .u64 a1_1, .int .u64 ji9, .int .u64 ji10, .int .i64 ji27, .int .i64 ji29]] rfl (by (try simp only [List.map_toArray, List.map_cons, List.map_nil]); first | done | (simp only [hji10, hji27, hji29, hji9]; rfl) | rfl | (simp only [List.length_drop, List.length_take]; rfl)) ?_; (with_reducible refine (facts_span.calls a1_0 a1_1 ji9 ji10 ji27 ji29 t196 t197 t198 t199 _ A44.out).mono ?_); rintro e w53 ⟨rfl, hb⟩; refine ⟨_, rfl, ?_⟩; replace BK190 := bkB BK190.out hb; replace BK191 := bkB BK191.out hb; replace HB := bsB HB.out hb; (try clear hb)) | ((with_reducible refine gate_callee (f := 53) rfl ?_); refine gL (some 87) Try.func53 #[.int .i64 a0, .agg #[.int .u64 t196, .int .u64 t197, .int .i64 t198, .int .i64 t199]] ?_; (with_reducible refine (interval_Tighten.calls kj29 a0 t196 t197 t198 t199 t200 t201 t202 t203 true _ A45.out).mono ?_); rintro e w54 ⟨rfl, hb⟩; refine ⟨_, rfl, ?_⟩; replace BK190 := bkB BK190.out hb; replace BK191 := bkB BK191.out hb; replace HB := bsB HB.out hb; (try clear hb); (try clear hb2); (try clear hk); (try clear hi)) | ((with_reducible refine gate_dst (N := 10) rfl ?_); refine boxE (N := 10) (cs := #[.int .u64 0, .int .u64 0, .int .i64 0, .int .i64 0]) (t := 30) ?_; intro gb205 hg w55 hbox hb; have BK205 := Aside0.mk (hbox); have GW205 := szB hg HB.out; have GE205 := szB hg HB.out; have NB190_205 := neL hg BK190.out; have NB205_190 := neG hg BK190.out; have NB191_205 := neL hg BK191.out; have NB205_191 := neG hg BK191.out; replace BK190 := bkB BK190.out hb; replace BK191 := bkB BK191.out hb; replace HB := bsB HB.out hb; clear hb hbox hg; have hnb56 := NB205_190.out; have hnc56 := NB190_205.out; have hnb57 := NB205_191.out; have hnc57 := NB191_205.out; obtain ⟨hcz58_0, hcz58_1, hcz58_2, hcz58_3, hfz58_0, hfz58_1, hfz58_2, hfz58_3⟩ := own4 BK205.out) | ((with_reducible refine gate_callee (f := 77) rfl ?_); refine gL (some 99) Try.func77 #[.int .u64 (Go.bits .xor .u64 t200 t201)] ?_; (with_reducible refine (bits_Len64.calls kj29 (Go.bits .xor .u64 t200 t201) t206 _ A47.out).mono ?_); rintro e w' ⟨rfl, ⟨nd, rfl⟩⟩; refine ⟨_, rfl, ?_⟩) | ((with_reducible refine gate_callee (f := 56) rfl ?_); refine gL (some 100) Try.func56 #[.int .i64 t206] ?_; (with_reducible refine (bits_Mask.calls t206 t207 _ A48.out).mono ?_); rintro e w59 ⟨rfl, hb⟩; refine ⟨_, rfl, ?_⟩; replace BK190 := Aside0.mk (blk_below (g := gb190) (o := .cells #[.int .u64 a1_0, .int .u64 a1_1, .int .u64 ji9, .int .u64 ji10, .int .i64 ji27, .int .i64 ji29] 50 (0, 0)) (by exact bfL BK190.out) hb); replace BK191 := Aside0.mk (blk_below (g := gb191) (o := .cells #[.int .u64 0, .int .u64 0, .int .u64 0, .int .u64 0, .int .i64 0, .int .i64 0] 50 (0, 0)) (by exact bfL BK191.out) hb); replace BK205 := Aside0.mk (blk_below (g := gb205) (o := .cells #[.int .u64 t200, .int .u64 t201, .int .i64 t202, .int .i64 t203] 30 (0, 0)) (by (with_reducible repeat (first | refine blk_drewN ?_ _ | refine blk_drew ?_ | refine blk_alloc ?_ _)); refine blk_put (cs := #[.int .u64 t200, .int .u64 t201, .int .i64 t202, .int .i64 0]) ?_ 3 _ rfl; (with_reducible repeat (first | refine blk_drewN ?_ _ | refine blk_drew ?_ | refine blk_alloc ?_ _)); refine blk_put (cs := #[.int .u64 t200, .int .u64 t201, .int .i64 0, .int .i64 0]) ?_ 2 _ rfl; (with_reducible repeat (first | refine blk_drewN ?_ _ | refine blk_drew ?_ | refine blk_alloc ?_ _)); refine blk_put (cs := #[.int .u64 t200, .int .u64 0, .int .i64 0, .int .i64 0]) ?_ 1 _ rfl; (with_reducible repeat (first | refine blk_drewN ?_ _ | refine blk_drew ?_ | refine blk_alloc ?_ _)); refine blk_put (cs := #[.int .u64 0, .int .u64 0, .int .i64 0, .int .i64 0]) ?_ 0 _ rfl; exact bfL BK205.out) hb); replace HB := bsB HB.out hb; (try clear hb); (try clear hb2); (try clear hk); (try clear hi); obtain ⟨hcz60_0, hcz60_1, hcz60_2, hcz60_3, hcz60_4, hcz60_5, hfz60_0, hfz60_1, hfz60_2, hfz60_3, hfz60_4, hfz60_5⟩ := own6 BK190.out; obtain ⟨hcz61_0, hcz61_1, hcz61_2, hcz61_3, hfz61_0, hfz61_1, hfz61_2, hfz61_3⟩ := own4 BK205.out) | ((with_reducible refine gate_dst (N := 13) rfl ?_); refine boxE (N := 13) (cs := #[.int .u64 0, .int .u64 0]) (t := 110) ?_; intro gb208 hg w62 hbox hb; have BK208 := Aside0.mk (hbox); have GW208 := szB hg HB.out; have GE208 := szB hg HB.out; have NB190_208 := neL hg BK190.out; have NB208_190 := neG hg BK190.out; have NB191_208 := neL hg BK191.out; have NB208_191 := neG hg BK191.out; have NB205_208 := neL hg BK205.out; have NB208_205 := neG hg BK205.out; replace BK190 := bkB BK190.out hb; replace BK191 := bkB BK191.out hb; replace BK205 := bkB BK205.out hb; replace HB := bsB HB.out hb; clear hb hbox hg; have hnb63 := NB208_190.out; have hnc63 := NB190_208.out; have hnb64 := NB208_191.out; have hnc64 := NB191_208.out; have hnb65 := NB208_205.out; have hnc65 := NB205_208.out; obtain ⟨hcz66_0, hcz66_1, hfz66_0, hfz66_1⟩ := own2 BK208.out; obtain ⟨hcz67_0, hcz67_1, hcz67_2, hcz67_3, hfz67_0, hfz67_1, hfz67_2, hfz67_3⟩ := own4 BK205.out) | ((with_reducible refine gate_callee (f := 78) rfl ?_); refine gL (some 127) Try.func78 #[.agg #[.int .u64 (Go.bits .or .u64 a1_0 (Go.bits .and .u64 (Go.bits .xor .u64 18446744073709551615 t200) (Go.bits .andNot .u64 t193 t207))), .int .u64 (Go.bits .or .u64 a1_1 (Go.bits .and .u64 t200 (Go.bits .andNot .u64 t193 t207)))], .agg #[.int .u64 t200, .int .u64 t201, .int .i64 t202, .int .i64 t203]] ?_; (with_reducible refine (facts_fact.calls (Go.bits .or .u64 a1_0 (Go.bits .and .u64 (Go.bits .xor .u64 18446744073709551615 t200) (Go.bits .andNot .u64 t193 t207))) (Go.bits .or .u64 a1_1 (Go.bits .and .u64 t200 (Go.bits .andNot .u64 t193 t207))) t200 t201 t202 t203 t209 t210 t211 t212 t213 t214 _ A50.out).mono ?_); rintro e w68 ⟨rfl, hb⟩; refine ⟨_, rfl, ?_⟩; replace BK190 := Aside0.mk (blk_below (g := gb190) (o := .cells #[.int .u64 a1_0, .int .u64 a1_1, .int .u64 ji9, .int .u64 ji10, .int .i64 ji27, .int .i64 ji29] 50 (0, 0)) (by exact bfL BK190.out) hb); replace BK191 := Aside0.mk (blk_below (g := gb191) (o := .cells #[.int .u64 0, .int .u64 0, .int .u64 0, .int .u64 0, .int .i64 0, .int .i64 0] 50 (0, 0)) (by exact bfL BK191.out) hb); replace BK205 := Aside0.mk (blk_below (g := gb205) (o := .cells #[.int .u64 t200, .int .u64 t201, .int .i64 t202, .int .i64 t203] 30 (0, 0)) (by exact bfL BK205.out) hb); replace BK208 := Aside0.mk (blk_below (g := gb208) (o := .cells #[.int .u64 (Go.bits .or .u64 a1_0 (Go.bits .and .u64 (Go.bits .xor .u64 18446744073709551615 t200) (Go.bits .andNot .u64 t193 t207))), .int .u64 (Go.bits .or .u64 a1_1 (Go.bits .and .u64 t200 (Go.bits .andNot .u64 t193 t207)))] 110 (0, 0)) (by (with_reducible repeat (first | refine blk_drewN ?_ _ | refine blk_drew ?_ | refine blk_alloc ?_ _)); refine blk_put (cs := #[.int .u64 (Go.bits .or .u64 a1_0 (Go.bits .and .u64 (Go.bits .xor .u64 18446744073709551615 t200) (Go.bits .andNot .u64 t193 t207))), .int .u64 0]) ?_ 1 _ rfl; (with_reducible repeat (first | refine blk_drewN ?_ _ | refine blk_drew ?_ | refine blk_alloc ?_ _)); refine blk_put (cs := #[.int .u64 0, .int .u64 0]) ?_ 0 _ rfl; exact bfL BK208.out) hb); replace HB := bsB HB.out hb; (try clear hb); (try clear hb2); (try clear hk); (try clear hi); obtain ⟨hcz69_0, hcz69_1, hcz69_2, hcz69_3, hcz69_4, hcz69_5, hfz69_0, hfz69_1, hfz69_2, hfz69_3, hfz69_4, hfz69_5⟩ := own6 BK191.out))
            refine bodyPost_ret (results_ct rfl _ _ gb191 50 #[.int .u64 t209, .int .u64 t210, .int .u64 t211, .int .u64 t212, .int .i64 t213, .int .i64 t214] (0, 0) _ rfl (by (with_reducible repeat (first | refine blk_drewN ?_ _ | refine blk_drew ?_ | refine blk_alloc ?_ _)); refine blk_put (cs := #[.int .u64 t209, .int .u64 t210, .int .u64 t211, .int .u64 t212, .int .i64 t213, .int .i64 0]) ?_ 5 _ rfl; (with_reducible repeat (first | refine blk_drewN ?_ _ | refine blk_drew ?_ | refine blk_alloc ?_ _)); refine blk_put (cs := #[.int .u64 t209, .int .u64 t210, .int .u64 t211, .int .u64 t212, .int .i64 0, .int .i64 0]) ?_ 4 _ rfl; (with_reducible repeat (first | refine blk_drewN ?_ _ | refine blk_drew ?_ | refine blk_alloc ?_ _)); refine blk_put (cs := #[.int .u64 t209, .int .u64 t210, .int .u64 t211, .int .u64 0, .int .i64 0, .int .i64 0]) ?_ 3 _ rfl; (with_reducible repeat (first | refine blk_drewN ?_ _ | refine blk_drew ?_ | refine blk_alloc ?_ _)); refine blk_put (cs := #[.int .u64 t209, .int .u64 t210, .int .u64 0, .int .u64 0, .int .i64 0, .int .i64 0]) ?_ 2 _ rfl; (with_reducible repeat (first | refine blk_drewN ?_ _ | refine blk_drew ?_ | refine blk_alloc ?_ _)); refine blk_put (cs := #[.int .u64 t209, .int .u64 0, .int .u64 0, .int .u64 0, .int .i64 0, .int .i64 0]) ?_ 1 _ rfl; (with_reducible repeat (first | refine blk_drewN ?_ _ | refine blk_drew ?_ | refine blk_alloc ?_ _)); refine blk_put (cs := #[.int .u64 0, .int .u64 0, .int .u64 0, .int .u64 0, .int .i64 0, .int .i64 0]) ?_ 0 _ rfl; exact bfL BK191.out) Try.underlying50 rfl (by kernel_rfl)) rfl ?_
            exact ⟨by first | rfl | (simp [errW_none, errW_some] <;> rfl) | (simp only [← hji6, ← hji8, ← hji9, ← hji10, ← hji27, ← hji29]; first | rfl | (simp [errW_none, errW_some] <;> rfl)) | (simp [*, errW_none, errW_some] <;> rfl), bsL HB.out⟩
           ·
            rw [if_neg c49] at H
            have c49b0 : ((Go.bits .and .u64 (Go.bits .or .u64 a1_0 (Go.bits .and .u64 (Go.bits .xor .u64 18446744073709551615 t200) (Go.bits .andNot .u64 t193 t207))) (Go.bits .or .u64 a1_1 (Go.bits .and .u64 t200 (Go.bits .andNot .u64 t193 t207)))) == 0) = false := beq_eq_false_iff_ne.mpr c49
            have c49x0 : ((Go.bits .and .u64 (Go.bits .or .u64 a1_0 (Go.bits .and .u64 (Go.bits .xor .u64 (if IntKind.u64.signed = true then -1 else IntKind.u64.max) t200) (Go.bits .andNot .u64 t193 t207))) (Go.bits .or .u64 a1_1 (Go.bits .and .u64 t200 (Go.bits .andNot .u64 t193 t207)))) == 0) = false := c49b0
            have c49b1 : ((Go.bits .and .u64 (Go.bits .or .u64 a1_0 (Go.bits .and .u64 (Go.bits .xor .u64 18446744073709551615 t200) (Go.bits .andNot .u64 t193 t207))) (Go.bits .or .u64 a1_1 (Go.bits .and .u64 t200 (Go.bits .andNot .u64 t193 t207)))) != 0) = true := bne_iff_ne.mpr c49
            have c49x1 : ((Go.bits .and .u64 (Go.bits .or .u64 a1_0 (Go.bits .and .u64 (Go.bits .xor .u64 (if IntKind.u64.signed = true then -1 else IntKind.u64.max) t200) (Go.bits .andNot .u64 t193 t207))) (Go.bits .or .u64 a1_1 (Go.bits .and .u64 t200 (Go.bits .andNot .u64 t193 t207)))) != 0) = true := c49b1
            simp only [Option.some.injEq, Prod.mk.injEq] at H
            obtain ⟨rfl, rfl, rfl, rfl, rfl, rfl, rfl⟩ := H
            have hnb70 := NB190_191.out
            have hnc70 := NB191_190.out
            obtain ⟨hcz71_0, hcz71_1, hcz71_2, hcz71_3, hcz71_4, hcz71_5, hfz71_0, hfz71_1, hfz71_2, hfz71_3, hfz71_4, hfz71_5⟩ := own6 BK190.out
            go_wp2_with (first | ((with_reducible refine gate_callee (f := 76) rfl ?_); refine goesL_ (some 86) rfl rfl Try.func76 (by kernel_rfl) rfl #[.agg #[.int .u64 a1_0, .int .u64 a1_1, .int .u64 ji9, .int .u64 ji10, .int .i64 ji27, .int .i64 ji29]] rfl (by (try simp only [List.map_toArray, List.map_cons, List.map_nil]); first | done | (simp only [hji10, hji27, hji29, hji9]; rfl) | rfl | (simp only [List.length_drop, List.length_take]; rfl)) ?_; (with_reducible refine (facts_span.calls a1_0 a1_1 ji9 ji10 ji27 ji29 t196 t197 t198 t199 _ A44.out).mono ?_); rintro e w72 ⟨rfl, hb⟩; refine ⟨_, rfl, ?_⟩; replace BK190 := bkB BK190.out hb; replace BK191 := bkB BK191.out hb; replace HB := bsB HB.out hb; (try clear hb)) | ((with_reducible refine gate_callee (f := 53) rfl ?_); refine gL (some 87) Try.func53 #[.int .i64 a0, .agg #[.int .u64 t196, .int .u64 t197, .int .i64 t198, .int .i64 t199]] ?_; (with_reducible refine (interval_Tighten.calls kj29 a0 t196 t197 t198 t199 t200 t201 t202 t203 true _ A45.out).mono ?_); rintro e w73 ⟨rfl, hb⟩; refine ⟨_, rfl, ?_⟩; replace BK190 := bkB BK190.out hb; replace BK191 := bkB BK191.out hb; replace HB := bsB HB.out hb; (try clear hb); (try clear hb2); (try clear hk); (try clear hi)) | ((with_reducible refine gate_dst (N := 10) rfl ?_); refine boxE (N := 10) (cs := #[.int .u64 0, .int .u64 0, .int .i64 0, .int .i64 0]) (t := 30) ?_; intro gb205 hg w74 hbox hb; have BK205 := Aside0.mk (hbox); have GW205 := szB hg HB.out; have GE205 := szB hg HB.out; have NB190_205 := neL hg BK190.out; have NB205_190 := neG hg BK190.out; have NB191_205 := neL hg BK191.out; have NB205_191 := neG hg BK191.out; replace BK190 := bkB BK190.out hb; replace BK191 := bkB BK191.out hb; replace HB := bsB HB.out hb; clear hb hbox hg; have hnb75 := NB205_190.out; have hnc75 := NB190_205.out; have hnb76 := NB205_191.out; have hnc76 := NB191_205.out; obtain ⟨hcz77_0, hcz77_1, hcz77_2, hcz77_3, hfz77_0, hfz77_1, hfz77_2, hfz77_3⟩ := own4 BK205.out) | ((with_reducible refine gate_callee (f := 77) rfl ?_); refine gL (some 99) Try.func77 #[.int .u64 (Go.bits .xor .u64 t200 t201)] ?_; (with_reducible refine (bits_Len64.calls kj29 (Go.bits .xor .u64 t200 t201) t206 _ A47.out).mono ?_); rintro e w' ⟨rfl, ⟨nd, rfl⟩⟩; refine ⟨_, rfl, ?_⟩) | ((with_reducible refine gate_callee (f := 56) rfl ?_); refine gL (some 100) Try.func56 #[.int .i64 t206] ?_; (with_reducible refine (bits_Mask.calls t206 t207 _ A48.out).mono ?_); rintro e w78 ⟨rfl, hb⟩; refine ⟨_, rfl, ?_⟩; replace BK190 := Aside0.mk (blk_below (g := gb190) (o := .cells #[.int .u64 a1_0, .int .u64 a1_1, .int .u64 ji9, .int .u64 ji10, .int .i64 ji27, .int .i64 ji29] 50 (0, 0)) (by exact bfL BK190.out) hb); replace BK191 := Aside0.mk (blk_below (g := gb191) (o := .cells #[.int .u64 0, .int .u64 0, .int .u64 0, .int .u64 0, .int .i64 0, .int .i64 0] 50 (0, 0)) (by exact bfL BK191.out) hb); replace BK205 := Aside0.mk (blk_below (g := gb205) (o := .cells #[.int .u64 t200, .int .u64 t201, .int .i64 t202, .int .i64 t203] 30 (0, 0)) (by (with_reducible repeat (first | refine blk_drewN ?_ _ | refine blk_drew ?_ | refine blk_alloc ?_ _)); refine blk_put (cs := #[.int .u64 t200, .int .u64 t201, .int .i64 t202, .int .i64 0]) ?_ 3 _ rfl; (with_reducible repeat (first | refine blk_drewN ?_ _ | refine blk_drew ?_ | refine blk_alloc ?_ _)); refine blk_put (cs := #[.int .u64 t200, .int .u64 t201, .int .i64 0, .int .i64 0]) ?_ 2 _ rfl; (with_reducible repeat (first | refine blk_drewN ?_ _ | refine blk_drew ?_ | refine blk_alloc ?_ _)); refine blk_put (cs := #[.int .u64 t200, .int .u64 0, .int .i64 0, .int .i64 0]) ?_ 1 _ rfl; (with_reducible repeat (first | refine blk_drewN ?_ _ | refine blk_drew ?_ | refine blk_alloc ?_ _)); refine blk_put (cs := #[.int .u64 0, .int .u64 0, .int .i64 0, .int .i64 0]) ?_ 0 _ rfl; exact bfL BK205.out) hb); replace HB := bsB HB.out hb; (try clear hb); (try clear hb2); (try clear hk); (try clear hi); obtain ⟨hcz79_0, hcz79_1, hcz79_2, hcz79_3, hcz79_4, hcz79_5, hfz79_0, hfz79_1, hfz79_2, hfz79_3, hfz79_4, hfz79_5⟩ := own6 BK190.out; obtain ⟨hcz80_0, hcz80_1, hcz80_2, hcz80_3, hfz80_0, hfz80_1, hfz80_2, hfz80_3⟩ := own4 BK205.out) | ((with_reducible refine gate_dst (N := 13) rfl ?_); refine boxE (N := 13) (cs := #[.int .u64 0, .int .u64 0]) (t := 110) ?_; intro gb208 hg w81 hbox hb; have BK208 := Aside0.mk (hbox); have GW208 := szB hg HB.out; have GE208 := szB hg HB.out; have NB190_208 := neL hg BK190.out; have NB208_190 := neG hg BK190.out; have NB191_208 := neL hg BK191.out; have NB208_191 := neG hg BK191.out; have NB205_208 := neL hg BK205.out; have NB208_205 := neG hg BK205.out; replace BK190 := bkB BK190.out hb; replace BK191 := bkB BK191.out hb; replace BK205 := bkB BK205.out hb; replace HB := bsB HB.out hb; clear hb hbox hg; have hnb82 := NB208_190.out; have hnc82 := NB190_208.out; have hnb83 := NB208_191.out; have hnc83 := NB191_208.out; have hnb84 := NB208_205.out; have hnc84 := NB205_208.out; obtain ⟨hcz85_0, hcz85_1, hfz85_0, hfz85_1⟩ := own2 BK208.out; obtain ⟨hcz86_0, hcz86_1, hcz86_2, hcz86_3, hcz86_4, hcz86_5, hfz86_0, hfz86_1, hfz86_2, hfz86_3, hfz86_4, hfz86_5⟩ := own6 BK191.out))
            refine bodyPost_ret (results_ct rfl _ _ gb191 50 #[.int .u64 0, .int .u64 0, .int .u64 0, .int .u64 0, .int .i64 0, .int .i64 0] (0, 0) _ rfl (by (with_reducible repeat (first | refine blk_drewN ?_ _ | refine blk_drew ?_ | refine blk_alloc ?_ _)); refine blk_put (cs := #[.int .u64 0, .int .u64 0, .int .u64 0, .int .u64 0, .int .i64 0, .int .i64 0]) ?_ 5 _ rfl; (with_reducible repeat (first | refine blk_drewN ?_ _ | refine blk_drew ?_ | refine blk_alloc ?_ _)); refine blk_put (cs := #[.int .u64 0, .int .u64 0, .int .u64 0, .int .u64 0, .int .i64 0, .int .i64 0]) ?_ 4 _ rfl; (with_reducible repeat (first | refine blk_drewN ?_ _ | refine blk_drew ?_ | refine blk_alloc ?_ _)); refine blk_put (cs := #[.int .u64 0, .int .u64 0, .int .u64 0, .int .u64 0, .int .i64 0, .int .i64 0]) ?_ 3 _ rfl; (with_reducible repeat (first | refine blk_drewN ?_ _ | refine blk_drew ?_ | refine blk_alloc ?_ _)); refine blk_put (cs := #[.int .u64 0, .int .u64 0, .int .u64 0, .int .u64 0, .int .i64 0, .int .i64 0]) ?_ 2 _ rfl; (with_reducible repeat (first | refine blk_drewN ?_ _ | refine blk_drew ?_ | refine blk_alloc ?_ _)); refine blk_put (cs := #[.int .u64 0, .int .u64 0, .int .u64 0, .int .u64 0, .int .i64 0, .int .i64 0]) ?_ 1 _ rfl; (with_reducible repeat (first | refine blk_drewN ?_ _ | refine blk_drew ?_ | refine blk_alloc ?_ _)); refine blk_put (cs := #[.int .u64 0, .int .u64 0, .int .u64 0, .int .u64 0, .int .i64 0, .int .i64 0]) ?_ 0 _ rfl; exact bfL BK191.out) Try.underlying50 rfl (by kernel_rfl)) rfl ?_
            exact ⟨by first | rfl | (simp [errW_none, errW_some] <;> rfl) | (simp only [← hji6, ← hji8, ← hji9, ← hji10, ← hji27, ← hji29]; first | rfl | (simp [errW_none, errW_some] <;> rfl)) | (simp [*, errW_none, errW_some] <;> rfl), bsL HB.out⟩
          ·
           replace c46 := Bool.eq_false_iff.mpr c46
           subst c46
           have H1 : (some (0, 0, 0, 0, 0, 0, false)) = some (r1, r2, r3, r4, r5, r6, r7) := by rw [if_neg (show ¬ (false = true) by decide)] at H; exact H
           clear H
           have H := H1
           clear H1
           simp only [Option.some.injEq, Prod.mk.injEq] at H
           obtain ⟨rfl, rfl, rfl, rfl, rfl, rfl, rfl⟩ := H
           have hnb87 := NB190_191.out
           have hnc87 := NB191_190.out
           obtain ⟨hcz88_0, hcz88_1, hcz88_2, hcz88_3, hcz88_4, hcz88_5, hfz88_0, hfz88_1, hfz88_2, hfz88_3, hfz88_4, hfz88_5⟩ := own6 BK190.out
           go_wp2_with (first | ((with_reducible refine gate_callee (f := 76) rfl ?_); refine goesL_ (some 86) rfl rfl Try.func76 (by kernel_rfl) rfl #[.agg #[.int .u64 a1_0, .int .u64 a1_1, .int .u64 ji9, .int .u64 ji10, .int .i64 ji27, .int .i64 ji29]] rfl (by (try simp only [List.map_toArray, List.map_cons, List.map_nil]); first | done | (simp only [hji10, hji27, hji29, hji9]; rfl) | rfl | (simp only [List.length_drop, List.length_take]; rfl)) ?_; (with_reducible refine (facts_span.calls a1_0 a1_1 ji9 ji10 ji27 ji29 t196 t197 t198 t199 _ A44.out).mono ?_); rintro e w89 ⟨rfl, hb⟩; refine ⟨_, rfl, ?_⟩; replace BK190 := bkB BK190.out hb; replace BK191 := bkB BK191.out hb; replace HB := bsB HB.out hb; (try clear hb)) | ((with_reducible refine gate_callee (f := 53) rfl ?_); refine gL (some 87) Try.func53 #[.int .i64 a0, .agg #[.int .u64 t196, .int .u64 t197, .int .i64 t198, .int .i64 t199]] ?_; (with_reducible refine (interval_Tighten.calls kj29 a0 t196 t197 t198 t199 t200 t201 t202 t203 false _ A45.out).mono ?_); rintro e w90 ⟨rfl, hb⟩; refine ⟨_, rfl, ?_⟩; replace BK190 := bkB BK190.out hb; replace BK191 := bkB BK191.out hb; replace HB := bsB HB.out hb; (try clear hb); (try clear hb2); (try clear hk); (try clear hi)) | ((with_reducible refine gate_dst (N := 10) rfl ?_); refine boxE (N := 10) (cs := #[.int .u64 0, .int .u64 0, .int .i64 0, .int .i64 0]) (t := 30) ?_; intro gb205 hg w91 hbox hb; have BK205 := Aside0.mk (hbox); have GW205 := szB hg HB.out; have GE205 := szB hg HB.out; have NB190_205 := neL hg BK190.out; have NB205_190 := neG hg BK190.out; have NB191_205 := neL hg BK191.out; have NB205_191 := neG hg BK191.out; replace BK190 := bkB BK190.out hb; replace BK191 := bkB BK191.out hb; replace HB := bsB HB.out hb; clear hb hbox hg; have hnb92 := NB205_190.out; have hnc92 := NB190_205.out; have hnb93 := NB205_191.out; have hnc93 := NB191_205.out; obtain ⟨hcz94_0, hcz94_1, hcz94_2, hcz94_3, hfz94_0, hfz94_1, hfz94_2, hfz94_3⟩ := own4 BK205.out; obtain ⟨hcz95_0, hcz95_1, hcz95_2, hcz95_3, hcz95_4, hcz95_5, hfz95_0, hfz95_1, hfz95_2, hfz95_3, hfz95_4, hfz95_5⟩ := own6 BK191.out))
           refine bodyPost_ret (results_ct rfl _ _ gb191 50 #[.int .u64 0, .int .u64 0, .int .u64 0, .int .u64 0, .int .i64 0, .int .i64 0] (0, 0) _ rfl (by (with_reducible repeat (first | refine blk_drewN ?_ _ | refine blk_drew ?_ | refine blk_alloc ?_ _)); refine blk_put (cs := #[.int .u64 0, .int .u64 0, .int .u64 0, .int .u64 0, .int .i64 0, .int .i64 0]) ?_ 5 _ rfl; (with_reducible repeat (first | refine blk_drewN ?_ _ | refine blk_drew ?_ | refine blk_alloc ?_ _)); refine blk_put (cs := #[.int .u64 0, .int .u64 0, .int .u64 0, .int .u64 0, .int .i64 0, .int .i64 0]) ?_ 4 _ rfl; (with_reducible repeat (first | refine blk_drewN ?_ _ | refine blk_drew ?_ | refine blk_alloc ?_ _)); refine blk_put (cs := #[.int .u64 0, .int .u64 0, .int .u64 0, .int .u64 0, .int .i64 0, .int .i64 0]) ?_ 3 _ rfl; (with_reducible repeat (first | refine blk_drewN ?_ _ | refine blk_drew ?_ | refine blk_alloc ?_ _)); refine blk_put (cs := #[.int .u64 0, .int .u64 0, .int .u64 0, .int .u64 0, .int .i64 0, .int .i64 0]) ?_ 2 _ rfl; (with_reducible repeat (first | refine blk_drewN ?_ _ | refine blk_drew ?_ | refine blk_alloc ?_ _)); refine blk_put (cs := #[.int .u64 0, .int .u64 0, .int .u64 0, .int .u64 0, .int .i64 0, .int .i64 0]) ?_ 1 _ rfl; (with_reducible repeat (first | refine blk_drewN ?_ _ | refine blk_drew ?_ | refine blk_alloc ?_ _)); refine blk_put (cs := #[.int .u64 0, .int .u64 0, .int .u64 0, .int .u64 0, .int .i64 0, .int .i64 0]) ?_ 0 _ rfl; exact bfL BK191.out) Try.underlying50 rfl (by kernel_rfl)) rfl ?_
           exact ⟨by first | rfl | (simp [errW_none, errW_some] <;> rfl) | (simp only [← hji6, ← hji8, ← hji9, ← hji10, ← hji27, ← hji29]; first | rfl | (simp [errW_none, errW_some] <;> rfl)) | (simp [*, errW_none, errW_some] <;> rfl), bsL HB.out⟩
  ·
   rw [if_neg c7] at H
   exact absurd H (by simp)
 ·
  replace c4 := Bool.eq_false_iff.mpr c4
  subst c4
  have H1 : (some (0, 0, 0, 0, 0, 0, false)) = some (r1, r2, r3, r4, r5, r6, r7) := by rw [if_neg (show ¬ (false = true) by decide)] at H; exact H
  clear H
  have H := H1
  clear H1
  simp only [Option.some.injEq, Prod.mk.injEq] at H
  obtain ⟨rfl, rfl, rfl, rfl, rfl, rfl, rfl⟩ := H
  go_enter Try.func25, Try.ntmps25
  go_wp2_with (first | ((with_reducible refine gate_dst (N := 3) rfl ?_); refine boxE (N := 3) (cs := #[.int .u64 a1_0, .int .u64 a1_1, .int .u64 a1_2, .int .u64 a1_3, .int .i64 a1_4, .int .i64 a1_5]) (t := 50) ?_; intro gb190 hg w96 hbox hb; have BK190 := Aside0.mk (hbox); have GW190 := szB hg HB.out; have GE190 := szB hg HB.out; replace HB := bsB HB.out hb; clear hb hbox hg) | ((with_reducible refine gate_dst (N := 4) rfl ?_); refine boxE (N := 4) (cs := #[.int .u64 0, .int .u64 0, .int .u64 0, .int .u64 0, .int .i64 0, .int .i64 0]) (t := 50) ?_; intro gb191 hg w97 hbox hb; have BK191 := Aside0.mk (hbox); have GW191 := szB hg HB.out; have GE191 := szB hg HB.out; have NB190_191 := neL hg BK190.out; have NB191_190 := neG hg BK190.out; replace BK190 := bkB BK190.out hb; replace HB := bsB HB.out hb; clear hb hbox hg; have hnb98 := NB190_191.out; have hnc98 := NB191_190.out; obtain ⟨hcz99_0, hcz99_1, hcz99_2, hcz99_3, hcz99_4, hcz99_5, hfz99_0, hfz99_1, hfz99_2, hfz99_3, hfz99_4, hfz99_5⟩ := own6 BK190.out) | ((with_reducible refine gate_callee (f := 34) rfl ?_); refine gL (some 16) Try.func34 #[.int .i64 a0, .agg #[.int .u64 a1_0, .int .u64 a1_1, .int .u64 a1_2, .int .u64 a1_3, .int .i64 a1_4, .int .i64 a1_5]] ?_; (with_reducible refine (facts_Valid.calls a0 a1_0 a1_1 a1_2 a1_3 a1_4 a1_5 false _ A3.out).mono ?_); rintro e w100 ⟨rfl, hb⟩; refine ⟨_, rfl, ?_⟩; replace BK190 := bkB BK190.out hb; replace BK191 := bkB BK191.out hb; replace HB := bsB HB.out hb; (try clear hb); (try clear hb2); (try clear hk); (try clear hi); obtain ⟨hcz101_0, hcz101_1, hcz101_2, hcz101_3, hcz101_4, hcz101_5, hfz101_0, hfz101_1, hfz101_2, hfz101_3, hfz101_4, hfz101_5⟩ := own6 BK191.out))
  refine bodyPost_ret (results_ct rfl _ _ gb191 50 #[.int .u64 0, .int .u64 0, .int .u64 0, .int .u64 0, .int .i64 0, .int .i64 0] (0, 0) _ rfl (by (with_reducible repeat (first | refine blk_drewN ?_ _ | refine blk_drew ?_ | refine blk_alloc ?_ _)); refine blk_put (cs := #[.int .u64 0, .int .u64 0, .int .u64 0, .int .u64 0, .int .i64 0, .int .i64 0]) ?_ 5 _ rfl; (with_reducible repeat (first | refine blk_drewN ?_ _ | refine blk_drew ?_ | refine blk_alloc ?_ _)); refine blk_put (cs := #[.int .u64 0, .int .u64 0, .int .u64 0, .int .u64 0, .int .i64 0, .int .i64 0]) ?_ 4 _ rfl; (with_reducible repeat (first | refine blk_drewN ?_ _ | refine blk_drew ?_ | refine blk_alloc ?_ _)); refine blk_put (cs := #[.int .u64 0, .int .u64 0, .int .u64 0, .int .u64 0, .int .i64 0, .int .i64 0]) ?_ 3 _ rfl; (with_reducible repeat (first | refine blk_drewN ?_ _ | refine blk_drew ?_ | refine blk_alloc ?_ _)); refine blk_put (cs := #[.int .u64 0, .int .u64 0, .int .u64 0, .int .u64 0, .int .i64 0, .int .i64 0]) ?_ 2 _ rfl; (with_reducible repeat (first | refine blk_drewN ?_ _ | refine blk_drew ?_ | refine blk_alloc ?_ _)); refine blk_put (cs := #[.int .u64 0, .int .u64 0, .int .u64 0, .int .u64 0, .int .i64 0, .int .i64 0]) ?_ 1 _ rfl; (with_reducible repeat (first | refine blk_drewN ?_ _ | refine blk_drew ?_ | refine blk_alloc ?_ _)); refine blk_put (cs := #[.int .u64 0, .int .u64 0, .int .u64 0, .int .u64 0, .int .i64 0, .int .i64 0]) ?_ 0 _ rfl; exact bfL BK191.out) Try.underlying50 rfl (by kernel_rfl)) rfl ?_
  exact ⟨by first | rfl | (simp [errW_none, errW_some] <;> rfl) | (simp [*, errW_none, errW_some] <;> rfl), bsL HB.out⟩

/-! ### jacquardref12_Mask: function 16 -/
def jacquardref12_Mask.l0 : Nat → Int → Int → Int → Option (Int)
 | 0, _, _, _ => none
 | k + 1, x0, x3, x4 => if x4 < x0 then (jacquardref12_Mask.l0 k x0 (IntKind.u64.wrap ((IntKind.u64.wrap (x3 * 2)) + 1)) (wrap64 (x4 + 1))) else (some x3)
def jacquardref12_Mask.f (k : Nat) (a0 : Int) : Option (Int) := jacquardref12_Mask.l0 k a0 0 0
theorem jacquardref12_Mask.mono_l : ∀ k, (∀ y0 y1 y2, LeO (jacquardref12_Mask.l0 k y0 y1 y2) (jacquardref12_Mask.l0 (k + 1) y0 y1 y2))
 | 0 => fun _ _ _ r h => by simp [jacquardref12_Mask.l0] at h
 | k + 1 => by
  have ih0 := jacquardref12_Mask.mono_l k
  ·
   intro y0 y1 y2
   unfold jacquardref12_Mask.l0
   repeat' first
   | (with_reducible exact ih0 _ _ _)
   | (with_reducible exact LeO.refl _)
   | (with_reducible exact LeO.none _)
   | (with_reducible refine LeO.ite ?_ ?_)
   | (with_reducible refine LeO.bind ?_ (fun _ => ?_))
   | exact ih0 _ _ _
   | exact LeO.none _
   | refine LeO.ite ?_ ?_
   | refine LeO.bind ?_ (fun _ => ?_)
theorem jacquardref12_Mask.mono : ∀ a0 k, LeO (jacquardref12_Mask.f k a0) (jacquardref12_Mask.f (k + 1) a0) := by
 intro a0 k
 have ih0 := jacquardref12_Mask.mono_l k
 unfold jacquardref12_Mask.f
 repeat' first
   | (with_reducible exact ih0 _ _ _)
   | (with_reducible exact LeO.refl _)
   | (with_reducible exact LeO.none _)
   | (with_reducible refine LeO.ite ?_ ?_)
   | (with_reducible refine LeO.bind ?_ (fun _ => ?_))
   | exact ih0 _ _ _
   | exact LeO.none _
   | refine LeO.ite ?_ ?_
   | refine LeO.bind ?_ (fun _ => ?_)
set_option maxHeartbeats 8000000 in
set_option maxRecDepth 100000 in
theorem jacquardref12_Mask.calls (k : Nat) (a0 : Int) (r : Int) (w : World) (h : jacquardref12_Mask.f k a0 = some r) :
  Calls Try.prog 16 #[.int .i64 a0] w fun e w' => e = .returned (.int .u64 r) ∧ Drawn0 w w' := by
 have H : (jacquardref12_Mask.l0 k a0 0 0) = some r := h
 clear h
 have H' := Aside0.mk H
 clear H
 go_enter Try.func16, Try.ntmps16
 go_wp2
 go_loopg [3, 4] k (fun kq v3 v4 w' => ∃ (x3_1 : Int) (x4_1 : Int), v3 = .int .u64 x3_1 ∧ v4 = .int .i64 x4_1 ∧ Aside0 (jacquardref12_Mask.l0 kq a0 x3_1 x4_1 = some r) ∧ Aside0 (kq ≤ k) ∧ Drawn0 w w')
 case atStart => exact ⟨(0), (0), (by first | rfl | (simp; done) | (simp [*]; done)), (by first | rfl | (simp; done) | (simp [*]; done)), H', ⟨Nat.le_refl _⟩, by repeat (first | exact Drawn0.refl _ | apply Drawn0.step)⟩
 case round =>
  clear H'
  try clear c1
  obtain ⟨x3_1, x4_1, rfl, rfl, HA, HK1, ⟨m1, rfl⟩⟩ := hrel
  cases gk with
  | zero => exact absurd HA.out (by simp [jacquardref12_Mask.l0])
  | succ k1 =>
   have H := HA.out
   clear HA
   simp only [jacquardref12_Mask.l0] at H
   by_cases c2 : x4_1 < a0
   ·
    rw [if_pos c2] at H
    have c2b0 : decide (x4_1 < a0) = true := decide_eq_true c2
    clear c2
    have H' := Aside0.mk H
    clear H
    go_wp2
    go_roundg k1
    case measure => have := HK1.out; omega
    case rel => exact ⟨(IntKind.u64.wrap ((IntKind.u64.wrap (x3_1 * 2)) + 1)), (wrap64 (x4_1 + 1)), (by first | rfl | (simp; done) | (simp [*]; done)), (by first | rfl | (simp; done) | (simp [*]; done)), H', ⟨by have := HK1.out; omega⟩, by repeat (first | exact Drawn0.refl _ | apply Drawn0.step)⟩
   ·
    rw [if_neg c2] at H
    have c2b0 : decide (x4_1 < a0) = false := decide_eq_false c2
    clear c2
    obtain rfl := Option.some.inj H
    go_wp2
    go_ret
    exact ⟨by first | rfl | (simp; done) | (simp [*]; done), by repeat (first | exact Drawn0.refl _ | apply Drawn0.step)⟩

/-! ### jacquardref13_Umax: function 75 -/
def jacquardref13_Umax.f (k : Nat) (a0 : Int) : Option (Int) := (jacquardref12_Mask.f k a0).bind fun t215 => (some t215)
theorem jacquardref13_Umax.mono : ∀ a0 k, LeO (jacquardref13_Umax.f k a0) (jacquardref13_Umax.f (k + 1) a0) := by
 intro a0 k
 unfold jacquardref13_Umax.f
 repeat' first
   | (with_reducible exact jacquardref12_Mask.mono _ _)
   | (with_reducible exact LeO.refl _)
   | (with_reducible exact LeO.none _)
   | (with_reducible refine LeO.ite ?_ ?_)
   | (with_reducible refine LeO.bind ?_ (fun _ => ?_))
   | exact jacquardref12_Mask.mono _ _
   | exact LeO.none _
   | refine LeO.ite ?_ ?_
   | refine LeO.bind ?_ (fun _ => ?_)
set_option maxHeartbeats 8000000 in
set_option maxRecDepth 100000 in
theorem jacquardref13_Umax.calls (k : Nat) (a0 : Int) (r : Int) (w : World) (h : jacquardref13_Umax.f k a0 = some r) :
  Calls Try.prog 75 #[.int .i64 a0] w fun e w' => e = .returned (.int .u64 r) ∧ Drawn0 w w' := by
 have H : ((jacquardref12_Mask.f k a0).bind fun t215 => (some t215)) = some r := h
 clear h
 replace H := Option.bind_eq_some_iff.mp H
 obtain ⟨t215, A20, H⟩ := H
 replace H : (some t215) = some r := H
 have A2 := Aside0.mk A20
 clear A20
 obtain rfl := Option.some.inj H
 go_enter Try.func75, Try.ntmps75
 go_wp2_with (first | ((with_reducible refine gate_callee (f := 16) rfl ?_); refine gL (some 4) Try.func16 #[.int .i64 a0] ?_; (with_reducible refine (jacquardref12_Mask.calls k a0 t215 _ A2.out).mono ?_); rintro e w' ⟨rfl, ⟨nd, rfl⟩⟩; refine ⟨_, rfl, ?_⟩))
 go_ret
 exact ⟨by first | rfl | (simp; done) | (simp [*]; done), by repeat (first | exact Drawn0.refl _ | apply Drawn0.step)⟩

/-! ### jacquardref13_Smax: function 134 -/
def jacquardref13_Smax.f (k : Nat) (a0 : Int) : Option (Int) := (jacquardref13_Umax.f k a0).bind fun t216 => (some (wrap64 (t216 / 2)))
theorem jacquardref13_Smax.mono : ∀ a0 k, LeO (jacquardref13_Smax.f k a0) (jacquardref13_Smax.f (k + 1) a0) := by
 intro a0 k
 unfold jacquardref13_Smax.f
 repeat' first
   | (with_reducible exact jacquardref13_Umax.mono _ _)
   | (with_reducible exact LeO.refl _)
   | (with_reducible exact LeO.none _)
   | (with_reducible refine LeO.ite ?_ ?_)
   | (with_reducible refine LeO.bind ?_ (fun _ => ?_))
   | exact jacquardref13_Umax.mono _ _
   | exact LeO.none _
   | refine LeO.ite ?_ ?_
   | refine LeO.bind ?_ (fun _ => ?_)
set_option maxHeartbeats 8000000 in
set_option maxRecDepth 100000 in
theorem jacquardref13_Smax.calls (k : Nat) (a0 : Int) (r : Int) (w : World) (h : jacquardref13_Smax.f k a0 = some r) :
  Calls Try.prog 134 #[.int .i64 a0] w fun e w' => e = .returned (.int .i64 r) ∧ Drawn0 w w' := by
 have H : ((jacquardref13_Umax.f k a0).bind fun t216 => (some (wrap64 (t216 / 2)))) = some r := h
 clear h
 replace H := Option.bind_eq_some_iff.mp H
 obtain ⟨t216, A20, H⟩ := H
 replace H : (some (wrap64 (t216 / 2))) = some r := H
 have A2 := Aside0.mk A20
 clear A20
 obtain rfl := Option.some.inj H
 go_enter Try.func134, Try.ntmps134
 go_wp2_with (first | ((with_reducible refine gate_callee (f := 75) rfl ?_); refine gL (some 4) Try.func75 #[.int .i64 a0] ?_; (with_reducible refine (jacquardref13_Umax.calls k a0 t216 _ A2.out).mono ?_); rintro e w' ⟨rfl, ⟨nd, rfl⟩⟩; refine ⟨_, rfl, ?_⟩))
 go_ret
 exact ⟨by first | rfl | (simp; done) | (simp [*]; done), by repeat (first | exact Drawn0.refl _ | apply Drawn0.step)⟩

/-! ### jacquardref13_Smin: function 133 -/
def jacquardref13_Smin.f (k : Nat) (a0 : Int) : Option (Int) := (jacquardref13_Smax.f k a0).bind fun t217 => (some (wrap64 ((wrap64 (-t217)) - 1)))
theorem jacquardref13_Smin.mono : ∀ a0 k, LeO (jacquardref13_Smin.f k a0) (jacquardref13_Smin.f (k + 1) a0) := by
 intro a0 k
 unfold jacquardref13_Smin.f
 repeat' first
   | (with_reducible exact jacquardref13_Smax.mono _ _)
   | (with_reducible exact LeO.refl _)
   | (with_reducible exact LeO.none _)
   | (with_reducible refine LeO.ite ?_ ?_)
   | (with_reducible refine LeO.bind ?_ (fun _ => ?_))
   | exact jacquardref13_Smax.mono _ _
   | exact LeO.none _
   | refine LeO.ite ?_ ?_
   | refine LeO.bind ?_ (fun _ => ?_)
set_option maxHeartbeats 8000000 in
set_option maxRecDepth 100000 in
theorem jacquardref13_Smin.calls (k : Nat) (a0 : Int) (r : Int) (w : World) (h : jacquardref13_Smin.f k a0 = some r) :
  Calls Try.prog 133 #[.int .i64 a0] w fun e w' => e = .returned (.int .i64 r) ∧ Drawn0 w w' := by
 have H : ((jacquardref13_Smax.f k a0).bind fun t217 => (some (wrap64 ((wrap64 (-t217)) - 1)))) = some r := h
 clear h
 replace H := Option.bind_eq_some_iff.mp H
 obtain ⟨t217, A20, H⟩ := H
 replace H : (some (wrap64 ((wrap64 (-t217)) - 1))) = some r := H
 have A2 := Aside0.mk A20
 clear A20
 obtain rfl := Option.some.inj H
 go_enter Try.func133, Try.ntmps133
 go_wp2_with (first | ((with_reducible refine gate_callee (f := 134) rfl ?_); refine gL (some 4) Try.func134 #[.int .i64 a0] ?_; (with_reducible refine (jacquardref13_Smax.calls k a0 t217 _ A2.out).mono ?_); rintro e w' ⟨rfl, ⟨nd, rfl⟩⟩; refine ⟨_, rfl, ?_⟩))
 go_ret
 exact ⟨by first | rfl | (simp; done) | (simp [*]; done), by repeat (first | exact Drawn0.refl _ | apply Drawn0.step)⟩

/-! ### jacquardref13_Valid: function 74 -/
def jacquardref13_Valid.f (k : Nat) (a0 : Int) (a1_0 : Int) (a1_1 : Int) (a1_2 : Int) (a1_3 : Int) : Option (Bool) := if a0 ≥ 1 then (if a0 ≤ 64 then (if a1_0 ≤ a1_1 then ((jacquardref13_Umax.f k a0).bind fun t219 => (if a1_1 ≤ t219 then ((jacquardref13_Smin.f k a0).bind fun t220 => (if t220 ≤ a1_2 then (if a1_2 ≤ a1_3 then ((jacquardref13_Smax.f k a0).bind fun t221 => (some (decide (a1_3 ≤ t221)))) else (some false)) else (some false))) else (some false))) else (some false)) else (some false)) else (some false)
theorem jacquardref13_Valid.mono : ∀ a0 a1 a2 a3 a4 k, LeO (jacquardref13_Valid.f k a0 a1 a2 a3 a4) (jacquardref13_Valid.f (k + 1) a0 a1 a2 a3 a4) := by
 intro a0 a1 a2 a3 a4 k
 unfold jacquardref13_Valid.f
 repeat' first
   | (with_reducible exact jacquardref13_Smax.mono _ _)
   | (with_reducible exact jacquardref13_Smin.mono _ _)
   | (with_reducible exact jacquardref13_Umax.mono _ _)
   | (with_reducible exact LeO.refl _)
   | (with_reducible exact LeO.none _)
   | (with_reducible refine LeO.ite ?_ ?_)
   | (with_reducible refine LeO.bind ?_ (fun _ => ?_))
   | exact jacquardref13_Smax.mono _ _
   | exact jacquardref13_Smin.mono _ _
   | exact jacquardref13_Umax.mono _ _
   | exact LeO.none _
   | refine LeO.ite ?_ ?_
   | refine LeO.bind ?_ (fun _ => ?_)
def jacquardref13_Valid.T1 : Bool × List (List Nat × List Nat) := (true, [([], []), ([0], [0]), ([1], [1]), ([2], [2]), ([3, 2], [2, 3]), ([2, 4], [2, 4]), ([5, 2], [5]), ([6], [6]), ([7, 6], [6, 7]), ([6], [6]), ([9, 6], [6, 9]), ([8, 10, 6], [6, 8, 10]), ([6, 11], [6, 11]), ([12, 6], [12]), ([13], [13]), ([14, 13], [13, 14]), ([13], [13]), ([16, 13, 13], [13, 16]), ([15, 17, 13], [13, 15, 17]), ([13, 18], [13, 18]), ([19, 17], [19]), ([20], [20]), ([21, 20, 20], [20, 21]), ([20], [20]), ([23, 20], [20, 23]), ([22, 24, 20], [20, 22, 24]), ([20, 25], [20, 25]), ([26, 22], [26]), ([27], [27]), ([28, 27], [27, 28]), ([27], [27]), ([30, 27], [27, 30]), ([29, 31, 27], [27, 29, 31]), ([27, 32], [27, 32]), ([33, 27], [33]), ([34], [34]), ([35, 34], [34, 35]), ([34], [34]), ([37, 34, 34], [34, 37]), ([36, 38, 34], [34, 36, 38]), ([34, 39], [34, 39]), ([40, 38, 0, 1, 2, 3, 4, 5, 6, 7, 8, 9, 10, 11, 12, 13, 14, 15, 16, 17, 18, 19, 20, 21, 22, 23, 24, 25, 26, 27, 28, 29, 30, 31, 32, 33, 34, 35, 36, 37, 38, 39, 40], [40])])
def jacquardref13_Valid.B1 : List Nat := [0, 1, 3, 7, 15, 31, 63, 127, 255, 127, 639, 2047, 4095, 8191, 16383, 32767, 16383, 81919, 262143, 524287, 1048575, 2097151, 4194303, 2097151, 10485759, 33554431, 67108863, 134217727, 268435455, 536870911, 268435455, 1342177279, 4294967295, 8589934591, 17179869183, 34359738367, 68719476735, 34359738367, 171798691839, 549755813887, 1099511627775, 2199023255551]
theorem jacquardref13_Valid.tab1 : rtab .any (opsOf Try.f74 1) = jacquardref13_Valid.T1 := by kernel_rfl
theorem jacquardref13_Valid.bits1 : waitsOk jacquardref13_Valid.T1.2 jacquardref13_Valid.B1 = true := by kernel_rfl
set_option maxHeartbeats 8000000 in
set_option maxRecDepth 100000 in
theorem jacquardref13_Valid.calls (k : Nat) (a0 : Int) (a1_0 : Int) (a1_1 : Int) (a1_2 : Int) (a1_3 : Int) (r : Bool) (w : World) (h : jacquardref13_Valid.f k a0 a1_0 a1_1 a1_2 a1_3 = some r) :
  Calls Try.prog 74 #[.int .i64 a0, .agg #[.int .u64 a1_0, .int .u64 a1_1, .int .i64 a1_2, .int .i64 a1_3]] w fun e w' => e = .returned (.bool r) ∧ Below w.heap.size w w' := by
 have hu30 := Try.underlying30
 have HB := Aside0.mk (Below.refl w.heap.size w)
 have H : (if a0 ≥ 1 then (if a0 ≤ 64 then (if a1_0 ≤ a1_1 then ((jacquardref13_Umax.f k a0).bind fun t219 => (if a1_1 ≤ t219 then ((jacquardref13_Smin.f k a0).bind fun t220 => (if t220 ≤ a1_2 then (if a1_2 ≤ a1_3 then ((jacquardref13_Smax.f k a0).bind fun t221 => (some (decide (a1_3 ≤ t221)))) else (some false)) else (some false))) else (some false))) else (some false)) else (some false)) else (some false)) = some r := h
 clear h
 by_cases c3 : a0 ≥ 1
 ·
  rw [if_pos c3] at H
  have c3b0 : decide (1 ≤ a0) = true := decide_eq_true c3
  clear c3
  by_cases c4 : a0 ≤ 64
  ·
   rw [if_pos c4] at H
   have c4b0 : decide (a0 ≤ 64) = true := decide_eq_true c4
   clear c4
   by_cases c5 : a1_0 ≤ a1_1
   ·
    rw [if_pos c5] at H
    have c5b0 : decide (a1_0 ≤ a1_1) = true := decide_eq_true c5
    clear c5
    replace H := Option.bind_eq_some_iff.mp H
    obtain ⟨t219, A60, H⟩ := H
    replace H : (if a1_1 ≤ t219 then ((jacquardref13_Smin.f k a0).bind fun t220 => (if t220 ≤ a1_2 then (if a1_2 ≤ a1_3 then ((jacquardref13_Smax.f k a0).bind fun t221 => (some (decide (a1_3 ≤ t221)))) else (some false)) else (some false))) else (some false)) = some r := H
    have A6 := Aside0.mk A60
    clear A60
    by_cases c7 : a1_1 ≤ t219
    ·
     rw [if_pos c7] at H
     have c7b0 : decide (a1_1 ≤ t219) = true := decide_eq_true c7
     clear c7
     replace H := Option.bind_eq_some_iff.mp H
     obtain ⟨t220, A80, H⟩ := H
     replace H : (if t220 ≤ a1_2 then (if a1_2 ≤ a1_3 then ((jacquardref13_Smax.f k a0).bind fun t221 => (some (decide (a1_3 ≤ t221)))) else (some false)) else (some false)) = some r := H
     have A8 := Aside0.mk A80
     clear A80
     by_cases c9 : t220 ≤ a1_2
     ·
      rw [if_pos c9] at H
      have c9b0 : decide (t220 ≤ a1_2) = true := decide_eq_true c9
      clear c9
      by_cases c10 : a1_2 ≤ a1_3
      ·
       rw [if_pos c10] at H
       have c10b0 : decide (a1_2 ≤ a1_3) = true := decide_eq_true c10
       clear c10
       replace H := Option.bind_eq_some_iff.mp H
       obtain ⟨t221, A110, H⟩ := H
       replace H : (some (decide (a1_3 ≤ t221))) = some r := H
       have A11 := Aside0.mk A110
       clear A110
       obtain rfl := Option.some.inj H
       go_enter Try.func74, Try.ntmps74
       try go_wp2_with (first | ((with_reducible refine gate_dst (N := 3) rfl ?_); refine boxE (N := 3) (cs := #[.int .u64 a1_0, .int .u64 a1_1, .int .i64 a1_2, .int .i64 a1_3]) (t := 30) ?_; intro gb218 hg w12 hbox hb; have BK218 := Aside0.mk (hbox); have GW218 := szB hg HB.out; have GE218 := szB hg HB.out; replace HB := bsB HB.out hb; clear hb hbox hg))
       replace BK218 := Aside0.mk (blk_drew BK218.out)
       replace HB := Aside0.mk (below_drew1 HB.out)
       refine start_ (n := 42) (S := fun w' => w'.cell? ⟨gb218, 0, none⟩ = some (.int .u64 a1_0) ∧ w'.cell? ⟨gb218, 1, none⟩ = some (.int .u64 a1_1) ∧ w'.cell? ⟨gb218, 2, none⟩ = some (.int .i64 a1_2) ∧ w'.cell? ⟨gb218, 3, none⟩ = some (.int .i64 a1_3)) (ds := []) (bA 42 0) (by kernel_rfl) rfl rfl (by repeat' (first | apply And.intro | exact (blk_cell BK218.out _).trans rfl)) (fun hHeld => ?_); refine with_tabW jacquardref13_Valid.tab1 jacquardref13_Valid.bits1 (fun HT_ HW_ => ?_)
       generalize w12.drew = w13 at BK218 HB hHeld ⊢
       refine pureA HT_ (i := 0) (N := some 5) (bA 42 1) ?_
       refine pureA HT_ (i := 1) (N := some 6) (bA 42 3) ?_
       refine pureA HT_ (i := 2) (N := some 7) (bA 42 7) ?_
       refine pureA HT_ (i := 3) (N := some 8) (bA 42 15) ?_
       refine pureA HT_ (i := 4) (N := some 9) (bA 42 31) ?_
       refine pureA HT_ (i := 5) (N := some 10) (bA 42 63) ?_
       refine pureA HT_ (i := 6) (N := some 11) (bA 42 127) ?_
       refine pureA HT_ (i := 7) (N := some 12) (bA 42 255) ?_
       refine pureA HT_ (i := 9) (N := some 14) (bA 42 767) ?_
       refine takeA HT_ HW_ hHeld (i := 8) (N := some 13) (bA 42 1023) ?_ (hy := by rintro w' ⟨s0, s1, s2, s3⟩; go_simp; with_reducible rfl)
       refine takeA HT_ HW_ hHeld (i := 10) (N := some 15) (bA 42 2047) ?_ (hy := by rintro w' ⟨s0, s1, s2, s3⟩; go_simp; with_reducible rfl)
       refine pureA HT_ (i := 11) (N := some 16) (bA 42 4095) ?_
       refine pureA HT_ (i := 12) (N := some 17) (bA 42 8191) ?_
       refine pureA HT_ (i := 13) (N := some 18) (bA 42 16383) ?_
       refine pureA HT_ (i := 14) (N := some 19) (bA 42 32767) ?_
       refine pureA HT_ (i := 16) (N := some 21) (bA 42 98303) ?_
       refine takeA HT_ HW_ hHeld (i := 15) (N := some 20) (bA 42 131071) ?_ (hy := by rintro w' ⟨s0, s1, s2, s3⟩; go_simp; with_reducible rfl)
       refine one_ (i := 17) (N := some 22) (bA 42 262143) rfl rfl (one_of HT_.out (by kernel_rfl)) (by decide) (fun K hK => ?_)
       refine gO Try.func75 #[.int .i64 a0] ?_
       with_reducible refine (jacquardref13_Umax.calls k a0 t219 _ A6.out).mono ?_
       rintro e w' ⟨rfl, ⟨nd, rfl⟩⟩
       refine ⟨_, rfl, ?_⟩
       refine hK.out _ _ (by repeat' (first | apply And.intro | exact (blk_cell BK218.out _).trans rfl)) (fun hHeld => ?_)
       clear hK K
       refine normA (some 22) ?_
       refine pureA HT_ (i := 18) (N := some 23) (bA 42 524287) ?_
       refine pureA HT_ (i := 19) (N := some 24) (bA 42 1048575) ?_
       refine pureA HT_ (i := 20) (N := some 25) (bA 42 2097151) ?_
       refine pureA HT_ (i := 21) (N := some 26) (bA 42 4194303) ?_
       refine pureA HT_ (i := 23) (N := some 28) (bA 42 12582911) ?_
       refine takeA HT_ HW_ hHeld (i := 24) (N := some 29) (bA 42 29360127) ?_ (hy := by rintro w' ⟨s0, s1, s2, s3⟩; go_simp; with_reducible rfl)
       refine one_ (i := 22) (N := some 27) (bA 42 33554431) rfl rfl (one_of HT_.out (by kernel_rfl)) (by decide) (fun K hK => ?_)
       refine gO Try.func133 #[.int .i64 a0] ?_
       with_reducible refine (jacquardref13_Smin.calls k a0 t220 _ A8.out).mono ?_
       rintro e w' ⟨rfl, ⟨nd, rfl⟩⟩
       refine ⟨_, rfl, ?_⟩
       refine hK.out _ _ (by repeat' (first | apply And.intro | exact (blk_cell BK218.out _).trans rfl)) (fun hHeld => ?_)
       clear hK K
       refine normA (some 27) ?_
       refine pureA HT_ (i := 25) (N := some 30) (bA 42 67108863) ?_
       refine pureA HT_ (i := 26) (N := some 31) (bA 42 134217727) ?_
       refine pureA HT_ (i := 27) (N := some 32) (bA 42 268435455) ?_
       refine pureA HT_ (i := 28) (N := some 33) (bA 42 536870911) ?_
       refine pureA HT_ (i := 30) (N := some 35) (bA 42 1610612735) ?_
       refine takeA HT_ HW_ hHeld (i := 29) (N := some 34) (bA 42 2147483647) ?_ (hy := by rintro w' ⟨s0, s1, s2, s3⟩; go_simp; with_reducible rfl)
       refine takeA HT_ HW_ hHeld (i := 31) (N := some 36) (bA 42 4294967295) ?_ (hy := by rintro w' ⟨s0, s1, s2, s3⟩; go_simp; with_reducible rfl)
       refine pureA HT_ (i := 32) (N := some 37) (bA 42 8589934591) ?_
       refine pureA HT_ (i := 33) (N := some 38) (bA 42 17179869183) ?_
       refine pureA HT_ (i := 34) (N := some 39) (bA 42 34359738367) ?_
       refine pureA HT_ (i := 35) (N := some 40) (bA 42 68719476735) ?_
       refine pureA HT_ (i := 37) (N := some 42) (bA 42 206158430207) ?_
       refine takeA HT_ HW_ hHeld (i := 36) (N := some 41) (bA 42 274877906943) ?_ (hy := by rintro w' ⟨s0, s1, s2, s3⟩; go_simp; with_reducible rfl)
       refine one_ (i := 38) (N := some 43) (bA 42 549755813887) rfl rfl (one_of HT_.out (by kernel_rfl)) (by decide) (fun K hK => ?_)
       refine gO Try.func134 #[.int .i64 a0] ?_
       with_reducible refine (jacquardref13_Smax.calls k a0 t221 _ A11.out).mono ?_
       rintro e w' ⟨rfl, ⟨nd, rfl⟩⟩
       refine ⟨_, rfl, ?_⟩
       refine hK.out _ _ (by repeat' (first | apply And.intro | exact (blk_cell BK218.out _).trans rfl)) (fun hHeld => ?_)
       clear hK K
       refine normA (some 43) ?_
       refine pureA HT_ (i := 39) (N := some 44) (bA 42 1099511627775) ?_
       refine pureA HT_ (i := 40) (N := some 45) (bA 42 2199023255551) ?_
       refine pureA HT_ (i := 41) (N := some 4) (bA 42 4398046511103) ?_
       refine done_ (done_of HT_.out (by kernel_rfl)) ?_
       try go_wp2
       go_ret
       exact ⟨by first | rfl | (simp [errW_none, errW_some] <;> rfl) | (simp [*, errW_none, errW_some] <;> rfl), bsL HB.out⟩
      ·
       rw [if_neg c10] at H
       have c10b0 : decide (a1_2 ≤ a1_3) = false := decide_eq_false c10
       clear c10
       obtain rfl := Option.some.inj H
       go_enter Try.func74, Try.ntmps74
       try go_wp2_with (first | ((with_reducible refine gate_dst (N := 3) rfl ?_); refine boxE (N := 3) (cs := #[.int .u64 a1_0, .int .u64 a1_1, .int .i64 a1_2, .int .i64 a1_3]) (t := 30) ?_; intro gb218 hg w14 hbox hb; have BK218 := Aside0.mk (hbox); have GW218 := szB hg HB.out; have GE218 := szB hg HB.out; replace HB := bsB HB.out hb; clear hb hbox hg))
       replace BK218 := Aside0.mk (blk_drew BK218.out)
       replace HB := Aside0.mk (below_drew1 HB.out)
       refine start_ (n := 42) (S := fun w' => w'.cell? ⟨gb218, 0, none⟩ = some (.int .u64 a1_0) ∧ w'.cell? ⟨gb218, 1, none⟩ = some (.int .u64 a1_1) ∧ w'.cell? ⟨gb218, 2, none⟩ = some (.int .i64 a1_2) ∧ w'.cell? ⟨gb218, 3, none⟩ = some (.int .i64 a1_3)) (ds := []) (bA 42 0) (by kernel_rfl) rfl rfl (by repeat' (first | apply And.intro | exact (blk_cell BK218.out _).trans rfl)) (fun hHeld => ?_); refine with_tabW jacquardref13_Valid.tab1 jacquardref13_Valid.bits1 (fun HT_ HW_ => ?_)
       generalize w14.drew = w15 at BK218 HB hHeld ⊢
       refine pureA HT_ (i := 0) (N := some 5) (bA 42 1) ?_
       refine pureA HT_ (i := 1) (N := some 6) (bA 42 3) ?_
       refine pureA HT_ (i := 2) (N := some 7) (bA 42 7) ?_
       refine pureA HT_ (i := 3) (N := some 8) (bA 42 15) ?_
       refine pureA HT_ (i := 4) (N := some 9) (bA 42 31) ?_
       refine pureA HT_ (i := 5) (N := some 10) (bA 42 63) ?_
       refine pureA HT_ (i := 6) (N := some 11) (bA 42 127) ?_
       refine pureA HT_ (i := 7) (N := some 12) (bA 42 255) ?_
       refine pureA HT_ (i := 9) (N := some 14) (bA 42 767) ?_
       refine takeA HT_ HW_ hHeld (i := 8) (N := some 13) (bA 42 1023) ?_ (hy := by rintro w' ⟨s0, s1, s2, s3⟩; go_simp; with_reducible rfl)
       refine takeA HT_ HW_ hHeld (i := 10) (N := some 15) (bA 42 2047) ?_ (hy := by rintro w' ⟨s0, s1, s2, s3⟩; go_simp; with_reducible rfl)
       refine pureA HT_ (i := 11) (N := some 16) (bA 42 4095) ?_
       refine pureA HT_ (i := 12) (N := some 17) (bA 42 8191) ?_
       refine pureA HT_ (i := 13) (N := some 18) (bA 42 16383) ?_
       refine pureA HT_ (i := 14) (N := some 19) (bA 42 32767) ?_
       refine pureA HT_ (i := 16) (N := some 21) (bA 42 98303) ?_
       refine takeA HT_ HW_ hHeld (i := 15) (N := some 20) (bA 42 131071) ?_ (hy := by rintro w' ⟨s0, s1, s2, s3⟩; go_simp; with_reducible rfl)
       refine one_ (i := 17) (N := some 22) (bA 42 262143) rfl rfl (one_of HT_.out (by kernel_rfl)) (by decide) (fun K hK => ?_)
       refine gO Try.func75 #[.int .i64 a0] ?_
       with_reducible refine (jacquardref13_Umax.calls k a0 t219 _ A6.out).mono ?_
       rintro e w' ⟨rfl, ⟨nd, rfl⟩⟩
       refine ⟨_, rfl, ?_⟩
       refine hK.out _ _ (by repeat' (first | apply And.intro | exact (blk_cell BK218.out _).trans rfl)) (fun hHeld => ?_)
       clear hK K
       refine normA (some 22) ?_
       refine pureA HT_ (i := 18) (N := some 23) (bA 42 524287) ?_
       refine pureA HT_ (i := 19) (N := some 24) (bA 42 1048575) ?_
       refine pureA HT_ (i := 20) (N := some 25) (bA 42 2097151) ?_
       refine pureA HT_ (i := 21) (N := some 26) (bA 42 4194303) ?_
       refine pureA HT_ (i := 23) (N := some 28) (bA 42 12582911) ?_
       refine takeA HT_ HW_ hHeld (i := 24) (N := some 29) (bA 42 29360127) ?_ (hy := by rintro w' ⟨s0, s1, s2, s3⟩; go_simp; with_reducible rfl)
       refine one_ (i := 22) (N := some 27) (bA 42 33554431) rfl rfl (one_of HT_.out (by kernel_rfl)) (by decide) (fun K hK => ?_)
       refine gO Try.func133 #[.int .i64 a0] ?_
       with_reducible refine (jacquardref13_Smin.calls k a0 t220 _ A8.out).mono ?_
       rintro e w' ⟨rfl, ⟨nd, rfl⟩⟩
       refine ⟨_, rfl, ?_⟩
       refine hK.out _ _ (by repeat' (first | apply And.intro | exact (blk_cell BK218.out _).trans rfl)) (fun hHeld => ?_)
       clear hK K
       refine normA (some 27) ?_
       refine pureA HT_ (i := 25) (N := some 30) (bA 42 67108863) ?_
       refine pureA HT_ (i := 26) (N := some 31) (bA 42 134217727) ?_
       refine pureA HT_ (i := 27) (N := some 32) (bA 42 268435455) ?_
       refine pureA HT_ (i := 28) (N := some 33) (bA 42 536870911) ?_
       refine pureA HT_ (i := 30) (N := some 35) (bA 42 1610612735) ?_
       refine takeA HT_ HW_ hHeld (i := 29) (N := some 34) (bA 42 2147483647) ?_ (hy := by rintro w' ⟨s0, s1, s2, s3⟩; go_simp; with_reducible rfl)
       refine takeA HT_ HW_ hHeld (i := 31) (N := some 36) (bA 42 4294967295) ?_ (hy := by rintro w' ⟨s0, s1, s2, s3⟩; go_simp; with_reducible rfl)
       refine pureA HT_ (i := 32) (N := some 37) (bA 42 8589934591) ?_
       refine pureA HT_ (i := 33) (N := some 38) (bA 42 17179869183) ?_
       refine pureA HT_ (i := 34) (N := some 39) (bA 42 34359738367) ?_
       refine pureU HT_ (i := 35) (N := some 40) (bA 42 68719476735) ?_
       refine pureU HT_ (i := 36) (N := some 41) (bA 42 137438953471) ?_
       refine pureU HT_ (i := 37) (N := some 42) (bA 42 274877906943) ?_
       refine pureU HT_ (i := 38) (N := some 43) (bA 42 549755813887) ?_
       refine pureU HT_ (i := 39) (N := some 44) (bA 42 1099511627775) ?_
       refine pureA HT_ (i := 40) (N := some 45) (bA 42 2199023255551) ?_
       refine pureA HT_ (i := 41) (N := some 4) (bA 42 4398046511103) ?_
       refine done_ (done_of HT_.out (by kernel_rfl)) ?_
       try go_wp2
       go_ret
       exact ⟨by first | rfl | (simp [errW_none, errW_some] <;> rfl) | (simp [*, errW_none, errW_some] <;> rfl), bsL HB.out⟩
     ·
      rw [if_neg c9] at H
      have c9b0 : decide (t220 ≤ a1_2) = false := decide_eq_false c9
      clear c9
      obtain rfl := Option.some.inj H
      go_enter Try.func74, Try.ntmps74
      try go_wp2_with (first | ((with_reducible refine gate_dst (N := 3) rfl ?_); refine boxE (N := 3) (cs := #[.int .u64 a1_0, .int .u64 a1_1, .int .i64 a1_2, .int .i64 a1_3]) (t := 30) ?_; intro gb218 hg w16 hbox hb; have BK218 := Aside0.mk (hbox); have GW218 := szB hg HB.out; have GE218 := szB hg HB.out; replace HB := bsB HB.out hb; clear hb hbox hg))
      replace BK218 := Aside0.mk (blk_drew BK218.out)
      replace HB := Aside0.mk (below_drew1 HB.out)
      refine start_ (n := 42) (S := fun w' => w'.cell? ⟨gb218, 0, none⟩ = some (.int .u64 a1_0) ∧ w'.cell? ⟨gb218, 1, none⟩ = some (.int .u64 a1_1) ∧ w'.cell? ⟨gb218, 2, none⟩ = some (.int .i64 a1_2) ∧ w'.cell? ⟨gb218, 3, none⟩ = some (.int .i64 a1_3)) (ds := []) (bA 42 0) (by kernel_rfl) rfl rfl (by repeat' (first | apply And.intro | exact (blk_cell BK218.out _).trans rfl)) (fun hHeld => ?_); refine with_tabW jacquardref13_Valid.tab1 jacquardref13_Valid.bits1 (fun HT_ HW_ => ?_)
      generalize w16.drew = w17 at BK218 HB hHeld ⊢
      refine pureA HT_ (i := 0) (N := some 5) (bA 42 1) ?_
      refine pureA HT_ (i := 1) (N := some 6) (bA 42 3) ?_
      refine pureA HT_ (i := 2) (N := some 7) (bA 42 7) ?_
      refine pureA HT_ (i := 3) (N := some 8) (bA 42 15) ?_
      refine pureA HT_ (i := 4) (N := some 9) (bA 42 31) ?_
      refine pureA HT_ (i := 5) (N := some 10) (bA 42 63) ?_
      refine pureA HT_ (i := 6) (N := some 11) (bA 42 127) ?_
      refine pureA HT_ (i := 7) (N := some 12) (bA 42 255) ?_
      refine pureA HT_ (i := 9) (N := some 14) (bA 42 767) ?_
      refine takeA HT_ HW_ hHeld (i := 8) (N := some 13) (bA 42 1023) ?_ (hy := by rintro w' ⟨s0, s1, s2, s3⟩; go_simp; with_reducible rfl)
      refine takeA HT_ HW_ hHeld (i := 10) (N := some 15) (bA 42 2047) ?_ (hy := by rintro w' ⟨s0, s1, s2, s3⟩; go_simp; with_reducible rfl)
      refine pureA HT_ (i := 11) (N := some 16) (bA 42 4095) ?_
      refine pureA HT_ (i := 12) (N := some 17) (bA 42 8191) ?_
      refine pureA HT_ (i := 13) (N := some 18) (bA 42 16383) ?_
      refine pureA HT_ (i := 14) (N := some 19) (bA 42 32767) ?_
      refine pureA HT_ (i := 16) (N := some 21) (bA 42 98303) ?_
      refine takeA HT_ HW_ hHeld (i := 15) (N := some 20) (bA 42 131071) ?_ (hy := by rintro w' ⟨s0, s1, s2, s3⟩; go_simp; with_reducible rfl)
      refine one_ (i := 17) (N := some 22) (bA 42 262143) rfl rfl (one_of HT_.out (by kernel_rfl)) (by decide) (fun K hK => ?_)
      refine gO Try.func75 #[.int .i64 a0] ?_
      with_reducible refine (jacquardref13_Umax.calls k a0 t219 _ A6.out).mono ?_
      rintro e w' ⟨rfl, ⟨nd, rfl⟩⟩
      refine ⟨_, rfl, ?_⟩
      refine hK.out _ _ (by repeat' (first | apply And.intro | exact (blk_cell BK218.out _).trans rfl)) (fun hHeld => ?_)
      clear hK K
      refine normA (some 22) ?_
      refine pureA HT_ (i := 18) (N := some 23) (bA 42 524287) ?_
      refine pureA HT_ (i := 19) (N := some 24) (bA 42 1048575) ?_
      refine pureA HT_ (i := 20) (N := some 25) (bA 42 2097151) ?_
      refine pureA HT_ (i := 21) (N := some 26) (bA 42 4194303) ?_
      refine pureA HT_ (i := 23) (N := some 28) (bA 42 12582911) ?_
      refine takeA HT_ HW_ hHeld (i := 24) (N := some 29) (bA 42 29360127) ?_ (hy := by rintro w' ⟨s0, s1, s2, s3⟩; go_simp; with_reducible rfl)
      refine one_ (i := 22) (N := some 27) (bA 42 33554431) rfl rfl (one_of HT_.out (by kernel_rfl)) (by decide) (fun K hK => ?_)
      refine gO Try.func133 #[.int .i64 a0] ?_
      with_reducible refine (jacquardref13_Smin.calls k a0 t220 _ A8.out).mono ?_
      rintro e w' ⟨rfl, ⟨nd, rfl⟩⟩
      refine ⟨_, rfl, ?_⟩
      refine hK.out _ _ (by repeat' (first | apply And.intro | exact (blk_cell BK218.out _).trans rfl)) (fun hHeld => ?_)
      clear hK K
      refine normA (some 27) ?_
      refine pureA HT_ (i := 25) (N := some 30) (bA 42 67108863) ?_
      refine pureA HT_ (i := 26) (N := some 31) (bA 42 134217727) ?_
      refine pureA HT_ (i := 27) (N := some 32) (bA 42 268435455) ?_
      refine pureU HT_ (i := 28) (N := some 33) (bA 42 536870911) ?_
      refine pureU HT_ (i := 29) (N := some 34) (bA 42 1073741823) ?_
      refine pureU HT_ (i := 30) (N := some 35) (bA 42 2147483647) ?_
      refine pureU HT_ (i := 31) (N := some 36) (bA 42 4294967295) ?_
      refine pureU HT_ (i := 32) (N := some 37) (bA 42 8589934591) ?_
      refine pureA HT_ (i := 33) (N := some 38) (bA 42 17179869183) ?_
      refine pureA HT_ (i := 34) (N := some 39) (bA 42 34359738367) ?_
      refine pureU HT_ (i := 35) (N := some 40) (bA 42 68719476735) ?_
      refine pureU HT_ (i := 36) (N := some 41) (bA 42 137438953471) ?_
      refine pureU HT_ (i := 37) (N := some 42) (bA 42 274877906943) ?_
      refine pureU HT_ (i := 38) (N := some 43) (bA 42 549755813887) ?_
      refine pureU HT_ (i := 39) (N := some 44) (bA 42 1099511627775) ?_
      refine pureA HT_ (i := 40) (N := some 45) (bA 42 2199023255551) ?_
      refine pureA HT_ (i := 41) (N := some 4) (bA 42 4398046511103) ?_
      refine done_ (done_of HT_.out (by kernel_rfl)) ?_
      try go_wp2
      go_ret
      exact ⟨by first | rfl | (simp [errW_none, errW_some] <;> rfl) | (simp [*, errW_none, errW_some] <;> rfl), bsL HB.out⟩
    ·
     rw [if_neg c7] at H
     have c7b0 : decide (a1_1 ≤ t219) = false := decide_eq_false c7
     clear c7
     obtain rfl := Option.some.inj H
     go_enter Try.func74, Try.ntmps74
     try go_wp2_with (first | ((with_reducible refine gate_dst (N := 3) rfl ?_); refine boxE (N := 3) (cs := #[.int .u64 a1_0, .int .u64 a1_1, .int .i64 a1_2, .int .i64 a1_3]) (t := 30) ?_; intro gb218 hg w18 hbox hb; have BK218 := Aside0.mk (hbox); have GW218 := szB hg HB.out; have GE218 := szB hg HB.out; replace HB := bsB HB.out hb; clear hb hbox hg))
     replace BK218 := Aside0.mk (blk_drew BK218.out)
     replace HB := Aside0.mk (below_drew1 HB.out)
     refine start_ (n := 42) (S := fun w' => w'.cell? ⟨gb218, 0, none⟩ = some (.int .u64 a1_0) ∧ w'.cell? ⟨gb218, 1, none⟩ = some (.int .u64 a1_1) ∧ w'.cell? ⟨gb218, 2, none⟩ = some (.int .i64 a1_2) ∧ w'.cell? ⟨gb218, 3, none⟩ = some (.int .i64 a1_3)) (ds := []) (bA 42 0) (by kernel_rfl) rfl rfl (by repeat' (first | apply And.intro | exact (blk_cell BK218.out _).trans rfl)) (fun hHeld => ?_); refine with_tabW jacquardref13_Valid.tab1 jacquardref13_Valid.bits1 (fun HT_ HW_ => ?_)
     generalize w18.drew = w19 at BK218 HB hHeld ⊢
     refine pureA HT_ (i := 0) (N := some 5) (bA 42 1) ?_
     refine pureA HT_ (i := 1) (N := some 6) (bA 42 3) ?_
     refine pureA HT_ (i := 2) (N := some 7) (bA 42 7) ?_
     refine pureA HT_ (i := 3) (N := some 8) (bA 42 15) ?_
     refine pureA HT_ (i := 4) (N := some 9) (bA 42 31) ?_
     refine pureA HT_ (i := 5) (N := some 10) (bA 42 63) ?_
     refine pureA HT_ (i := 6) (N := some 11) (bA 42 127) ?_
     refine pureA HT_ (i := 7) (N := some 12) (bA 42 255) ?_
     refine pureA HT_ (i := 9) (N := some 14) (bA 42 767) ?_
     refine takeA HT_ HW_ hHeld (i := 8) (N := some 13) (bA 42 1023) ?_ (hy := by rintro w' ⟨s0, s1, s2, s3⟩; go_simp; with_reducible rfl)
     refine takeA HT_ HW_ hHeld (i := 10) (N := some 15) (bA 42 2047) ?_ (hy := by rintro w' ⟨s0, s1, s2, s3⟩; go_simp; with_reducible rfl)
     refine pureA HT_ (i := 11) (N := some 16) (bA 42 4095) ?_
     refine pureA HT_ (i := 12) (N := some 17) (bA 42 8191) ?_
     refine pureA HT_ (i := 13) (N := some 18) (bA 42 16383) ?_
     refine pureA HT_ (i := 14) (N := some 19) (bA 42 32767) ?_
     refine pureA HT_ (i := 16) (N := some 21) (bA 42 98303) ?_
     refine takeA HT_ HW_ hHeld (i := 15) (N := some 20) (bA 42 131071) ?_ (hy := by rintro w' ⟨s0, s1, s2, s3⟩; go_simp; with_reducible rfl)
     refine one_ (i := 17) (N := some 22) (bA 42 262143) rfl rfl (one_of HT_.out (by kernel_rfl)) (by decide) (fun K hK => ?_)
     refine gO Try.func75 #[.int .i64 a0] ?_
     with_reducible refine (jacquardref13_Umax.calls k a0 t219 _ A6.out).mono ?_
     rintro e w' ⟨rfl, ⟨nd, rfl⟩⟩
     refine ⟨_, rfl, ?_⟩
     refine hK.out _ _ (by repeat' (first | apply And.intro | exact (blk_cell BK218.out _).trans rfl)) (fun hHeld => ?_)
     clear hK K
     refine normA (some 22) ?_
     refine pureA HT_ (i := 18) (N := some 23) (bA 42 524287) ?_
     refine pureA HT_ (i := 19) (N := some 24) (bA 42 1048575) ?_
     refine pureA HT_ (i := 20) (N := some 25) (bA 42 2097151) ?_
     refine pureU HT_ (i := 21) (N := some 26) (bA 42 4194303) ?_
     refine pureU HT_ (i := 22) (N := some 27) (bA 42 8388607) ?_
     refine pureU HT_ (i := 23) (N := some 28) (bA 42 16777215) ?_
     refine pureU HT_ (i := 24) (N := some 29) (bA 42 33554431) ?_
     refine pureU HT_ (i := 25) (N := some 30) (bA 42 67108863) ?_
     refine pureA HT_ (i := 26) (N := some 31) (bA 42 134217727) ?_
     refine pureA HT_ (i := 27) (N := some 32) (bA 42 268435455) ?_
     refine pureU HT_ (i := 28) (N := some 33) (bA 42 536870911) ?_
     refine pureU HT_ (i := 29) (N := some 34) (bA 42 1073741823) ?_
     refine pureU HT_ (i := 30) (N := some 35) (bA 42 2147483647) ?_
     refine pureU HT_ (i := 31) (N := some 36) (bA 42 4294967295) ?_
     refine pureU HT_ (i := 32) (N := some 37) (bA 42 8589934591) ?_
     refine pureA HT_ (i := 33) (N := some 38) (bA 42 17179869183) ?_
     refine pureA HT_ (i := 34) (N := some 39) (bA 42 34359738367) ?_
     refine pureU HT_ (i := 35) (N := some 40) (bA 42 68719476735) ?_
     refine pureU HT_ (i := 36) (N := some 41) (bA 42 137438953471) ?_
     refine pureU HT_ (i := 37) (N := some 42) (bA 42 274877906943) ?_
     refine pureU HT_ (i := 38) (N := some 43) (bA 42 549755813887) ?_
     refine pureU HT_ (i := 39) (N := some 44) (bA 42 1099511627775) ?_
     refine pureA HT_ (i := 40) (N := some 45) (bA 42 2199023255551) ?_
     refine pureA HT_ (i := 41) (N := some 4) (bA 42 4398046511103) ?_
     refine done_ (done_of HT_.out (by kernel_rfl)) ?_
     try go_wp2
     go_ret
     exact ⟨by first | rfl | (simp [errW_none, errW_some] <;> rfl) | (simp [*, errW_none, errW_some] <;> rfl), bsL HB.out⟩
   ·
    rw [if_neg c5] at H
    have c5b0 : decide (a1_0 ≤ a1_1) = false := decide_eq_false c5
    clear c5
    obtain rfl := Option.some.inj H
    go_enter Try.func74, Try.ntmps74
    try go_wp2_with (first | ((with_reducible refine gate_dst (N := 3) rfl ?_); refine boxE (N := 3) (cs := #[.int .u64 a1_0, .int .u64 a1_1, .int .i64 a1_2, .int .i64 a1_3]) (t := 30) ?_; intro gb218 hg w20 hbox hb; have BK218 := Aside0.mk (hbox); have GW218 := szB hg HB.out; have GE218 := szB hg HB.out; replace HB := bsB HB.out hb; clear hb hbox hg))
    replace BK218 := Aside0.mk (blk_drew BK218.out)
    replace HB := Aside0.mk (below_drew1 HB.out)
    refine start_ (n := 42) (S := fun w' => w'.cell? ⟨gb218, 0, none⟩ = some (.int .u64 a1_0) ∧ w'.cell? ⟨gb218, 1, none⟩ = some (.int .u64 a1_1) ∧ w'.cell? ⟨gb218, 2, none⟩ = some (.int .i64 a1_2) ∧ w'.cell? ⟨gb218, 3, none⟩ = some (.int .i64 a1_3)) (ds := []) (bA 42 0) (by kernel_rfl) rfl rfl (by repeat' (first | apply And.intro | exact (blk_cell BK218.out _).trans rfl)) (fun hHeld => ?_); refine with_tabW jacquardref13_Valid.tab1 jacquardref13_Valid.bits1 (fun HT_ HW_ => ?_)
    generalize w20.drew = w21 at BK218 HB hHeld ⊢
    refine pureA HT_ (i := 0) (N := some 5) (bA 42 1) ?_
    refine pureA HT_ (i := 1) (N := some 6) (bA 42 3) ?_
    refine pureA HT_ (i := 2) (N := some 7) (bA 42 7) ?_
    refine pureA HT_ (i := 3) (N := some 8) (bA 42 15) ?_
    refine pureA HT_ (i := 4) (N := some 9) (bA 42 31) ?_
    refine pureA HT_ (i := 5) (N := some 10) (bA 42 63) ?_
    refine pureA HT_ (i := 6) (N := some 11) (bA 42 127) ?_
    refine pureA HT_ (i := 7) (N := some 12) (bA 42 255) ?_
    refine pureA HT_ (i := 9) (N := some 14) (bA 42 767) ?_
    refine takeA HT_ HW_ hHeld (i := 8) (N := some 13) (bA 42 1023) ?_ (hy := by rintro w' ⟨s0, s1, s2, s3⟩; go_simp; with_reducible rfl)
    refine takeA HT_ HW_ hHeld (i := 10) (N := some 15) (bA 42 2047) ?_ (hy := by rintro w' ⟨s0, s1, s2, s3⟩; go_simp; with_reducible rfl)
    refine pureA HT_ (i := 11) (N := some 16) (bA 42 4095) ?_
    refine pureA HT_ (i := 12) (N := some 17) (bA 42 8191) ?_
    refine pureA HT_ (i := 13) (N := some 18) (bA 42 16383) ?_
    refine pureU HT_ (i := 14) (N := some 19) (bA 42 32767) ?_
    refine pureU HT_ (i := 15) (N := some 20) (bA 42 65535) ?_
    refine pureU HT_ (i := 16) (N := some 21) (bA 42 131071) ?_
    refine pureU HT_ (i := 17) (N := some 22) (bA 42 262143) ?_
    refine pureU HT_ (i := 18) (N := some 23) (bA 42 524287) ?_
    refine pureA HT_ (i := 19) (N := some 24) (bA 42 1048575) ?_
    refine pureA HT_ (i := 20) (N := some 25) (bA 42 2097151) ?_
    refine pureU HT_ (i := 21) (N := some 26) (bA 42 4194303) ?_
    refine pureU HT_ (i := 22) (N := some 27) (bA 42 8388607) ?_
    refine pureU HT_ (i := 23) (N := some 28) (bA 42 16777215) ?_
    refine pureU HT_ (i := 24) (N := some 29) (bA 42 33554431) ?_
    refine pureU HT_ (i := 25) (N := some 30) (bA 42 67108863) ?_
    refine pureA HT_ (i := 26) (N := some 31) (bA 42 134217727) ?_
    refine pureA HT_ (i := 27) (N := some 32) (bA 42 268435455) ?_
    refine pureU HT_ (i := 28) (N := some 33) (bA 42 536870911) ?_
    refine pureU HT_ (i := 29) (N := some 34) (bA 42 1073741823) ?_
    refine pureU HT_ (i := 30) (N := some 35) (bA 42 2147483647) ?_
    refine pureU HT_ (i := 31) (N := some 36) (bA 42 4294967295) ?_
    refine pureU HT_ (i := 32) (N := some 37) (bA 42 8589934591) ?_
    refine pureA HT_ (i := 33) (N := some 38) (bA 42 17179869183) ?_
    refine pureA HT_ (i := 34) (N := some 39) (bA 42 34359738367) ?_
    refine pureU HT_ (i := 35) (N := some 40) (bA 42 68719476735) ?_
    refine pureU HT_ (i := 36) (N := some 41) (bA 42 137438953471) ?_
    refine pureU HT_ (i := 37) (N := some 42) (bA 42 274877906943) ?_
    refine pureU HT_ (i := 38) (N := some 43) (bA 42 549755813887) ?_
    refine pureU HT_ (i := 39) (N := some 44) (bA 42 1099511627775) ?_
    refine pureA HT_ (i := 40) (N := some 45) (bA 42 2199023255551) ?_
    refine pureA HT_ (i := 41) (N := some 4) (bA 42 4398046511103) ?_
    refine done_ (done_of HT_.out (by kernel_rfl)) ?_
    try go_wp2
    go_ret
    exact ⟨by first | rfl | (simp [errW_none, errW_some] <;> rfl) | (simp [*, errW_none, errW_some] <;> rfl), bsL HB.out⟩
  ·
   rw [if_neg c4] at H
   have c4b0 : decide (a0 ≤ 64) = false := decide_eq_false c4
   clear c4
   obtain rfl := Option.some.inj H
   go_enter Try.func74, Try.ntmps74
   try go_wp2_with (first | ((with_reducible refine gate_dst (N := 3) rfl ?_); refine boxE (N := 3) (cs := #[.int .u64 a1_0, .int .u64 a1_1, .int .i64 a1_2, .int .i64 a1_3]) (t := 30) ?_; intro gb218 hg w22 hbox hb; have BK218 := Aside0.mk (hbox); have GW218 := szB hg HB.out; have GE218 := szB hg HB.out; replace HB := bsB HB.out hb; clear hb hbox hg))
   replace BK218 := Aside0.mk (blk_drew BK218.out)
   replace HB := Aside0.mk (below_drew1 HB.out)
   refine start_ (n := 42) (S := fun w' => True) (ds := []) (bA 42 0) (by kernel_rfl) rfl rfl trivial (fun hHeld => ?_); refine with_tabW jacquardref13_Valid.tab1 jacquardref13_Valid.bits1 (fun HT_ HW_ => ?_)
   generalize w22.drew = w23 at BK218 HB hHeld ⊢
   refine pureA HT_ (i := 0) (N := some 5) (bA 42 1) ?_
   refine pureA HT_ (i := 1) (N := some 6) (bA 42 3) ?_
   refine pureA HT_ (i := 2) (N := some 7) (bA 42 7) ?_
   refine pureA HT_ (i := 3) (N := some 8) (bA 42 15) ?_
   refine pureA HT_ (i := 4) (N := some 9) (bA 42 31) ?_
   refine pureA HT_ (i := 5) (N := some 10) (bA 42 63) ?_
   refine pureA HT_ (i := 6) (N := some 11) (bA 42 127) ?_
   refine pureU HT_ (i := 7) (N := some 12) (bA 42 255) ?_
   refine pureU HT_ (i := 8) (N := some 13) (bA 42 511) ?_
   refine pureU HT_ (i := 9) (N := some 14) (bA 42 1023) ?_
   refine pureU HT_ (i := 10) (N := some 15) (bA 42 2047) ?_
   refine pureU HT_ (i := 11) (N := some 16) (bA 42 4095) ?_
   refine pureA HT_ (i := 12) (N := some 17) (bA 42 8191) ?_
   refine pureA HT_ (i := 13) (N := some 18) (bA 42 16383) ?_
   refine pureU HT_ (i := 14) (N := some 19) (bA 42 32767) ?_
   refine pureU HT_ (i := 15) (N := some 20) (bA 42 65535) ?_
   refine pureU HT_ (i := 16) (N := some 21) (bA 42 131071) ?_
   refine pureU HT_ (i := 17) (N := some 22) (bA 42 262143) ?_
   refine pureU HT_ (i := 18) (N := some 23) (bA 42 524287) ?_
   refine pureA HT_ (i := 19) (N := some 24) (bA 42 1048575) ?_
   refine pureA HT_ (i := 20) (N := some 25) (bA 42 2097151) ?_
   refine pureU HT_ (i := 21) (N := some 26) (bA 42 4194303) ?_
   refine pureU HT_ (i := 22) (N := some 27) (bA 42 8388607) ?_
   refine pureU HT_ (i := 23) (N := some 28) (bA 42 16777215) ?_
   refine pureU HT_ (i := 24) (N := some 29) (bA 42 33554431) ?_
   refine pureU HT_ (i := 25) (N := some 30) (bA 42 67108863) ?_
   refine pureA HT_ (i := 26) (N := some 31) (bA 42 134217727) ?_
   refine pureA HT_ (i := 27) (N := some 32) (bA 42 268435455) ?_
   refine pureU HT_ (i := 28) (N := some 33) (bA 42 536870911) ?_
   refine pureU HT_ (i := 29) (N := some 34) (bA 42 1073741823) ?_
   refine pureU HT_ (i := 30) (N := some 35) (bA 42 2147483647) ?_
   refine pureU HT_ (i := 31) (N := some 36) (bA 42 4294967295) ?_
   refine pureU HT_ (i := 32) (N := some 37) (bA 42 8589934591) ?_
   refine pureA HT_ (i := 33) (N := some 38) (bA 42 17179869183) ?_
   refine pureA HT_ (i := 34) (N := some 39) (bA 42 34359738367) ?_
   refine pureU HT_ (i := 35) (N := some 40) (bA 42 68719476735) ?_
   refine pureU HT_ (i := 36) (N := some 41) (bA 42 137438953471) ?_
   refine pureU HT_ (i := 37) (N := some 42) (bA 42 274877906943) ?_
   refine pureU HT_ (i := 38) (N := some 43) (bA 42 549755813887) ?_
   refine pureU HT_ (i := 39) (N := some 44) (bA 42 1099511627775) ?_
   refine pureA HT_ (i := 40) (N := some 45) (bA 42 2199023255551) ?_
   refine pureA HT_ (i := 41) (N := some 4) (bA 42 4398046511103) ?_
   refine done_ (done_of HT_.out (by kernel_rfl)) ?_
   try go_wp2
   go_ret
   exact ⟨by first | rfl | (simp [errW_none, errW_some] <;> rfl) | (simp [*, errW_none, errW_some] <;> rfl), bsL HB.out⟩
 ·
  rw [if_neg c3] at H
  have c3b0 : decide (1 ≤ a0) = false := decide_eq_false c3
  clear c3
  obtain rfl := Option.some.inj H
  go_enter Try.func74, Try.ntmps74
  try go_wp2_with (first | ((with_reducible refine gate_dst (N := 3) rfl ?_); refine boxE (N := 3) (cs := #[.int .u64 a1_0, .int .u64 a1_1, .int .i64 a1_2, .int .i64 a1_3]) (t := 30) ?_; intro gb218 hg w24 hbox hb; have BK218 := Aside0.mk (hbox); have GW218 := szB hg HB.out; have GE218 := szB hg HB.out; replace HB := bsB HB.out hb; clear hb hbox hg))
  replace BK218 := Aside0.mk (blk_drew BK218.out)
  replace HB := Aside0.mk (below_drew1 HB.out)
  refine start_ (n := 42) (S := fun w' => True) (ds := []) (bA 42 0) (by kernel_rfl) rfl rfl trivial (fun hHeld => ?_); refine with_tabW jacquardref13_Valid.tab1 jacquardref13_Valid.bits1 (fun HT_ HW_ => ?_)
  generalize w24.drew = w25 at BK218 HB hHeld ⊢
  refine pureA HT_ (i := 0) (N := some 5) (bA 42 1) ?_
  refine pureA HT_ (i := 1) (N := some 6) (bA 42 3) ?_
  refine pureA HT_ (i := 2) (N := some 7) (bA 42 7) ?_
  refine pureU HT_ (i := 3) (N := some 8) (bA 42 15) ?_
  refine pureU HT_ (i := 4) (N := some 9) (bA 42 31) ?_
  refine pureA HT_ (i := 5) (N := some 10) (bA 42 63) ?_
  refine pureA HT_ (i := 6) (N := some 11) (bA 42 127) ?_
  refine pureU HT_ (i := 7) (N := some 12) (bA 42 255) ?_
  refine pureU HT_ (i := 8) (N := some 13) (bA 42 511) ?_
  refine pureU HT_ (i := 9) (N := some 14) (bA 42 1023) ?_
  refine pureU HT_ (i := 10) (N := some 15) (bA 42 2047) ?_
  refine pureU HT_ (i := 11) (N := some 16) (bA 42 4095) ?_
  refine pureA HT_ (i := 12) (N := some 17) (bA 42 8191) ?_
  refine pureA HT_ (i := 13) (N := some 18) (bA 42 16383) ?_
  refine pureU HT_ (i := 14) (N := some 19) (bA 42 32767) ?_
  refine pureU HT_ (i := 15) (N := some 20) (bA 42 65535) ?_
  refine pureU HT_ (i := 16) (N := some 21) (bA 42 131071) ?_
  refine pureU HT_ (i := 17) (N := some 22) (bA 42 262143) ?_
  refine pureU HT_ (i := 18) (N := some 23) (bA 42 524287) ?_
  refine pureA HT_ (i := 19) (N := some 24) (bA 42 1048575) ?_
  refine pureA HT_ (i := 20) (N := some 25) (bA 42 2097151) ?_
  refine pureU HT_ (i := 21) (N := some 26) (bA 42 4194303) ?_
  refine pureU HT_ (i := 22) (N := some 27) (bA 42 8388607) ?_
  refine pureU HT_ (i := 23) (N := some 28) (bA 42 16777215) ?_
  refine pureU HT_ (i := 24) (N := some 29) (bA 42 33554431) ?_
  refine pureU HT_ (i := 25) (N := some 30) (bA 42 67108863) ?_
  refine pureA HT_ (i := 26) (N := some 31) (bA 42 134217727) ?_
  refine pureA HT_ (i := 27) (N := some 32) (bA 42 268435455) ?_
  refine pureU HT_ (i := 28) (N := some 33) (bA 42 536870911) ?_
  refine pureU HT_ (i := 29) (N := some 34) (bA 42 1073741823) ?_
  refine pureU HT_ (i := 30) (N := some 35) (bA 42 2147483647) ?_
  refine pureU HT_ (i := 31) (N := some 36) (bA 42 4294967295) ?_
  refine pureU HT_ (i := 32) (N := some 37) (bA 42 8589934591) ?_
  refine pureA HT_ (i := 33) (N := some 38) (bA 42 17179869183) ?_
  refine pureA HT_ (i := 34) (N := some 39) (bA 42 34359738367) ?_
  refine pureU HT_ (i := 35) (N := some 40) (bA 42 68719476735) ?_
  refine pureU HT_ (i := 36) (N := some 41) (bA 42 137438953471) ?_
  refine pureU HT_ (i := 37) (N := some 42) (bA 42 274877906943) ?_
  refine pureU HT_ (i := 38) (N := some 43) (bA 42 549755813887) ?_
  refine pureU HT_ (i := 39) (N := some 44) (bA 42 1099511627775) ?_
  refine pureA HT_ (i := 40) (N := some 45) (bA 42 2199023255551) ?_
  refine pureA HT_ (i := 41) (N := some 4) (bA 42 4398046511103) ?_
  refine done_ (done_of HT_.out (by kernel_rfl)) ?_
  try go_wp2
  go_ret
  exact ⟨by first | rfl | (simp [errW_none, errW_some] <;> rfl) | (simp [*, errW_none, errW_some] <;> rfl), bsL HB.out⟩

/-! ### jacquardref14_bits: function 80 -/
def jacquardref14_bits.f (a0_0 : Int) (a0_1 : Int) (a0_2 : Int) (a0_3 : Int) (a0_4 : Int) (a0_5 : Int) : Option (Int × Int) := some (a0_0, a0_1)
set_option maxHeartbeats 8000000 in
set_option maxRecDepth 100000 in
theorem jacquardref14_bits.calls (a0_0 : Int) (a0_1 : Int) (a0_2 : Int) (a0_3 : Int) (a0_4 : Int) (a0_5 : Int) (r1 : Int) (r2 : Int) (w : World) (h : jacquardref14_bits.f a0_0 a0_1 a0_2 a0_3 a0_4 a0_5 = some (r1, r2)) :
  Calls Try.prog 80 #[.agg #[.int .u64 a0_0, .int .u64 a0_1, .int .u64 a0_2, .int .u64 a0_3, .int .i64 a0_4, .int .i64 a0_5]] w fun e w' => e = .returned (.agg #[.int .u64 r1, .int .u64 r2]) ∧ Below w.heap.size w w' := by
 have hu50 := Try.underlying50
 have hu110 := Try.underlying110
 have HB := Aside0.mk (Below.refl w.heap.size w)
 have H : (some (a0_0, a0_1)) = some (r1, r2) := h
 clear h
 simp only [Option.some.injEq, Prod.mk.injEq] at H
 obtain ⟨rfl, rfl⟩ := H
 go_enter Try.func80, Try.ntmps80
 go_wp2_with (first | ((with_reducible refine gate_dst (N := 1) rfl ?_); refine boxE (N := 1) (cs := #[.int .u64 a0_0, .int .u64 a0_1, .int .u64 a0_2, .int .u64 a0_3, .int .i64 a0_4, .int .i64 a0_5]) (t := 50) ?_; intro gb222 hg w2 hbox hb; have BK222 := Aside0.mk (hbox); have GW222 := szB hg HB.out; have GE222 := szB hg HB.out; replace HB := bsB HB.out hb; clear hb hbox hg) | ((with_reducible refine gate_dst (N := 2) rfl ?_); refine boxE (N := 2) (cs := #[.int .u64 0, .int .u64 0]) (t := 110) ?_; intro gb223 hg w3 hbox hb; have BK223 := Aside0.mk (hbox); have GW223 := szB hg HB.out; have GE223 := szB hg HB.out; have NB222_223 := neL hg BK222.out; have NB223_222 := neG hg BK222.out; replace BK222 := bkB BK222.out hb; replace HB := bsB HB.out hb; clear hb hbox hg; have hnb4 := NB222_223.out; have hnc4 := NB223_222.out; obtain ⟨hcz5_0, hcz5_1, hcz5_2, hcz5_3, hcz5_4, hcz5_5, hfz5_0, hfz5_1, hfz5_2, hfz5_3, hfz5_4, hfz5_5⟩ := own6 BK222.out; obtain ⟨hcz6_0, hcz6_1, hfz6_0, hfz6_1⟩ := own2 BK223.out))
 refine bodyPost_ret (results_cell_row rfl _ _ gb223 110 #[.int .u64 a0_0, .int .u64 a0_1] (0, 0) _ rfl (by (with_reducible repeat (first | refine blk_drewN ?_ _ | refine blk_drew ?_ | refine blk_alloc ?_ _)); refine blk_put (cs := #[.int .u64 a0_0, .int .u64 0]) ?_ 1 _ rfl; (with_reducible repeat (first | refine blk_drewN ?_ _ | refine blk_drew ?_ | refine blk_alloc ?_ _)); refine blk_put (cs := #[.int .u64 0, .int .u64 0]) ?_ 0 _ rfl; exact bfL BK223.out) Try.underlying110 rfl (by kernel_rfl)) rfl ?_
 exact ⟨by first | rfl | (simp [errW_none, errW_some] <;> rfl) | (simp [*, errW_none, errW_some] <;> rfl), bsL HB.out⟩

end Go.Proofs.Ytbiohdgeclokmaa.P
