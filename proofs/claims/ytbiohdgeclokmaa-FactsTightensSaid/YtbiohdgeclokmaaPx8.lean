-- made by a program of this work (wip/mkprint.py, wip/mp.sh) out of the translation
import Derived.Test.YtbiohdgeclokmaaPx0
import Derived.Test.YtbiohdgeclokmaaPx2
import Derived.Test.YtbiohdgeclokmaaPx4
import Derived.Test.YtbiohdgeclokmaaPx5
import Derived.Test.YtbiohdgeclokmaaPx6
import Derived.Test.YtbiohdgeclokmaaPx7
namespace Go.Proofs.Ytbiohdgeclokmaa.P
open Go.RowKit Go.Proofs.YtbiohdgeclokmaaW.PrintWords Go.Proofs.YtbiohdgeclokmaaW.PrintLast Go.Proofs.YtbiohdgeclokmaaW.PrintMore
attribute [local go_sem] max2_int min2_int max_two min_two max_three min_three max_four min_four   -- for this text's walks alone
set_option linter.unusedVariables false
set_option linter.unusedSimpArgs false

/-! ### facts_Tighten: function 25 -/
mutual
def facts_Tighten.j0 : Nat → Int → Int → Int → Int → Int → Int → Int → Int → Int → Int → Int → Option (Int × Int × Int × Int × Int × Int × Bool)
 | 0, _, _, _, _, _, _, _, _, _, _, _ => none
 | k + 1, x0, x6, x7, x8, x9, x191000, x191001, x191002, x191003, x191004, x191005 => if (Go.bits .and .u64 x191001 x7) = 0 then (facts_Tighten.j1 k x0 x6 x8 (Go.bits .andNot .u64 x9 x7) x191000 x191001 x191002 x191003 x191004 x191005) else (facts_Tighten.j1 k x0 x6 x8 x9 x191000 x191001 x191002 x191003 x191004 x191005)
def facts_Tighten.j1 : Nat → Int → Int → Int → Int → Int → Int → Int → Int → Int → Int → Option (Int × Int × Int × Int × Int × Int × Bool)
 | 0, _, _, _, _, _, _, _, _, _, _ => none
 | k + 1, x0, x6, x8, x9, x191000, x191001, x191002, x191003, x191004, x191005 => (bits_Signed.f x0 x8).bind fun t194 => ((bits_Signed.f x0 x9).bind fun t195 => (if x191002 > x191003 then (facts_Tighten.j2 k x0 x6 true x191000 x191001 x191002 x191003 (mx x191004 t194) (mn x191005 t195)) else (facts_Tighten.j2 k x0 x6 (decide ((mx x191004 t194) > (mn x191005 t195))) x191000 x191001 x191002 x191003 (mx x191004 t194) (mn x191005 t195))))
def facts_Tighten.j2 : Nat → Int → Int → Bool → Int → Int → Int → Int → Int → Int → Option (Int × Int × Int × Int × Int × Int × Bool)
 | 0, _, _, _, _, _, _, _, _, _ => none
 | k + 1, x0, x6, x81, x191000, x191001, x191002, x191003, x191004, x191005 => if x81 = true then (some (0, 0, 0, 0, 0, 0, false)) else ((facts_span.f x191000 x191001 x191002 x191003 x191004 x191005).bind fun bt196 => ((interval_Tighten.f k x0 bt196.1 bt196.2.1 bt196.2.2.1 bt196.2.2.2).bind fun bt200 => (if bt200.2.2.2.2 = true then ((bits_Len64.f k (Go.bits .xor .u64 bt200.1 bt200.2.1)).bind fun t206 => ((bits_Mask.f t206).bind fun t207 => (if (Go.bits .and .u64 (Go.bits .or .u64 x191000 (Go.bits .and .u64 (Go.bits .xor .u64 18446744073709551615 bt200.1) (Go.bits .andNot .u64 x6 t207))) (Go.bits .or .u64 x191001 (Go.bits .and .u64 bt200.1 (Go.bits .andNot .u64 x6 t207)))) = 0 then ((facts_fact.f (Go.bits .or .u64 x191000 (Go.bits .and .u64 (Go.bits .xor .u64 18446744073709551615 bt200.1) (Go.bits .andNot .u64 x6 t207))) (Go.bits .or .u64 x191001 (Go.bits .and .u64 bt200.1 (Go.bits .andNot .u64 x6 t207))) bt200.1 bt200.2.1 bt200.2.2.1 bt200.2.2.2.1).bind fun bt209 => (some (bt209.1, bt209.2.1, bt209.2.2.1, bt209.2.2.2.1, bt209.2.2.2.2.1, bt209.2.2.2.2.2, true))) else (some (0, 0, 0, 0, 0, 0, false))))) else (some (0, 0, 0, 0, 0, 0, false)))))
end
def facts_Tighten.f (k : Nat) (a0 : Int) (a1_0 : Int) (a1_1 : Int) (a1_2 : Int) (a1_3 : Int) (a1_4 : Int) (a1_5 : Int) : Option (Int × Int × Int × Int × Int × Int × Bool) := (facts_Valid.f a0 a1_0 a1_1 a1_2 a1_3 a1_4 a1_5).bind fun t192 => (if t192 = true then ((bits_Mask.f a0).bind fun t193 => (if 0 ≤ (wrap64 (a0 - 1)) then (if (Go.bits .and .u64 a1_0 (shl .u64 1 (wrap64 (a0 - 1)))) = 0 then (facts_Tighten.j0 k a0 t193 (shl .u64 1 (wrap64 (a0 - 1))) (Go.bits .or .u64 a1_1 (shl .u64 1 (wrap64 (a0 - 1)))) (Go.bits .andNot .u64 t193 a1_0) a1_0 a1_1 (mx a1_2 a1_1) (mn a1_3 (Go.bits .andNot .u64 t193 a1_0)) a1_4 a1_5) else (facts_Tighten.j0 k a0 t193 (shl .u64 1 (wrap64 (a0 - 1))) a1_1 (Go.bits .andNot .u64 t193 a1_0) a1_0 a1_1 (mx a1_2 a1_1) (mn a1_3 (Go.bits .andNot .u64 t193 a1_0)) a1_4 a1_5)) else (none))) else (some (0, 0, 0, 0, 0, 0, false)))
theorem facts_Tighten.mono_l : ∀ k, (∀ y0 y1 y2 y3 y4 y5 y6 y7 y8 y9 y10, LeO (facts_Tighten.j0 k y0 y1 y2 y3 y4 y5 y6 y7 y8 y9 y10) (facts_Tighten.j0 (k + 1) y0 y1 y2 y3 y4 y5 y6 y7 y8 y9 y10)) ∧ (∀ y0 y1 y2 y3 y4 y5 y6 y7 y8 y9, LeO (facts_Tighten.j1 k y0 y1 y2 y3 y4 y5 y6 y7 y8 y9) (facts_Tighten.j1 (k + 1) y0 y1 y2 y3 y4 y5 y6 y7 y8 y9)) ∧ (∀ y0 y1 y2 y3 y4 y5 y6 y7 y8, LeO (facts_Tighten.j2 k y0 y1 y2 y3 y4 y5 y6 y7 y8) (facts_Tighten.j2 (k + 1) y0 y1 y2 y3 y4 y5 y6 y7 y8))
 | 0 => ⟨fun _ _ _ _ _ _ _ _ _ _ _ r h => by simp [facts_Tighten.j0] at h, fun _ _ _ _ _ _ _ _ _ _ r h => by simp [facts_Tighten.j1] at h, fun _ _ _ _ _ _ _ _ _ r h => by simp [facts_Tighten.j2] at h⟩
 | k + 1 => by
  obtain ⟨ih0, ih1, ih2⟩ := facts_Tighten.mono_l k
  refine ⟨?_, ?_, ?_⟩
  ·
   intro y0 y1 y2 y3 y4 y5 y6 y7 y8 y9 y10
   unfold facts_Tighten.j0
   repeat' first
   | (with_reducible exact ih0 _ _ _ _ _ _ _ _ _ _ _)
   | (with_reducible exact ih1 _ _ _ _ _ _ _ _ _ _)
   | (with_reducible exact ih2 _ _ _ _ _ _ _ _ _)
   | (with_reducible exact bits_Len64.mono _ _)
   | (with_reducible exact interval_Tighten.mono _ _ _ _ _ _)
   | (with_reducible exact LeO.refl _)
   | (with_reducible exact LeO.none _)
   | (with_reducible refine LeO.ite ?_ ?_)
   | (with_reducible refine LeO.bind ?_ (fun _ => ?_))
   | exact ih0 _ _ _ _ _ _ _ _ _ _ _
   | exact ih1 _ _ _ _ _ _ _ _ _ _
   | exact ih2 _ _ _ _ _ _ _ _ _
   | exact bits_Len64.mono _ _
   | exact interval_Tighten.mono _ _ _ _ _ _
   | exact LeO.none _
   | refine LeO.ite ?_ ?_
   | refine LeO.bind ?_ (fun _ => ?_)
  ·
   intro y0 y1 y2 y3 y4 y5 y6 y7 y8 y9
   unfold facts_Tighten.j1
   repeat' first
   | (with_reducible exact ih0 _ _ _ _ _ _ _ _ _ _ _)
   | (with_reducible exact ih1 _ _ _ _ _ _ _ _ _ _)
   | (with_reducible exact ih2 _ _ _ _ _ _ _ _ _)
   | (with_reducible exact bits_Len64.mono _ _)
   | (with_reducible exact interval_Tighten.mono _ _ _ _ _ _)
   | (with_reducible exact LeO.refl _)
   | (with_reducible exact LeO.none _)
   | (with_reducible refine LeO.ite ?_ ?_)
   | (with_reducible refine LeO.bind ?_ (fun _ => ?_))
   | exact ih0 _ _ _ _ _ _ _ _ _ _ _
   | exact ih1 _ _ _ _ _ _ _ _ _ _
   | exact ih2 _ _ _ _ _ _ _ _ _
   | exact bits_Len64.mono _ _
   | exact interval_Tighten.mono _ _ _ _ _ _
   | exact LeO.none _
   | refine LeO.ite ?_ ?_
   | refine LeO.bind ?_ (fun _ => ?_)
  ·
   intro y0 y1 y2 y3 y4 y5 y6 y7 y8
   unfold facts_Tighten.j2
   repeat' first
   | (with_reducible exact ih0 _ _ _ _ _ _ _ _ _ _ _)
   | (with_reducible exact ih1 _ _ _ _ _ _ _ _ _ _)
   | (with_reducible exact ih2 _ _ _ _ _ _ _ _ _)
   | (with_reducible exact bits_Len64.mono _ _)
   | (with_reducible exact interval_Tighten.mono _ _ _ _ _ _)
   | (with_reducible exact LeO.refl _)
   | (with_reducible exact LeO.none _)
   | (with_reducible refine LeO.ite ?_ ?_)
   | (with_reducible refine LeO.bind ?_ (fun _ => ?_))
   | exact ih0 _ _ _ _ _ _ _ _ _ _ _
   | exact ih1 _ _ _ _ _ _ _ _ _ _
   | exact ih2 _ _ _ _ _ _ _ _ _
   | exact bits_Len64.mono _ _
   | exact interval_Tighten.mono _ _ _ _ _ _
   | exact LeO.none _
   | refine LeO.ite ?_ ?_
   | refine LeO.bind ?_ (fun _ => ?_)
theorem facts_Tighten.mono : ∀ a0 a1 a2 a3 a4 a5 a6 k, LeO (facts_Tighten.f k a0 a1 a2 a3 a4 a5 a6) (facts_Tighten.f (k + 1) a0 a1 a2 a3 a4 a5 a6) := by
 intro a0 a1 a2 a3 a4 a5 a6 k
 obtain ⟨ih0, ih1, ih2⟩ := facts_Tighten.mono_l k
 unfold facts_Tighten.f
 repeat' first
   | (with_reducible exact ih0 _ _ _ _ _ _ _ _ _ _ _)
   | (with_reducible exact ih1 _ _ _ _ _ _ _ _ _ _)
   | (with_reducible exact ih2 _ _ _ _ _ _ _ _ _)
   | (with_reducible exact bits_Len64.mono _ _)
   | (with_reducible exact interval_Tighten.mono _ _ _ _ _ _)
   | (with_reducible exact LeO.refl _)
   | (with_reducible exact LeO.none _)
   | (with_reducible refine LeO.ite ?_ ?_)
   | (with_reducible refine LeO.bind ?_ (fun _ => ?_))
   | exact ih0 _ _ _ _ _ _ _ _ _ _ _
   | exact ih1 _ _ _ _ _ _ _ _ _ _
   | exact ih2 _ _ _ _ _ _ _ _ _
   | exact bits_Len64.mono _ _
   | exact interval_Tighten.mono _ _ _ _ _ _
   | exact LeO.none _
   | refine LeO.ite ?_ ?_
   | refine LeO.bind ?_ (fun _ => ?_)
def facts_Tighten.T4 : Bool × List (List Nat × List Nat) := (true, [([], []), ([0], [0]), ([], []), ([], []), ([3], [3]), ([2, 4], [2, 4]), ([1, 0, 1], [1]), ([5, 6, 0, 1, 2, 3, 4, 5, 6], [5])])
def facts_Tighten.B4 : List Nat := [0, 1, 0, 0, 8, 28, 3, 127]
theorem facts_Tighten.tab4 : rtab .any (opsOf Try.f25 4) = facts_Tighten.T4 := by kernel_rfl
theorem facts_Tighten.bits4 : waitsOk facts_Tighten.T4.2 facts_Tighten.B4 = true := by kernel_rfl
def facts_Tighten.T10 : Bool × List (List Nat × List Nat) := (true, [([], []), ([0], [0]), ([], []), ([], []), ([2, 3], [2, 3]), ([1, 4], [1, 4]), ([], []), ([6], [6]), ([], []), ([], []), ([8, 9, 4], [8, 9]), ([7, 10], [7, 10]), ([0, 1, 2, 3, 4, 5, 6, 7], []), ([12, 5, 10, 0, 1, 2, 3, 4, 5, 6, 7], [5, 12]), ([0, 1, 2, 3, 4, 5, 6, 7, 8, 9, 10, 11, 12, 13], []), ([14, 11, 13, 0, 1, 2, 3, 4, 5, 6, 7, 8, 9, 10, 11, 12, 13], [11, 14])])
def facts_Tighten.B10 : List Nat := [0, 1, 0, 0, 12, 31, 0, 64, 0, 0, 796, 2012, 255, 6143, 16383, 32767]
theorem facts_Tighten.tab10 : rtab .any (opsOf Try.f25 10) = facts_Tighten.T10 := by kernel_rfl
theorem facts_Tighten.bits10 : waitsOk facts_Tighten.T10.2 facts_Tighten.B10 = true := by kernel_rfl
set_option maxHeartbeats 8000000 in
set_option maxRecDepth 100000 in
theorem facts_Tighten.calls (k : Nat) (a0 : Int) (a1_0 : Int) (a1_1 : Int) (a1_2 : Int) (a1_3 : Int) (a1_4 : Int) (a1_5 : Int) (r1 : Int) (r2 : Int) (r3 : Int) (r4 : Int) (r5 : Int) (r6 : Int) (r7 : Bool) (w : World) (h : facts_Tighten.f k a0 a1_0 a1_1 a1_2 a1_3 a1_4 a1_5 = some (r1, r2, r3, r4, r5, r6, r7)) :
  Calls Try.prog 25 #[.int .i64 a0, .agg #[.int .u64 a1_0, .int .u64 a1_1, .int .u64 a1_2, .int .u64 a1_3, .int .i64 a1_4, .int .i64 a1_5]] w fun e w' => e = .returned (.tuple #[.agg #[.int .u64 r1, .int .u64 r2, .int .u64 r3, .int .u64 r4, .int .i64 r5, .int .i64 r6], .bool r7]) ∧ Below w.heap.size w w' := by
 have hu50 := Try.underlying50
 have hu30 := Try.underlying30
 have hu110 := Try.underlying110
 have HB := Aside0.mk (Below.refl w.heap.size w)
 have H : ((facts_Valid.f a0 a1_0 a1_1 a1_2 a1_3 a1_4 a1_5).bind fun t192 => (if t192 = true then ((bits_Mask.f a0).bind fun t193 => (if 0 ≤ (wrap64 (a0 - 1)) then (if (Go.bits .and .u64 a1_0 (shl .u64 1 (wrap64 (a0 - 1)))) = 0 then (facts_Tighten.j0 k a0 t193 (shl .u64 1 (wrap64 (a0 - 1))) (Go.bits .or .u64 a1_1 (shl .u64 1 (wrap64 (a0 - 1)))) (Go.bits .andNot .u64 t193 a1_0) a1_0 a1_1 (mx a1_2 a1_1) (mn a1_3 (Go.bits .andNot .u64 t193 a1_0)) a1_4 a1_5) else (facts_Tighten.j0 k a0 t193 (shl .u64 1 (wrap64 (a0 - 1))) a1_1 (Go.bits .andNot .u64 t193 a1_0) a1_0 a1_1 (mx a1_2 a1_1) (mn a1_3 (Go.bits .andNot .u64 t193 a1_0)) a1_4 a1_5)) else (none))) else (some (0, 0, 0, 0, 0, 0, false)))) = some (r1, r2, r3, r4, r5, r6, r7) := h
 clear h
 replace H := Option.bind_eq_some_iff.mp H
 obtain ⟨t192, A30, H⟩ := H
 replace H : (if t192 = true then ((bits_Mask.f a0).bind fun t193 => (if 0 ≤ (wrap64 (a0 - 1)) then (if (Go.bits .and .u64 a1_0 (shl .u64 1 (wrap64 (a0 - 1)))) = 0 then (facts_Tighten.j0 k a0 t193 (shl .u64 1 (wrap64 (a0 - 1))) (Go.bits .or .u64 a1_1 (shl .u64 1 (wrap64 (a0 - 1)))) (Go.bits .andNot .u64 t193 a1_0) a1_0 a1_1 (mx a1_2 a1_1) (mn a1_3 (Go.bits .andNot .u64 t193 a1_0)) a1_4 a1_5) else (facts_Tighten.j0 k a0 t193 (shl .u64 1 (wrap64 (a0 - 1))) a1_1 (Go.bits .andNot .u64 t193 a1_0) a1_0 a1_1 (mx a1_2 a1_1) (mn a1_3 (Go.bits .andNot .u64 t193 a1_0)) a1_4 a1_5)) else (none))) else (some (0, 0, 0, 0, 0, 0, false))) = some (r1, r2, r3, r4, r5, r6, r7) := H
 have A3 := Aside0.mk A30
 clear A30
 by_cases c4 : t192 = true
 ·
  subst c4
  have H1 : ((bits_Mask.f a0).bind fun t193 => (if 0 ≤ (wrap64 (a0 - 1)) then (if (Go.bits .and .u64 a1_0 (shl .u64 1 (wrap64 (a0 - 1)))) = 0 then (facts_Tighten.j0 k a0 t193 (shl .u64 1 (wrap64 (a0 - 1))) (Go.bits .or .u64 a1_1 (shl .u64 1 (wrap64 (a0 - 1)))) (Go.bits .andNot .u64 t193 a1_0) a1_0 a1_1 (mx a1_2 a1_1) (mn a1_3 (Go.bits .andNot .u64 t193 a1_0)) a1_4 a1_5) else (facts_Tighten.j0 k a0 t193 (shl .u64 1 (wrap64 (a0 - 1))) a1_1 (Go.bits .andNot .u64 t193 a1_0) a1_0 a1_1 (mx a1_2 a1_1) (mn a1_3 (Go.bits .andNot .u64 t193 a1_0)) a1_4 a1_5)) else (none))) = some (r1, r2, r3, r4, r5, r6, r7) := by rw [if_pos rfl] at H; exact H
  clear H
  have H := H1
  clear H1
  replace H := Option.bind_eq_some_iff.mp H
  obtain ⟨t193, A50, H⟩ := H
  replace H : (if 0 ≤ (wrap64 (a0 - 1)) then (if (Go.bits .and .u64 a1_0 (shl .u64 1 (wrap64 (a0 - 1)))) = 0 then (facts_Tighten.j0 k a0 t193 (shl .u64 1 (wrap64 (a0 - 1))) (Go.bits .or .u64 a1_1 (shl .u64 1 (wrap64 (a0 - 1)))) (Go.bits .andNot .u64 t193 a1_0) a1_0 a1_1 (mx a1_2 a1_1) (mn a1_3 (Go.bits .andNot .u64 t193 a1_0)) a1_4 a1_5) else (facts_Tighten.j0 k a0 t193 (shl .u64 1 (wrap64 (a0 - 1))) a1_1 (Go.bits .andNot .u64 t193 a1_0) a1_0 a1_1 (mx a1_2 a1_1) (mn a1_3 (Go.bits .andNot .u64 t193 a1_0)) a1_4 a1_5)) else (none)) = some (r1, r2, r3, r4, r5, r6, r7) := H
  have A5 := Aside0.mk A50
  clear A50
  obtain ⟨ji6, hji6⟩ : ∃ j_ : Int, (wrap64 (a0 - 1)) = j_ := ⟨_, rfl⟩
  replace H : (if 0 ≤ (ji6) then (if (Go.bits .and .u64 a1_0 (shl .u64 1 (ji6))) = 0 then (facts_Tighten.j0 k a0 t193 (shl .u64 1 (ji6)) (Go.bits .or .u64 a1_1 (shl .u64 1 (ji6))) (Go.bits .andNot .u64 t193 a1_0) a1_0 a1_1 (mx a1_2 a1_1) (mn a1_3 (Go.bits .andNot .u64 t193 a1_0)) a1_4 a1_5) else (facts_Tighten.j0 k a0 t193 (shl .u64 1 (ji6)) a1_1 (Go.bits .andNot .u64 t193 a1_0) a1_0 a1_1 (mx a1_2 a1_1) (mn a1_3 (Go.bits .andNot .u64 t193 a1_0)) a1_4 a1_5)) else (none)) = some (r1, r2, r3, r4, r5, r6, r7) := by first | (rw [hji6] at H; exact H) | (simp only [hji6] at H ⊢; exact H)
  (try rw [hji6] at A3)
  (try rw [hji6] at A5)
  have hji6w : (IntKind.i64.wrap (a0 - 1)) = ji6 := (i64_w _).trans hji6
  by_cases c7 : 0 ≤ (ji6)
  ·
   rw [if_pos c7] at H
   have c7b0 := eq_true c7
   have c7b1 : decide (0 ≤ (ji6)) = true := decide_eq_true c7
   clear c7
   obtain ⟨ji8, hji8⟩ : ∃ j_ : Int, (shl .u64 1 (ji6)) = j_ := ⟨_, rfl⟩
   replace H : (if (Go.bits .and .u64 a1_0 (ji8)) = 0 then (facts_Tighten.j0 k a0 t193 ji8 (Go.bits .or .u64 a1_1 (ji8)) (Go.bits .andNot .u64 t193 a1_0) a1_0 a1_1 (mx a1_2 a1_1) (mn a1_3 (Go.bits .andNot .u64 t193 a1_0)) a1_4 a1_5) else (facts_Tighten.j0 k a0 t193 ji8 a1_1 (Go.bits .andNot .u64 t193 a1_0) a1_0 a1_1 (mx a1_2 a1_1) (mn a1_3 (Go.bits .andNot .u64 t193 a1_0)) a1_4 a1_5)) = some (r1, r2, r3, r4, r5, r6, r7) := by first | (rw [hji8] at H; exact H) | (simp only [hji8] at H ⊢; exact H)
   (try rw [hji8] at A3)
   (try rw [hji8] at A5)
   have hji8_ : (IntKind.u64.wrap (1 * 2 ^ min (ji6).toNat 64)) = ji8 := hji8
   have hji8z : (ji6) ≤ 64 → (IntKind.u64.wrap (1 * 2 ^ (ji6).toNat)) = ji8 := shl_small hji8
   have hji8u : (IntKind.u64.wrap (2 ^ min (ji6).toNat 64)) = ji8 := by have h_ := hji8_; rw [Int.one_mul] at h_; exact h_
   have hji8v : (ji6) ≤ 64 → (IntKind.u64.wrap (2 ^ (ji6).toNat)) = ji8 := fun hle_ => by have h_ := hji8z hle_; rw [Int.one_mul] at h_; exact h_
   obtain ⟨ji9, hji9⟩ : ∃ j_ : Int, (mx a1_2 a1_1) = j_ := ⟨_, rfl⟩
   replace H : (if (Go.bits .and .u64 a1_0 (ji8)) = 0 then (facts_Tighten.j0 k a0 t193 ji8 (Go.bits .or .u64 a1_1 (ji8)) (Go.bits .andNot .u64 t193 a1_0) a1_0 a1_1 ji9 (mn a1_3 (Go.bits .andNot .u64 t193 a1_0)) a1_4 a1_5) else (facts_Tighten.j0 k a0 t193 ji8 a1_1 (Go.bits .andNot .u64 t193 a1_0) a1_0 a1_1 ji9 (mn a1_3 (Go.bits .andNot .u64 t193 a1_0)) a1_4 a1_5)) = some (r1, r2, r3, r4, r5, r6, r7) := by first | (rw [hji9] at H; exact H) | (simp only [hji9] at H ⊢; exact H)
   (try rw [hji9] at A3)
   (try rw [hji9] at A5)
   have hji9_ : (if a1_2 < a1_1 then a1_1 else a1_2) = ji9 := hji9
   obtain ⟨ji10, hji10⟩ : ∃ j_ : Int, (mn a1_3 (Go.bits .andNot .u64 t193 a1_0)) = j_ := ⟨_, rfl⟩
   replace H : (if (Go.bits .and .u64 a1_0 (ji8)) = 0 then (facts_Tighten.j0 k a0 t193 ji8 (Go.bits .or .u64 a1_1 (ji8)) (Go.bits .andNot .u64 t193 a1_0) a1_0 a1_1 ji9 ji10 a1_4 a1_5) else (facts_Tighten.j0 k a0 t193 ji8 a1_1 (Go.bits .andNot .u64 t193 a1_0) a1_0 a1_1 ji9 ji10 a1_4 a1_5)) = some (r1, r2, r3, r4, r5, r6, r7) := by first | (rw [hji10] at H; exact H) | (simp only [hji10] at H ⊢; exact H)
   (try rw [hji10] at A3)
   (try rw [hji10] at A5)
   have hji10_ : (if (Go.bits .andNot .u64 t193 a1_0) < a1_3 then (Go.bits .andNot .u64 t193 a1_0) else a1_3) = ji10 := hji10
   have HC11 := Aside0.mk H
   clear H
   go_enter Try.func25, Try.ntmps25
   try go_wp2_with (first | ((with_reducible refine gate_dst (N := 3) rfl ?_); refine box_event ?hg (N := 3) ?hd (cs := #[.int .u64 a1_0, .int .u64 a1_1, .int .u64 a1_2, .int .u64 a1_3, .int .i64 a1_4, .int .i64 a1_5]) (t := 50) ?hr ?_; (case hd => rfl); (case hg => rfl); (case hr => first | (go_simp; done) | (go_simp; rfl)); intro gb190 hg w12 hbox hb; have n0_ := bsB HB.out hb; have n1_ := Aside0.mk (hbox); have n2_ := szB hg HB.out; have n3_ := szB hg HB.out; clear HB; have HB := n0_; have BK190 := n1_; have GW190 := n2_; have GE190 := n3_; clear n0_ n1_ n2_ n3_; clear hb hbox hg) | ((with_reducible refine gate_dst (N := 4) rfl ?_); refine box_event ?hg (N := 4) ?hd (cs := #[.int .u64 0, .int .u64 0, .int .u64 0, .int .u64 0, .int .i64 0, .int .i64 0]) (t := 50) ?hr ?_; (case hd => rfl); (case hg => rfl); (case hr => first | (go_simp; done) | (go_simp; rfl)); intro gb191 hg w13 hbox hb; have n0_ := bkB BK190.out hb; have n1_ := bsB HB.out hb; have n2_ := Aside0.mk (hbox); have n3_ := szB hg HB.out; have n4_ := szB hg HB.out; have n5_ := Aside0.mk ((by rw [hg]; exact Nat.ne_of_lt (blk_lt (g := gb190) (o := .cells #[.int .u64 a1_0, .int .u64 a1_1, .int .u64 a1_2, .int .u64 a1_3, .int .i64 a1_4, .int .i64 a1_5] 50 (0, 0)) (by exact bfL BK190.out)) : gb190 ≠ gb191)); have n6_ := Aside0.mk ((by rw [hg]; exact Nat.ne_of_gt (blk_lt (g := gb190) (o := .cells #[.int .u64 a1_0, .int .u64 a1_1, .int .u64 a1_2, .int .u64 a1_3, .int .i64 a1_4, .int .i64 a1_5] 50 (0, 0)) (by exact bfL BK190.out)) : gb191 ≠ gb190)); clear BK190; clear HB; have BK190 := n0_; have HB := n1_; have BK191 := n2_; have GW191 := n3_; have GE191 := n4_; have NB190_191 := n5_; have NB191_190 := n6_; clear n0_ n1_ n2_ n3_ n4_ n5_ n6_; clear hb hbox hg; have hnb14 := NB190_191.out; have hnc14 := NB191_190.out; have hcz15_0 : w13.cell? ⟨gb190, 0, none⟩ = some (.int .u64 a1_0) := (blk_cell BK190.out 0).trans rfl; have hcz15_1 : w13.cell? ⟨gb190, 1, none⟩ = some (.int .u64 a1_1) := (blk_cell BK190.out 1).trans rfl; have hcz15_2 : w13.cell? ⟨gb190, 2, none⟩ = some (.int .u64 a1_2) := (blk_cell BK190.out 2).trans rfl; have hcz15_3 : w13.cell? ⟨gb190, 3, none⟩ = some (.int .u64 a1_3) := (blk_cell BK190.out 3).trans rfl; have hcz15_4 : w13.cell? ⟨gb190, 4, none⟩ = some (.int .i64 a1_4) := (blk_cell BK190.out 4).trans rfl; have hcz15_5 : w13.cell? ⟨gb190, 5, none⟩ = some (.int .i64 a1_5) := (blk_cell BK190.out 5).trans rfl; have hfz15_0 := blk_frozen BK190.out 0; have hfz15_1 := blk_frozen BK190.out 1; have hfz15_2 := blk_frozen BK190.out 2; have hfz15_3 := blk_frozen BK190.out 3; have hfz15_4 := blk_frozen BK190.out 4; have hfz15_5 := blk_frozen BK190.out 5) | ((with_reducible refine gate_callee (f := 34) rfl ?_); refine gL (some 16) Try.func34 #[.int .i64 a0, .agg #[.int .u64 a1_0, .int .u64 a1_1, .int .u64 a1_2, .int .u64 a1_3, .int .i64 a1_4, .int .i64 a1_5]] ?_; (with_reducible refine (facts_Valid.calls a0 a1_0 a1_1 a1_2 a1_3 a1_4 a1_5 true _ A3.out).mono ?_); rintro e w16 ⟨rfl, hb⟩; refine ⟨_, rfl, ?_⟩; have n0_ := bkB BK190.out hb; have n1_ := bkB BK191.out hb; have n2_ := bsB HB.out hb; clear BK190; clear BK191; clear HB; have BK190 := n0_; have BK191 := n1_; have HB := n2_; clear n0_ n1_ n2_; (try clear hb); (try clear hb2); (try clear hk); (try clear hi)))
   have n0_ := Aside0.mk (blk_drew BK190.out)
   have n1_ := Aside0.mk (blk_drew BK191.out)
   have n2_ := Aside0.mk (below_drew1 HB.out)
   clear BK190
   clear BK191
   clear HB
   have BK190 := n0_
   have BK191 := n1_
   have HB := n2_
   clear n0_ n1_ n2_
   refine start_ (n := 7) (S := fun w' => True) (ds := []) (bA 7 0) (by kernel_rfl) rfl rfl trivial (fun hHeld => ?_)
   generalize w16.drew = w17 at BK190 BK191 HB hHeld ⊢
   refine pure_ (i := 0) (N := some 19) (v := ?_) (a' := ?_) (bA 7 1) rfl rfl (by kernel_rfl) (fun _ _ _ h => h) (Or.inl ⟨by rfl, ?_⟩) ?_ ?_
   rotate_left
   ·
    intro w'
    go_simp
    with_reducible rfl
   rotate_left
   ·
    simp only [Act.put, List.setIfInBounds_toArray, List.set_cons_zero, List.set_cons_succ, i64_w, i32_w]
    rfl
   refine pure_ (i := 2) (N := some 21) (v := ?_) (a' := ?_) (bA 7 5) rfl rfl (by kernel_rfl) (fun _ _ _ h => h) (Or.inl ⟨by rfl, ?_⟩) ?_ ?_
   rotate_left
   ·
    intro w'
    go_simp
    with_reducible rfl
   rotate_left
   ·
    simp only [Act.put, List.setIfInBounds_toArray, List.set_cons_zero, List.set_cons_succ, i64_w, i32_w]
    rfl
   refine pure_ (i := 3) (N := some 22) (v := ?_) (a' := ?_) (bA 7 13) rfl rfl (by kernel_rfl) (fun _ _ _ h => h) (Or.inl ⟨by rfl, ?_⟩) ?_ ?_
   rotate_left
   ·
    intro w'
    go_simp
    with_reducible rfl
   rotate_left
   ·
    simp only [Act.put, List.setIfInBounds_toArray, List.set_cons_zero, List.set_cons_succ, i64_w, i32_w]
    rfl
   refine pure_ (i := 4) (N := some 23) (v := ?_) (a' := ?_) (bA 7 29) rfl rfl (by kernel_rfl) (fun _ _ _ h => h) (Or.inl ⟨by rfl, ?_⟩) ?_ ?_
   rotate_left
   ·
    intro w'
    go_simp
    with_reducible rfl
   rotate_left
   ·
    simp only [Act.put, List.setIfInBounds_toArray, List.set_cons_zero, List.set_cons_succ, i64_w, i32_w]
    rfl
   refine one_ (i := 1) (N := some 20) (bA 7 31) rfl rfl (by kernel_rfl) (by decide) (fun K hK => ?_)
   refine gO Try.func56 #[.int .i64 a0] ?_
   with_reducible refine (bits_Mask.calls a0 t193 _ A5.out).mono ?_
   rintro e w18 ⟨rfl, hb⟩
   refine ⟨_, rfl, ?_⟩
   replace BK190 := bkB BK190.out hb
   replace BK191 := bkB BK191.out hb
   replace HB := bsB HB.out hb
   (try clear hb)
   refine hK.out _ _ trivial (fun hHeld => ?_)
   clear hK K
   refine normA (some 20) ?_
   refine pure_ (i := 5) (N := some 6) (v := ?_) (a' := ?_) (bA 7 63) rfl rfl (by kernel_rfl) (fun _ _ _ h => h) (Or.inl ⟨by rfl, ?_⟩) ?_ ?_
   rotate_left
   ·
    intro w'
    go_simp
    with_reducible rfl
   rotate_left
   ·
    simp only [Act.put, List.setIfInBounds_toArray, List.set_cons_zero, List.set_cons_succ, i64_w, i32_w]
    rfl
   refine pure_ (i := 6) (N := some 7) (v := ?_) (a' := ?_) (bA 7 127) rfl rfl (by kernel_rfl) (fun _ _ _ h => h) (Or.inl ⟨by rfl, ?_⟩) ?_ ?_
   rotate_left
   ·
    intro w'
    go_simp
    with_reducible rfl
   rotate_left
   ·
    simp only [Act.put, List.setIfInBounds_toArray, List.set_cons_zero, List.set_cons_succ, i64_w, i32_w]
    rfl
   refine done_ (by kernel_rfl) ?_
   try go_wp2
   have n0_ := Aside0.mk (blk_drew BK190.out)
   have n1_ := Aside0.mk (blk_drew BK191.out)
   have n2_ := Aside0.mk (below_drew1 HB.out)
   clear BK190
   clear BK191
   clear HB
   have BK190 := n0_
   have BK191 := n1_
   have HB := n2_
   clear n0_ n1_ n2_
   refine start_ (n := 8) (S := fun w' => w'.cell? ⟨gb190, 0, none⟩ = some (.int .u64 a1_0) ∧ w'.cell? ⟨gb190, 1, none⟩ = some (.int .u64 a1_1) ∧ w'.cell? ⟨gb190, 2, none⟩ = some (.int .u64 a1_2) ∧ w'.cell? ⟨gb190, 3, none⟩ = some (.int .u64 a1_3) ∧ w'.cell? ⟨gb190, 4, none⟩ = some (.int .i64 a1_4) ∧ w'.cell? ⟨gb190, 5, none⟩ = some (.int .i64 a1_5)) (ds := []) (bA 8 0) (by kernel_rfl) rfl rfl (by repeat' (first | apply And.intro | exact (blk_cell BK190.out _).trans rfl)) (fun hHeld => ?_); refine with_tabW facts_Tighten.tab4 facts_Tighten.bits4 (fun HT_ HW_ => ?_)
   generalize w18.drew = w19 at BK190 BK191 HB hHeld ⊢
   refine pureA HT_ (i := 0) (N := some 24) (bA 8 1) ?_
   refine pureA HT_ (i := 2) (N := some 26) (bA 8 5) ?_
   refine pureA HT_ (i := 3) (N := some 27) (bA 8 13) ?_
   refine takeA HT_ HW_ hHeld (i := 1) (N := some 25) (bA 8 15) ?_ (hy := by rintro w' ⟨s0, s1, s2, s3, s4, s5⟩; go_simp; with_reducible rfl)
   refine pureA HT_ (i := 6) (N := some 8) (bA 8 79) ?_
   refine takeA HT_ HW_ hHeld (i := 4) (N := some 28) (bA 8 95) ?_ (hy := by rintro w' ⟨s0, s1, s2, s3, s4, s5⟩; go_simp; with_reducible rfl)
   refine pureA HT_ (i := 5) (N := some 29) (bA 8 127) ?_
   refine pureA HT_ (i := 7) (N := some 9) (bA 8 255) ?_
   refine done_ (done_of HT_.out (by kernel_rfl)) ?_
   have hcz20_0 : w19.cell? ⟨gb190, 0, none⟩ = some (.int .u64 a1_0) := (blk_cell BK190.out 0).trans rfl
   have hcz20_1 : w19.cell? ⟨gb190, 1, none⟩ = some (.int .u64 a1_1) := (blk_cell BK190.out 1).trans rfl
   have hcz20_2 : w19.cell? ⟨gb190, 2, none⟩ = some (.int .u64 a1_2) := (blk_cell BK190.out 2).trans rfl
   have hcz20_3 : w19.cell? ⟨gb190, 3, none⟩ = some (.int .u64 a1_3) := (blk_cell BK190.out 3).trans rfl
   have hcz20_4 : w19.cell? ⟨gb190, 4, none⟩ = some (.int .i64 a1_4) := (blk_cell BK190.out 4).trans rfl
   have hcz20_5 : w19.cell? ⟨gb190, 5, none⟩ = some (.int .i64 a1_5) := (blk_cell BK190.out 5).trans rfl
   have hfz20_0 := blk_frozen BK190.out 0
   have hfz20_1 := blk_frozen BK190.out 1
   have hfz20_2 := blk_frozen BK190.out 2
   have hfz20_3 := blk_frozen BK190.out 3
   have hfz20_4 := blk_frozen BK190.out 4
   have hfz20_5 := blk_frozen BK190.out 5
   go_upto_if 44 with (fail)
   go_cut [8] (fun v8 wc => ∃ (kq : Nat) (x8_10 : Int), v8 = .int .u64 x8_10 ∧ Aside0 (facts_Tighten.j0 kq a0 t193 ji8 x8_10 (Go.bits .andNot .u64 t193 a1_0) a1_0 a1_1 ji9 ji10 a1_4 a1_5 = some (r1, r2, r3, r4, r5, r6, r7)) ∧ Aside0 (kq ≤ k) ∧ Aside0 (wc.heap[gb190]? = some (.cells #[.int .u64 a1_0, .int .u64 a1_1, .int .u64 ji9, .int .u64 ji10, .int .i64 a1_4, .int .i64 a1_5] 50 (0, 0))) ∧ Aside0 (wc.heap[gb191]? = some (.cells #[.int .u64 0, .int .u64 0, .int .u64 0, .int .u64 0, .int .i64 0, .int .i64 0] 50 (0, 0))) ∧ Aside0 (Below w.heap.size w wc))
   case first =>
    have H := HC11.out
    clear HC11
    by_cases c21 : (Go.bits .and .u64 a1_0 (ji8)) = 0
    ·
     rw [if_pos c21] at H
     have c21b0 : ((Go.bits .and .u64 a1_0 (ji8)) == 0) = true := beq_iff_eq.mpr c21
     have c21b1 : ((Go.bits .and .u64 a1_0 (ji8)) != 0) = false := bne_eq_false_iff_eq.mpr c21
     clear c21
     (first | rw [c21b0] | (simp only [i64_w, i32_w]; rw [c21b0]) | skip)
     have H' := Aside0.mk H
     clear H
     go_wp2
     go_meet
     case rel => exact ⟨_, (Go.bits .or .u64 a1_1 (ji8)), (by first | rfl | (simp; done) | (simp only [← hji8] <;> (first | rfl | simp)) | (simp [*]; done)), H', ⟨by first | omega | exact Nat.le_refl _⟩, ⟨by (with_reducible repeat (first | refine blk_drewN ?_ _ | refine blk_drew ?_ | refine blk_alloc ?_ _)); refine blk_put (cs := #[.int .u64 a1_0, .int .u64 a1_1, .int .u64 ji9, .int .u64 a1_3, .int .i64 a1_4, .int .i64 a1_5]) ?_ 3 _ rfl; (with_reducible repeat (first | refine blk_drewN ?_ _ | refine blk_drew ?_ | refine blk_alloc ?_ _)); refine blk_put (cs := #[.int .u64 a1_0, .int .u64 a1_1, .int .u64 a1_2, .int .u64 a1_3, .int .i64 a1_4, .int .i64 a1_5]) ?_ 2 _ rfl; exact bfL BK190.out⟩, ⟨by exact bfL BK191.out⟩, ⟨bsL HB.out⟩⟩
    ·
     rw [if_neg c21] at H
     have c21b0 : ((Go.bits .and .u64 a1_0 (ji8)) == 0) = false := beq_eq_false_iff_ne.mpr c21
     have c21b1 : ((Go.bits .and .u64 a1_0 (ji8)) != 0) = true := bne_iff_ne.mpr c21
     (first | rw [c21b0] | (simp only [i64_w, i32_w]; rw [c21b0]) | skip)
     have H' := Aside0.mk H
     clear H
     go_wp2
     go_meet
     case rel => exact ⟨_, (a1_1), (by first | rfl | (simp; done) | (simp [*]; done)), H', ⟨by first | omega | exact Nat.le_refl _⟩, ⟨by (with_reducible repeat (first | refine blk_drewN ?_ _ | refine blk_drew ?_ | refine blk_alloc ?_ _)); refine blk_put (cs := #[.int .u64 a1_0, .int .u64 a1_1, .int .u64 ji9, .int .u64 a1_3, .int .i64 a1_4, .int .i64 a1_5]) ?_ 3 _ rfl; (with_reducible repeat (first | refine blk_drewN ?_ _ | refine blk_drew ?_ | refine blk_alloc ?_ _)); refine blk_put (cs := #[.int .u64 a1_0, .int .u64 a1_1, .int .u64 a1_2, .int .u64 a1_3, .int .i64 a1_4, .int .i64 a1_5]) ?_ 2 _ rfl; exact bfL BK190.out⟩, ⟨by exact bfL BK191.out⟩, ⟨bsL HB.out⟩⟩
   case rest =>
    clear HC11
    try clear c1
    try clear c2
    try clear p2
    try clear c3
    try clear c4
    try clear c5
    try clear p6
    try clear c7
    try clear c7b0
    try clear c7b1
    try clear c14
    try clear c21
    try clear c21b0
    try clear c21b1
    try clear hcz15_0
    try clear hcz15_1
    try clear hcz15_2
    try clear hcz15_3
    try clear hcz15_4
    try clear hcz15_5
    try clear hcz20_0
    try clear hcz20_1
    try clear hcz20_2
    try clear hcz20_3
    try clear hcz20_4
    try clear hcz20_5
    try clear hfz15_0
    try clear hfz15_1
    try clear hfz15_2
    try clear hfz15_3
    try clear hfz15_4
    try clear hfz15_5
    try clear hfz20_0
    try clear hfz20_1
    try clear hfz20_2
    try clear hfz20_3
    try clear hfz20_4
    try clear hfz20_5
    obtain ⟨kq, x8_10, rfl, HA, HJ10, BK190, BK191, HB⟩ := hcut
    cases kq with
    | zero => exact absurd HA.out (by simp [facts_Tighten.j0])
    | succ kj10 =>
     have H := HA.out
     clear HA
     simp only [facts_Tighten.j0] at H
     have HC22 := Aside0.mk H
     clear H
     have hnb23 := NB190_191.out
     have hnc23 := NB191_190.out
     have hcz24_0 : wc.cell? ⟨gb190, 0, none⟩ = some (.int .u64 a1_0) := (blk_cell BK190.out 0).trans rfl
     have hcz24_1 : wc.cell? ⟨gb190, 1, none⟩ = some (.int .u64 a1_1) := (blk_cell BK190.out 1).trans rfl
     have hcz24_2 : wc.cell? ⟨gb190, 2, none⟩ = some (.int .u64 ji9) := (blk_cell BK190.out 2).trans rfl
     have hcz24_3 : wc.cell? ⟨gb190, 3, none⟩ = some (.int .u64 ji10) := (blk_cell BK190.out 3).trans rfl
     have hcz24_4 : wc.cell? ⟨gb190, 4, none⟩ = some (.int .i64 a1_4) := (blk_cell BK190.out 4).trans rfl
     have hcz24_5 : wc.cell? ⟨gb190, 5, none⟩ = some (.int .i64 a1_5) := (blk_cell BK190.out 5).trans rfl
     have hfz24_0 := blk_frozen BK190.out 0
     have hfz24_1 := blk_frozen BK190.out 1
     have hfz24_2 := blk_frozen BK190.out 2
     have hfz24_3 := blk_frozen BK190.out 3
     have hfz24_4 := blk_frozen BK190.out 4
     have hfz24_5 := blk_frozen BK190.out 5
     go_upto_if 52 with (fail)
     go_cut [9] (fun v9 wc => ∃ (kq : Nat) (x9_21 : Int), v9 = .int .u64 x9_21 ∧ Aside0 (facts_Tighten.j1 kq a0 t193 x8_10 x9_21 a1_0 a1_1 ji9 ji10 a1_4 a1_5 = some (r1, r2, r3, r4, r5, r6, r7)) ∧ Aside0 (kq ≤ kj10) ∧ Aside0 (wc.heap[gb190]? = some (.cells #[.int .u64 a1_0, .int .u64 a1_1, .int .u64 ji9, .int .u64 ji10, .int .i64 a1_4, .int .i64 a1_5] 50 (0, 0))) ∧ Aside0 (wc.heap[gb191]? = some (.cells #[.int .u64 0, .int .u64 0, .int .u64 0, .int .u64 0, .int .i64 0, .int .i64 0] 50 (0, 0))) ∧ Aside0 (Below w.heap.size w wc))
     case first =>
      have H := HC22.out
      clear HC22
      by_cases c25 : (Go.bits .and .u64 a1_1 ji8) = 0
      ·
       rw [if_pos c25] at H
       have c25b0 : ((Go.bits .and .u64 a1_1 ji8) == 0) = true := beq_iff_eq.mpr c25
       have c25b1 : ((Go.bits .and .u64 a1_1 ji8) != 0) = false := bne_eq_false_iff_eq.mpr c25
       clear c25
       (first | rw [c25b0] | (simp only [i64_w, i32_w]; rw [c25b0]) | skip)
       have H' := Aside0.mk H
       clear H
       go_wp2
       go_meet
       case rel => exact ⟨_, (Go.bits .andNot .u64 (Go.bits .andNot .u64 t193 a1_0) ji8), (by first | rfl | (simp; done) | (simp only [← hji8] <;> (first | rfl | simp)) | (simp [*]; done)), H', ⟨by have := HJ10.out; first | omega | exact Nat.le_refl _⟩, ⟨bkL BK190.out⟩, ⟨bkL BK191.out⟩, ⟨bsL HB.out⟩⟩
      ·
       rw [if_neg c25] at H
       have c25b0 : ((Go.bits .and .u64 a1_1 ji8) == 0) = false := beq_eq_false_iff_ne.mpr c25
       have c25b1 : ((Go.bits .and .u64 a1_1 ji8) != 0) = true := bne_iff_ne.mpr c25
       (first | rw [c25b0] | (simp only [i64_w, i32_w]; rw [c25b0]) | skip)
       have H' := Aside0.mk H
       clear H
       go_wp2
       go_meet
       case rel => exact ⟨_, ((Go.bits .andNot .u64 t193 a1_0)), (by first | rfl | (simp; done) | (simp [*]; done)), H', ⟨by have := HJ10.out; first | omega | exact Nat.le_refl _⟩, ⟨bkL BK190.out⟩, ⟨bkL BK191.out⟩, ⟨bsL HB.out⟩⟩
     case rest =>
      clear HC22
      try clear c1
      try clear c2
      try clear p2
      try clear c3
      try clear c4
      try clear c5
      try clear p6
      try clear c7
      try clear c7b0
      try clear c7b1
      try clear c14
      try clear c21
      try clear c21b0
      try clear c21b1
      try clear c23
      try clear c25
      try clear c25b0
      try clear c25b1
      try clear hcz15_0
      try clear hcz15_1
      try clear hcz15_2
      try clear hcz15_3
      try clear hcz15_4
      try clear hcz15_5
      try clear hcz20_0
      try clear hcz20_1
      try clear hcz20_2
      try clear hcz20_3
      try clear hcz20_4
      try clear hcz20_5
      try clear hcz24_0
      try clear hcz24_1
      try clear hcz24_2
      try clear hcz24_3
      try clear hcz24_4
      try clear hcz24_5
      try clear hfz15_0
      try clear hfz15_1
      try clear hfz15_2
      try clear hfz15_3
      try clear hfz15_4
      try clear hfz15_5
      try clear hfz20_0
      try clear hfz20_1
      try clear hfz20_2
      try clear hfz20_3
      try clear hfz20_4
      try clear hfz20_5
      try clear hfz24_0
      try clear hfz24_1
      try clear hfz24_2
      try clear hfz24_3
      try clear hfz24_4
      try clear hfz24_5
      try clear p2
      try clear p6
      obtain ⟨kq, x9_21, rfl, HA, HJ21, BK190, BK191, HB⟩ := hcut
      cases kq with
      | zero => exact absurd HA.out (by simp [facts_Tighten.j1])
      | succ kj21 =>
       have H := HA.out
       clear HA
       simp only [facts_Tighten.j1] at H
       replace H := Option.bind_eq_some_iff.mp H
       obtain ⟨t194, A260, H⟩ := H
       replace H : ((bits_Signed.f a0 x9_21).bind fun t195 => (if ji9 > ji10 then (facts_Tighten.j2 kj21 a0 t193 true a1_0 a1_1 ji9 ji10 (mx a1_4 t194) (mn a1_5 t195)) else (facts_Tighten.j2 kj21 a0 t193 (decide ((mx a1_4 t194) > (mn a1_5 t195))) a1_0 a1_1 ji9 ji10 (mx a1_4 t194) (mn a1_5 t195)))) = some (r1, r2, r3, r4, r5, r6, r7) := H
       have A26 := Aside0.mk A260
       clear A260
       obtain ⟨ji27, hji27⟩ : ∃ j_ : Int, (mx a1_4 t194) = j_ := ⟨_, rfl⟩
       replace H : ((bits_Signed.f a0 x9_21).bind fun t195 => (if ji9 > ji10 then (facts_Tighten.j2 kj21 a0 t193 true a1_0 a1_1 ji9 ji10 ji27 (mn a1_5 t195)) else (facts_Tighten.j2 kj21 a0 t193 (decide ((ji27) > (mn a1_5 t195))) a1_0 a1_1 ji9 ji10 ji27 (mn a1_5 t195)))) = some (r1, r2, r3, r4, r5, r6, r7) := by first | (rw [hji27] at H; exact H) | (simp only [hji27] at H ⊢; exact H)
       (try rw [hji27] at A26)
       have hji27_ : (if a1_4 < t194 then t194 else a1_4) = ji27 := hji27
       replace H := Option.bind_eq_some_iff.mp H
       obtain ⟨t195, A280, H⟩ := H
       replace H : (if ji9 > ji10 then (facts_Tighten.j2 kj21 a0 t193 true a1_0 a1_1 ji9 ji10 ji27 (mn a1_5 t195)) else (facts_Tighten.j2 kj21 a0 t193 (decide ((ji27) > (mn a1_5 t195))) a1_0 a1_1 ji9 ji10 ji27 (mn a1_5 t195))) = some (r1, r2, r3, r4, r5, r6, r7) := H
       have A28 := Aside0.mk A280
       clear A280
       obtain ⟨ji29, hji29⟩ : ∃ j_ : Int, (mn a1_5 t195) = j_ := ⟨_, rfl⟩
       replace H : (if ji9 > ji10 then (facts_Tighten.j2 kj21 a0 t193 true a1_0 a1_1 ji9 ji10 ji27 ji29) else (facts_Tighten.j2 kj21 a0 t193 (decide ((ji27) > (ji29))) a1_0 a1_1 ji9 ji10 ji27 ji29)) = some (r1, r2, r3, r4, r5, r6, r7) := by first | (rw [hji29] at H; exact H) | (simp only [hji29] at H ⊢; exact H)
       (try rw [hji29] at A26)
       (try rw [hji29] at A28)
       have hji29_ : (if t195 < a1_5 then t195 else a1_5) = ji29 := hji29
       have HC30 := Aside0.mk H
       clear H
       try go_wp2
       have n0_ := Aside0.mk (blk_drew BK190.out)
       have n1_ := Aside0.mk (blk_drew BK191.out)
       have n2_ := Aside0.mk (below_drew1 HB.out)
       clear BK190
       clear BK191
       clear HB
       have BK190 := n0_
       have BK191 := n1_
       have HB := n2_
       clear n0_ n1_ n2_
       refine start_ (n := 16) (S := fun w' => w'.cell? ⟨gb190, 0, none⟩ = some (.int .u64 a1_0) ∧ w'.cell? ⟨gb190, 1, none⟩ = some (.int .u64 a1_1) ∧ w'.cell? ⟨gb190, 2, none⟩ = some (.int .u64 ji9) ∧ w'.cell? ⟨gb190, 3, none⟩ = some (.int .u64 ji10) ∧ w'.cell? ⟨gb190, 4, none⟩ = some (.int .i64 a1_4) ∧ w'.cell? ⟨gb190, 5, none⟩ = some (.int .i64 a1_5)) (ds := [13, 15]) (bA 16 0) (by kernel_rfl) rfl rfl (by repeat' (first | apply And.intro | exact (blk_cell BK190.out _).trans rfl)) (fun hHeld => ?_); refine with_tabW facts_Tighten.tab10 facts_Tighten.bits10 (fun HT_ HW_ => ?_)
       generalize wc.drew = w31 at BK190 BK191 HB hHeld ⊢
       refine pureA HT_ (i := 0) (N := some 56) (bA 16 1) ?_
       refine pureA HT_ (i := 2) (N := some 58) (bA 16 5) ?_
       refine pureA HT_ (i := 3) (N := some 59) (bA 16 13) ?_
       refine pureA HT_ (i := 6) (N := some 62) (bA 16 77) ?_
       refine pureA HT_ (i := 8) (N := some 64) (bA 16 333) ?_
       refine pureA HT_ (i := 9) (N := some 65) (bA 16 845) ?_
       refine takeA HT_ HW_ hHeld (i := 1) (N := some 57) (bA 16 847) ?_ (hy := by rintro w' ⟨s0, s1, s2, s3, s4, s5⟩; go_simp; with_reducible rfl)
       refine takeA HT_ HW_ hHeld (i := 7) (N := some 63) (bA 16 975) ?_ (hy := by rintro w' ⟨s0, s1, s2, s3, s4, s5⟩; go_simp; with_reducible rfl)
       refine one_ (i := 4) (N := some 60) (bA 16 991) rfl rfl (one_of HT_.out (by kernel_rfl)) (by decide) (fun K hK => ?_)
       refine gO Try.func68 #[.int .i64 a0, .int .u64 x8_10] ?_
       with_reducible refine (bits_Signed.calls a0 x8_10 t194 _ A26.out).mono ?_
       rintro e w32 ⟨rfl, hb⟩
       refine ⟨_, rfl, ?_⟩
       replace BK190 := bkB BK190.out hb
       replace BK191 := bkB BK191.out hb
       replace HB := bsB HB.out hb
       (try clear hb)
       refine hK.out _ _ (by repeat' (first | apply And.intro | exact (blk_cell BK190.out _).trans rfl)) (fun hHeld => ?_)
       clear hK K
       refine normA (some 60) ?_
       refine pureA HT_ (i := 5) (N := some 61) (bA 16 1023) ?_
       refine pureA HT_ (i := 12) (N := some 68) (bA 16 5119) ?_
       refine one_ (i := 10) (N := some 66) (bA 16 6143) rfl rfl (one_of HT_.out (by kernel_rfl)) (by decide) (fun K hK => ?_)
       refine gO Try.func68 #[.int .i64 a0, .int .u64 x9_21] ?_
       with_reducible refine (bits_Signed.calls a0 x9_21 t195 _ A28.out).mono ?_
       rintro e w33 ⟨rfl, hb⟩
       refine ⟨_, rfl, ?_⟩
       replace BK190 := bkB BK190.out hb
       replace BK191 := bkB BK191.out hb
       replace HB := bsB HB.out hb
       (try clear hb)
       refine hK.out _ _ (by repeat' (first | apply And.intro | exact (blk_cell BK190.out _).trans rfl)) (fun hHeld => ?_)
       clear hK K
       refine normA (some 66) ?_
       refine pureA HT_ (i := 11) (N := some 67) (bA 16 8191) ?_
       refine last_ (i := 13) (N := none) (bA 16 16383) rfl rfl (one_of HT_.out (by kernel_rfl)) (by decide) (fun K hK => ?_)
       have hs34 : w33.cell? ⟨gb190, 4, none⟩ = some (.int .i64 a1_4) := (blk_cell BK190.out 4).trans rfl
       have hfs34 := blk_frozen BK190.out 4
       have hns34_1 := NB191_190.out
       have hms34_1 := NB190_191.out
       refine skip_ (w1 := ?_) (by rfl) rfl ?_ ?_
       rotate_left
       ·
        go_simp
        rfl
       refine hK.out _ _ ?_
       clear hK K
       refine pureA HT_ (i := 14) (N := some 69) (bA 16 32767) ?_
       refine last_ (i := 15) (N := none) (bA 16 65535) rfl rfl (one_of HT_.out (by kernel_rfl)) (by decide) (fun K hK => ?_)
       have hs35 : w33.cell? ⟨gb190, 5, none⟩ = some (.int .i64 a1_5) := (blk_cell BK190.out 5).trans rfl
       have hfs35 := blk_frozen BK190.out 5
       have hns35_1 := NB191_190.out
       have hms35_1 := NB190_191.out
       refine skip_ (w1 := ?_) (by rfl) rfl ?_ ?_
       rotate_left
       ·
        go_simp
        rfl
       refine hK.out _ _ ?_
       clear hK K
       refine done_ (done_of HT_.out (by kernel_rfl)) ?_
       go_upto_region 11 with (fail)
       go_cut [81] (fun v81 wc => ∃ (kq : Nat) (x81_29 : Bool), v81 = .bool x81_29 ∧ Aside0 (facts_Tighten.j2 kq a0 t193 x81_29 a1_0 a1_1 ji9 ji10 ji27 ji29 = some (r1, r2, r3, r4, r5, r6, r7)) ∧ Aside0 (kq ≤ kj21) ∧ Aside0 (wc.heap[gb190]? = some (.cells #[.int .u64 a1_0, .int .u64 a1_1, .int .u64 ji9, .int .u64 ji10, .int .i64 ji27, .int .i64 ji29] 50 (0, 0))) ∧ Aside0 (wc.heap[gb191]? = some (.cells #[.int .u64 0, .int .u64 0, .int .u64 0, .int .u64 0, .int .i64 0, .int .i64 0] 50 (0, 0))) ∧ Aside0 (Below w.heap.size w wc))
       case first =>
        have H := HC30.out
        clear HC30
        by_cases c36 : ji9 > ji10
        ·
         rw [if_pos c36] at H
         have c36b0 : decide (ji10 < ji9) = true := decide_eq_true c36
         clear c36
         (first | rw [c36b0] | (simp only [i64_w, i32_w]; rw [c36b0]) | skip)
         have H' := Aside0.mk H
         clear H
         have hnb37 := NB190_191.out
         have hnc37 := NB191_190.out
         have hcz38_0 : w33.cell? ⟨gb190, 0, none⟩ = some (.int .u64 a1_0) := (blk_cell BK190.out 0).trans rfl
         have hcz38_1 : w33.cell? ⟨gb190, 1, none⟩ = some (.int .u64 a1_1) := (blk_cell BK190.out 1).trans rfl
         have hcz38_2 : w33.cell? ⟨gb190, 2, none⟩ = some (.int .u64 ji9) := (blk_cell BK190.out 2).trans rfl
         have hcz38_3 : w33.cell? ⟨gb190, 3, none⟩ = some (.int .u64 ji10) := (blk_cell BK190.out 3).trans rfl
         have hcz38_4 : w33.cell? ⟨gb190, 4, none⟩ = some (.int .i64 a1_4) := (blk_cell BK190.out 4).trans rfl
         have hcz38_5 : w33.cell? ⟨gb190, 5, none⟩ = some (.int .i64 a1_5) := (blk_cell BK190.out 5).trans rfl
         have hfz38_0 := blk_frozen BK190.out 0
         have hfz38_1 := blk_frozen BK190.out 1
         have hfz38_2 := blk_frozen BK190.out 2
         have hfz38_3 := blk_frozen BK190.out 3
         have hfz38_4 := blk_frozen BK190.out 4
         have hfz38_5 := blk_frozen BK190.out 5
         go_wp2
         go_meet
         case rel => exact ⟨_, (true), (by first | rfl | (simp; done) | (simp [*]; done)), H', ⟨by have := HJ10.out; have := HJ21.out; first | omega | exact Nat.le_refl _⟩, ⟨by (with_reducible repeat (first | refine blk_drewN ?_ _ | refine blk_drew ?_ | refine blk_alloc ?_ _)); refine blk_put (cs := #[.int .u64 a1_0, .int .u64 a1_1, .int .u64 ji9, .int .u64 ji10, .int .i64 ji27, .int .i64 a1_5]) ?_ 5 _ rfl; (with_reducible repeat (first | refine blk_drewN ?_ _ | refine blk_drew ?_ | refine blk_alloc ?_ _)); refine blk_put (cs := #[.int .u64 a1_0, .int .u64 a1_1, .int .u64 ji9, .int .u64 ji10, .int .i64 a1_4, .int .i64 a1_5]) ?_ 4 _ rfl; exact bfL BK190.out⟩, ⟨by exact bfL BK191.out⟩, ⟨bsL HB.out⟩⟩
        ·
         rw [if_neg c36] at H
         have c36b0 : decide (ji10 < ji9) = false := decide_eq_false c36
         clear c36
         (first | rw [c36b0] | (simp only [i64_w, i32_w]; rw [c36b0]) | skip)
         have H' := Aside0.mk H
         clear H
         have hnb39 := NB190_191.out
         have hnc39 := NB191_190.out
         have hcz40_0 : w33.cell? ⟨gb190, 0, none⟩ = some (.int .u64 a1_0) := (blk_cell BK190.out 0).trans rfl
         have hcz40_1 : w33.cell? ⟨gb190, 1, none⟩ = some (.int .u64 a1_1) := (blk_cell BK190.out 1).trans rfl
         have hcz40_2 : w33.cell? ⟨gb190, 2, none⟩ = some (.int .u64 ji9) := (blk_cell BK190.out 2).trans rfl
         have hcz40_3 : w33.cell? ⟨gb190, 3, none⟩ = some (.int .u64 ji10) := (blk_cell BK190.out 3).trans rfl
         have hcz40_4 : w33.cell? ⟨gb190, 4, none⟩ = some (.int .i64 a1_4) := (blk_cell BK190.out 4).trans rfl
         have hcz40_5 : w33.cell? ⟨gb190, 5, none⟩ = some (.int .i64 a1_5) := (blk_cell BK190.out 5).trans rfl
         have hfz40_0 := blk_frozen BK190.out 0
         have hfz40_1 := blk_frozen BK190.out 1
         have hfz40_2 := blk_frozen BK190.out 2
         have hfz40_3 := blk_frozen BK190.out 3
         have hfz40_4 := blk_frozen BK190.out 4
         have hfz40_5 := blk_frozen BK190.out 5
         go_wp2
         go_meet
         case rel => exact ⟨_, (decide ((ji27) > (ji29))), (by first | rfl | (simp; done) | (simp only [← hji27, ← hji29] <;> (first | rfl | simp)) | (simp [*]; done)), H', ⟨by have := HJ10.out; have := HJ21.out; first | omega | exact Nat.le_refl _⟩, ⟨by (with_reducible repeat (first | refine blk_drewN ?_ _ | refine blk_drew ?_ | refine blk_alloc ?_ _)); refine blk_put (cs := #[.int .u64 a1_0, .int .u64 a1_1, .int .u64 ji9, .int .u64 ji10, .int .i64 ji27, .int .i64 a1_5]) ?_ 5 _ rfl; (with_reducible repeat (first | refine blk_drewN ?_ _ | refine blk_drew ?_ | refine blk_alloc ?_ _)); refine blk_put (cs := #[.int .u64 a1_0, .int .u64 a1_1, .int .u64 ji9, .int .u64 ji10, .int .i64 a1_4, .int .i64 a1_5]) ?_ 4 _ rfl; exact bfL BK190.out⟩, ⟨by exact bfL BK191.out⟩, ⟨bsL HB.out⟩⟩
       case rest =>
        clear HC30
        try clear c1
        try clear c2
        try clear p2
        try clear c3
        try clear c4
        try clear c5
        try clear c6
        try clear p6
        try clear c7
        try clear c7b0
        try clear c7b1
        try clear c14
        try clear c21
        try clear c21b0
        try clear c21b1
        try clear c23
        try clear c25
        try clear c25b0
        try clear c25b1
        try clear c36
        try clear c36b0
        try clear c37
        try clear c39
        try clear hcz15_0
        try clear hcz15_1
        try clear hcz15_2
        try clear hcz15_3
        try clear hcz15_4
        try clear hcz15_5
        try clear hcz20_0
        try clear hcz20_1
        try clear hcz20_2
        try clear hcz20_3
        try clear hcz20_4
        try clear hcz20_5
        try clear hcz24_0
        try clear hcz24_1
        try clear hcz24_2
        try clear hcz24_3
        try clear hcz24_4
        try clear hcz24_5
        try clear hcz38_0
        try clear hcz38_1
        try clear hcz38_2
        try clear hcz38_3
        try clear hcz38_4
        try clear hcz38_5
        try clear hcz40_0
        try clear hcz40_1
        try clear hcz40_2
        try clear hcz40_3
        try clear hcz40_4
        try clear hcz40_5
        try clear hfz15_0
        try clear hfz15_1
        try clear hfz15_2
        try clear hfz15_3
        try clear hfz15_4
        try clear hfz15_5
        try clear hfz20_0
        try clear hfz20_1
        try clear hfz20_2
        try clear hfz20_3
        try clear hfz20_4
        try clear hfz20_5
        try clear hfz24_0
        try clear hfz24_1
        try clear hfz24_2
        try clear hfz24_3
        try clear hfz24_4
        try clear hfz24_5
        try clear hfz38_0
        try clear hfz38_1
        try clear hfz38_2
        try clear hfz38_3
        try clear hfz38_4
        try clear hfz38_5
        try clear hfz40_0
        try clear hfz40_1
        try clear hfz40_2
        try clear hfz40_3
        try clear hfz40_4
        try clear hfz40_5
        try clear p2
        try clear p6
        obtain ⟨kq, x81_29, rfl, HA, HJ29, BK190, BK191, HB⟩ := hcut
        cases kq with
        | zero => exact absurd HA.out (by simp [facts_Tighten.j2])
        | succ kj29 =>
         have H := HA.out
         clear HA
         simp only [facts_Tighten.j2] at H
         by_cases c41 : x81_29 = true
         ·
          subst c41
          have H1 : (some (0, 0, 0, 0, 0, 0, false)) = some (r1, r2, r3, r4, r5, r6, r7) := by rw [if_pos rfl] at H; exact H
          clear H
          have H := H1
          clear H1
          simp only [Option.some.injEq, Prod.mk.injEq] at H
          obtain ⟨rfl, rfl, rfl, rfl, rfl, rfl, rfl⟩ := H
          have hnb42 := NB191_190.out
          have hnc42 := NB190_191.out
          have hcz43_0 : wc.cell? ⟨gb191, 0, none⟩ = some (.int .u64 0) := (blk_cell BK191.out 0).trans rfl
          have hcz43_1 : wc.cell? ⟨gb191, 1, none⟩ = some (.int .u64 0) := (blk_cell BK191.out 1).trans rfl
          have hcz43_2 : wc.cell? ⟨gb191, 2, none⟩ = some (.int .u64 0) := (blk_cell BK191.out 2).trans rfl
          have hcz43_3 : wc.cell? ⟨gb191, 3, none⟩ = some (.int .u64 0) := (blk_cell BK191.out 3).trans rfl
          have hcz43_4 : wc.cell? ⟨gb191, 4, none⟩ = some (.int .i64 0) := (blk_cell BK191.out 4).trans rfl
          have hcz43_5 : wc.cell? ⟨gb191, 5, none⟩ = some (.int .i64 0) := (blk_cell BK191.out 5).trans rfl
          have hfz43_0 := blk_frozen BK191.out 0
          have hfz43_1 := blk_frozen BK191.out 1
          have hfz43_2 := blk_frozen BK191.out 2
          have hfz43_3 := blk_frozen BK191.out 3
          have hfz43_4 := blk_frozen BK191.out 4
          have hfz43_5 := blk_frozen BK191.out 5
          go_wp2
          refine bodyPost_ret (results_ct rfl _ _ gb191 50 #[.int .u64 0, .int .u64 0, .int .u64 0, .int .u64 0, .int .i64 0, .int .i64 0] (0, 0) _ rfl (by (with_reducible repeat (first | refine blk_drewN ?_ _ | refine blk_drew ?_ | refine blk_alloc ?_ _)); refine blk_put (cs := #[.int .u64 0, .int .u64 0, .int .u64 0, .int .u64 0, .int .i64 0, .int .i64 0]) ?_ 5 _ rfl; (with_reducible repeat (first | refine blk_drewN ?_ _ | refine blk_drew ?_ | refine blk_alloc ?_ _)); refine blk_put (cs := #[.int .u64 0, .int .u64 0, .int .u64 0, .int .u64 0, .int .i64 0, .int .i64 0]) ?_ 4 _ rfl; (with_reducible repeat (first | refine blk_drewN ?_ _ | refine blk_drew ?_ | refine blk_alloc ?_ _)); refine blk_put (cs := #[.int .u64 0, .int .u64 0, .int .u64 0, .int .u64 0, .int .i64 0, .int .i64 0]) ?_ 3 _ rfl; (with_reducible repeat (first | refine blk_drewN ?_ _ | refine blk_drew ?_ | refine blk_alloc ?_ _)); refine blk_put (cs := #[.int .u64 0, .int .u64 0, .int .u64 0, .int .u64 0, .int .i64 0, .int .i64 0]) ?_ 2 _ rfl; (with_reducible repeat (first | refine blk_drewN ?_ _ | refine blk_drew ?_ | refine blk_alloc ?_ _)); refine blk_put (cs := #[.int .u64 0, .int .u64 0, .int .u64 0, .int .u64 0, .int .i64 0, .int .i64 0]) ?_ 1 _ rfl; (with_reducible repeat (first | refine blk_drewN ?_ _ | refine blk_drew ?_ | refine blk_alloc ?_ _)); refine blk_put (cs := #[.int .u64 0, .int .u64 0, .int .u64 0, .int .u64 0, .int .i64 0, .int .i64 0]) ?_ 0 _ rfl; exact bfL BK191.out) Try.underlying50 rfl (by kernel_rfl)) rfl ?_
          exact ⟨by first | rfl | (simp [errW_none, errW_some] <;> rfl) | (simp only [← hji6, ← hji8, ← hji9, ← hji10, ← hji27, ← hji29]; first | rfl | (simp [errW_none, errW_some] <;> rfl)) | (simp [*, errW_none, errW_some] <;> rfl), bsL HB.out⟩
         ·
          replace c41 := Bool.eq_false_iff.mpr c41
          subst c41
          have H1 : ((facts_span.f a1_0 a1_1 ji9 ji10 ji27 ji29).bind fun bt196 => ((interval_Tighten.f kj29 a0 bt196.1 bt196.2.1 bt196.2.2.1 bt196.2.2.2).bind fun bt200 => (if bt200.2.2.2.2 = true then ((bits_Len64.f kj29 (Go.bits .xor .u64 bt200.1 bt200.2.1)).bind fun t206 => ((bits_Mask.f t206).bind fun t207 => (if (Go.bits .and .u64 (Go.bits .or .u64 a1_0 (Go.bits .and .u64 (Go.bits .xor .u64 18446744073709551615 bt200.1) (Go.bits .andNot .u64 t193 t207))) (Go.bits .or .u64 a1_1 (Go.bits .and .u64 bt200.1 (Go.bits .andNot .u64 t193 t207)))) = 0 then ((facts_fact.f (Go.bits .or .u64 a1_0 (Go.bits .and .u64 (Go.bits .xor .u64 18446744073709551615 bt200.1) (Go.bits .andNot .u64 t193 t207))) (Go.bits .or .u64 a1_1 (Go.bits .and .u64 bt200.1 (Go.bits .andNot .u64 t193 t207))) bt200.1 bt200.2.1 bt200.2.2.1 bt200.2.2.2.1).bind fun bt209 => (some (bt209.1, bt209.2.1, bt209.2.2.1, bt209.2.2.2.1, bt209.2.2.2.2.1, bt209.2.2.2.2.2, true))) else (some (0, 0, 0, 0, 0, 0, false))))) else (some (0, 0, 0, 0, 0, 0, false))))) = some (r1, r2, r3, r4, r5, r6, r7) := by rw [if_neg (show ¬ (false = true) by decide)] at H; exact H
          clear H
          have H := H1
          clear H1
          replace H := Option.bind_eq_some_iff.mp H
          obtain ⟨⟨t196, t197, t198, t199⟩, A440, H⟩ := H
          replace H : ((interval_Tighten.f kj29 a0 t196 t197 t198 t199).bind fun bt200 => (if bt200.2.2.2.2 = true then ((bits_Len64.f kj29 (Go.bits .xor .u64 bt200.1 bt200.2.1)).bind fun t206 => ((bits_Mask.f t206).bind fun t207 => (if (Go.bits .and .u64 (Go.bits .or .u64 a1_0 (Go.bits .and .u64 (Go.bits .xor .u64 18446744073709551615 bt200.1) (Go.bits .andNot .u64 t193 t207))) (Go.bits .or .u64 a1_1 (Go.bits .and .u64 bt200.1 (Go.bits .andNot .u64 t193 t207)))) = 0 then ((facts_fact.f (Go.bits .or .u64 a1_0 (Go.bits .and .u64 (Go.bits .xor .u64 18446744073709551615 bt200.1) (Go.bits .andNot .u64 t193 t207))) (Go.bits .or .u64 a1_1 (Go.bits .and .u64 bt200.1 (Go.bits .andNot .u64 t193 t207))) bt200.1 bt200.2.1 bt200.2.2.1 bt200.2.2.2.1).bind fun bt209 => (some (bt209.1, bt209.2.1, bt209.2.2.1, bt209.2.2.2.1, bt209.2.2.2.2.1, bt209.2.2.2.2.2, true))) else (some (0, 0, 0, 0, 0, 0, false))))) else (some (0, 0, 0, 0, 0, 0, false)))) = some (r1, r2, r3, r4, r5, r6, r7) := H
          have A44 := Aside0.mk A440
          clear A440
          replace H := Option.bind_eq_some_iff.mp H
          obtain ⟨⟨t200, t201, t202, t203, t204⟩, A450, H⟩ := H
          replace H : (if t204 = true then ((bits_Len64.f kj29 (Go.bits .xor .u64 t200 t201)).bind fun t206 => ((bits_Mask.f t206).bind fun t207 => (if (Go.bits .and .u64 (Go.bits .or .u64 a1_0 (Go.bits .and .u64 (Go.bits .xor .u64 18446744073709551615 t200) (Go.bits .andNot .u64 t193 t207))) (Go.bits .or .u64 a1_1 (Go.bits .and .u64 t200 (Go.bits .andNot .u64 t193 t207)))) = 0 then ((facts_fact.f (Go.bits .or .u64 a1_0 (Go.bits .and .u64 (Go.bits .xor .u64 18446744073709551615 t200) (Go.bits .andNot .u64 t193 t207))) (Go.bits .or .u64 a1_1 (Go.bits .and .u64 t200 (Go.bits .andNot .u64 t193 t207))) t200 t201 t202 t203).bind fun bt209 => (some (bt209.1, bt209.2.1, bt209.2.2.1, bt209.2.2.2.1, bt209.2.2.2.2.1, bt209.2.2.2.2.2, true))) else (some (0, 0, 0, 0, 0, 0, false))))) else (some (0, 0, 0, 0, 0, 0, false))) = some (r1, r2, r3, r4, r5, r6, r7) := H
          have A45 := Aside0.mk A450
          clear A450
          by_cases c46 : t204 = true
          ·
           subst c46
           have H1 : ((bits_Len64.f kj29 (Go.bits .xor .u64 t200 t201)).bind fun t206 => ((bits_Mask.f t206).bind fun t207 => (if (Go.bits .and .u64 (Go.bits .or .u64 a1_0 (Go.bits .and .u64 (Go.bits .xor .u64 18446744073709551615 t200) (Go.bits .andNot .u64 t193 t207))) (Go.bits .or .u64 a1_1 (Go.bits .and .u64 t200 (Go.bits .andNot .u64 t193 t207)))) = 0 then ((facts_fact.f (Go.bits .or .u64 a1_0 (Go.bits .and .u64 (Go.bits .xor .u64 18446744073709551615 t200) (Go.bits .andNot .u64 t193 t207))) (Go.bits .or .u64 a1_1 (Go.bits .and .u64 t200 (Go.bits .andNot .u64 t193 t207))) t200 t201 t202 t203).bind fun bt209 => (some (bt209.1, bt209.2.1, bt209.2.2.1, bt209.2.2.2.1, bt209.2.2.2.2.1, bt209.2.2.2.2.2, true))) else (some (0, 0, 0, 0, 0, 0, false))))) = some (r1, r2, r3, r4, r5, r6, r7) := by rw [if_pos rfl] at H; exact H
           clear H
           have H := H1
           clear H1
           replace H := Option.bind_eq_some_iff.mp H
           obtain ⟨t206, A470, H⟩ := H
           replace H : ((bits_Mask.f t206).bind fun t207 => (if (Go.bits .and .u64 (Go.bits .or .u64 a1_0 (Go.bits .and .u64 (Go.bits .xor .u64 18446744073709551615 t200) (Go.bits .andNot .u64 t193 t207))) (Go.bits .or .u64 a1_1 (Go.bits .and .u64 t200 (Go.bits .andNot .u64 t193 t207)))) = 0 then ((facts_fact.f (Go.bits .or .u64 a1_0 (Go.bits .and .u64 (Go.bits .xor .u64 18446744073709551615 t200) (Go.bits .andNot .u64 t193 t207))) (Go.bits .or .u64 a1_1 (Go.bits .and .u64 t200 (Go.bits .andNot .u64 t193 t207))) t200 t201 t202 t203).bind fun bt209 => (some (bt209.1, bt209.2.1, bt209.2.2.1, bt209.2.2.2.1, bt209.2.2.2.2.1, bt209.2.2.2.2.2, true))) else (some (0, 0, 0, 0, 0, 0, false)))) = some (r1, r2, r3, r4, r5, r6, r7) := H
           have A47 := Aside0.mk A470
           clear A470
           replace H := Option.bind_eq_some_iff.mp H
           obtain ⟨t207, A480, H⟩ := H
           replace H : (if (Go.bits .and .u64 (Go.bits .or .u64 a1_0 (Go.bits .and .u64 (Go.bits .xor .u64 18446744073709551615 t200) (Go.bits .andNot .u64 t193 t207))) (Go.bits .or .u64 a1_1 (Go.bits .and .u64 t200 (Go.bits .andNot .u64 t193 t207)))) = 0 then ((facts_fact.f (Go.bits .or .u64 a1_0 (Go.bits .and .u64 (Go.bits .xor .u64 18446744073709551615 t200) (Go.bits .andNot .u64 t193 t207))) (Go.bits .or .u64 a1_1 (Go.bits .and .u64 t200 (Go.bits .andNot .u64 t193 t207))) t200 t201 t202 t203).bind fun bt209 => (some (bt209.1, bt209.2.1, bt209.2.2.1, bt209.2.2.2.1, bt209.2.2.2.2.1, bt209.2.2.2.2.2, true))) else (some (0, 0, 0, 0, 0, 0, false))) = some (r1, r2, r3, r4, r5, r6, r7) := H
           have A48 := Aside0.mk A480
           clear A480
           by_cases c49 : (Go.bits .and .u64 (Go.bits .or .u64 a1_0 (Go.bits .and .u64 (Go.bits .xor .u64 18446744073709551615 t200) (Go.bits .andNot .u64 t193 t207))) (Go.bits .or .u64 a1_1 (Go.bits .and .u64 t200 (Go.bits .andNot .u64 t193 t207)))) = 0
           ·
            rw [if_pos c49] at H
            have c49b0 : ((Go.bits .and .u64 (Go.bits .or .u64 a1_0 (Go.bits .and .u64 (Go.bits .xor .u64 18446744073709551615 t200) (Go.bits .andNot .u64 t193 t207))) (Go.bits .or .u64 a1_1 (Go.bits .and .u64 t200 (Go.bits .andNot .u64 t193 t207)))) == 0) = true := beq_iff_eq.mpr c49
            have c49x0 : ((Go.bits .and .u64 (Go.bits .or .u64 a1_0 (Go.bits .and .u64 (Go.bits .xor .u64 (if IntKind.u64.signed = true then -1 else IntKind.u64.max) t200) (Go.bits .andNot .u64 t193 t207))) (Go.bits .or .u64 a1_1 (Go.bits .and .u64 t200 (Go.bits .andNot .u64 t193 t207)))) == 0) = true := c49b0
            have c49b1 : ((Go.bits .and .u64 (Go.bits .or .u64 a1_0 (Go.bits .and .u64 (Go.bits .xor .u64 18446744073709551615 t200) (Go.bits .andNot .u64 t193 t207))) (Go.bits .or .u64 a1_1 (Go.bits .and .u64 t200 (Go.bits .andNot .u64 t193 t207)))) != 0) = false := bne_eq_false_iff_eq.mpr c49
            have c49x1 : ((Go.bits .and .u64 (Go.bits .or .u64 a1_0 (Go.bits .and .u64 (Go.bits .xor .u64 (if IntKind.u64.signed = true then -1 else IntKind.u64.max) t200) (Go.bits .andNot .u64 t193 t207))) (Go.bits .or .u64 a1_1 (Go.bits .and .u64 t200 (Go.bits .andNot .u64 t193 t207)))) != 0) = false := c49b1
            clear c49
            replace H := Option.bind_eq_some_iff.mp H
            obtain ⟨⟨t209, t210, t211, t212, t213, t214⟩, A500, H⟩ := H
            replace H : (some (t209, t210, t211, t212, t213, t214, true)) = some (r1, r2, r3, r4, r5, r6, r7) := H
            have A50 := Aside0.mk A500
            clear A500
            simp only [Option.some.injEq, Prod.mk.injEq] at H
            obtain ⟨rfl, rfl, rfl, rfl, rfl, rfl, rfl⟩ := H
            have hnb51 := NB190_191.out
            have hnc51 := NB191_190.out
            have hcz52_0 : wc.cell? ⟨gb190, 0, none⟩ = some (.int .u64 a1_0) := (blk_cell BK190.out 0).trans rfl
            have hcz52_1 : wc.cell? ⟨gb190, 1, none⟩ = some (.int .u64 a1_1) := (blk_cell BK190.out 1).trans rfl
            have hcz52_2 : wc.cell? ⟨gb190, 2, none⟩ = some (.int .u64 ji9) := (blk_cell BK190.out 2).trans rfl
            have hcz52_3 : wc.cell? ⟨gb190, 3, none⟩ = some (.int .u64 ji10) := (blk_cell BK190.out 3).trans rfl
            have hcz52_4 : wc.cell? ⟨gb190, 4, none⟩ = some (.int .i64 ji27) := (blk_cell BK190.out 4).trans rfl
            have hcz52_5 : wc.cell? ⟨gb190, 5, none⟩ = some (.int .i64 ji29) := (blk_cell BK190.out 5).trans rfl
            have hfz52_0 := blk_frozen BK190.out 0
            have hfz52_1 := blk_frozen BK190.out 1
            have hfz52_2 := blk_frozen BK190.out 2
            have hfz52_3 := blk_frozen BK190.out 3
            have hfz52_4 := blk_frozen BK190.out 4
            have hfz52_5 := blk_frozen BK190.out 5
            go_wp2_with (first | ((with_reducible refine gate_callee (f := 76) rfl ?_); refine goesL_ (some 86) rfl rfl Try.func76 (by kernel_rfl) rfl #[.agg #[.int .u64 a1_0, .int .u64 a1_1, .int .u64 ji9, .int .u64 ji10, .int .i64 ji27, .int .i64 ji29]] rfl (by (try simp only [List.map_toArray, List.map_cons, List.map_nil]); first | done | (simp only [hji10, hji27, hji29, hji9]; rfl) | rfl | (simp only [List.length_drop, List.length_take]; rfl)) ?_; (with_reducible refine (facts_span.calls a1_0 a1_1 ji9 ji10 ji27 ji29 t196 t197 t198 t199 _ A44.out).mono ?_); rintro e w53 ⟨rfl, hb⟩; refine ⟨_, rfl, ?_⟩; replace BK190 := bkB BK190.out hb; replace BK191 := bkB BK191.out hb; replace HB := bsB HB.out hb; (try clear hb)) | ((with_reducible refine gate_callee (f := 53) rfl ?_); refine gL (some 87) Try.func53 #[.int .i64 a0, .agg #[.int .u64 t196, .int .u64 t197, .int .i64 t198, .int .i64 t199]] ?_; (with_reducible refine (interval_Tighten.calls kj29 a0 t196 t197 t198 t199 t200 t201 t202 t203 true _ A45.out).mono ?_); rintro e w54 ⟨rfl, hb⟩; refine ⟨_, rfl, ?_⟩; have n0_ := bkB BK190.out hb; have n1_ := bkB BK191.out hb; have n2_ := bsB HB.out hb; clear BK190; clear BK191; clear HB; have BK190 := n0_; have BK191 := n1_; have HB := n2_; clear n0_ n1_ n2_; (try clear hb); (try clear hb2); (try clear hk); (try clear hi)) | ((with_reducible refine gate_dst (N := 10) rfl ?_); refine box_event ?hg (N := 10) ?hd (cs := #[.int .u64 0, .int .u64 0, .int .i64 0, .int .i64 0]) (t := 30) ?hr ?_; (case hd => rfl); (case hg => rfl); (case hr => first | (go_simp; done) | (go_simp; rfl)); intro gb205 hg w55 hbox hb; have n0_ := bkB BK190.out hb; have n1_ := bkB BK191.out hb; have n2_ := bsB HB.out hb; have n3_ := Aside0.mk (hbox); have n4_ := szB hg HB.out; have n5_ := szB hg HB.out; have n6_ := Aside0.mk ((by rw [hg]; exact Nat.ne_of_lt (blk_lt (g := gb190) (o := .cells #[.int .u64 a1_0, .int .u64 a1_1, .int .u64 ji9, .int .u64 ji10, .int .i64 ji27, .int .i64 ji29] 50 (0, 0)) (by exact bfL BK190.out)) : gb190 ≠ gb205)); have n7_ := Aside0.mk ((by rw [hg]; exact Nat.ne_of_gt (blk_lt (g := gb190) (o := .cells #[.int .u64 a1_0, .int .u64 a1_1, .int .u64 ji9, .int .u64 ji10, .int .i64 ji27, .int .i64 ji29] 50 (0, 0)) (by exact bfL BK190.out)) : gb205 ≠ gb190)); have n8_ := Aside0.mk ((by rw [hg]; exact Nat.ne_of_lt (blk_lt (g := gb191) (o := .cells #[.int .u64 0, .int .u64 0, .int .u64 0, .int .u64 0, .int .i64 0, .int .i64 0] 50 (0, 0)) (by exact bfL BK191.out)) : gb191 ≠ gb205)); have n9_ := Aside0.mk ((by rw [hg]; exact Nat.ne_of_gt (blk_lt (g := gb191) (o := .cells #[.int .u64 0, .int .u64 0, .int .u64 0, .int .u64 0, .int .i64 0, .int .i64 0] 50 (0, 0)) (by exact bfL BK191.out)) : gb205 ≠ gb191)); clear BK190; clear BK191; clear HB; have BK190 := n0_; have BK191 := n1_; have HB := n2_; have BK205 := n3_; have GW205 := n4_; have GE205 := n5_; have NB190_205 := n6_; have NB205_190 := n7_; have NB191_205 := n8_; have NB205_191 := n9_; clear n0_ n1_ n2_ n3_ n4_ n5_ n6_ n7_ n8_ n9_; clear hb hbox hg; have hnb56 := NB205_190.out; have hnc56 := NB190_205.out; have hnb57 := NB205_191.out; have hnc57 := NB191_205.out; have hcz58_0 : w55.cell? ⟨gb205, 0, none⟩ = some (.int .u64 0) := (blk_cell BK205.out 0).trans rfl; have hcz58_1 : w55.cell? ⟨gb205, 1, none⟩ = some (.int .u64 0) := (blk_cell BK205.out 1).trans rfl; have hcz58_2 : w55.cell? ⟨gb205, 2, none⟩ = some (.int .i64 0) := (blk_cell BK205.out 2).trans rfl; have hcz58_3 : w55.cell? ⟨gb205, 3, none⟩ = some (.int .i64 0) := (blk_cell BK205.out 3).trans rfl; have hfz58_0 := blk_frozen BK205.out 0; have hfz58_1 := blk_frozen BK205.out 1; have hfz58_2 := blk_frozen BK205.out 2; have hfz58_3 := blk_frozen BK205.out 3) | ((with_reducible refine gate_callee (f := 77) rfl ?_); refine gL (some 99) Try.func77 #[.int .u64 (Go.bits .xor .u64 t200 t201)] ?_; (with_reducible refine (bits_Len64.calls kj29 (Go.bits .xor .u64 t200 t201) t206 _ A47.out).mono ?_); rintro e w' ⟨rfl, ⟨nd, rfl⟩⟩; refine ⟨_, rfl, ?_⟩) | ((with_reducible refine gate_callee (f := 56) rfl ?_); refine gL (some 100) Try.func56 #[.int .i64 t206] ?_; (with_reducible refine (bits_Mask.calls t206 t207 _ A48.out).mono ?_); rintro e w59 ⟨rfl, hb⟩; refine ⟨_, rfl, ?_⟩; have n0_ := Aside0.mk (blk_below (g := gb190) (o := .cells #[.int .u64 a1_0, .int .u64 a1_1, .int .u64 ji9, .int .u64 ji10, .int .i64 ji27, .int .i64 ji29] 50 (0, 0)) (by exact bfL BK190.out) hb); have n1_ := Aside0.mk (blk_below (g := gb191) (o := .cells #[.int .u64 0, .int .u64 0, .int .u64 0, .int .u64 0, .int .i64 0, .int .i64 0] 50 (0, 0)) (by exact bfL BK191.out) hb); have n2_ := Aside0.mk (blk_below (g := gb205) (o := .cells #[.int .u64 t200, .int .u64 t201, .int .i64 t202, .int .i64 t203] 30 (0, 0)) (by (with_reducible repeat (first | refine blk_drewN ?_ _ | refine blk_drew ?_ | refine blk_alloc ?_ _)); refine blk_put (cs := #[.int .u64 t200, .int .u64 t201, .int .i64 t202, .int .i64 0]) ?_ 3 _ rfl; (with_reducible repeat (first | refine blk_drewN ?_ _ | refine blk_drew ?_ | refine blk_alloc ?_ _)); refine blk_put (cs := #[.int .u64 t200, .int .u64 t201, .int .i64 0, .int .i64 0]) ?_ 2 _ rfl; (with_reducible repeat (first | refine blk_drewN ?_ _ | refine blk_drew ?_ | refine blk_alloc ?_ _)); refine blk_put (cs := #[.int .u64 t200, .int .u64 0, .int .i64 0, .int .i64 0]) ?_ 1 _ rfl; (with_reducible repeat (first | refine blk_drewN ?_ _ | refine blk_drew ?_ | refine blk_alloc ?_ _)); refine blk_put (cs := #[.int .u64 0, .int .u64 0, .int .i64 0, .int .i64 0]) ?_ 0 _ rfl; exact bfL BK205.out) hb); have n3_ := bsB HB.out hb; clear BK190; clear BK191; clear BK205; clear HB; have BK190 := n0_; have BK191 := n1_; have BK205 := n2_; have HB := n3_; clear n0_ n1_ n2_ n3_; (try clear hb); (try clear hb2); (try clear hk); (try clear hi); have hcz60_0 : w59.cell? ⟨gb190, 0, none⟩ = some (.int .u64 a1_0) := (blk_cell BK190.out 0).trans rfl; have hcz60_1 : w59.cell? ⟨gb190, 1, none⟩ = some (.int .u64 a1_1) := (blk_cell BK190.out 1).trans rfl; have hcz60_2 : w59.cell? ⟨gb190, 2, none⟩ = some (.int .u64 ji9) := (blk_cell BK190.out 2).trans rfl; have hcz60_3 : w59.cell? ⟨gb190, 3, none⟩ = some (.int .u64 ji10) := (blk_cell BK190.out 3).trans rfl; have hcz60_4 : w59.cell? ⟨gb190, 4, none⟩ = some (.int .i64 ji27) := (blk_cell BK190.out 4).trans rfl; have hcz60_5 : w59.cell? ⟨gb190, 5, none⟩ = some (.int .i64 ji29) := (blk_cell BK190.out 5).trans rfl; have hfz60_0 := blk_frozen BK190.out 0; have hfz60_1 := blk_frozen BK190.out 1; have hfz60_2 := blk_frozen BK190.out 2; have hfz60_3 := blk_frozen BK190.out 3; have hfz60_4 := blk_frozen BK190.out 4; have hfz60_5 := blk_frozen BK190.out 5; have hcz61_0 : w59.cell? ⟨gb205, 0, none⟩ = some (.int .u64 t200) := (blk_cell BK205.out 0).trans rfl; have hcz61_1 : w59.cell? ⟨gb205, 1, none⟩ = some (.int .u64 t201) := (blk_cell BK205.out 1).trans rfl; have hcz61_2 : w59.cell? ⟨gb205, 2, none⟩ = some (.int .i64 t202) := (blk_cell BK205.out 2).trans rfl; have hcz61_3 : w59.cell? ⟨gb205, 3, none⟩ = some (.int .i64 t203) := (blk_cell BK205.out 3).trans rfl; have hfz61_0 := blk_frozen BK205.out 0; have hfz61_1 := blk_frozen BK205.out 1; have hfz61_2 := blk_frozen BK205.out 2; have hfz61_3 := blk_frozen BK205.out 3) | ((with_reducible refine gate_dst (N := 13) rfl ?_); refine box_event ?hg (N := 13) ?hd (cs := #[.int .u64 0, .int .u64 0]) (t := 110) ?hr ?_; (case hd => rfl); (case hg => rfl); (case hr => first | (go_simp; done) | (go_simp; rfl)); intro gb208 hg w62 hbox hb; have n0_ := bkB BK190.out hb; have n1_ := bkB BK191.out hb; have n2_ := bkB BK205.out hb; have n3_ := bsB HB.out hb; have n4_ := Aside0.mk (hbox); have n5_ := szB hg HB.out; have n6_ := szB hg HB.out; have n7_ := Aside0.mk ((by rw [hg]; exact Nat.ne_of_lt (blk_lt (g := gb190) (o := .cells #[.int .u64 a1_0, .int .u64 a1_1, .int .u64 ji9, .int .u64 ji10, .int .i64 ji27, .int .i64 ji29] 50 (0, 0)) (by exact bfL BK190.out)) : gb190 ≠ gb208)); have n8_ := Aside0.mk ((by rw [hg]; exact Nat.ne_of_gt (blk_lt (g := gb190) (o := .cells #[.int .u64 a1_0, .int .u64 a1_1, .int .u64 ji9, .int .u64 ji10, .int .i64 ji27, .int .i64 ji29] 50 (0, 0)) (by exact bfL BK190.out)) : gb208 ≠ gb190)); have n9_ := Aside0.mk ((by rw [hg]; exact Nat.ne_of_lt (blk_lt (g := gb191) (o := .cells #[.int .u64 0, .int .u64 0, .int .u64 0, .int .u64 0, .int .i64 0, .int .i64 0] 50 (0, 0)) (by exact bfL BK191.out)) : gb191 ≠ gb208)); have n10_ := Aside0.mk ((by rw [hg]; exact Nat.ne_of_gt (blk_lt (g := gb191) (o := .cells #[.int .u64 0, .int .u64 0, .int .u64 0, .int .u64 0, .int .i64 0, .int .i64 0] 50 (0, 0)) (by exact bfL BK191.out)) : gb208 ≠ gb191)); have n11_ := Aside0.mk ((by rw [hg]; exact Nat.ne_of_lt (blk_lt (g := gb205) (o := .cells #[.int .u64 t200, .int .u64 t201, .int .i64 t202, .int .i64 t203] 30 (0, 0)) (by exact bfL BK205.out)) : gb205 ≠ gb208)); have n12_ := Aside0.mk ((by rw [hg]; exact Nat.ne_of_gt (blk_lt (g := gb205) (o := .cells #[.int .u64 t200, .int .u64 t201, .int .i64 t202, .int .i64 t203] 30 (0, 0)) (by exact bfL BK205.out)) : gb208 ≠ gb205)); clear BK190; clear BK191; clear BK205; clear HB; have BK190 := n0_; have BK191 := n1_; have BK205 := n2_; have HB := n3_; have BK208 := n4_; have GW208 := n5_; have GE208 := n6_; have NB190_208 := n7_; have NB208_190 := n8_; have NB191_208 := n9_; have NB208_191 := n10_; have NB205_208 := n11_; have NB208_205 := n12_; clear n0_ n1_ n2_ n3_ n4_ n5_ n6_ n7_ n8_ n9_ n10_ n11_ n12_; clear hb hbox hg; have hnb63 := NB208_190.out; have hnc63 := NB190_208.out; have hnb64 := NB208_191.out; have hnc64 := NB191_208.out; have hnb65 := NB208_205.out; have hnc65 := NB205_208.out; have hcz66_0 : w62.cell? ⟨gb208, 0, none⟩ = some (.int .u64 0) := (blk_cell BK208.out 0).trans rfl; have hcz66_1 : w62.cell? ⟨gb208, 1, none⟩ = some (.int .u64 0) := (blk_cell BK208.out 1).trans rfl; have hfz66_0 := blk_frozen BK208.out 0; have hfz66_1 := blk_frozen BK208.out 1; have hcz67_0 : w62.cell? ⟨gb205, 0, none⟩ = some (.int .u64 t200) := (blk_cell BK205.out 0).trans rfl; have hcz67_1 : w62.cell? ⟨gb205, 1, none⟩ = some (.int .u64 t201) := (blk_cell BK205.out 1).trans rfl; have hcz67_2 : w62.cell? ⟨gb205, 2, none⟩ = some (.int .i64 t202) := (blk_cell BK205.out 2).trans rfl; have hcz67_3 : w62.cell? ⟨gb205, 3, none⟩ = some (.int .i64 t203) := (blk_cell BK205.out 3).trans rfl; have hfz67_0 := blk_frozen BK205.out 0; have hfz67_1 := blk_frozen BK205.out 1; have hfz67_2 := blk_frozen BK205.out 2; have hfz67_3 := blk_frozen BK205.out 3) | ((with_reducible refine gate_callee (f := 78) rfl ?_); refine gL (some 127) Try.func78 #[.agg #[.int .u64 (Go.bits .or .u64 a1_0 (Go.bits .and .u64 (Go.bits .xor .u64 18446744073709551615 t200) (Go.bits .andNot .u64 t193 t207))), .int .u64 (Go.bits .or .u64 a1_1 (Go.bits .and .u64 t200 (Go.bits .andNot .u64 t193 t207)))], .agg #[.int .u64 t200, .int .u64 t201, .int .i64 t202, .int .i64 t203]] ?_; (with_reducible refine (facts_fact.calls (Go.bits .or .u64 a1_0 (Go.bits .and .u64 (Go.bits .xor .u64 18446744073709551615 t200) (Go.bits .andNot .u64 t193 t207))) (Go.bits .or .u64 a1_1 (Go.bits .and .u64 t200 (Go.bits .andNot .u64 t193 t207))) t200 t201 t202 t203 t209 t210 t211 t212 t213 t214 _ A50.out).mono ?_); rintro e w68 ⟨rfl, hb⟩; refine ⟨_, rfl, ?_⟩; have n0_ := Aside0.mk (blk_below (g := gb190) (o := .cells #[.int .u64 a1_0, .int .u64 a1_1, .int .u64 ji9, .int .u64 ji10, .int .i64 ji27, .int .i64 ji29] 50 (0, 0)) (by exact bfL BK190.out) hb); have n1_ := Aside0.mk (blk_below (g := gb191) (o := .cells #[.int .u64 0, .int .u64 0, .int .u64 0, .int .u64 0, .int .i64 0, .int .i64 0] 50 (0, 0)) (by exact bfL BK191.out) hb); have n2_ := Aside0.mk (blk_below (g := gb205) (o := .cells #[.int .u64 t200, .int .u64 t201, .int .i64 t202, .int .i64 t203] 30 (0, 0)) (by exact bfL BK205.out) hb); have n3_ := Aside0.mk (blk_below (g := gb208) (o := .cells #[.int .u64 (Go.bits .or .u64 a1_0 (Go.bits .and .u64 (Go.bits .xor .u64 18446744073709551615 t200) (Go.bits .andNot .u64 t193 t207))), .int .u64 (Go.bits .or .u64 a1_1 (Go.bits .and .u64 t200 (Go.bits .andNot .u64 t193 t207)))] 110 (0, 0)) (by (with_reducible repeat (first | refine blk_drewN ?_ _ | refine blk_drew ?_ | refine blk_alloc ?_ _)); refine blk_put (cs := #[.int .u64 (Go.bits .or .u64 a1_0 (Go.bits .and .u64 (Go.bits .xor .u64 18446744073709551615 t200) (Go.bits .andNot .u64 t193 t207))), .int .u64 0]) ?_ 1 _ rfl; (with_reducible repeat (first | refine blk_drewN ?_ _ | refine blk_drew ?_ | refine blk_alloc ?_ _)); refine blk_put (cs := #[.int .u64 0, .int .u64 0]) ?_ 0 _ rfl; exact bfL BK208.out) hb); have n4_ := bsB HB.out hb; clear BK190; clear BK191; clear BK205; clear BK208; clear HB; have BK190 := n0_; have BK191 := n1_; have BK205 := n2_; have BK208 := n3_; have HB := n4_; clear n0_ n1_ n2_ n3_ n4_; (try clear hb); (try clear hb2); (try clear hk); (try clear hi); have hcz69_0 : w68.cell? ⟨gb191, 0, none⟩ = some (.int .u64 0) := (blk_cell BK191.out 0).trans rfl; have hcz69_1 : w68.cell? ⟨gb191, 1, none⟩ = some (.int .u64 0) := (blk_cell BK191.out 1).trans rfl; have hcz69_2 : w68.cell? ⟨gb191, 2, none⟩ = some (.int .u64 0) := (blk_cell BK191.out 2).trans rfl; have hcz69_3 : w68.cell? ⟨gb191, 3, none⟩ = some (.int .u64 0) := (blk_cell BK191.out 3).trans rfl; have hcz69_4 : w68.cell? ⟨gb191, 4, none⟩ = some (.int .i64 0) := (blk_cell BK191.out 4).trans rfl; have hcz69_5 : w68.cell? ⟨gb191, 5, none⟩ = some (.int .i64 0) := (blk_cell BK191.out 5).trans rfl; have hfz69_0 := blk_frozen BK191.out 0; have hfz69_1 := blk_frozen BK191.out 1; have hfz69_2 := blk_frozen BK191.out 2; have hfz69_3 := blk_frozen BK191.out 3; have hfz69_4 := blk_frozen BK191.out 4; have hfz69_5 := blk_frozen BK191.out 5))
            refine bodyPost_ret (results_ct rfl _ _ gb191 50 #[.int .u64 t209, .int .u64 t210, .int .u64 t211, .int .u64 t212, .int .i64 t213, .int .i64 t214] (0, 0) _ rfl (by (with_reducible repeat (first | refine blk_drewN ?_ _ | refine blk_drew ?_ | refine blk_alloc ?_ _)); refine blk_put (cs := #[.int .u64 t209, .int .u64 t210, .int .u64 t211, .int .u64 t212, .int .i64 t213, .int .i64 0]) ?_ 5 _ rfl; (with_reducible repeat (first | refine blk_drewN ?_ _ | refine blk_drew ?_ | refine blk_alloc ?_ _)); refine blk_put (cs := #[.int .u64 t209, .int .u64 t210, .int .u64 t211, .int .u64 t212, .int .i64 0, .int .i64 0]) ?_ 4 _ rfl; (with_reducible repeat (first | refine blk_drewN ?_ _ | refine blk_drew ?_ | refine blk_alloc ?_ _)); refine blk_put (cs := #[.int .u64 t209, .int .u64 t210, .int .u64 t211, .int .u64 0, .int .i64 0, .int .i64 0]) ?_ 3 _ rfl; (with_reducible repeat (first | refine blk_drewN ?_ _ | refine blk_drew ?_ | refine blk_alloc ?_ _)); refine blk_put (cs := #[.int .u64 t209, .int .u64 t210, .int .u64 0, .int .u64 0, .int .i64 0, .int .i64 0]) ?_ 2 _ rfl; (with_reducible repeat (first | refine blk_drewN ?_ _ | refine blk_drew ?_ | refine blk_alloc ?_ _)); refine blk_put (cs := #[.int .u64 t209, .int .u64 0, .int .u64 0, .int .u64 0, .int .i64 0, .int .i64 0]) ?_ 1 _ rfl; (with_reducible repeat (first | refine blk_drewN ?_ _ | refine blk_drew ?_ | refine blk_alloc ?_ _)); refine blk_put (cs := #[.int .u64 0, .int .u64 0, .int .u64 0, .int .u64 0, .int .i64 0, .int .i64 0]) ?_ 0 _ rfl; exact bfL BK191.out) Try.underlying50 rfl (by kernel_rfl)) rfl ?_
            exact ⟨by first | rfl | (simp [errW_none, errW_some] <;> rfl) | (simp only [← hji6, ← hji8, ← hji9, ← hji10, ← hji27, ← hji29]; first | rfl | (simp [errW_none, errW_some] <;> rfl)) | (simp [*, errW_none, errW_some] <;> rfl), bsL HB.out⟩
           ·
            rw [if_neg c49] at H
            have c49b0 : ((Go.bits .and .u64 (Go.bits .or .u64 a1_0 (Go.bits .and .u64 (Go.bits .xor .u64 18446744073709551615 t200) (Go.bits .andNot .u64 t193 t207))) (Go.bits .or .u64 a1_1 (Go.bits .and .u64 t200 (Go.bits .andNot .u64 t193 t207)))) == 0) = false := beq_eq_false_iff_ne.mpr c49
            have c49x0 : ((Go.bits .and .u64 (Go.bits .or .u64 a1_0 (Go.bits .and .u64 (Go.bits .xor .u64 (if IntKind.u64.signed = true then -1 else IntKind.u64.max) t200) (Go.bits .andNot .u64 t193 t207))) (Go.bits .or .u64 a1_1 (Go.bits .and .u64 t200 (Go.bits .andNot .u64 t193 t207)))) == 0) = false := c49b0
            have c49b1 : ((Go.bits .and .u64 (Go.bits .or .u64 a1_0 (Go.bits .and .u64 (Go.bits .xor .u64 18446744073709551615 t200) (Go.bits .andNot .u64 t193 t207))) (Go.bits .or .u64 a1_1 (Go.bits .and .u64 t200 (Go.bits .andNot .u64 t193 t207)))) != 0) = true := bne_iff_ne.mpr c49
            have c49x1 : ((Go.bits .and .u64 (Go.bits .or .u64 a1_0 (Go.bits .and .u64 (Go.bits .xor .u64 (if IntKind.u64.signed = true then -1 else IntKind.u64.max) t200) (Go.bits .andNot .u64 t193 t207))) (Go.bits .or .u64 a1_1 (Go.bits .and .u64 t200 (Go.bits .andNot .u64 t193 t207)))) != 0) = true := c49b1
            simp only [Option.some.injEq, Prod.mk.injEq] at H
            obtain ⟨rfl, rfl, rfl, rfl, rfl, rfl, rfl⟩ := H
            have hnb70 := NB190_191.out
            have hnc70 := NB191_190.out
            have hcz71_0 : wc.cell? ⟨gb190, 0, none⟩ = some (.int .u64 a1_0) := (blk_cell BK190.out 0).trans rfl
            have hcz71_1 : wc.cell? ⟨gb190, 1, none⟩ = some (.int .u64 a1_1) := (blk_cell BK190.out 1).trans rfl
            have hcz71_2 : wc.cell? ⟨gb190, 2, none⟩ = some (.int .u64 ji9) := (blk_cell BK190.out 2).trans rfl
            have hcz71_3 : wc.cell? ⟨gb190, 3, none⟩ = some (.int .u64 ji10) := (blk_cell BK190.out 3).trans rfl
            have hcz71_4 : wc.cell? ⟨gb190, 4, none⟩ = some (.int .i64 ji27) := (blk_cell BK190.out 4).trans rfl
            have hcz71_5 : wc.cell? ⟨gb190, 5, none⟩ = some (.int .i64 ji29) := (blk_cell BK190.out 5).trans rfl
            have hfz71_0 := blk_frozen BK190.out 0
            have hfz71_1 := blk_frozen BK190.out 1
            have hfz71_2 := blk_frozen BK190.out 2
            have hfz71_3 := blk_frozen BK190.out 3
            have hfz71_4 := blk_frozen BK190.out 4
            have hfz71_5 := blk_frozen BK190.out 5
            go_wp2_with (first | ((with_reducible refine gate_callee (f := 76) rfl ?_); refine goesL_ (some 86) rfl rfl Try.func76 (by kernel_rfl) rfl #[.agg #[.int .u64 a1_0, .int .u64 a1_1, .int .u64 ji9, .int .u64 ji10, .int .i64 ji27, .int .i64 ji29]] rfl (by (try simp only [List.map_toArray, List.map_cons, List.map_nil]); first | done | (simp only [hji10, hji27, hji29, hji9]; rfl) | rfl | (simp only [List.length_drop, List.length_take]; rfl)) ?_; (with_reducible refine (facts_span.calls a1_0 a1_1 ji9 ji10 ji27 ji29 t196 t197 t198 t199 _ A44.out).mono ?_); rintro e w72 ⟨rfl, hb⟩; refine ⟨_, rfl, ?_⟩; replace BK190 := bkB BK190.out hb; replace BK191 := bkB BK191.out hb; replace HB := bsB HB.out hb; (try clear hb)) | ((with_reducible refine gate_callee (f := 53) rfl ?_); refine gL (some 87) Try.func53 #[.int .i64 a0, .agg #[.int .u64 t196, .int .u64 t197, .int .i64 t198, .int .i64 t199]] ?_; (with_reducible refine (interval_Tighten.calls kj29 a0 t196 t197 t198 t199 t200 t201 t202 t203 true _ A45.out).mono ?_); rintro e w73 ⟨rfl, hb⟩; refine ⟨_, rfl, ?_⟩; have n0_ := bkB BK190.out hb; have n1_ := bkB BK191.out hb; have n2_ := bsB HB.out hb; clear BK190; clear BK191; clear HB; have BK190 := n0_; have BK191 := n1_; have HB := n2_; clear n0_ n1_ n2_; (try clear hb); (try clear hb2); (try clear hk); (try clear hi)) | ((with_reducible refine gate_dst (N := 10) rfl ?_); refine box_event ?hg (N := 10) ?hd (cs := #[.int .u64 0, .int .u64 0, .int .i64 0, .int .i64 0]) (t := 30) ?hr ?_; (case hd => rfl); (case hg => rfl); (case hr => first | (go_simp; done) | (go_simp; rfl)); intro gb205 hg w74 hbox hb; have n0_ := bkB BK190.out hb; have n1_ := bkB BK191.out hb; have n2_ := bsB HB.out hb; have n3_ := Aside0.mk (hbox); have n4_ := szB hg HB.out; have n5_ := szB hg HB.out; have n6_ := Aside0.mk ((by rw [hg]; exact Nat.ne_of_lt (blk_lt (g := gb190) (o := .cells #[.int .u64 a1_0, .int .u64 a1_1, .int .u64 ji9, .int .u64 ji10, .int .i64 ji27, .int .i64 ji29] 50 (0, 0)) (by exact bfL BK190.out)) : gb190 ≠ gb205)); have n7_ := Aside0.mk ((by rw [hg]; exact Nat.ne_of_gt (blk_lt (g := gb190) (o := .cells #[.int .u64 a1_0, .int .u64 a1_1, .int .u64 ji9, .int .u64 ji10, .int .i64 ji27, .int .i64 ji29] 50 (0, 0)) (by exact bfL BK190.out)) : gb205 ≠ gb190)); have n8_ := Aside0.mk ((by rw [hg]; exact Nat.ne_of_lt (blk_lt (g := gb191) (o := .cells #[.int .u64 0, .int .u64 0, .int .u64 0, .int .u64 0, .int .i64 0, .int .i64 0] 50 (0, 0)) (by exact bfL BK191.out)) : gb191 ≠ gb205)); have n9_ := Aside0.mk ((by rw [hg]; exact Nat.ne_of_gt (blk_lt (g := gb191) (o := .cells #[.int .u64 0, .int .u64 0, .int .u64 0, .int .u64 0, .int .i64 0, .int .i64 0] 50 (0, 0)) (by exact bfL BK191.out)) : gb205 ≠ gb191)); clear BK190; clear BK191; clear HB; have BK190 := n0_; have BK191 := n1_; have HB := n2_; have BK205 := n3_; have GW205 := n4_; have GE205 := n5_; have NB190_205 := n6_; have NB205_190 := n7_; have NB191_205 := n8_; have NB205_191 := n9_; clear n0_ n1_ n2_ n3_ n4_ n5_ n6_ n7_ n8_ n9_; clear hb hbox hg; have hnb75 := NB205_190.out; have hnc75 := NB190_205.out; have hnb76 := NB205_191.out; have hnc76 := NB191_205.out; have hcz77_0 : w74.cell? ⟨gb205, 0, none⟩ = some (.int .u64 0) := (blk_cell BK205.out 0).trans rfl; have hcz77_1 : w74.cell? ⟨gb205, 1, none⟩ = some (.int .u64 0) := (blk_cell BK205.out 1).trans rfl; have hcz77_2 : w74.cell? ⟨gb205, 2, none⟩ = some (.int .i64 0) := (blk_cell BK205.out 2).trans rfl; have hcz77_3 : w74.cell? ⟨gb205, 3, none⟩ = some (.int .i64 0) := (blk_cell BK205.out 3).trans rfl; have hfz77_0 := blk_frozen BK205.out 0; have hfz77_1 := blk_frozen BK205.out 1; have hfz77_2 := blk_frozen BK205.out 2; have hfz77_3 := blk_frozen BK205.out 3) | ((with_reducible refine gate_callee (f := 77) rfl ?_); refine gL (some 99) Try.func77 #[.int .u64 (Go.bits .xor .u64 t200 t201)] ?_; (with_reducible refine (bits_Len64.calls kj29 (Go.bits .xor .u64 t200 t201) t206 _ A47.out).mono ?_); rintro e w' ⟨rfl, ⟨nd, rfl⟩⟩; refine ⟨_, rfl, ?_⟩) | ((with_reducible refine gate_callee (f := 56) rfl ?_); refine gL (some 100) Try.func56 #[.int .i64 t206] ?_; (with_reducible refine (bits_Mask.calls t206 t207 _ A48.out).mono ?_); rintro e w78 ⟨rfl, hb⟩; refine ⟨_, rfl, ?_⟩; have n0_ := Aside0.mk (blk_below (g := gb190) (o := .cells #[.int .u64 a1_0, .int .u64 a1_1, .int .u64 ji9, .int .u64 ji10, .int .i64 ji27, .int .i64 ji29] 50 (0, 0)) (by exact bfL BK190.out) hb); have n1_ := Aside0.mk (blk_below (g := gb191) (o := .cells #[.int .u64 0, .int .u64 0, .int .u64 0, .int .u64 0, .int .i64 0, .int .i64 0] 50 (0, 0)) (by exact bfL BK191.out) hb); have n2_ := Aside0.mk (blk_below (g := gb205) (o := .cells #[.int .u64 t200, .int .u64 t201, .int .i64 t202, .int .i64 t203] 30 (0, 0)) (by (with_reducible repeat (first | refine blk_drewN ?_ _ | refine blk_drew ?_ | refine blk_alloc ?_ _)); refine blk_put (cs := #[.int .u64 t200, .int .u64 t201, .int .i64 t202, .int .i64 0]) ?_ 3 _ rfl; (with_reducible repeat (first | refine blk_drewN ?_ _ | refine blk_drew ?_ | refine blk_alloc ?_ _)); refine blk_put (cs := #[.int .u64 t200, .int .u64 t201, .int .i64 0, .int .i64 0]) ?_ 2 _ rfl; (with_reducible repeat (first | refine blk_drewN ?_ _ | refine blk_drew ?_ | refine blk_alloc ?_ _)); refine blk_put (cs := #[.int .u64 t200, .int .u64 0, .int .i64 0, .int .i64 0]) ?_ 1 _ rfl; (with_reducible repeat (first | refine blk_drewN ?_ _ | refine blk_drew ?_ | refine blk_alloc ?_ _)); refine blk_put (cs := #[.int .u64 0, .int .u64 0, .int .i64 0, .int .i64 0]) ?_ 0 _ rfl; exact bfL BK205.out) hb); have n3_ := bsB HB.out hb; clear BK190; clear BK191; clear BK205; clear HB; have BK190 := n0_; have BK191 := n1_; have BK205 := n2_; have HB := n3_; clear n0_ n1_ n2_ n3_; (try clear hb); (try clear hb2); (try clear hk); (try clear hi); have hcz79_0 : w78.cell? ⟨gb190, 0, none⟩ = some (.int .u64 a1_0) := (blk_cell BK190.out 0).trans rfl; have hcz79_1 : w78.cell? ⟨gb190, 1, none⟩ = some (.int .u64 a1_1) := (blk_cell BK190.out 1).trans rfl; have hcz79_2 : w78.cell? ⟨gb190, 2, none⟩ = some (.int .u64 ji9) := (blk_cell BK190.out 2).trans rfl; have hcz79_3 : w78.cell? ⟨gb190, 3, none⟩ = some (.int .u64 ji10) := (blk_cell BK190.out 3).trans rfl; have hcz79_4 : w78.cell? ⟨gb190, 4, none⟩ = some (.int .i64 ji27) := (blk_cell BK190.out 4).trans rfl; have hcz79_5 : w78.cell? ⟨gb190, 5, none⟩ = some (.int .i64 ji29) := (blk_cell BK190.out 5).trans rfl; have hfz79_0 := blk_frozen BK190.out 0; have hfz79_1 := blk_frozen BK190.out 1; have hfz79_2 := blk_frozen BK190.out 2; have hfz79_3 := blk_frozen BK190.out 3; have hfz79_4 := blk_frozen BK190.out 4; have hfz79_5 := blk_frozen BK190.out 5; have hcz80_0 : w78.cell? ⟨gb205, 0, none⟩ = some (.int .u64 t200) := (blk_cell BK205.out 0).trans rfl; have hcz80_1 : w78.cell? ⟨gb205, 1, none⟩ = some (.int .u64 t201) := (blk_cell BK205.out 1).trans rfl; have hcz80_2 : w78.cell? ⟨gb205, 2, none⟩ = some (.int .i64 t202) := (blk_cell BK205.out 2).trans rfl; have hcz80_3 : w78.cell? ⟨gb205, 3, none⟩ = some (.int .i64 t203) := (blk_cell BK205.out 3).trans rfl; have hfz80_0 := blk_frozen BK205.out 0; have hfz80_1 := blk_frozen BK205.out 1; have hfz80_2 := blk_frozen BK205.out 2; have hfz80_3 := blk_frozen BK205.out 3) | ((with_reducible refine gate_dst (N := 13) rfl ?_); refine box_event ?hg (N := 13) ?hd (cs := #[.int .u64 0, .int .u64 0]) (t := 110) ?hr ?_; (case hd => rfl); (case hg => rfl); (case hr => first | (go_simp; done) | (go_simp; rfl)); intro gb208 hg w81 hbox hb; have n0_ := bkB BK190.out hb; have n1_ := bkB BK191.out hb; have n2_ := bkB BK205.out hb; have n3_ := bsB HB.out hb; have n4_ := Aside0.mk (hbox); have n5_ := szB hg HB.out; have n6_ := szB hg HB.out; have n7_ := Aside0.mk ((by rw [hg]; exact Nat.ne_of_lt (blk_lt (g := gb190) (o := .cells #[.int .u64 a1_0, .int .u64 a1_1, .int .u64 ji9, .int .u64 ji10, .int .i64 ji27, .int .i64 ji29] 50 (0, 0)) (by exact bfL BK190.out)) : gb190 ≠ gb208)); have n8_ := Aside0.mk ((by rw [hg]; exact Nat.ne_of_gt (blk_lt (g := gb190) (o := .cells #[.int .u64 a1_0, .int .u64 a1_1, .int .u64 ji9, .int .u64 ji10, .int .i64 ji27, .int .i64 ji29] 50 (0, 0)) (by exact bfL BK190.out)) : gb208 ≠ gb190)); have n9_ := Aside0.mk ((by rw [hg]; exact Nat.ne_of_lt (blk_lt (g := gb191) (o := .cells #[.int .u64 0, .int .u64 0, .int .u64 0, .int .u64 0, .int .i64 0, .int .i64 0] 50 (0, 0)) (by exact bfL BK191.out)) : gb191 ≠ gb208)); have n10_ := Aside0.mk ((by rw [hg]; exact Nat.ne_of_gt (blk_lt (g := gb191) (o := .cells #[.int .u64 0, .int .u64 0, .int .u64 0, .int .u64 0, .int .i64 0, .int .i64 0] 50 (0, 0)) (by exact bfL BK191.out)) : gb208 ≠ gb191)); have n11_ := Aside0.mk ((by rw [hg]; exact Nat.ne_of_lt (blk_lt (g := gb205) (o := .cells #[.int .u64 t200, .int .u64 t201, .int .i64 t202, .int .i64 t203] 30 (0, 0)) (by exact bfL BK205.out)) : gb205 ≠ gb208)); have n12_ := Aside0.mk ((by rw [hg]; exact Nat.ne_of_gt (blk_lt (g := gb205) (o := .cells #[.int .u64 t200, .int .u64 t201, .int .i64 t202, .int .i64 t203] 30 (0, 0)) (by exact bfL BK205.out)) : gb208 ≠ gb205)); clear BK190; clear BK191; clear BK205; clear HB; have BK190 := n0_; have BK191 := n1_; have BK205 := n2_; have HB := n3_; have BK208 := n4_; have GW208 := n5_; have GE208 := n6_; have NB190_208 := n7_; have NB208_190 := n8_; have NB191_208 := n9_; have NB208_191 := n10_; have NB205_208 := n11_; have NB208_205 := n12_; clear n0_ n1_ n2_ n3_ n4_ n5_ n6_ n7_ n8_ n9_ n10_ n11_ n12_; clear hb hbox hg; have hnb82 := NB208_190.out; have hnc82 := NB190_208.out; have hnb83 := NB208_191.out; have hnc83 := NB191_208.out; have hnb84 := NB208_205.out; have hnc84 := NB205_208.out; have hcz85_0 : w81.cell? ⟨gb208, 0, none⟩ = some (.int .u64 0) := (blk_cell BK208.out 0).trans rfl; have hcz85_1 : w81.cell? ⟨gb208, 1, none⟩ = some (.int .u64 0) := (blk_cell BK208.out 1).trans rfl; have hfz85_0 := blk_frozen BK208.out 0; have hfz85_1 := blk_frozen BK208.out 1; have hcz86_0 : w81.cell? ⟨gb191, 0, none⟩ = some (.int .u64 0) := (blk_cell BK191.out 0).trans rfl; have hcz86_1 : w81.cell? ⟨gb191, 1, none⟩ = some (.int .u64 0) := (blk_cell BK191.out 1).trans rfl; have hcz86_2 : w81.cell? ⟨gb191, 2, none⟩ = some (.int .u64 0) := (blk_cell BK191.out 2).trans rfl; have hcz86_3 : w81.cell? ⟨gb191, 3, none⟩ = some (.int .u64 0) := (blk_cell BK191.out 3).trans rfl; have hcz86_4 : w81.cell? ⟨gb191, 4, none⟩ = some (.int .i64 0) := (blk_cell BK191.out 4).trans rfl; have hcz86_5 : w81.cell? ⟨gb191, 5, none⟩ = some (.int .i64 0) := (blk_cell BK191.out 5).trans rfl; have hfz86_0 := blk_frozen BK191.out 0; have hfz86_1 := blk_frozen BK191.out 1; have hfz86_2 := blk_frozen BK191.out 2; have hfz86_3 := blk_frozen BK191.out 3; have hfz86_4 := blk_frozen BK191.out 4; have hfz86_5 := blk_frozen BK191.out 5))
            refine bodyPost_ret (results_ct rfl _ _ gb191 50 #[.int .u64 0, .int .u64 0, .int .u64 0, .int .u64 0, .int .i64 0, .int .i64 0] (0, 0) _ rfl (by (with_reducible repeat (first | refine blk_drewN ?_ _ | refine blk_drew ?_ | refine blk_alloc ?_ _)); refine blk_put (cs := #[.int .u64 0, .int .u64 0, .int .u64 0, .int .u64 0, .int .i64 0, .int .i64 0]) ?_ 5 _ rfl; (with_reducible repeat (first | refine blk_drewN ?_ _ | refine blk_drew ?_ | refine blk_alloc ?_ _)); refine blk_put (cs := #[.int .u64 0, .int .u64 0, .int .u64 0, .int .u64 0, .int .i64 0, .int .i64 0]) ?_ 4 _ rfl; (with_reducible repeat (first | refine blk_drewN ?_ _ | refine blk_drew ?_ | refine blk_alloc ?_ _)); refine blk_put (cs := #[.int .u64 0, .int .u64 0, .int .u64 0, .int .u64 0, .int .i64 0, .int .i64 0]) ?_ 3 _ rfl; (with_reducible repeat (first | refine blk_drewN ?_ _ | refine blk_drew ?_ | refine blk_alloc ?_ _)); refine blk_put (cs := #[.int .u64 0, .int .u64 0, .int .u64 0, .int .u64 0, .int .i64 0, .int .i64 0]) ?_ 2 _ rfl; (with_reducible repeat (first | refine blk_drewN ?_ _ | refine blk_drew ?_ | refine blk_alloc ?_ _)); refine blk_put (cs := #[.int .u64 0, .int .u64 0, .int .u64 0, .int .u64 0, .int .i64 0, .int .i64 0]) ?_ 1 _ rfl; (with_reducible repeat (first | refine blk_drewN ?_ _ | refine blk_drew ?_ | refine blk_alloc ?_ _)); refine blk_put (cs := #[.int .u64 0, .int .u64 0, .int .u64 0, .int .u64 0, .int .i64 0, .int .i64 0]) ?_ 0 _ rfl; exact bfL BK191.out) Try.underlying50 rfl (by kernel_rfl)) rfl ?_
            exact ⟨by first | rfl | (simp [errW_none, errW_some] <;> rfl) | (simp only [← hji6, ← hji8, ← hji9, ← hji10, ← hji27, ← hji29]; first | rfl | (simp [errW_none, errW_some] <;> rfl)) | (simp [*, errW_none, errW_some] <;> rfl), bsL HB.out⟩
          ·
           replace c46 := Bool.eq_false_iff.mpr c46
           subst c46
           have H1 : (some (0, 0, 0, 0, 0, 0, false)) = some (r1, r2, r3, r4, r5, r6, r7) := by rw [if_neg (show ¬ (false = true) by decide)] at H; exact H
           clear H
           have H := H1
           clear H1
           simp only [Option.some.injEq, Prod.mk.injEq] at H
           obtain ⟨rfl, rfl, rfl, rfl, rfl, rfl, rfl⟩ := H
           have hnb87 := NB190_191.out
           have hnc87 := NB191_190.out
           have hcz88_0 : wc.cell? ⟨gb190, 0, none⟩ = some (.int .u64 a1_0) := (blk_cell BK190.out 0).trans rfl
           have hcz88_1 : wc.cell? ⟨gb190, 1, none⟩ = some (.int .u64 a1_1) := (blk_cell BK190.out 1).trans rfl
           have hcz88_2 : wc.cell? ⟨gb190, 2, none⟩ = some (.int .u64 ji9) := (blk_cell BK190.out 2).trans rfl
           have hcz88_3 : wc.cell? ⟨gb190, 3, none⟩ = some (.int .u64 ji10) := (blk_cell BK190.out 3).trans rfl
           have hcz88_4 : wc.cell? ⟨gb190, 4, none⟩ = some (.int .i64 ji27) := (blk_cell BK190.out 4).trans rfl
           have hcz88_5 : wc.cell? ⟨gb190, 5, none⟩ = some (.int .i64 ji29) := (blk_cell BK190.out 5).trans rfl
           have hfz88_0 := blk_frozen BK190.out 0
           have hfz88_1 := blk_frozen BK190.out 1
           have hfz88_2 := blk_frozen BK190.out 2
           have hfz88_3 := blk_frozen BK190.out 3
           have hfz88_4 := blk_frozen BK190.out 4
           have hfz88_5 := blk_frozen BK190.out 5
           go_wp2_with (first | ((with_reducible refine gate_callee (f := 76) rfl ?_); refine goesL_ (some 86) rfl rfl Try.func76 (by kernel_rfl) rfl #[.agg #[.int .u64 a1_0, .int .u64 a1_1, .int .u64 ji9, .int .u64 ji10, .int .i64 ji27, .int .i64 ji29]] rfl (by (try simp only [List.map_toArray, List.map_cons, List.map_nil]); first | done | (simp only [hji10, hji27, hji29, hji9]; rfl) | rfl | (simp only [List.length_drop, List.length_take]; rfl)) ?_; (with_reducible refine (facts_span.calls a1_0 a1_1 ji9 ji10 ji27 ji29 t196 t197 t198 t199 _ A44.out).mono ?_); rintro e w89 ⟨rfl, hb⟩; refine ⟨_, rfl, ?_⟩; replace BK190 := bkB BK190.out hb; replace BK191 := bkB BK191.out hb; replace HB := bsB HB.out hb; (try clear hb)) | ((with_reducible refine gate_callee (f := 53) rfl ?_); refine gL (some 87) Try.func53 #[.int .i64 a0, .agg #[.int .u64 t196, .int .u64 t197, .int .i64 t198, .int .i64 t199]] ?_; (with_reducible refine (interval_Tighten.calls kj29 a0 t196 t197 t198 t199 t200 t201 t202 t203 false _ A45.out).mono ?_); rintro e w90 ⟨rfl, hb⟩; refine ⟨_, rfl, ?_⟩; have n0_ := bkB BK190.out hb; have n1_ := bkB BK191.out hb; have n2_ := bsB HB.out hb; clear BK190; clear BK191; clear HB; have BK190 := n0_; have BK191 := n1_; have HB := n2_; clear n0_ n1_ n2_; (try clear hb); (try clear hb2); (try clear hk); (try clear hi)) | ((with_reducible refine gate_dst (N := 10) rfl ?_); refine box_event ?hg (N := 10) ?hd (cs := #[.int .u64 0, .int .u64 0, .int .i64 0, .int .i64 0]) (t := 30) ?hr ?_; (case hd => rfl); (case hg => rfl); (case hr => first | (go_simp; done) | (go_simp; rfl)); intro gb205 hg w91 hbox hb; have n0_ := bkB BK190.out hb; have n1_ := bkB BK191.out hb; have n2_ := bsB HB.out hb; have n3_ := Aside0.mk (hbox); have n4_ := szB hg HB.out; have n5_ := szB hg HB.out; have n6_ := Aside0.mk ((by rw [hg]; exact Nat.ne_of_lt (blk_lt (g := gb190) (o := .cells #[.int .u64 a1_0, .int .u64 a1_1, .int .u64 ji9, .int .u64 ji10, .int .i64 ji27, .int .i64 ji29] 50 (0, 0)) (by exact bfL BK190.out)) : gb190 ≠ gb205)); have n7_ := Aside0.mk ((by rw [hg]; exact Nat.ne_of_gt (blk_lt (g := gb190) (o := .cells #[.int .u64 a1_0, .int .u64 a1_1, .int .u64 ji9, .int .u64 ji10, .int .i64 ji27, .int .i64 ji29] 50 (0, 0)) (by exact bfL BK190.out)) : gb205 ≠ gb190)); have n8_ := Aside0.mk ((by rw [hg]; exact Nat.ne_of_lt (blk_lt (g := gb191) (o := .cells #[.int .u64 0, .int .u64 0, .int .u64 0, .int .u64 0, .int .i64 0, .int .i64 0] 50 (0, 0)) (by exact bfL BK191.out)) : gb191 ≠ gb205)); have n9_ := Aside0.mk ((by rw [hg]; exact Nat.ne_of_gt (blk_lt (g := gb191) (o := .cells #[.int .u64 0, .int .u64 0, .int .u64 0, .int .u64 0, .int .i64 0, .int .i64 0] 50 (0, 0)) (by exact bfL BK191.out)) : gb205 ≠ gb191)); clear BK190; clear BK191; clear HB; have BK190 := n0_; have BK191 := n1_; have HB := n2_; have BK205 := n3_; have GW205 := n4_; have GE205 := n5_; have NB190_205 := n6_; have NB205_190 := n7_; have NB191_205 := n8_; have NB205_191 := n9_; clear n0_ n1_ n2_ n3_ n4_ n5_ n6_ n7_ n8_ n9_; clear hb hbox hg; have hnb92 := NB205_190.out; have hnc92 := NB190_205.out; have hnb93 := NB205_191.out; have hnc93 := NB191_205.out; have hcz94_0 : w91.cell? ⟨gb205, 0, none⟩ = some (.int .u64 0) := (blk_cell BK205.out 0).trans rfl; have hcz94_1 : w91.cell? ⟨gb205, 1, none⟩ = some (.int .u64 0) := (blk_cell BK205.out 1).trans rfl; have hcz94_2 : w91.cell? ⟨gb205, 2, none⟩ = some (.int .i64 0) := (blk_cell BK205.out 2).trans rfl; have hcz94_3 : w91.cell? ⟨gb205, 3, none⟩ = some (.int .i64 0) := (blk_cell BK205.out 3).trans rfl; have hfz94_0 := blk_frozen BK205.out 0; have hfz94_1 := blk_frozen BK205.out 1; have hfz94_2 := blk_frozen BK205.out 2; have hfz94_3 := blk_frozen BK205.out 3; have hcz95_0 : w91.cell? ⟨gb191, 0, none⟩ = some (.int .u64 0) := (blk_cell BK191.out 0).trans rfl; have hcz95_1 : w91.cell? ⟨gb191, 1, none⟩ = some (.int .u64 0) := (blk_cell BK191.out 1).trans rfl; have hcz95_2 : w91.cell? ⟨gb191, 2, none⟩ = some (.int .u64 0) := (blk_cell BK191.out 2).trans rfl; have hcz95_3 : w91.cell? ⟨gb191, 3, none⟩ = some (.int .u64 0) := (blk_cell BK191.out 3).trans rfl; have hcz95_4 : w91.cell? ⟨gb191, 4, none⟩ = some (.int .i64 0) := (blk_cell BK191.out 4).trans rfl; have hcz95_5 : w91.cell? ⟨gb191, 5, none⟩ = some (.int .i64 0) := (blk_cell BK191.out 5).trans rfl; have hfz95_0 := blk_frozen BK191.out 0; have hfz95_1 := blk_frozen BK191.out 1; have hfz95_2 := blk_frozen BK191.out 2; have hfz95_3 := blk_frozen BK191.out 3; have hfz95_4 := blk_frozen BK191.out 4; have hfz95_5 := blk_frozen BK191.out 5))
           refine bodyPost_ret (results_ct rfl _ _ gb191 50 #[.int .u64 0, .int .u64 0, .int .u64 0, .int .u64 0, .int .i64 0, .int .i64 0] (0, 0) _ rfl (by (with_reducible repeat (first | refine blk_drewN ?_ _ | refine blk_drew ?_ | refine blk_alloc ?_ _)); refine blk_put (cs := #[.int .u64 0, .int .u64 0, .int .u64 0, .int .u64 0, .int .i64 0, .int .i64 0]) ?_ 5 _ rfl; (with_reducible repeat (first | refine blk_drewN ?_ _ | refine blk_drew ?_ | refine blk_alloc ?_ _)); refine blk_put (cs := #[.int .u64 0, .int .u64 0, .int .u64 0, .int .u64 0, .int .i64 0, .int .i64 0]) ?_ 4 _ rfl; (with_reducible repeat (first | refine blk_drewN ?_ _ | refine blk_drew ?_ | refine blk_alloc ?_ _)); refine blk_put (cs := #[.int .u64 0, .int .u64 0, .int .u64 0, .int .u64 0, .int .i64 0, .int .i64 0]) ?_ 3 _ rfl; (with_reducible repeat (first | refine blk_drewN ?_ _ | refine blk_drew ?_ | refine blk_alloc ?_ _)); refine blk_put (cs := #[.int .u64 0, .int .u64 0, .int .u64 0, .int .u64 0, .int .i64 0, .int .i64 0]) ?_ 2 _ rfl; (with_reducible repeat (first | refine blk_drewN ?_ _ | refine blk_drew ?_ | refine blk_alloc ?_ _)); refine blk_put (cs := #[.int .u64 0, .int .u64 0, .int .u64 0, .int .u64 0, .int .i64 0, .int .i64 0]) ?_ 1 _ rfl; (with_reducible repeat (first | refine blk_drewN ?_ _ | refine blk_drew ?_ | refine blk_alloc ?_ _)); refine blk_put (cs := #[.int .u64 0, .int .u64 0, .int .u64 0, .int .u64 0, .int .i64 0, .int .i64 0]) ?_ 0 _ rfl; exact bfL BK191.out) Try.underlying50 rfl (by kernel_rfl)) rfl ?_
           exact ⟨by first | rfl | (simp [errW_none, errW_some] <;> rfl) | (simp only [← hji6, ← hji8, ← hji9, ← hji10, ← hji27, ← hji29]; first | rfl | (simp [errW_none, errW_some] <;> rfl)) | (simp [*, errW_none, errW_some] <;> rfl), bsL HB.out⟩
  ·
   rw [if_neg c7] at H
   exact absurd H (by simp)
 ·
  replace c4 := Bool.eq_false_iff.mpr c4
  subst c4
  have H1 : (some (0, 0, 0, 0, 0, 0, false)) = some (r1, r2, r3, r4, r5, r6, r7) := by rw [if_neg (show ¬ (false = true) by decide)] at H; exact H
  clear H
  have H := H1
  clear H1
  simp only [Option.some.injEq, Prod.mk.injEq] at H
  obtain ⟨rfl, rfl, rfl, rfl, rfl, rfl, rfl⟩ := H
  go_enter Try.func25, Try.ntmps25
  go_wp2_with (first | ((with_reducible refine gate_dst (N := 3) rfl ?_); refine box_event ?hg (N := 3) ?hd (cs := #[.int .u64 a1_0, .int .u64 a1_1, .int .u64 a1_2, .int .u64 a1_3, .int .i64 a1_4, .int .i64 a1_5]) (t := 50) ?hr ?_; (case hd => rfl); (case hg => rfl); (case hr => first | (go_simp; done) | (go_simp; rfl)); intro gb190 hg w96 hbox hb; have n0_ := bsB HB.out hb; have n1_ := Aside0.mk (hbox); have n2_ := szB hg HB.out; have n3_ := szB hg HB.out; clear HB; have HB := n0_; have BK190 := n1_; have GW190 := n2_; have GE190 := n3_; clear n0_ n1_ n2_ n3_; clear hb hbox hg) | ((with_reducible refine gate_dst (N := 4) rfl ?_); refine box_event ?hg (N := 4) ?hd (cs := #[.int .u64 0, .int .u64 0, .int .u64 0, .int .u64 0, .int .i64 0, .int .i64 0]) (t := 50) ?hr ?_; (case hd => rfl); (case hg => rfl); (case hr => first | (go_simp; done) | (go_simp; rfl)); intro gb191 hg w97 hbox hb; have n0_ := bkB BK190.out hb; have n1_ := bsB HB.out hb; have n2_ := Aside0.mk (hbox); have n3_ := szB hg HB.out; have n4_ := szB hg HB.out; have n5_ := Aside0.mk ((by rw [hg]; exact Nat.ne_of_lt (blk_lt (g := gb190) (o := .cells #[.int .u64 a1_0, .int .u64 a1_1, .int .u64 a1_2, .int .u64 a1_3, .int .i64 a1_4, .int .i64 a1_5] 50 (0, 0)) (by exact bfL BK190.out)) : gb190 ≠ gb191)); have n6_ := Aside0.mk ((by rw [hg]; exact Nat.ne_of_gt (blk_lt (g := gb190) (o := .cells #[.int .u64 a1_0, .int .u64 a1_1, .int .u64 a1_2, .int .u64 a1_3, .int .i64 a1_4, .int .i64 a1_5] 50 (0, 0)) (by exact bfL BK190.out)) : gb191 ≠ gb190)); clear BK190; clear HB; have BK190 := n0_; have HB := n1_; have BK191 := n2_; have GW191 := n3_; have GE191 := n4_; have NB190_191 := n5_; have NB191_190 := n6_; clear n0_ n1_ n2_ n3_ n4_ n5_ n6_; clear hb hbox hg; have hnb98 := NB190_191.out; have hnc98 := NB191_190.out; have hcz99_0 : w97.cell? ⟨gb190, 0, none⟩ = some (.int .u64 a1_0) := (blk_cell BK190.out 0).trans rfl; have hcz99_1 : w97.cell? ⟨gb190, 1, none⟩ = some (.int .u64 a1_1) := (blk_cell BK190.out 1).trans rfl; have hcz99_2 : w97.cell? ⟨gb190, 2, none⟩ = some (.int .u64 a1_2) := (blk_cell BK190.out 2).trans rfl; have hcz99_3 : w97.cell? ⟨gb190, 3, none⟩ = some (.int .u64 a1_3) := (blk_cell BK190.out 3).trans rfl; have hcz99_4 : w97.cell? ⟨gb190, 4, none⟩ = some (.int .i64 a1_4) := (blk_cell BK190.out 4).trans rfl; have hcz99_5 : w97.cell? ⟨gb190, 5, none⟩ = some (.int .i64 a1_5) := (blk_cell BK190.out 5).trans rfl; have hfz99_0 := blk_frozen BK190.out 0; have hfz99_1 := blk_frozen BK190.out 1; have hfz99_2 := blk_frozen BK190.out 2; have hfz99_3 := blk_frozen BK190.out 3; have hfz99_4 := blk_frozen BK190.out 4; have hfz99_5 := blk_frozen BK190.out 5) | ((with_reducible refine gate_callee (f := 34) rfl ?_); refine gL (some 16) Try.func34 #[.int .i64 a0, .agg #[.int .u64 a1_0, .int .u64 a1_1, .int .u64 a1_2, .int .u64 a1_3, .int .i64 a1_4, .int .i64 a1_5]] ?_; (with_reducible refine (facts_Valid.calls a0 a1_0 a1_1 a1_2 a1_3 a1_4 a1_5 false _ A3.out).mono ?_); rintro e w100 ⟨rfl, hb⟩; refine ⟨_, rfl, ?_⟩; have n0_ := bkB BK190.out hb; have n1_ := bkB BK191.out hb; have n2_ := bsB HB.out hb; clear BK190; clear BK191; clear HB; have BK190 := n0_; have BK191 := n1_; have HB := n2_; clear n0_ n1_ n2_; (try clear hb); (try clear hb2); (try clear hk); (try clear hi); have hcz101_0 : w100.cell? ⟨gb191, 0, none⟩ = some (.int .u64 0) := (blk_cell BK191.out 0).trans rfl; have hcz101_1 : w100.cell? ⟨gb191, 1, none⟩ = some (.int .u64 0) := (blk_cell BK191.out 1).trans rfl; have hcz101_2 : w100.cell? ⟨gb191, 2, none⟩ = some (.int .u64 0) := (blk_cell BK191.out 2).trans rfl; have hcz101_3 : w100.cell? ⟨gb191, 3, none⟩ = some (.int .u64 0) := (blk_cell BK191.out 3).trans rfl; have hcz101_4 : w100.cell? ⟨gb191, 4, none⟩ = some (.int .i64 0) := (blk_cell BK191.out 4).trans rfl; have hcz101_5 : w100.cell? ⟨gb191, 5, none⟩ = some (.int .i64 0) := (blk_cell BK191.out 5).trans rfl; have hfz101_0 := blk_frozen BK191.out 0; have hfz101_1 := blk_frozen BK191.out 1; have hfz101_2 := blk_frozen BK191.out 2; have hfz101_3 := blk_frozen BK191.out 3; have hfz101_4 := blk_frozen BK191.out 4; have hfz101_5 := blk_frozen BK191.out 5))
  refine bodyPost_ret (results_ct rfl _ _ gb191 50 #[.int .u64 0, .int .u64 0, .int .u64 0, .int .u64 0, .int .i64 0, .int .i64 0] (0, 0) _ rfl (by (with_reducible repeat (first | refine blk_drewN ?_ _ | refine blk_drew ?_ | refine blk_alloc ?_ _)); refine blk_put (cs := #[.int .u64 0, .int .u64 0, .int .u64 0, .int .u64 0, .int .i64 0, .int .i64 0]) ?_ 5 _ rfl; (with_reducible repeat (first | refine blk_drewN ?_ _ | refine blk_drew ?_ | refine blk_alloc ?_ _)); refine blk_put (cs := #[.int .u64 0, .int .u64 0, .int .u64 0, .int .u64 0, .int .i64 0, .int .i64 0]) ?_ 4 _ rfl; (with_reducible repeat (first | refine blk_drewN ?_ _ | refine blk_drew ?_ | refine blk_alloc ?_ _)); refine blk_put (cs := #[.int .u64 0, .int .u64 0, .int .u64 0, .int .u64 0, .int .i64 0, .int .i64 0]) ?_ 3 _ rfl; (with_reducible repeat (first | refine blk_drewN ?_ _ | refine blk_drew ?_ | refine blk_alloc ?_ _)); refine blk_put (cs := #[.int .u64 0, .int .u64 0, .int .u64 0, .int .u64 0, .int .i64 0, .int .i64 0]) ?_ 2 _ rfl; (with_reducible repeat (first | refine blk_drewN ?_ _ | refine blk_drew ?_ | refine blk_alloc ?_ _)); refine blk_put (cs := #[.int .u64 0, .int .u64 0, .int .u64 0, .int .u64 0, .int .i64 0, .int .i64 0]) ?_ 1 _ rfl; (with_reducible repeat (first | refine blk_drewN ?_ _ | refine blk_drew ?_ | refine blk_alloc ?_ _)); refine blk_put (cs := #[.int .u64 0, .int .u64 0, .int .u64 0, .int .u64 0, .int .i64 0, .int .i64 0]) ?_ 0 _ rfl; exact bfL BK191.out) Try.underlying50 rfl (by kernel_rfl)) rfl ?_
  exact ⟨by first | rfl | (simp [errW_none, errW_some] <;> rfl) | (simp [*, errW_none, errW_some] <;> rfl), bsL HB.out⟩

end Go.Proofs.Ytbiohdgeclokmaa.P
