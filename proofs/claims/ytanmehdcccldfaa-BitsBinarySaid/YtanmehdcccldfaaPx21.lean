-- made by a program of this work (wip/mkprint.py, wip/mp.sh) out of the translation
import Derived.Test.YtanmehdcccldfaaPx0
import Derived.Test.YtanmehdcccldfaaPx17
import Derived.Test.YtanmehdcccldfaaPx18
import Derived.Test.YtanmehdcccldfaaPx19
import Derived.Test.YtanmehdcccldfaaPx20
namespace Go.Proofs.Ytanmehdcccldfaa.P
open Go.RowKit Go.Proofs.YtanmehdcccldfaaW.PrintWords Go.Proofs.YtanmehdcccldfaaW.PrintLast Go.Proofs.YtanmehdcccldfaaW.PrintMore
attribute [local go_sem] max2_int min2_int max_two min_two max_three min_three max_four min_four   -- for this text's walks alone
set_option linter.unusedVariables false
set_option linter.unusedSimpArgs false

/-! ### jacquardref01_Binary: function 46 -/
mutual
def jacquardref01_Binary.l0 : Nat → Int → Int → Int → Int → List Int → List Int → List Int → Int → Option (Int)
  | 0, _, _, _, _, _, _, _, _ => none
  | k + 1, x0, x1, x2, x3, x9, x10, x11, x12 => if x12 < (x9.length : Int) then (if x0 = 9 then (if 0 ≤ x12 then (if x12 < (x10.length : Int) then (if x11.length < 17592186044416 then (jacquardref01_Binary.l0 k x0 x1 x2 x3 x9 x10 (x11 ++ [wrap64 ((rd x9 x12) * (rd x10 x12))]) (wrap64 (x12 + 1))) else (none)) else (none)) else (none)) else (if x0 = 10 then (if 0 ≤ x12 then (if x12 < (x10.length : Int) then (if x11.length < 17592186044416 then (jacquardref01_Binary.l0 k x0 x1 x2 x3 x9 x10 (x11 ++ [mx (rd x9 x12) (rd x10 x12)]) (wrap64 (x12 + 1))) else (none)) else (none)) else (none)) else (if x0 = 11 then (if 0 ≤ x12 then (if x12 < (x10.length : Int) then (if x11.length < 17592186044416 then (jacquardref01_Binary.l0 k x0 x1 x2 x3 x9 x10 (x11 ++ [Int.tmod (wrap64 ((rd x9 x12) + (rd x10 x12))) 2]) (wrap64 (x12 + 1))) else (none)) else (none)) else (none)) else (jacquardref01_Binary.l0 k x0 x1 x2 x3 x9 x10 x11 (wrap64 (x12 + 1)))))) else ((jacquardref01_Negative.f k x1 x2).bind fun t451 => (if t451 = true then (jacquardref01_Binary.j1 k x0 x1 x2 x3 x9 x10 x11 1) else (jacquardref01_Binary.j1 k x0 x1 x2 x3 x9 x10 x11 0)))
def jacquardref01_Binary.j1 : Nat → Int → Int → Int → Int → List Int → List Int → List Int → Int → Option (Int)
  | 0, _, _, _, _, _, _, _, _ => none
  | k + 1, x0, x1, x2, x3, x9, x10, x11, x13 => if x0 = 9 then (jacquardref01_Binary.j2 k x0 x1 x2 x3 x9 x10 x11 x13 x0 (x0 == 9)) else (if x0 = 10 then (jacquardref01_Binary.j2 k x0 x1 x2 x3 x9 x10 x11 x13 x0 (x0 == 10)) else (jacquardref01_Binary.j2 k x0 x1 x2 x3 x9 x10 x11 x13 x0 (x0 == 11)))
def jacquardref01_Binary.j2 : Nat → Int → Int → Int → Int → List Int → List Int → List Int → Int → Int → Bool → Option (Int)
  | 0, _, _, _, _, _, _, _, _, _, _ => none
  | k + 1, x0, x1, x2, x3, x9, x10, x11, x13, x81, x82 => if x82 = true then ((jacquardref01_Word.f k x11).bind fun t452 => (some t452)) else (if x81 = 2 then ((jacquardref01_add.f k x9 x10 0).bind fun t453 => ((jacquardref01_Word.f k t453).bind fun t456 => (some t456))) else (if x81 = 3 then ((jacquardref01_Ones.f k x1).bind fun t457 => ((jacquardref01_Bits.f k x1 (IntKind.u64.wrap (t457 - x3))).bind fun t458 => ((jacquardref01_add.f k x9 t458 1).bind fun t461 => ((jacquardref01_Word.f k t461).bind fun t464 => (some t464))))) else (if x81 = 4 then ((jacquardref01_mul.f k x1 x2 x3).bind fun t465 => (some t465)) else (if x81 = 12 then ((jacquardref01_amount.f x1 x3).bind fun t466 => ((jacquardref01_Shl.f k x1 x2 t466).bind fun t467 => (some t467))) else (if x81 = 13 then ((jacquardref01_amount.f x1 x3).bind fun t468 => ((jacquardref01_shr.f k x1 x2 t468 0).bind fun t469 => (some t469))) else (if x81 = 14 then ((jacquardref01_amount.f x1 x3).bind fun t470 => ((jacquardref01_shr.f k x1 x2 t470 x13).bind fun t471 => (some t471))) else (if x81 = 15 then ((jacquardref01_bit.f (x2 == x3)).bind fun t472 => (some t472)) else (if x81 = 16 then ((jacquardref01_bit.f (x2 != x3)).bind fun t473 => (some t473)) else (if x81 = 17 then ((jacquardref01_bit.f (decide (x2 < x3))).bind fun t474 => (some t474)) else (if x81 = 18 then ((jacquardref01_bit.f (decide (x2 ≤ x3))).bind fun t475 => (some t475)) else (if x81 = 19 then ((jacquardref01_Signed.f k x1 x2).bind fun t476 => ((jacquardref01_Signed.f k x1 x3).bind fun t477 => ((jacquardref01_bit.f (decide (t476 < t477))).bind fun t478 => (some t478)))) else (if x81 = 20 then ((jacquardref01_Signed.f k x1 x2).bind fun t479 => ((jacquardref01_Signed.f k x1 x3).bind fun t480 => ((jacquardref01_bit.f (decide (t479 ≤ t480))).bind fun t481 => (some t481)))) else (if x81 = 5 then (jacquardref01_Binary.j3 k x0 x1 x2 x3 (x81 == 5)) else (jacquardref01_Binary.j3 k x0 x1 x2 x3 (x81 == 6)))))))))))))))
def jacquardref01_Binary.j3 : Nat → Int → Int → Int → Int → Bool → Option (Int)
  | 0, _, _, _, _, _ => none
  | k + 1, x0, x1, x2, x3, x180 => if x180 = true then (if x3 = 0 then (if x0 = 5 then ((jacquardref01_Ones.f k x1).bind fun t482 => (some t482)) else (some x2)) else (if x0 = 5 then (some (IntKind.u64.wrap (Int.tdiv x2 x3))) else (some (Int.tmod x2 x3)))) else ((jacquardref01_divide.f k x1 x2 x3).bind fun bt483 => (if x0 = 7 then (some bt483.1) else (some bt483.2)))
end
def jacquardref01_Binary.f (k : Nat) (a0 : Int) (a1 : Int) (a2 : Int) (a3 : Int) : Option (Int) := (jacquardref01_Fit.f k a1 a2).bind fun t428 => ((jacquardref01_Fit.f k a1 a3).bind fun t429 => ((jacquardref01_Bits.f k a1 t428).bind fun t430 => ((jacquardref01_Bits.f k a1 t429).bind fun t433 => (jacquardref01_Binary.l0 k a0 a1 t428 t429 t430 t433 ([] : List Int) 0))))
theorem jacquardref01_Binary.mono_l : ∀ k, (∀ y0 y1 y2 y3 y4 y5 y6 y7, LeO (jacquardref01_Binary.l0 k y0 y1 y2 y3 y4 y5 y6 y7) (jacquardref01_Binary.l0 (k + 1) y0 y1 y2 y3 y4 y5 y6 y7)) ∧ (∀ y0 y1 y2 y3 y4 y5 y6 y7, LeO (jacquardref01_Binary.j1 k y0 y1 y2 y3 y4 y5 y6 y7) (jacquardref01_Binary.j1 (k + 1) y0 y1 y2 y3 y4 y5 y6 y7)) ∧ (∀ y0 y1 y2 y3 y4 y5 y6 y7 y8 y9, LeO (jacquardref01_Binary.j2 k y0 y1 y2 y3 y4 y5 y6 y7 y8 y9) (jacquardref01_Binary.j2 (k + 1) y0 y1 y2 y3 y4 y5 y6 y7 y8 y9)) ∧ (∀ y0 y1 y2 y3 y4, LeO (jacquardref01_Binary.j3 k y0 y1 y2 y3 y4) (jacquardref01_Binary.j3 (k + 1) y0 y1 y2 y3 y4))
  | 0 => ⟨fun _ _ _ _ _ _ _ _ r h => by simp [jacquardref01_Binary.l0] at h, fun _ _ _ _ _ _ _ _ r h => by simp [jacquardref01_Binary.j1] at h, fun _ _ _ _ _ _ _ _ _ _ r h => by simp [jacquardref01_Binary.j2] at h, fun _ _ _ _ _ r h => by simp [jacquardref01_Binary.j3] at h⟩
  | k + 1 => by
    obtain ⟨ih0, ih1, ih2, ih3⟩ := jacquardref01_Binary.mono_l k
    refine ⟨?_, ?_, ?_, ?_⟩
    · intro y0 y1 y2 y3 y4 y5 y6 y7
      unfold jacquardref01_Binary.l0
      repeat' first
      | (with_reducible exact ih0 _ _ _ _ _ _ _ _)
      | (with_reducible exact ih1 _ _ _ _ _ _ _ _)
      | (with_reducible exact ih2 _ _ _ _ _ _ _ _ _ _)
      | (with_reducible exact ih3 _ _ _ _ _)
      | (with_reducible exact jacquardref01_Bits.mono _ _ _)
      | (with_reducible exact jacquardref01_Fit.mono _ _ _)
      | (with_reducible exact jacquardref01_Negative.mono _ _ _)
      | (with_reducible exact jacquardref01_Ones.mono _ _)
      | (with_reducible exact jacquardref01_Shl.mono _ _ _ _)
      | (with_reducible exact jacquardref01_Signed.mono _ _ _)
      | (with_reducible exact jacquardref01_Word.mono _ _)
      | (with_reducible exact jacquardref01_add.mono _ _ _ _)
      | (with_reducible exact jacquardref01_divide.mono _ _ _ _)
      | (with_reducible exact jacquardref01_mul.mono _ _ _ _)
      | (with_reducible exact jacquardref01_shr.mono _ _ _ _ _)
      | (with_reducible exact LeO.refl _)
      | (with_reducible exact LeO.none _)
      | (with_reducible refine LeO.ite ?_ ?_)
      | (with_reducible refine LeO.bind ?_ (fun _ => ?_))
      | exact ih0 _ _ _ _ _ _ _ _
      | exact ih1 _ _ _ _ _ _ _ _
      | exact ih2 _ _ _ _ _ _ _ _ _ _
      | exact ih3 _ _ _ _ _
      | exact jacquardref01_Bits.mono _ _ _
      | exact jacquardref01_Fit.mono _ _ _
      | exact jacquardref01_Negative.mono _ _ _
      | exact jacquardref01_Ones.mono _ _
      | exact jacquardref01_Shl.mono _ _ _ _
      | exact jacquardref01_Signed.mono _ _ _
      | exact jacquardref01_Word.mono _ _
      | exact jacquardref01_add.mono _ _ _ _
      | exact jacquardref01_divide.mono _ _ _ _
      | exact jacquardref01_mul.mono _ _ _ _
      | exact jacquardref01_shr.mono _ _ _ _ _
      | exact LeO.none _
      | refine LeO.ite ?_ ?_
      | refine LeO.bind ?_ (fun _ => ?_)
    · intro y0 y1 y2 y3 y4 y5 y6 y7
      unfold jacquardref01_Binary.j1
      repeat' first
      | (with_reducible exact ih0 _ _ _ _ _ _ _ _)
      | (with_reducible exact ih1 _ _ _ _ _ _ _ _)
      | (with_reducible exact ih2 _ _ _ _ _ _ _ _ _ _)
      | (with_reducible exact ih3 _ _ _ _ _)
      | (with_reducible exact jacquardref01_Bits.mono _ _ _)
      | (with_reducible exact jacquardref01_Fit.mono _ _ _)
      | (with_reducible exact jacquardref01_Negative.mono _ _ _)
      | (with_reducible exact jacquardref01_Ones.mono _ _)
      | (with_reducible exact jacquardref01_Shl.mono _ _ _ _)
      | (with_reducible exact jacquardref01_Signed.mono _ _ _)
      | (with_reducible exact jacquardref01_Word.mono _ _)
      | (with_reducible exact jacquardref01_add.mono _ _ _ _)
      | (with_reducible exact jacquardref01_divide.mono _ _ _ _)
      | (with_reducible exact jacquardref01_mul.mono _ _ _ _)
      | (with_reducible exact jacquardref01_shr.mono _ _ _ _ _)
      | (with_reducible exact LeO.refl _)
      | (with_reducible exact LeO.none _)
      | (with_reducible refine LeO.ite ?_ ?_)
      | (with_reducible refine LeO.bind ?_ (fun _ => ?_))
      | exact ih0 _ _ _ _ _ _ _ _
      | exact ih1 _ _ _ _ _ _ _ _
      | exact ih2 _ _ _ _ _ _ _ _ _ _
      | exact ih3 _ _ _ _ _
      | exact jacquardref01_Bits.mono _ _ _
      | exact jacquardref01_Fit.mono _ _ _
      | exact jacquardref01_Negative.mono _ _ _
      | exact jacquardref01_Ones.mono _ _
      | exact jacquardref01_Shl.mono _ _ _ _
      | exact jacquardref01_Signed.mono _ _ _
      | exact jacquardref01_Word.mono _ _
      | exact jacquardref01_add.mono _ _ _ _
      | exact jacquardref01_divide.mono _ _ _ _
      | exact jacquardref01_mul.mono _ _ _ _
      | exact jacquardref01_shr.mono _ _ _ _ _
      | exact LeO.none _
      | refine LeO.ite ?_ ?_
      | refine LeO.bind ?_ (fun _ => ?_)
    · intro y0 y1 y2 y3 y4 y5 y6 y7 y8 y9
      unfold jacquardref01_Binary.j2
      repeat' first
      | (with_reducible exact ih0 _ _ _ _ _ _ _ _)
      | (with_reducible exact ih1 _ _ _ _ _ _ _ _)
      | (with_reducible exact ih2 _ _ _ _ _ _ _ _ _ _)
      | (with_reducible exact ih3 _ _ _ _ _)
      | (with_reducible exact jacquardref01_Bits.mono _ _ _)
      | (with_reducible exact jacquardref01_Fit.mono _ _ _)
      | (with_reducible exact jacquardref01_Negative.mono _ _ _)
      | (with_reducible exact jacquardref01_Ones.mono _ _)
      | (with_reducible exact jacquardref01_Shl.mono _ _ _ _)
      | (with_reducible exact jacquardref01_Signed.mono _ _ _)
      | (with_reducible exact jacquardref01_Word.mono _ _)
      | (with_reducible exact jacquardref01_add.mono _ _ _ _)
      | (with_reducible exact jacquardref01_divide.mono _ _ _ _)
      | (with_reducible exact jacquardref01_mul.mono _ _ _ _)
      | (with_reducible exact jacquardref01_shr.mono _ _ _ _ _)
      | (with_reducible exact LeO.refl _)
      | (with_reducible exact LeO.none _)
      | (with_reducible refine LeO.ite ?_ ?_)
      | (with_reducible refine LeO.bind ?_ (fun _ => ?_))
      | exact ih0 _ _ _ _ _ _ _ _
      | exact ih1 _ _ _ _ _ _ _ _
      | exact ih2 _ _ _ _ _ _ _ _ _ _
      | exact ih3 _ _ _ _ _
      | exact jacquardref01_Bits.mono _ _ _
      | exact jacquardref01_Fit.mono _ _ _
      | exact jacquardref01_Negative.mono _ _ _
      | exact jacquardref01_Ones.mono _ _
      | exact jacquardref01_Shl.mono _ _ _ _
      | exact jacquardref01_Signed.mono _ _ _
      | exact jacquardref01_Word.mono _ _
      | exact jacquardref01_add.mono _ _ _ _
      | exact jacquardref01_divide.mono _ _ _ _
      | exact jacquardref01_mul.mono _ _ _ _
      | exact jacquardref01_shr.mono _ _ _ _ _
      | exact LeO.none _
      | refine LeO.ite ?_ ?_
      | refine LeO.bind ?_ (fun _ => ?_)
    · intro y0 y1 y2 y3 y4
      unfold jacquardref01_Binary.j3
      repeat' first
      | (with_reducible exact ih0 _ _ _ _ _ _ _ _)
      | (with_reducible exact ih1 _ _ _ _ _ _ _ _)
      | (with_reducible exact ih2 _ _ _ _ _ _ _ _ _ _)
      | (with_reducible exact ih3 _ _ _ _ _)
      | (with_reducible exact jacquardref01_Bits.mono _ _ _)
      | (with_reducible exact jacquardref01_Fit.mono _ _ _)
      | (with_reducible exact jacquardref01_Negative.mono _ _ _)
      | (with_reducible exact jacquardref01_Ones.mono _ _)
      | (with_reducible exact jacquardref01_Shl.mono _ _ _ _)
      | (with_reducible exact jacquardref01_Signed.mono _ _ _)
      | (with_reducible exact jacquardref01_Word.mono _ _)
      | (with_reducible exact jacquardref01_add.mono _ _ _ _)
      | (with_reducible exact jacquardref01_divide.mono _ _ _ _)
      | (with_reducible exact jacquardref01_mul.mono _ _ _ _)
      | (with_reducible exact jacquardref01_shr.mono _ _ _ _ _)
      | (with_reducible exact LeO.refl _)
      | (with_reducible exact LeO.none _)
      | (with_reducible refine LeO.ite ?_ ?_)
      | (with_reducible refine LeO.bind ?_ (fun _ => ?_))
      | exact ih0 _ _ _ _ _ _ _ _
      | exact ih1 _ _ _ _ _ _ _ _
      | exact ih2 _ _ _ _ _ _ _ _ _ _
      | exact ih3 _ _ _ _ _
      | exact jacquardref01_Bits.mono _ _ _
      | exact jacquardref01_Fit.mono _ _ _
      | exact jacquardref01_Negative.mono _ _ _
      | exact jacquardref01_Ones.mono _ _
      | exact jacquardref01_Shl.mono _ _ _ _
      | exact jacquardref01_Signed.mono _ _ _
      | exact jacquardref01_Word.mono _ _
      | exact jacquardref01_add.mono _ _ _ _
      | exact jacquardref01_divide.mono _ _ _ _
      | exact jacquardref01_mul.mono _ _ _ _
      | exact jacquardref01_shr.mono _ _ _ _ _
      | exact LeO.none _
      | refine LeO.ite ?_ ?_
      | refine LeO.bind ?_ (fun _ => ?_)
theorem jacquardref01_Binary.mono : ∀ a0 a1 a2 a3 k, LeO (jacquardref01_Binary.f k a0 a1 a2 a3) (jacquardref01_Binary.f (k + 1) a0 a1 a2 a3) := by
  intro a0 a1 a2 a3 k
  obtain ⟨ih0, ih1, ih2, ih3⟩ := jacquardref01_Binary.mono_l k
  unfold jacquardref01_Binary.f
  repeat' first
      | (with_reducible exact ih0 _ _ _ _ _ _ _ _)
      | (with_reducible exact ih1 _ _ _ _ _ _ _ _)
      | (with_reducible exact ih2 _ _ _ _ _ _ _ _ _ _)
      | (with_reducible exact ih3 _ _ _ _ _)
      | (with_reducible exact jacquardref01_Bits.mono _ _ _)
      | (with_reducible exact jacquardref01_Fit.mono _ _ _)
      | (with_reducible exact jacquardref01_Negative.mono _ _ _)
      | (with_reducible exact jacquardref01_Ones.mono _ _)
      | (with_reducible exact jacquardref01_Shl.mono _ _ _ _)
      | (with_reducible exact jacquardref01_Signed.mono _ _ _)
      | (with_reducible exact jacquardref01_Word.mono _ _)
      | (with_reducible exact jacquardref01_add.mono _ _ _ _)
      | (with_reducible exact jacquardref01_divide.mono _ _ _ _)
      | (with_reducible exact jacquardref01_mul.mono _ _ _ _)
      | (with_reducible exact jacquardref01_shr.mono _ _ _ _ _)
      | (with_reducible exact LeO.refl _)
      | (with_reducible exact LeO.none _)
      | (with_reducible refine LeO.ite ?_ ?_)
      | (with_reducible refine LeO.bind ?_ (fun _ => ?_))
      | exact ih0 _ _ _ _ _ _ _ _
      | exact ih1 _ _ _ _ _ _ _ _
      | exact ih2 _ _ _ _ _ _ _ _ _ _
      | exact ih3 _ _ _ _ _
      | exact jacquardref01_Bits.mono _ _ _
      | exact jacquardref01_Fit.mono _ _ _
      | exact jacquardref01_Negative.mono _ _ _
      | exact jacquardref01_Ones.mono _ _
      | exact jacquardref01_Shl.mono _ _ _ _
      | exact jacquardref01_Signed.mono _ _ _
      | exact jacquardref01_Word.mono _ _
      | exact jacquardref01_add.mono _ _ _ _
      | exact jacquardref01_divide.mono _ _ _ _
      | exact jacquardref01_mul.mono _ _ _ _
      | exact jacquardref01_shr.mono _ _ _ _ _
      | exact LeO.none _
      | refine LeO.ite ?_ ?_
      | refine LeO.bind ?_ (fun _ => ?_)
def jacquardref01_Binary.T10 : Bool × List (List Nat × List Nat) := (true, [([], []), ([], []), ([], []), ([1, 2], [1, 2]), ([3], [3]), ([], []), ([], []), ([5, 6], [5, 6]), ([7], [7]), ([4, 8], [4, 8]), ([9], [9]), ([0, 10], [0, 10]), ([11, 11, 0, 1, 2, 3, 4, 5, 6, 7, 8, 9, 10, 11], [0, 11])])
def jacquardref01_Binary.B10 : List Nat := [0, 0, 0, 6, 14, 0, 0, 96, 224, 510, 1022, 2047, 4095]
theorem jacquardref01_Binary.tab10 : rtab .any (opsOf Try.f46 10) = jacquardref01_Binary.T10 := by kernel_rfl
theorem jacquardref01_Binary.bits10 : waitsOk jacquardref01_Binary.T10.2 jacquardref01_Binary.B10 = true := by kernel_rfl
def jacquardref01_Binary.T12 : Bool × List (List Nat × List Nat) := (true, [([], []), ([], []), ([], []), ([1, 2], [1, 2]), ([3], [3]), ([], []), ([], []), ([5, 6], [5, 6]), ([7], [7]), ([4, 8], [4, 8]), ([9], [9]), ([0, 10], [0, 10]), ([11, 11, 0, 1, 2, 3, 4, 5, 6, 7, 8, 9, 10, 11], [0, 11])])
def jacquardref01_Binary.B12 : List Nat := [0, 0, 0, 6, 14, 0, 0, 96, 224, 510, 1022, 2047, 4095]
theorem jacquardref01_Binary.tab12 : rtab .any (opsOf Try.f46 12) = jacquardref01_Binary.T12 := by kernel_rfl
theorem jacquardref01_Binary.bits12 : waitsOk jacquardref01_Binary.T12.2 jacquardref01_Binary.B12 = true := by kernel_rfl
def jacquardref01_Binary.T14 : Bool × List (List Nat × List Nat) := (true, [([], []), ([], []), ([], []), ([1, 2], [1, 2]), ([3], [3]), ([], []), ([], []), ([5, 6], [5, 6]), ([7], [7]), ([4, 8], [4, 8]), ([9], [9]), ([10], [10]), ([0, 11], [0, 11]), ([12, 12, 0, 1, 2, 3, 4, 5, 6, 7, 8, 9, 10, 11, 12], [0, 12])])
def jacquardref01_Binary.B14 : List Nat := [0, 0, 0, 6, 14, 0, 0, 96, 224, 510, 1022, 2046, 4095, 8191]
theorem jacquardref01_Binary.tab14 : rtab .any (opsOf Try.f46 14) = jacquardref01_Binary.T14 := by kernel_rfl
theorem jacquardref01_Binary.bits14 : waitsOk jacquardref01_Binary.T14.2 jacquardref01_Binary.B14 = true := by kernel_rfl
set_option maxHeartbeats 8000000 in
set_option maxRecDepth 100000 in
theorem jacquardref01_Binary.calls (k : Nat) (a0 : Int) (a1 : Int) (a2 : Int) (a3 : Int) (r : Int) (w : World) (h : jacquardref01_Binary.f k a0 a1 a2 a3 = some r) :
    Calls Try.prog 46 #[.int .i64 a0, .int .i64 a1, .int .u64 a2, .int .u64 a3] w fun e w' => e = .returned (.int .u64 r) ∧ Below w.heap.size w w' := by
  have HB := Aside0.mk (Below.refl w.heap.size w)
  have H : ((jacquardref01_Fit.f k a1 a2).bind fun t428 => ((jacquardref01_Fit.f k a1 a3).bind fun t429 => ((jacquardref01_Bits.f k a1 t428).bind fun t430 => ((jacquardref01_Bits.f k a1 t429).bind fun t433 => (jacquardref01_Binary.l0 k a0 a1 t428 t429 t430 t433 ([] : List Int) 0))))) = some r := h
  clear h
  replace H := Option.bind_eq_some_iff.mp H
  obtain ⟨t428, A50, H⟩ := H
  replace H : ((jacquardref01_Fit.f k a1 a3).bind fun t429 => ((jacquardref01_Bits.f k a1 t428).bind fun t430 => ((jacquardref01_Bits.f k a1 t429).bind fun t433 => (jacquardref01_Binary.l0 k a0 a1 t428 t429 t430 t433 ([] : List Int) 0)))) = some r := H
  have A5 := Aside0.mk A50
  clear A50
  replace H := Option.bind_eq_some_iff.mp H
  obtain ⟨t429, A60, H⟩ := H
  replace H : ((jacquardref01_Bits.f k a1 t428).bind fun t430 => ((jacquardref01_Bits.f k a1 t429).bind fun t433 => (jacquardref01_Binary.l0 k a0 a1 t428 t429 t430 t433 ([] : List Int) 0))) = some r := H
  have A6 := Aside0.mk A60
  clear A60
  replace H := Option.bind_eq_some_iff.mp H
  obtain ⟨t430, A70, H⟩ := H
  replace H : ((jacquardref01_Bits.f k a1 t429).bind fun t433 => (jacquardref01_Binary.l0 k a0 a1 t428 t429 t430 t433 ([] : List Int) 0)) = some r := H
  have A7 := Aside0.mk A70
  clear A70
  replace H := Option.bind_eq_some_iff.mp H
  obtain ⟨t433, A80, H⟩ := H
  replace H : (jacquardref01_Binary.l0 k a0 a1 t428 t429 t430 t433 ([] : List Int) 0) = some r := H
  have A8 := Aside0.mk A80
  clear A80
  have H' := Aside0.mk H
  clear H
  go_enter Try.func46, Try.ntmps46
  go_wp2_with (first | ((with_reducible refine gate_callee (f := 56) rfl ?_); refine goesL_ (some 18) rfl rfl Try.func56 (by kernel_rfl) rfl #[.int .i64 a1, .int .u64 a2] rfl (by (try simp only [List.map_toArray, List.map_cons, List.map_nil]); first | done | rfl | (simp only [List.length_drop, List.length_take]; rfl)) ?_; (with_reducible refine (jacquardref01_Fit.calls k a1 a2 t428 _ A5.out).mono ?_); rintro e w9 ⟨rfl, hb⟩; refine ⟨_, rfl, ?_⟩; have n0_ := Aside0.mk (below_step (by repeat (first | (with_reducible first | exact HB.out | apply below_alloc | apply pw_below_drewN | apply below_drew1) | exact HB.out)) hb); clear HB; have HB := n0_; clear n0_; (try clear hb); (try clear hb2); (try clear hk); (try clear hi)) | ((with_reducible refine gate_callee (f := 56) rfl ?_); refine goesL_ (some 21) rfl rfl Try.func56 (by kernel_rfl) rfl #[.int .i64 a1, .int .u64 a3] rfl (by (try simp only [List.map_toArray, List.map_cons, List.map_nil]); first | done | rfl | (simp only [List.length_drop, List.length_take]; rfl)) ?_; (with_reducible refine (jacquardref01_Fit.calls k a1 a3 t429 _ A6.out).mono ?_); rintro e w10 ⟨rfl, hb⟩; refine ⟨_, rfl, ?_⟩; have n0_ := Aside0.mk (below_step (by repeat (first | (with_reducible first | exact HB.out | apply below_alloc | apply pw_below_drewN | apply below_drew1) | exact HB.out)) hb); clear HB; have HB := n0_; clear n0_; (try clear hb); (try clear hb2); (try clear hk); (try clear hi)) | ((with_reducible refine gate_callee (f := 78) rfl ?_); refine goesL_ (some 24) rfl rfl Try.func78 (by kernel_rfl) rfl #[.int .i64 a1, .int .u64 t428] rfl (by (try simp only [List.map_toArray, List.map_cons, List.map_nil]); first | done | rfl | (simp only [List.length_drop, List.length_take]; rfl)) ?_; (with_reducible refine (jacquardref01_Bits.calls k a1 t428 t430 _ A7.out).mono ?_); rintro e w11 ⟨v431, rfl, ho0, hb⟩; refine ⟨_, rfl, ?_⟩; have n0_ := Aside0.mk (Kd.R_lower ho0 (below_size (by repeat (first | (with_reducible first | exact HB.out | apply below_alloc | apply pw_below_drewN | apply below_drew1) | exact HB.out)))); have n1_ := Aside0.mk (below_step (by repeat (first | (with_reducible first | exact HB.out | apply below_alloc | apply pw_below_drewN | apply below_drew1) | exact HB.out)) hb); clear HB; have HO432 := n0_; have HB := n1_; clear n0_ n1_; (try clear hb); (try clear hb2); (try clear hk); (try clear hi); (try clear ho0)) | ((with_reducible refine gate_callee (f := 78) rfl ?_); refine goesL_ (some 27) rfl rfl Try.func78 (by kernel_rfl) rfl #[.int .i64 a1, .int .u64 t429] rfl (by (try simp only [List.map_toArray, List.map_cons, List.map_nil]); first | done | rfl | (simp only [List.length_drop, List.length_take]; rfl)) ?_; (with_reducible refine (jacquardref01_Bits.calls k a1 t429 t433 _ A8.out).mono ?_); rintro e w12 ⟨v434, rfl, ho0, hb⟩; refine ⟨_, rfl, ?_⟩; have n0_ := Aside0.mk (Kd.R_elder' (by (with_reducible repeat (first | apply Kd.R_alloc | apply Kd.R_drewN | apply Kd.R_drew)); exact HO432.out) (Kd.R_base ho0) hb); have n1_ := Aside0.mk (Kd.R_lower (Kd.R_new' ho0 (Kd.R_lt (by (with_reducible repeat (first | apply Kd.R_alloc | apply Kd.R_drewN | apply Kd.R_drew)); exact HO432.out))) (below_size (by repeat (first | (with_reducible first | exact HB.out | apply below_alloc | apply pw_below_drewN | apply below_drew1) | exact HB.out)))); have n2_ := Aside0.mk (below_step (by repeat (first | (with_reducible first | exact HB.out | apply below_alloc | apply pw_below_drewN | apply below_drew1) | exact HB.out)) hb); clear HO432; clear HB; have HO432 := n0_; have HO435 := n1_; have HB := n2_; clear n0_ n1_ n2_; (try clear hb); (try clear hb2); (try clear hk); (try clear hi); (try clear ho0)))
  go_loopg [11, 12] k (fun kq v11 v12 w' => ∃ (x11_1 : List Int) (x12_1 : Int), v12 = .int .i64 x12_1 ∧ Aside0 (jacquardref01_Binary.l0 kq a0 a1 t428 t429 t430 t433 x11_1 x12_1 = some r) ∧ Aside0 (kq ≤ k) ∧ Aside0 (Kd.R (Kd.int .i64) 3 w' w.heap.size (fun k_ => some k_ ≠ (v434 : Value).ownBlock ∧ some k_ ≠ (v11 : Value).ownBlock) v431 t430) ∧ Aside0 (Kd.R (Kd.int .i64) 3 w' w.heap.size (fun k_ => some k_ ≠ (v431 : Value).ownBlock ∧ some k_ ≠ (v11 : Value).ownBlock) v434 t433) ∧ Aside0 (Kd.R (Kd.int .i64) 3 w' w.heap.size (fun k_ => some k_ ≠ (v431 : Value).ownBlock ∧ some k_ ≠ (v434 : Value).ownBlock) v11 x11_1) ∧ Aside0 (Below w.heap.size w w'))
  case atStart => exact ⟨(([] : List Int)), (0), (by first | rfl | (simp; done) | (simp [*]; done)), H', ⟨Nat.le_refl _⟩, ⟨by (with_reducible repeat (first | apply Kd.R_alloc | apply Kd.R_drewN | apply Kd.R_drew)); exact Kd.R_mono HO432.out (fun _ hk => ⟨hk.2, (by simp [Value.ownBlock])⟩)⟩, ⟨by (with_reducible repeat (first | apply Kd.R_alloc | apply Kd.R_drewN | apply Kd.R_drew)); exact Kd.R_mono HO435.out (fun _ hk => ⟨hk.2, (by simp [Value.ownBlock])⟩)⟩, ⟨by first | exact Kd.R_nil _ _ _ _ _ | exact Kd.N_nil _ _ _ _ _ | exact Kd.V_nil _ _ _ _ _ | exact Kd.Q_nil _ _ _ _ _ | exact Kd.S_nil _ _ _ _ _⟩, ⟨by repeat (first | (with_reducible first | exact HB.out | apply below_alloc | apply pw_below_drewN | apply below_drew1) | exact HB.out)⟩⟩
  case round =>
    clear H'
    try clear p2
    try clear c4
    try clear c5
    try clear c7
    obtain ⟨x11_1, x12_1, rfl, HA, HK1, HO_9, HO_10, HO_11, HB⟩ := hrel
    cases gk with
    | zero => exact absurd HA.out (by simp [jacquardref01_Binary.l0])
    | succ k1 =>
      have H := HA.out
      clear HA
      simp only [jacquardref01_Binary.l0] at H
      by_cases c13 : x12_1 < (t430.length : Int)
      · rw [if_pos c13] at H
        have c13b0 : decide (x12_1 < (t430.length : Int)) = true := decide_eq_true c13
        clear c13
        by_cases c14 : a0 = 9
        · rw [if_pos c14] at H
          have c14b0 : (a0 == 9) = true := beq_iff_eq.mpr c14
          have c14b1 : (a0 != 9) = false := bne_eq_false_iff_eq.mpr c14
          clear c14
          by_cases c15 : 0 ≤ x12_1
          · rw [if_pos c15] at H
            have c15b0 : decide (0 ≤ x12_1) = true := decide_eq_true c15
            clear c15
            by_cases c16 : x12_1 < (t433.length : Int)
            · rw [if_pos c16] at H
              have c16b0 : decide (x12_1 < (t433.length : Int)) = true := decide_eq_true c16
              clear c16
              by_cases c17 : x11_1.length < 17592186044416
              · rw [if_pos c17] at H
                have LMc17 := Aside0.mk c17
                clear c17
                obtain ⟨y438, hy438⟩ : ∃ y_ : List Int, y_ = (x11_1 ++ [wrap64 ((rd t430 x12_1) * (rd t433 x12_1))]) := ⟨_, rfl⟩
                replace H : (jacquardref01_Binary.l0 k1 a0 a1 t428 t429 t430 t433 y438 (wrap64 (x12_1 + 1))) = some r := by first | (rw [hy438]; with_reducible exact H) | (have H2_ := (Option.bind_some _ _).symm.trans H; rw [hy438]; with_reducible exact H2_) | (have H2_ := (Option.bind_some _ _).symm.trans H; with_reducible exact H2_) | with_reducible exact H | (rw [hy438]; exact H) | exact H
                have Ny438 := Aside0.mk hy438
                clear hy438
                have H' := Aside0.mk H
                clear H
                obtain ⟨Ao18, co18, eo18⟩ := Kd.R_slice HO_9.out
                subst eo18
                try go_wp2
                have n0_ := Aside0.mk (Kd.R_drew HO_9.out)
                have n1_ := Aside0.mk (Kd.R_drew HO_10.out)
                have n2_ := Aside0.mk (Kd.R_drew HO_11.out)
                have n3_ := Aside0.mk (below_drew1 HB.out)
                clear HO_9
                clear HO_10
                clear HO_11
                clear HB
                have HO_9 := n0_
                have HO_10 := n1_
                have HO_11 := n2_
                have HB := n3_
                clear n0_ n1_ n2_ n3_
                have p436 : 0 ≤ (x12_1 : Int) := of_decide_eq_true (by first | (with_reducible assumption) | assumption)
                have q436 : x12_1 < (t430.length : Int) := of_decide_eq_true (by first | (with_reducible assumption) | assumption)
                obtain ⟨ad436, e436, hx436_0⟩ := Kd.at_int (Kd.R_reads' HO_9.out).2.2 x12_1 p436 q436
                cases e436
                replace p436 := eq_true p436
                replace q436 := eq_true q436
                obtain ⟨Ao20, co20, eo20⟩ := Kd.R_slice HO_10.out
                (first | subst eo20 | (injection eo20 with f1_ f2_ f3_; have f4_ := f1_.symm; have f5_ := f3_.symm; clear f1_ f2_ f3_; subst f4_; subst f5_))
                have p437 : 0 ≤ (x12_1 : Int) := of_decide_eq_true (by first | (with_reducible assumption) | assumption)
                have q437 : x12_1 < (t433.length : Int) := of_decide_eq_true (by first | (with_reducible assumption) | assumption)
                obtain ⟨ad437, e437, hx437_0⟩ := Kd.at_int (Kd.R_reads' HO_10.out).2.2 x12_1 p437 q437
                cases e437
                replace p437 := eq_true p437
                replace q437 := eq_true q437
                refine start_ (n := 13) (S := fun w' => w'.cell? (ad436.add (x12_1).toNat) = some (.int .i64 (rd t430 x12_1)) ∧ w'.cell? (ad437.add (x12_1).toNat) = some (.int .i64 (rd t433 x12_1))) (ds := [10, 11]) #[false, false, false, false, false, false, false, false, false, false, false, false, false] (by kernel_rfl) rfl rfl ⟨hx436_0, hx437_0⟩ (fun hHeld => ?_); refine with_tabW jacquardref01_Binary.tab10 jacquardref01_Binary.bits10 (fun HT_ HW_ => ?_)
                generalize wr.drew = w19 at HO_9 HO_10 HO_11 HB hx436_0 hx437_0 hHeld ⊢
                refine pure_ (i := 0) (N := some 37) (v := ?_) (a' := ?_) #[true, false, false, false, false, false, false, false, false, false, false, false, false] rfl rfl (any_of HT_.out (by kernel_rfl)) (fun _ _ _ h => h) (Or.inl ⟨by rfl, ?_⟩) ?_ ?_
                rotate_left
                · intro w'
                  go_simp
                  with_reducible rfl
                rotate_left
                · simp only [Act.put, List.setIfInBounds_toArray, List.set_cons_zero, List.set_cons_succ, i64_w, i32_w]
                  rfl
                refine pure_ (i := 1) (N := some 38) (v := ?_) (a' := ?_) #[true, true, false, false, false, false, false, false, false, false, false, false, false] rfl rfl (any_of HT_.out (by kernel_rfl)) (fun _ _ _ h => h) (Or.inl ⟨by rfl, ?_⟩) ?_ ?_
                rotate_left
                · intro w'
                  go_simp
                  with_reducible rfl
                rotate_left
                · simp only [Act.put, List.setIfInBounds_toArray, List.set_cons_zero, List.set_cons_succ, i64_w, i32_w]
                  rfl
                refine pure_ (i := 2) (N := some 39) (v := ?_) (a' := ?_) #[true, true, true, false, false, false, false, false, false, false, false, false, false] rfl rfl (any_of HT_.out (by kernel_rfl)) (fun _ _ _ h => h) (Or.inl ⟨by rfl, ?_⟩) ?_ ?_
                rotate_left
                · intro w'
                  go_simp
                  with_reducible rfl
                rotate_left
                · simp only [Act.put, List.setIfInBounds_toArray, List.set_cons_zero, List.set_cons_succ, i64_w, i32_w]
                  rfl
                refine pure_ (i := 3) (N := some 40) (v := ?_) (a' := ?_) #[true, true, true, true, false, false, false, false, false, false, false, false, false] rfl rfl (any_of HT_.out (by kernel_rfl)) (fun _ _ _ h => h) (Or.inl ⟨by rfl, ?_⟩) ?_ ?_
                rotate_left
                · intro w'
                  go_simp
                  with_reducible rfl
                rotate_left
                · simp only [Act.put, List.setIfInBounds_toArray, List.set_cons_zero, List.set_cons_succ, i64_w, i32_w]
                  rfl
                refine pure_ (i := 5) (N := some 42) (v := ?_) (a' := ?_) #[true, true, true, true, false, true, false, false, false, false, false, false, false] rfl rfl (any_of HT_.out (by kernel_rfl)) (fun _ _ _ h => h) (Or.inl ⟨by rfl, ?_⟩) ?_ ?_
                rotate_left
                · intro w'
                  go_simp
                  with_reducible rfl
                rotate_left
                · simp only [Act.put, List.setIfInBounds_toArray, List.set_cons_zero, List.set_cons_succ, i64_w, i32_w]
                  rfl
                refine pure_ (i := 6) (N := some 43) (v := ?_) (a' := ?_) #[true, true, true, true, false, true, true, false, false, false, false, false, false] rfl rfl (any_of HT_.out (by kernel_rfl)) (fun _ _ _ h => h) (Or.inl ⟨by rfl, ?_⟩) ?_ ?_
                rotate_left
                · intro w'
                  go_simp
                  with_reducible rfl
                rotate_left
                · simp only [Act.put, List.setIfInBounds_toArray, List.set_cons_zero, List.set_cons_succ, i64_w, i32_w]
                  rfl
                refine pure_ (i := 7) (N := some 44) (v := ?_) (a' := ?_) #[true, true, true, true, false, true, true, true, false, false, false, false, false] rfl rfl (any_of HT_.out (by kernel_rfl)) (fun _ _ _ h => h) (Or.inl ⟨by rfl, ?_⟩) ?_ ?_
                rotate_left
                · intro w'
                  go_simp
                  with_reducible rfl
                rotate_left
                · simp only [Act.put, List.setIfInBounds_toArray, List.set_cons_zero, List.set_cons_succ, i64_w, i32_w]
                  rfl
                refine take_ (i := 4) (N := some 41) (v := ?_) (a' := ?_) #[true, true, true, true, true, true, true, true, false, false, false, false, false] rfl rfl (take_ofW HT_.out HW_.out (by kernel_rfl)) (fun _ _ _ h => h) (Or.inl ⟨by rfl, ?_⟩) hHeld ?_ ?_
                rotate_left
                · rintro w' ⟨s0, s1⟩
                  go_simp
                  with_reducible rfl
                rotate_left
                · simp only [Act.put, List.setIfInBounds_toArray, List.set_cons_zero, List.set_cons_succ, i64_w, i32_w]
                  rfl
                refine take_ (i := 8) (N := some 45) (v := ?_) (a' := ?_) #[true, true, true, true, true, true, true, true, true, false, false, false, false] rfl rfl (take_ofW HT_.out HW_.out (by kernel_rfl)) (fun _ _ _ h => h) (Or.inl ⟨by rfl, ?_⟩) hHeld ?_ ?_
                rotate_left
                · rintro w' ⟨s0, s1⟩
                  go_simp
                  with_reducible rfl
                rotate_left
                · simp only [Act.put, List.setIfInBounds_toArray, List.set_cons_zero, List.set_cons_succ, i64_w, i32_w]
                  rfl
                refine pure_ (i := 9) (N := some 46) (v := ?_) (a' := ?_) #[true, true, true, true, true, true, true, true, true, true, false, false, false] rfl rfl (any_of HT_.out (by kernel_rfl)) (fun _ _ _ h => h) (Or.inl ⟨by rfl, ?_⟩) ?_ ?_
                rotate_left
                · intro w'
                  go_simp
                  with_reducible rfl
                rotate_left
                · simp only [Act.put, List.setIfInBounds_toArray, List.set_cons_zero, List.set_cons_succ, i64_w, i32_w]
                  rfl
                refine last_ (i := 10) (N := some 47) #[true, true, true, true, true, true, true, true, true, true, true, false, false] rfl rfl (one_of HT_.out (by kernel_rfl)) (by decide) (fun K hK => ?_)
                refine value_ (w1 := ?_) (v := ?_) (by rfl) rfl ?_ ?_
                rotate_left 2
                · go_simp
                  constructor
                  · rfl
                  · rfl
                refine hK.out _ _ ?_
                clear hK K
                refine norm_ (a' := ?_) ?_ ?_
                rotate_left
                · show Act.put _ (some 47) _ = _
                  simp only [Act.put, List.setIfInBounds_toArray, List.set_cons_zero, List.set_cons_succ, i64_w, i32_w]
                  rfl
                refine last_ (i := 11) (N := some 48) #[true, true, true, true, true, true, true, true, true, true, true, true, false] rfl rfl (one_of HT_.out (by kernel_rfl)) (by decide) (fun K hK => ?_)
                refine Kd.R_append_step (Kd.int .i64) (w0 := w) w.heap.size (by rfl) (.tmp 37) (.tmp 47) 37 3 (.int .i64 0) 8 rfl Try.underlying37 info3 rfl (by decide) (by omega) u11 x11_1 (wrap64 ((rd t430 x12_1) * (rd t433 x12_1))) [.int .i64 (wrap64 ((rd t430 x12_1) * (rd t433 x12_1)))] (fun k_ => some k_ ≠ (.slice (some ad436) t430.length co18 : Value).ownBlock ∧ some k_ ≠ (.slice (some ad437) t433.length co20 : Value).ownBlock) (fun _ => False) rfl rfl ?aP (fun _ hk => hk.elim) ?aF ?aO ?aB ?aS ?aL ?_
                (case aP => exact rfl)
                (case aB => exact (by repeat (first | (with_reducible first | exact HB.out | apply below_alloc | apply pw_below_drewN | apply below_drew1) | exact HB.out)))
                (case aF => exact (fun k_ hk => ⟨Kd.fresh' (Kd.R_lt (by (with_reducible repeat (first | apply Kd.R_alloc | apply Kd.R_drewN | apply Kd.R_drew)); exact HO_9.out)) k_ hk, Kd.fresh' (Kd.R_lt (by (with_reducible repeat (first | apply Kd.R_alloc | apply Kd.R_drewN | apply Kd.R_drew)); exact HO_10.out)) k_ hk⟩))
                (case aO => exact (by (with_reducible repeat (first | apply Kd.R_alloc | apply Kd.R_drewN | apply Kd.R_drew)); exact HO_11.out))
                (case aS => exact (below_size (by repeat (first | (with_reducible first | exact HB.out | apply below_alloc | apply pw_below_drewN | apply below_drew1) | exact HB.out))))
                (case aL => have := LMc17.out; omega)
                intro v439 w21 ho hb hg hat
                rw [← Ny438.out] at ho
                have n0_ := Aside0.mk (Kd.R_after (ok := (fun k_ => some k_ ≠ (.slice (some ad437) t433.length co20 : Value).ownBlock)) (by (with_reducible repeat (first | apply Kd.R_alloc | apply Kd.R_drewN | apply Kd.R_drew)); exact HO_9.out) hg hat)
                have n1_ := Aside0.mk (Kd.R_after (ok := (fun k_ => some k_ ≠ (.slice (some ad436) t430.length co18 : Value).ownBlock)) (by (with_reducible repeat (first | apply Kd.R_alloc | apply Kd.R_drewN | apply Kd.R_drew)); exact HO_10.out) hg hat)
                have n2_ := Aside0.mk (hb)
                have n3_ := Aside0.mk (ho)
                clear HO_9
                clear HO_10
                clear HB
                clear HO_11
                have HO_9 := n0_
                have HO_10 := n1_
                have HB := n2_
                have HO440 := n3_
                clear n0_ n1_ n2_ n3_
                clear ho hb hg hat
                refine hK.out _ _ ?_
                clear hK K
                refine norm_ (a' := ?_) ?_ ?_
                rotate_left
                · show Act.put _ (some 48) _ = _
                  simp only [Act.put, List.setIfInBounds_toArray, List.set_cons_zero, List.set_cons_succ, i64_w, i32_w]
                  rfl
                refine pure_ (i := 12) (N := some 11) (v := ?_) (a' := ?_) #[true, true, true, true, true, true, true, true, true, true, true, true, true] rfl rfl (any_of HT_.out (by kernel_rfl)) (fun _ _ _ h => h) (Or.inl ⟨by rfl, ?_⟩) ?_ ?_
                rotate_left
                · intro w'
                  go_simp
                  with_reducible rfl
                rotate_left
                · simp only [Act.put, List.setIfInBounds_toArray, List.set_cons_zero, List.set_cons_succ, i64_w, i32_w]
                  rfl
                refine done_ (done_of HT_.out (by kernel_rfl)) ?_
                try go_wp2
                go_roundg k1
                case measure => have := HK1.out; omega
                case rel => exact ⟨(y438), (wrap64 (x12_1 + 1)), (by first | rfl | (simp; done) | (simp [*]; done)), H', ⟨by have := HK1.out; omega⟩, ⟨by (with_reducible repeat (first | apply Kd.R_alloc | apply Kd.R_drewN | apply Kd.R_drew)); exact HO_9.out⟩, ⟨by (with_reducible repeat (first | apply Kd.R_alloc | apply Kd.R_drewN | apply Kd.R_drew)); exact HO_10.out⟩, ⟨by (with_reducible repeat (first | apply Kd.R_alloc | apply Kd.R_drewN | apply Kd.R_drew)); exact HO440.out⟩, ⟨by repeat (first | (with_reducible first | exact HB.out | apply below_alloc | apply pw_below_drewN | apply below_drew1) | exact HB.out)⟩⟩
              · rw [if_neg c17] at H
                exact absurd H (by simp)
            · rw [if_neg c16] at H
              exact absurd H (by simp)
          · rw [if_neg c15] at H
            exact absurd H (by simp)
        · rw [if_neg c14] at H
          have c14b0 : (a0 == 9) = false := beq_eq_false_iff_ne.mpr c14
          have c14b1 : (a0 != 9) = true := bne_iff_ne.mpr c14
          by_cases c22 : a0 = 10
          · rw [if_pos c22] at H
            have c22b0 : (a0 == 10) = true := beq_iff_eq.mpr c22
            have c22b1 : (a0 != 10) = false := bne_eq_false_iff_eq.mpr c22
            clear c22
            by_cases c23 : 0 ≤ x12_1
            · rw [if_pos c23] at H
              have c23b0 : decide (0 ≤ x12_1) = true := decide_eq_true c23
              clear c23
              by_cases c24 : x12_1 < (t433.length : Int)
              · rw [if_pos c24] at H
                have c24b0 : decide (x12_1 < (t433.length : Int)) = true := decide_eq_true c24
                clear c24
                obtain ⟨ji25, hji25⟩ : ∃ j_ : Int, (mx (rd t430 x12_1) (rd t433 x12_1)) = j_ := ⟨_, rfl⟩
                replace H : (if x11_1.length < 17592186044416 then (jacquardref01_Binary.l0 k1 a0 a1 t428 t429 t430 t433 (x11_1 ++ [ji25]) (wrap64 (x12_1 + 1))) else (none)) = some r := by first | (rw [hji25] at H; exact H) | (simp only [hji25] at H ⊢; exact H)
                have hji25_ : (if (rd t430 x12_1) < (rd t433 x12_1) then (rd t433 x12_1) else (rd t430 x12_1)) = ji25 := hji25
                by_cases c26 : x11_1.length < 17592186044416
                · rw [if_pos c26] at H
                  have LMc26 := Aside0.mk c26
                  clear c26
                  obtain ⟨y443, hy443⟩ : ∃ y_ : List Int, y_ = (x11_1 ++ [ji25]) := ⟨_, rfl⟩
                  replace H : (jacquardref01_Binary.l0 k1 a0 a1 t428 t429 t430 t433 y443 (wrap64 (x12_1 + 1))) = some r := by first | (rw [hy443]; with_reducible exact H) | (have H2_ := (Option.bind_some _ _).symm.trans H; rw [hy443]; with_reducible exact H2_) | (have H2_ := (Option.bind_some _ _).symm.trans H; with_reducible exact H2_) | with_reducible exact H | (rw [hy443]; exact H) | exact H
                  have Ny443 := Aside0.mk hy443
                  clear hy443
                  have H' := Aside0.mk H
                  clear H
                  obtain ⟨Ao27, co27, eo27⟩ := Kd.R_slice HO_9.out
                  subst eo27
                  try go_wp2
                  have n0_ := Aside0.mk (Kd.R_drew HO_9.out)
                  have n1_ := Aside0.mk (Kd.R_drew HO_10.out)
                  have n2_ := Aside0.mk (Kd.R_drew HO_11.out)
                  have n3_ := Aside0.mk (below_drew1 HB.out)
                  clear HO_9
                  clear HO_10
                  clear HO_11
                  clear HB
                  have HO_9 := n0_
                  have HO_10 := n1_
                  have HO_11 := n2_
                  have HB := n3_
                  clear n0_ n1_ n2_ n3_
                  have p441 : 0 ≤ (x12_1 : Int) := of_decide_eq_true (by first | (with_reducible assumption) | assumption)
                  have q441 : x12_1 < (t430.length : Int) := of_decide_eq_true (by first | (with_reducible assumption) | assumption)
                  obtain ⟨ad441, e441, hx441_0⟩ := Kd.at_int (Kd.R_reads' HO_9.out).2.2 x12_1 p441 q441
                  cases e441
                  replace p441 := eq_true p441
                  replace q441 := eq_true q441
                  obtain ⟨Ao29, co29, eo29⟩ := Kd.R_slice HO_10.out
                  (first | subst eo29 | (injection eo29 with f1_ f2_ f3_; have f4_ := f1_.symm; have f5_ := f3_.symm; clear f1_ f2_ f3_; subst f4_; subst f5_))
                  have p442 : 0 ≤ (x12_1 : Int) := of_decide_eq_true (by first | (with_reducible assumption) | assumption)
                  have q442 : x12_1 < (t433.length : Int) := of_decide_eq_true (by first | (with_reducible assumption) | assumption)
                  obtain ⟨ad442, e442, hx442_0⟩ := Kd.at_int (Kd.R_reads' HO_10.out).2.2 x12_1 p442 q442
                  cases e442
                  replace p442 := eq_true p442
                  replace q442 := eq_true q442
                  refine start_ (n := 13) (S := fun w' => w'.cell? (ad441.add (x12_1).toNat) = some (.int .i64 (rd t430 x12_1)) ∧ w'.cell? (ad442.add (x12_1).toNat) = some (.int .i64 (rd t433 x12_1))) (ds := [10, 11]) #[false, false, false, false, false, false, false, false, false, false, false, false, false] (by kernel_rfl) rfl rfl ⟨hx441_0, hx442_0⟩ (fun hHeld => ?_); refine with_tabW jacquardref01_Binary.tab12 jacquardref01_Binary.bits12 (fun HT_ HW_ => ?_)
                  generalize wr.drew = w28 at HO_9 HO_10 HO_11 HB hx441_0 hx442_0 hHeld ⊢
                  refine pure_ (i := 0) (N := some 51) (v := ?_) (a' := ?_) #[true, false, false, false, false, false, false, false, false, false, false, false, false] rfl rfl (any_of HT_.out (by kernel_rfl)) (fun _ _ _ h => h) (Or.inl ⟨by rfl, ?_⟩) ?_ ?_
                  rotate_left
                  · intro w'
                    go_simp
                    with_reducible rfl
                  rotate_left
                  · simp only [Act.put, List.setIfInBounds_toArray, List.set_cons_zero, List.set_cons_succ, i64_w, i32_w]
                    rfl
                  refine pure_ (i := 1) (N := some 52) (v := ?_) (a' := ?_) #[true, true, false, false, false, false, false, false, false, false, false, false, false] rfl rfl (any_of HT_.out (by kernel_rfl)) (fun _ _ _ h => h) (Or.inl ⟨by rfl, ?_⟩) ?_ ?_
                  rotate_left
                  · intro w'
                    go_simp
                    with_reducible rfl
                  rotate_left
                  · simp only [Act.put, List.setIfInBounds_toArray, List.set_cons_zero, List.set_cons_succ, i64_w, i32_w]
                    rfl
                  refine pure_ (i := 2) (N := some 53) (v := ?_) (a' := ?_) #[true, true, true, false, false, false, false, false, false, false, false, false, false] rfl rfl (any_of HT_.out (by kernel_rfl)) (fun _ _ _ h => h) (Or.inl ⟨by rfl, ?_⟩) ?_ ?_
                  rotate_left
                  · intro w'
                    go_simp
                    with_reducible rfl
                  rotate_left
                  · simp only [Act.put, List.setIfInBounds_toArray, List.set_cons_zero, List.set_cons_succ, i64_w, i32_w]
                    rfl
                  refine pure_ (i := 3) (N := some 54) (v := ?_) (a' := ?_) #[true, true, true, true, false, false, false, false, false, false, false, false, false] rfl rfl (any_of HT_.out (by kernel_rfl)) (fun _ _ _ h => h) (Or.inl ⟨by rfl, ?_⟩) ?_ ?_
                  rotate_left
                  · intro w'
                    go_simp
                    with_reducible rfl
                  rotate_left
                  · simp only [Act.put, List.setIfInBounds_toArray, List.set_cons_zero, List.set_cons_succ, i64_w, i32_w]
                    rfl
                  refine pure_ (i := 5) (N := some 56) (v := ?_) (a' := ?_) #[true, true, true, true, false, true, false, false, false, false, false, false, false] rfl rfl (any_of HT_.out (by kernel_rfl)) (fun _ _ _ h => h) (Or.inl ⟨by rfl, ?_⟩) ?_ ?_
                  rotate_left
                  · intro w'
                    go_simp
                    with_reducible rfl
                  rotate_left
                  · simp only [Act.put, List.setIfInBounds_toArray, List.set_cons_zero, List.set_cons_succ, i64_w, i32_w]
                    rfl
                  refine pure_ (i := 6) (N := some 57) (v := ?_) (a' := ?_) #[true, true, true, true, false, true, true, false, false, false, false, false, false] rfl rfl (any_of HT_.out (by kernel_rfl)) (fun _ _ _ h => h) (Or.inl ⟨by rfl, ?_⟩) ?_ ?_
                  rotate_left
                  · intro w'
                    go_simp
                    with_reducible rfl
                  rotate_left
                  · simp only [Act.put, List.setIfInBounds_toArray, List.set_cons_zero, List.set_cons_succ, i64_w, i32_w]
                    rfl
                  refine pure_ (i := 7) (N := some 58) (v := ?_) (a' := ?_) #[true, true, true, true, false, true, true, true, false, false, false, false, false] rfl rfl (any_of HT_.out (by kernel_rfl)) (fun _ _ _ h => h) (Or.inl ⟨by rfl, ?_⟩) ?_ ?_
                  rotate_left
                  · intro w'
                    go_simp
                    with_reducible rfl
                  rotate_left
                  · simp only [Act.put, List.setIfInBounds_toArray, List.set_cons_zero, List.set_cons_succ, i64_w, i32_w]
                    rfl
                  refine take_ (i := 4) (N := some 55) (v := ?_) (a' := ?_) #[true, true, true, true, true, true, true, true, false, false, false, false, false] rfl rfl (take_ofW HT_.out HW_.out (by kernel_rfl)) (fun _ _ _ h => h) (Or.inl ⟨by rfl, ?_⟩) hHeld ?_ ?_
                  rotate_left
                  · rintro w' ⟨s0, s1⟩
                    go_simp
                    with_reducible rfl
                  rotate_left
                  · simp only [Act.put, List.setIfInBounds_toArray, List.set_cons_zero, List.set_cons_succ, i64_w, i32_w]
                    rfl
                  refine take_ (i := 8) (N := some 59) (v := ?_) (a' := ?_) #[true, true, true, true, true, true, true, true, true, false, false, false, false] rfl rfl (take_ofW HT_.out HW_.out (by kernel_rfl)) (fun _ _ _ h => h) (Or.inl ⟨by rfl, ?_⟩) hHeld ?_ ?_
                  rotate_left
                  · rintro w' ⟨s0, s1⟩
                    go_simp
                    with_reducible rfl
                  rotate_left
                  · simp only [Act.put, List.setIfInBounds_toArray, List.set_cons_zero, List.set_cons_succ, i64_w, i32_w]
                    rfl
                  refine pure_ (i := 9) (N := some 60) (v := ?_) (a' := ?_) #[true, true, true, true, true, true, true, true, true, true, false, false, false] rfl rfl (any_of HT_.out (by kernel_rfl)) (fun _ _ _ h => h) (Or.inl ⟨by rfl, ?_⟩) ?_ ?_
                  rotate_left
                  · intro w'
                    go_simp
                    with_reducible rfl
                  rotate_left
                  · simp only [Act.put, List.setIfInBounds_toArray, List.set_cons_zero, List.set_cons_succ, i64_w, i32_w]
                    rfl
                  refine last_ (i := 10) (N := some 61) #[true, true, true, true, true, true, true, true, true, true, true, false, false] rfl rfl (one_of HT_.out (by kernel_rfl)) (by decide) (fun K hK => ?_)
                  refine value_ (w1 := ?_) (v := ?_) (by rfl) rfl ?_ ?_
                  rotate_left 2
                  · go_simp
                    constructor
                    · rfl
                    · rfl
                  refine hK.out _ _ ?_
                  clear hK K
                  refine norm_ (a' := ?_) ?_ ?_
                  rotate_left
                  · show Act.put _ (some 61) _ = _
                    simp only [Act.put, List.setIfInBounds_toArray, List.set_cons_zero, List.set_cons_succ, i64_w, i32_w]
                    rfl
                  refine last_ (i := 11) (N := some 62) #[true, true, true, true, true, true, true, true, true, true, true, true, false] rfl rfl (one_of HT_.out (by kernel_rfl)) (by decide) (fun K hK => ?_)
                  refine Kd.R_append_step (Kd.int .i64) (w0 := w) w.heap.size (by rfl) (.tmp 51) (.tmp 61) 37 3 (.int .i64 0) 8 rfl Try.underlying37 info3 rfl (by decide) (by omega) u11 x11_1 ji25 [.int .i64 ji25] (fun k_ => some k_ ≠ (.slice (some ad441) t430.length co27 : Value).ownBlock ∧ some k_ ≠ (.slice (some ad442) t433.length co29 : Value).ownBlock) (fun _ => False) rfl rfl ?aP (fun _ hk => hk.elim) ?aF ?aO ?aB ?aS ?aL ?_
                  (case aP => exact rfl)
                  (case aB => exact (by repeat (first | (with_reducible first | exact HB.out | apply below_alloc | apply pw_below_drewN | apply below_drew1) | exact HB.out)))
                  (case aF => exact (fun k_ hk => ⟨Kd.fresh' (Kd.R_lt (by (with_reducible repeat (first | apply Kd.R_alloc | apply Kd.R_drewN | apply Kd.R_drew)); exact HO_9.out)) k_ hk, Kd.fresh' (Kd.R_lt (by (with_reducible repeat (first | apply Kd.R_alloc | apply Kd.R_drewN | apply Kd.R_drew)); exact HO_10.out)) k_ hk⟩))
                  (case aO => exact (by (with_reducible repeat (first | apply Kd.R_alloc | apply Kd.R_drewN | apply Kd.R_drew)); exact HO_11.out))
                  (case aS => exact (below_size (by repeat (first | (with_reducible first | exact HB.out | apply below_alloc | apply pw_below_drewN | apply below_drew1) | exact HB.out))))
                  (case aL => have := LMc26.out; omega)
                  intro v444 w30 ho hb hg hat
                  rw [← Ny443.out] at ho
                  have n0_ := Aside0.mk (Kd.R_after (ok := (fun k_ => some k_ ≠ (.slice (some ad442) t433.length co29 : Value).ownBlock)) (by (with_reducible repeat (first | apply Kd.R_alloc | apply Kd.R_drewN | apply Kd.R_drew)); exact HO_9.out) hg hat)
                  have n1_ := Aside0.mk (Kd.R_after (ok := (fun k_ => some k_ ≠ (.slice (some ad441) t430.length co27 : Value).ownBlock)) (by (with_reducible repeat (first | apply Kd.R_alloc | apply Kd.R_drewN | apply Kd.R_drew)); exact HO_10.out) hg hat)
                  have n2_ := Aside0.mk (hb)
                  have n3_ := Aside0.mk (ho)
                  clear HO_9
                  clear HO_10
                  clear HB
                  clear HO_11
                  have HO_9 := n0_
                  have HO_10 := n1_
                  have HB := n2_
                  have HO445 := n3_
                  clear n0_ n1_ n2_ n3_
                  clear ho hb hg hat
                  refine hK.out _ _ ?_
                  clear hK K
                  refine norm_ (a' := ?_) ?_ ?_
                  rotate_left
                  · show Act.put _ (some 62) _ = _
                    simp only [Act.put, List.setIfInBounds_toArray, List.set_cons_zero, List.set_cons_succ, i64_w, i32_w]
                    rfl
                  refine pure_ (i := 12) (N := some 11) (v := ?_) (a' := ?_) #[true, true, true, true, true, true, true, true, true, true, true, true, true] rfl rfl (any_of HT_.out (by kernel_rfl)) (fun _ _ _ h => h) (Or.inl ⟨by rfl, ?_⟩) ?_ ?_
                  rotate_left
                  · intro w'
                    go_simp
                    with_reducible rfl
                  rotate_left
                  · simp only [Act.put, List.setIfInBounds_toArray, List.set_cons_zero, List.set_cons_succ, i64_w, i32_w]
                    rfl
                  refine done_ (done_of HT_.out (by kernel_rfl)) ?_
                  try go_wp2
                  go_roundg k1
                  case measure => have := HK1.out; omega
                  case rel => exact ⟨(y443), (wrap64 (x12_1 + 1)), (by first | rfl | (simp; done) | (simp [*]; done)), H', ⟨by have := HK1.out; omega⟩, ⟨by (with_reducible repeat (first | apply Kd.R_alloc | apply Kd.R_drewN | apply Kd.R_drew)); exact HO_9.out⟩, ⟨by (with_reducible repeat (first | apply Kd.R_alloc | apply Kd.R_drewN | apply Kd.R_drew)); exact HO_10.out⟩, ⟨by (with_reducible repeat (first | apply Kd.R_alloc | apply Kd.R_drewN | apply Kd.R_drew)); exact HO445.out⟩, ⟨by repeat (first | (with_reducible first | exact HB.out | apply below_alloc | apply pw_below_drewN | apply below_drew1) | exact HB.out)⟩⟩
                · rw [if_neg c26] at H
                  exact absurd H (by simp)
              · rw [if_neg c24] at H
                exact absurd H (by simp)
            · rw [if_neg c23] at H
              exact absurd H (by simp)
          · rw [if_neg c22] at H
            have c22b0 : (a0 == 10) = false := beq_eq_false_iff_ne.mpr c22
            have c22b1 : (a0 != 10) = true := bne_iff_ne.mpr c22
            by_cases c31 : a0 = 11
            · rw [if_pos c31] at H
              have c31b0 : (a0 == 11) = true := beq_iff_eq.mpr c31
              have c31b1 : (a0 != 11) = false := bne_eq_false_iff_eq.mpr c31
              clear c31
              by_cases c32 : 0 ≤ x12_1
              · rw [if_pos c32] at H
                have c32b0 : decide (0 ≤ x12_1) = true := decide_eq_true c32
                clear c32
                by_cases c33 : x12_1 < (t433.length : Int)
                · rw [if_pos c33] at H
                  have c33b0 : decide (x12_1 < (t433.length : Int)) = true := decide_eq_true c33
                  clear c33
                  by_cases c34 : x11_1.length < 17592186044416
                  · rw [if_pos c34] at H
                    have LMc34 := Aside0.mk c34
                    clear c34
                    obtain ⟨y448, hy448⟩ : ∃ y_ : List Int, y_ = (x11_1 ++ [Int.tmod (wrap64 ((rd t430 x12_1) + (rd t433 x12_1))) 2]) := ⟨_, rfl⟩
                    replace H : (jacquardref01_Binary.l0 k1 a0 a1 t428 t429 t430 t433 y448 (wrap64 (x12_1 + 1))) = some r := by first | (rw [hy448]; with_reducible exact H) | (have H2_ := (Option.bind_some _ _).symm.trans H; rw [hy448]; with_reducible exact H2_) | (have H2_ := (Option.bind_some _ _).symm.trans H; with_reducible exact H2_) | with_reducible exact H | (rw [hy448]; exact H) | exact H
                    have Ny448 := Aside0.mk hy448
                    clear hy448
                    have H' := Aside0.mk H
                    clear H
                    obtain ⟨Ao35, co35, eo35⟩ := Kd.R_slice HO_9.out
                    subst eo35
                    try go_wp2
                    have n0_ := Aside0.mk (Kd.R_drew HO_9.out)
                    have n1_ := Aside0.mk (Kd.R_drew HO_10.out)
                    have n2_ := Aside0.mk (Kd.R_drew HO_11.out)
                    have n3_ := Aside0.mk (below_drew1 HB.out)
                    clear HO_9
                    clear HO_10
                    clear HO_11
                    clear HB
                    have HO_9 := n0_
                    have HO_10 := n1_
                    have HO_11 := n2_
                    have HB := n3_
                    clear n0_ n1_ n2_ n3_
                    have p446 : 0 ≤ (x12_1 : Int) := of_decide_eq_true (by first | (with_reducible assumption) | assumption)
                    have q446 : x12_1 < (t430.length : Int) := of_decide_eq_true (by first | (with_reducible assumption) | assumption)
                    obtain ⟨ad446, e446, hx446_0⟩ := Kd.at_int (Kd.R_reads' HO_9.out).2.2 x12_1 p446 q446
                    cases e446
                    replace p446 := eq_true p446
                    replace q446 := eq_true q446
                    obtain ⟨Ao37, co37, eo37⟩ := Kd.R_slice HO_10.out
                    (first | subst eo37 | (injection eo37 with f1_ f2_ f3_; have f4_ := f1_.symm; have f5_ := f3_.symm; clear f1_ f2_ f3_; subst f4_; subst f5_))
                    have p447 : 0 ≤ (x12_1 : Int) := of_decide_eq_true (by first | (with_reducible assumption) | assumption)
                    have q447 : x12_1 < (t433.length : Int) := of_decide_eq_true (by first | (with_reducible assumption) | assumption)
                    obtain ⟨ad447, e447, hx447_0⟩ := Kd.at_int (Kd.R_reads' HO_10.out).2.2 x12_1 p447 q447
                    cases e447
                    replace p447 := eq_true p447
                    replace q447 := eq_true q447
                    refine start_ (n := 14) (S := fun w' => w'.cell? (ad446.add (x12_1).toNat) = some (.int .i64 (rd t430 x12_1)) ∧ w'.cell? (ad447.add (x12_1).toNat) = some (.int .i64 (rd t433 x12_1))) (ds := [11, 12]) #[false, false, false, false, false, false, false, false, false, false, false, false, false, false] (by kernel_rfl) rfl rfl ⟨hx446_0, hx447_0⟩ (fun hHeld => ?_); refine with_tabW jacquardref01_Binary.tab14 jacquardref01_Binary.bits14 (fun HT_ HW_ => ?_)
                    generalize wr.drew = w36 at HO_9 HO_10 HO_11 HB hx446_0 hx447_0 hHeld ⊢
                    refine pure_ (i := 0) (N := some 65) (v := ?_) (a' := ?_) #[true, false, false, false, false, false, false, false, false, false, false, false, false, false] rfl rfl (any_of HT_.out (by kernel_rfl)) (fun _ _ _ h => h) (Or.inl ⟨by rfl, ?_⟩) ?_ ?_
                    rotate_left
                    · intro w'
                      go_simp
                      with_reducible rfl
                    rotate_left
                    · simp only [Act.put, List.setIfInBounds_toArray, List.set_cons_zero, List.set_cons_succ, i64_w, i32_w]
                      rfl
                    refine pure_ (i := 1) (N := some 66) (v := ?_) (a' := ?_) #[true, true, false, false, false, false, false, false, false, false, false, false, false, false] rfl rfl (any_of HT_.out (by kernel_rfl)) (fun _ _ _ h => h) (Or.inl ⟨by rfl, ?_⟩) ?_ ?_
                    rotate_left
                    · intro w'
                      go_simp
                      with_reducible rfl
                    rotate_left
                    · simp only [Act.put, List.setIfInBounds_toArray, List.set_cons_zero, List.set_cons_succ, i64_w, i32_w]
                      rfl
                    refine pure_ (i := 2) (N := some 67) (v := ?_) (a' := ?_) #[true, true, true, false, false, false, false, false, false, false, false, false, false, false] rfl rfl (any_of HT_.out (by kernel_rfl)) (fun _ _ _ h => h) (Or.inl ⟨by rfl, ?_⟩) ?_ ?_
                    rotate_left
                    · intro w'
                      go_simp
                      with_reducible rfl
                    rotate_left
                    · simp only [Act.put, List.setIfInBounds_toArray, List.set_cons_zero, List.set_cons_succ, i64_w, i32_w]
                      rfl
                    refine pure_ (i := 3) (N := some 68) (v := ?_) (a' := ?_) #[true, true, true, true, false, false, false, false, false, false, false, false, false, false] rfl rfl (any_of HT_.out (by kernel_rfl)) (fun _ _ _ h => h) (Or.inl ⟨by rfl, ?_⟩) ?_ ?_
                    rotate_left
                    · intro w'
                      go_simp
                      with_reducible rfl
                    rotate_left
                    · simp only [Act.put, List.setIfInBounds_toArray, List.set_cons_zero, List.set_cons_succ, i64_w, i32_w]
                      rfl
                    refine pure_ (i := 5) (N := some 70) (v := ?_) (a' := ?_) #[true, true, true, true, false, true, false, false, false, false, false, false, false, false] rfl rfl (any_of HT_.out (by kernel_rfl)) (fun _ _ _ h => h) (Or.inl ⟨by rfl, ?_⟩) ?_ ?_
                    rotate_left
                    · intro w'
                      go_simp
                      with_reducible rfl
                    rotate_left
                    · simp only [Act.put, List.setIfInBounds_toArray, List.set_cons_zero, List.set_cons_succ, i64_w, i32_w]
                      rfl
                    refine pure_ (i := 6) (N := some 71) (v := ?_) (a' := ?_) #[true, true, true, true, false, true, true, false, false, false, false, false, false, false] rfl rfl (any_of HT_.out (by kernel_rfl)) (fun _ _ _ h => h) (Or.inl ⟨by rfl, ?_⟩) ?_ ?_
                    rotate_left
                    · intro w'
                      go_simp
                      with_reducible rfl
                    rotate_left
                    · simp only [Act.put, List.setIfInBounds_toArray, List.set_cons_zero, List.set_cons_succ, i64_w, i32_w]
                      rfl
                    refine pure_ (i := 7) (N := some 72) (v := ?_) (a' := ?_) #[true, true, true, true, false, true, true, true, false, false, false, false, false, false] rfl rfl (any_of HT_.out (by kernel_rfl)) (fun _ _ _ h => h) (Or.inl ⟨by rfl, ?_⟩) ?_ ?_
                    rotate_left
                    · intro w'
                      go_simp
                      with_reducible rfl
                    rotate_left
                    · simp only [Act.put, List.setIfInBounds_toArray, List.set_cons_zero, List.set_cons_succ, i64_w, i32_w]
                      rfl
                    refine take_ (i := 4) (N := some 69) (v := ?_) (a' := ?_) #[true, true, true, true, true, true, true, true, false, false, false, false, false, false] rfl rfl (take_ofW HT_.out HW_.out (by kernel_rfl)) (fun _ _ _ h => h) (Or.inl ⟨by rfl, ?_⟩) hHeld ?_ ?_
                    rotate_left
                    · rintro w' ⟨s0, s1⟩
                      go_simp
                      with_reducible rfl
                    rotate_left
                    · simp only [Act.put, List.setIfInBounds_toArray, List.set_cons_zero, List.set_cons_succ, i64_w, i32_w]
                      rfl
                    refine take_ (i := 8) (N := some 73) (v := ?_) (a' := ?_) #[true, true, true, true, true, true, true, true, true, false, false, false, false, false] rfl rfl (take_ofW HT_.out HW_.out (by kernel_rfl)) (fun _ _ _ h => h) (Or.inl ⟨by rfl, ?_⟩) hHeld ?_ ?_
                    rotate_left
                    · rintro w' ⟨s0, s1⟩
                      go_simp
                      with_reducible rfl
                    rotate_left
                    · simp only [Act.put, List.setIfInBounds_toArray, List.set_cons_zero, List.set_cons_succ, i64_w, i32_w]
                      rfl
                    refine pure_ (i := 9) (N := some 74) (v := ?_) (a' := ?_) #[true, true, true, true, true, true, true, true, true, true, false, false, false, false] rfl rfl (any_of HT_.out (by kernel_rfl)) (fun _ _ _ h => h) (Or.inl ⟨by rfl, ?_⟩) ?_ ?_
                    rotate_left
                    · intro w'
                      go_simp
                      with_reducible rfl
                    rotate_left
                    · simp only [Act.put, List.setIfInBounds_toArray, List.set_cons_zero, List.set_cons_succ, i64_w, i32_w]
                      rfl
                    refine pure_ (i := 10) (N := some 75) (v := ?_) (a' := ?_) #[true, true, true, true, true, true, true, true, true, true, true, false, false, false] rfl rfl (any_of HT_.out (by kernel_rfl)) (fun _ _ _ h => h) (Or.inl ⟨by rfl, ?_⟩) ?_ ?_
                    rotate_left
                    · intro w'
                      go_simp
                      with_reducible rfl
                    rotate_left
                    · simp only [Act.put, List.setIfInBounds_toArray, List.set_cons_zero, List.set_cons_succ, i64_w, i32_w]
                      rfl
                    refine last_ (i := 11) (N := some 76) #[true, true, true, true, true, true, true, true, true, true, true, true, false, false] rfl rfl (one_of HT_.out (by kernel_rfl)) (by decide) (fun K hK => ?_)
                    refine value_ (w1 := ?_) (v := ?_) (by rfl) rfl ?_ ?_
                    rotate_left 2
                    · go_simp
                      constructor
                      · rfl
                      · rfl
                    refine hK.out _ _ ?_
                    clear hK K
                    refine norm_ (a' := ?_) ?_ ?_
                    rotate_left
                    · show Act.put _ (some 76) _ = _
                      simp only [Act.put, List.setIfInBounds_toArray, List.set_cons_zero, List.set_cons_succ, i64_w, i32_w]
                      rfl
                    refine last_ (i := 12) (N := some 77) #[true, true, true, true, true, true, true, true, true, true, true, true, true, false] rfl rfl (one_of HT_.out (by kernel_rfl)) (by decide) (fun K hK => ?_)
                    refine Kd.R_append_step (Kd.int .i64) (w0 := w) w.heap.size (by rfl) (.tmp 65) (.tmp 76) 37 3 (.int .i64 0) 8 rfl Try.underlying37 info3 rfl (by decide) (by omega) u11 x11_1 (Int.tmod (wrap64 ((rd t430 x12_1) + (rd t433 x12_1))) 2) [.int .i64 (Int.tmod (wrap64 ((rd t430 x12_1) + (rd t433 x12_1))) 2)] (fun k_ => some k_ ≠ (.slice (some ad446) t430.length co35 : Value).ownBlock ∧ some k_ ≠ (.slice (some ad447) t433.length co37 : Value).ownBlock) (fun _ => False) rfl rfl ?aP (fun _ hk => hk.elim) ?aF ?aO ?aB ?aS ?aL ?_
                    (case aP => exact rfl)
                    (case aB => exact (by repeat (first | (with_reducible first | exact HB.out | apply below_alloc | apply pw_below_drewN | apply below_drew1) | exact HB.out)))
                    (case aF => exact (fun k_ hk => ⟨Kd.fresh' (Kd.R_lt (by (with_reducible repeat (first | apply Kd.R_alloc | apply Kd.R_drewN | apply Kd.R_drew)); exact HO_9.out)) k_ hk, Kd.fresh' (Kd.R_lt (by (with_reducible repeat (first | apply Kd.R_alloc | apply Kd.R_drewN | apply Kd.R_drew)); exact HO_10.out)) k_ hk⟩))
                    (case aO => exact (by (with_reducible repeat (first | apply Kd.R_alloc | apply Kd.R_drewN | apply Kd.R_drew)); exact HO_11.out))
                    (case aS => exact (below_size (by repeat (first | (with_reducible first | exact HB.out | apply below_alloc | apply pw_below_drewN | apply below_drew1) | exact HB.out))))
                    (case aL => have := LMc34.out; omega)
                    intro v449 w38 ho hb hg hat
                    rw [← Ny448.out] at ho
                    have n0_ := Aside0.mk (Kd.R_after (ok := (fun k_ => some k_ ≠ (.slice (some ad447) t433.length co37 : Value).ownBlock)) (by (with_reducible repeat (first | apply Kd.R_alloc | apply Kd.R_drewN | apply Kd.R_drew)); exact HO_9.out) hg hat)
                    have n1_ := Aside0.mk (Kd.R_after (ok := (fun k_ => some k_ ≠ (.slice (some ad446) t430.length co35 : Value).ownBlock)) (by (with_reducible repeat (first | apply Kd.R_alloc | apply Kd.R_drewN | apply Kd.R_drew)); exact HO_10.out) hg hat)
                    have n2_ := Aside0.mk (hb)
                    have n3_ := Aside0.mk (ho)
                    clear HO_9
                    clear HO_10
                    clear HB
                    clear HO_11
                    have HO_9 := n0_
                    have HO_10 := n1_
                    have HB := n2_
                    have HO450 := n3_
                    clear n0_ n1_ n2_ n3_
                    clear ho hb hg hat
                    refine hK.out _ _ ?_
                    clear hK K
                    refine norm_ (a' := ?_) ?_ ?_
                    rotate_left
                    · show Act.put _ (some 77) _ = _
                      simp only [Act.put, List.setIfInBounds_toArray, List.set_cons_zero, List.set_cons_succ, i64_w, i32_w]
                      rfl
                    refine pure_ (i := 13) (N := some 11) (v := ?_) (a' := ?_) #[true, true, true, true, true, true, true, true, true, true, true, true, true, true] rfl rfl (any_of HT_.out (by kernel_rfl)) (fun _ _ _ h => h) (Or.inl ⟨by rfl, ?_⟩) ?_ ?_
                    rotate_left
                    · intro w'
                      go_simp
                      with_reducible rfl
                    rotate_left
                    · simp only [Act.put, List.setIfInBounds_toArray, List.set_cons_zero, List.set_cons_succ, i64_w, i32_w]
                      rfl
                    refine done_ (done_of HT_.out (by kernel_rfl)) ?_
                    try go_wp2
                    go_roundg k1
                    case measure => have := HK1.out; omega
                    case rel => exact ⟨(y448), (wrap64 (x12_1 + 1)), (by first | rfl | (simp; done) | (simp [*]; done)), H', ⟨by have := HK1.out; omega⟩, ⟨by (with_reducible repeat (first | apply Kd.R_alloc | apply Kd.R_drewN | apply Kd.R_drew)); exact HO_9.out⟩, ⟨by (with_reducible repeat (first | apply Kd.R_alloc | apply Kd.R_drewN | apply Kd.R_drew)); exact HO_10.out⟩, ⟨by (with_reducible repeat (first | apply Kd.R_alloc | apply Kd.R_drewN | apply Kd.R_drew)); exact HO450.out⟩, ⟨by repeat (first | (with_reducible first | exact HB.out | apply below_alloc | apply pw_below_drewN | apply below_drew1) | exact HB.out)⟩⟩
                  · rw [if_neg c34] at H
                    exact absurd H (by simp)
                · rw [if_neg c33] at H
                  exact absurd H (by simp)
              · rw [if_neg c32] at H
                exact absurd H (by simp)
            · rw [if_neg c31] at H
              have c31b0 : (a0 == 11) = false := beq_eq_false_iff_ne.mpr c31
              have c31b1 : (a0 != 11) = true := bne_iff_ne.mpr c31
              have H' := Aside0.mk H
              clear H
              obtain ⟨Ao39, co39, eo39⟩ := Kd.R_slice HO_9.out
              subst eo39
              go_wp2
              go_roundg k1
              case measure => have := HK1.out; omega
              case rel => exact ⟨(x11_1), (wrap64 (x12_1 + 1)), (by first | rfl | (simp; done) | (simp [*]; done)), H', ⟨by have := HK1.out; omega⟩, ⟨by (with_reducible repeat (first | apply Kd.R_alloc | apply Kd.R_drewN | apply Kd.R_drew)); exact HO_9.out⟩, ⟨by (with_reducible repeat (first | apply Kd.R_alloc | apply Kd.R_drewN | apply Kd.R_drew)); exact HO_10.out⟩, ⟨by (with_reducible repeat (first | apply Kd.R_alloc | apply Kd.R_drewN | apply Kd.R_drew)); exact HO_11.out⟩, ⟨by repeat (first | (with_reducible first | exact HB.out | apply below_alloc | apply pw_below_drewN | apply below_drew1) | exact HB.out)⟩⟩
      · rw [if_neg c13] at H
        have c13b0 : decide (x12_1 < (t430.length : Int)) = false := decide_eq_false c13
        clear c13
        replace H := Option.bind_eq_some_iff.mp H
        obtain ⟨t451, A400, H⟩ := H
        replace H : (if t451 = true then (jacquardref01_Binary.j1 k1 a0 a1 t428 t429 t430 t433 x11_1 1) else (jacquardref01_Binary.j1 k1 a0 a1 t428 t429 t430 t433 x11_1 0)) = some r := H
        have A40 := Aside0.mk A400
        clear A400
        have HC41 := Aside0.mk H
        clear H
        obtain ⟨Ao42, co42, eo42⟩ := Kd.R_slice HO_9.out
        subst eo42
        go_upto_if 80 with (first | ((with_reducible refine gate_callee (f := 79) rfl ?_); refine goesL_ (some 80) rfl rfl Try.func79 (by kernel_rfl) rfl #[.int .i64 a1, .int .u64 t428] rfl (by (try simp only [List.map_toArray, List.map_cons, List.map_nil]); first | done | rfl | (simp only [List.length_drop, List.length_take]; rfl)) ?_; (with_reducible refine (jacquardref01_Negative.calls k1 a1 t428 t451 _ A40.out).mono ?_); rintro e w43 ⟨rfl, hb⟩; refine ⟨_, rfl, ?_⟩; have n0_ := Aside0.mk (Kd.R_below (by (with_reducible repeat (first | apply Kd.R_alloc | apply Kd.R_drewN | apply Kd.R_drew)); exact HO_9.out) hb); have n1_ := Aside0.mk (Kd.R_below (by (with_reducible repeat (first | apply Kd.R_alloc | apply Kd.R_drewN | apply Kd.R_drew)); exact HO_10.out) hb); have n2_ := Aside0.mk (Kd.R_below (by (with_reducible repeat (first | apply Kd.R_alloc | apply Kd.R_drewN | apply Kd.R_drew)); exact HO_11.out) hb); have n3_ := Aside0.mk (below_step (by repeat (first | (with_reducible first | exact HB.out | apply below_alloc | apply pw_below_drewN | apply below_drew1) | exact HB.out)) hb); clear HO_9; clear HO_10; clear HO_11; clear HB; have HO_9 := n0_; have HO_10 := n1_; have HO_11 := n2_; have HB := n3_; clear n0_ n1_ n2_ n3_; (try clear hb); (try clear hb2); (try clear hk); (try clear hi)))
        (try simp only [Act.put, List.setIfInBounds_toArray, List.set_cons_zero, List.set_cons_succ])
        go_cut [13] (fun v13 wc => ∃ (kq : Nat) (x13_40 : Int), v13 = .int .i64 x13_40 ∧ Aside0 (jacquardref01_Binary.j1 kq a0 a1 t428 t429 t430 t433 x11_1 x13_40 = some r) ∧ Aside0 (kq ≤ k1) ∧ Aside0 (Kd.R (Kd.int .i64) 3 wc w.heap.size (fun k_ => some k_ ≠ (v434 : Value).ownBlock ∧ some k_ ≠ (u11 : Value).ownBlock) (.slice Ao42 t430.length co42) t430) ∧ Aside0 (Kd.R (Kd.int .i64) 3 wc w.heap.size (fun k_ => some k_ ≠ ((.slice Ao42 t430.length co42) : Value).ownBlock ∧ some k_ ≠ (u11 : Value).ownBlock) v434 t433) ∧ Aside0 (Kd.R (Kd.int .i64) 3 wc w.heap.size (fun k_ => some k_ ≠ ((.slice Ao42 t430.length co42) : Value).ownBlock ∧ some k_ ≠ (v434 : Value).ownBlock) u11 x11_1) ∧ Aside0 (Below w.heap.size w wc))
        case first =>
          have H := HC41.out
          clear HC41
          by_cases c44 : t451 = true
          · subst c44
            have H1 : (jacquardref01_Binary.j1 k1 a0 a1 t428 t429 t430 t433 x11_1 1) = some r := by rw [if_pos rfl] at H; exact H
            clear H
            have H := H1
            clear H1
            have H' := Aside0.mk H
            clear H
            go_wp2
            go_meet
            case rel => exact ⟨_, (1), (by first | rfl | (simp; done) | (simp [*]; done)), H', ⟨by have := HK1.out; first | omega | exact Nat.le_refl _⟩, ⟨by (with_reducible repeat (first | apply Kd.R_alloc | apply Kd.R_drewN | apply Kd.R_drew)); exact HO_9.out⟩, ⟨by (with_reducible repeat (first | apply Kd.R_alloc | apply Kd.R_drewN | apply Kd.R_drew)); exact HO_10.out⟩, ⟨by (with_reducible repeat (first | apply Kd.R_alloc | apply Kd.R_drewN | apply Kd.R_drew)); exact HO_11.out⟩, ⟨by repeat (first | (with_reducible first | exact HB.out | apply below_alloc | apply pw_below_drewN | apply below_drew1) | exact HB.out)⟩⟩
          · replace c44 := Bool.eq_false_iff.mpr c44
            subst c44
            have H1 : (jacquardref01_Binary.j1 k1 a0 a1 t428 t429 t430 t433 x11_1 0) = some r := by rw [if_neg (show ¬ (false = true) by decide)] at H; exact H
            clear H
            have H := H1
            clear H1
            have H' := Aside0.mk H
            clear H
            go_wp2
            go_meet
            case rel => exact ⟨_, (0), (by first | rfl | (simp; done) | (simp [*]; done)), H', ⟨by have := HK1.out; first | omega | exact Nat.le_refl _⟩, ⟨by (with_reducible repeat (first | apply Kd.R_alloc | apply Kd.R_drewN | apply Kd.R_drew)); exact HO_9.out⟩, ⟨by (with_reducible repeat (first | apply Kd.R_alloc | apply Kd.R_drewN | apply Kd.R_drew)); exact HO_10.out⟩, ⟨by (with_reducible repeat (first | apply Kd.R_alloc | apply Kd.R_drewN | apply Kd.R_drew)); exact HO_11.out⟩, ⟨by repeat (first | (with_reducible first | exact HB.out | apply below_alloc | apply pw_below_drewN | apply below_drew1) | exact HB.out)⟩⟩
        case rest =>
          clear HC41
          try clear c1
          try clear c2
          try clear p2
          try clear c3
          try clear c4
          try clear p4
          try clear q4
          try clear hx4
          try clear p6
          try clear c7
          try clear c13
          try clear c13b0
          try clear c14
          try clear c14b0
          try clear c14b1
          try clear c15
          try clear c16
          try clear c17
          try clear c22
          try clear c22b0
          try clear c22b1
          try clear c23
          try clear c23b0
          try clear c24
          try clear c24b0
          try clear c26
          try clear c31
          try clear c31b0
          try clear c31b1
          try clear c32
          try clear c32b0
          try clear c33
          try clear c33b0
          try clear c34
          try clear c44
          try clear p44
          try clear q44
          try clear hx44
          try clear hx441_0
          try clear hx442_0
          try clear hx446_0
          try clear hx447_0
          try clear p441
          try clear p442
          try clear p446
          try clear p447
          try clear q441
          try clear q442
          try clear q446
          try clear q447
          obtain ⟨kq, x13_40, rfl, HA, HJ40, HO_9, HO_10, HO_11, HB⟩ := hcut
          cases kq with
          | zero => exact absurd HA.out (by simp [jacquardref01_Binary.j1])
          | succ kj40 =>
            have H := HA.out
            clear HA
            simp only [jacquardref01_Binary.j1] at H
            have HC45 := Aside0.mk H
            clear H
            go_upto_if 82 with (fail)
            go_cut [82] (fun v82 wc => ∃ (kq : Nat) (x82_44 : Bool), v82 = .bool x82_44 ∧ Aside0 (jacquardref01_Binary.j2 kq a0 a1 t428 t429 t430 t433 x11_1 x13_40 a0 x82_44 = some r) ∧ Aside0 (kq ≤ kj40) ∧ Aside0 (Kd.R (Kd.int .i64) 3 wc w.heap.size (fun k_ => some k_ ≠ (v434 : Value).ownBlock ∧ some k_ ≠ (u11 : Value).ownBlock) (.slice Ao42 t430.length co42) t430) ∧ Aside0 (Kd.R (Kd.int .i64) 3 wc w.heap.size (fun k_ => some k_ ≠ ((.slice Ao42 t430.length co42) : Value).ownBlock ∧ some k_ ≠ (u11 : Value).ownBlock) v434 t433) ∧ Aside0 (Kd.R (Kd.int .i64) 3 wc w.heap.size (fun k_ => some k_ ≠ ((.slice Ao42 t430.length co42) : Value).ownBlock ∧ some k_ ≠ (v434 : Value).ownBlock) u11 x11_1) ∧ Aside0 (Below w.heap.size w wc))
            case first =>
              have H := HC45.out
              clear HC45
              by_cases c46 : a0 = 9
              · rw [if_pos c46] at H
                have c46b0 : (a0 == 9) = true := beq_iff_eq.mpr c46
                have c46b1 : (a0 != 9) = false := bne_eq_false_iff_eq.mpr c46
                clear c46
                (first | rw [c46b0] | (simp only [i64_w, i32_w]; rw [c46b0]) | skip)
                have H' := Aside0.mk H
                clear H
                go_wp2
                go_meet
                case rel => exact ⟨_, ((a0 == 9)), (by first | rfl | (simp; done) | (simp [*]; done)), H', ⟨by have := HK1.out; have := HJ40.out; first | omega | exact Nat.le_refl _⟩, ⟨by (with_reducible repeat (first | apply Kd.R_alloc | apply Kd.R_drewN | apply Kd.R_drew)); exact HO_9.out⟩, ⟨by (with_reducible repeat (first | apply Kd.R_alloc | apply Kd.R_drewN | apply Kd.R_drew)); exact HO_10.out⟩, ⟨by (with_reducible repeat (first | apply Kd.R_alloc | apply Kd.R_drewN | apply Kd.R_drew)); exact HO_11.out⟩, ⟨by repeat (first | (with_reducible first | exact HB.out | apply below_alloc | apply pw_below_drewN | apply below_drew1) | exact HB.out)⟩⟩
              · rw [if_neg c46] at H
                have c46b0 : (a0 == 9) = false := beq_eq_false_iff_ne.mpr c46
                have c46b1 : (a0 != 9) = true := bne_iff_ne.mpr c46
                (first | rw [c46b0] | (simp only [i64_w, i32_w]; rw [c46b0]) | skip)
                by_cases c47 : a0 = 10
                · rw [if_pos c47] at H
                  have c47b0 : (a0 == 10) = true := beq_iff_eq.mpr c47
                  have c47b1 : (a0 != 10) = false := bne_eq_false_iff_eq.mpr c47
                  clear c47
                  have H' := Aside0.mk H
                  clear H
                  go_wp2
                  go_meet
                  case rel => exact ⟨_, ((a0 == 10)), (by first | rfl | (simp; done) | (simp [*]; done)), H', ⟨by have := HK1.out; have := HJ40.out; first | omega | exact Nat.le_refl _⟩, ⟨by (with_reducible repeat (first | apply Kd.R_alloc | apply Kd.R_drewN | apply Kd.R_drew)); exact HO_9.out⟩, ⟨by (with_reducible repeat (first | apply Kd.R_alloc | apply Kd.R_drewN | apply Kd.R_drew)); exact HO_10.out⟩, ⟨by (with_reducible repeat (first | apply Kd.R_alloc | apply Kd.R_drewN | apply Kd.R_drew)); exact HO_11.out⟩, ⟨by repeat (first | (with_reducible first | exact HB.out | apply below_alloc | apply pw_below_drewN | apply below_drew1) | exact HB.out)⟩⟩
                · rw [if_neg c47] at H
                  have c47b0 : (a0 == 10) = false := beq_eq_false_iff_ne.mpr c47
                  have c47b1 : (a0 != 10) = true := bne_iff_ne.mpr c47
                  have H' := Aside0.mk H
                  clear H
                  go_wp2
                  go_meet
                  case rel => exact ⟨_, ((a0 == 11)), (by first | rfl | (simp; done) | (simp [*]; done)), H', ⟨by have := HK1.out; have := HJ40.out; first | omega | exact Nat.le_refl _⟩, ⟨by (with_reducible repeat (first | apply Kd.R_alloc | apply Kd.R_drewN | apply Kd.R_drew)); exact HO_9.out⟩, ⟨by (with_reducible repeat (first | apply Kd.R_alloc | apply Kd.R_drewN | apply Kd.R_drew)); exact HO_10.out⟩, ⟨by (with_reducible repeat (first | apply Kd.R_alloc | apply Kd.R_drewN | apply Kd.R_drew)); exact HO_11.out⟩, ⟨by repeat (first | (with_reducible first | exact HB.out | apply below_alloc | apply pw_below_drewN | apply below_drew1) | exact HB.out)⟩⟩
            case rest =>
              clear HC45
              try clear c1
              try clear c2
              try clear p2
              try clear c3
              try clear c4
              try clear p4
              try clear q4
              try clear hx4
              try clear p6
              try clear c7
              try clear c13
              try clear c13b0
              try clear c14
              try clear c14b0
              try clear c14b1
              try clear c15
              try clear c16
              try clear c17
              try clear c22
              try clear c22b0
              try clear c22b1
              try clear c23
              try clear c23b0
              try clear c24
              try clear c24b0
              try clear c26
              try clear c31
              try clear c31b0
              try clear c31b1
              try clear c32
              try clear c32b0
              try clear c33
              try clear c33b0
              try clear c34
              try clear c44
              try clear p44
              try clear q44
              try clear hx44
              try clear c46
              try clear c46b0
              try clear c46b1
              try clear c47
              try clear c47b0
              try clear c47b1
              try clear hx441_0
              try clear hx442_0
              try clear hx446_0
              try clear hx447_0
              try clear p2
              try clear p4
              try clear p44
              try clear p441
              try clear p442
              try clear p446
              try clear p447
              try clear p6
              try clear q4
              try clear q44
              try clear q441
              try clear q442
              try clear q446
              try clear q447
              obtain ⟨kq, x82_44, rfl, HA, HJ44, HO_9, HO_10, HO_11, HB⟩ := hcut
              cases kq with
              | zero => exact absurd HA.out (by simp [jacquardref01_Binary.j2])
              | succ kj44 =>
                have H := HA.out
                clear HA
                simp only [jacquardref01_Binary.j2] at H
                by_cases c48 : x82_44 = true
                · subst c48
                  have H1 : ((jacquardref01_Word.f kj44 x11_1).bind fun t452 => (some t452)) = some r := by rw [if_pos rfl] at H; exact H
                  clear H
                  have H := H1
                  clear H1
                  replace H := Option.bind_eq_some_iff.mp H
                  obtain ⟨t452, A490, H⟩ := H
                  replace H : (some t452) = some r := H
                  have A49 := Aside0.mk A490
                  clear A490
                  obtain rfl := Option.some.inj H
                  obtain ⟨Ao50, co50, eo50⟩ := Kd.R_slice HO_11.out
                  subst eo50
                  go_wp2_with (first | ((with_reducible refine gate_callee (f := 80) rfl ?_); refine goesL_ (some 87) rfl rfl Try.func80 (by kernel_rfl) rfl #[.slice Ao50 x11_1.length co50] rfl (by (try simp only [List.map_toArray, List.map_cons, List.map_nil]); first | done | rfl | (simp only [List.length_drop, List.length_take]; rfl)) ?_; (with_reducible refine (jacquardref01_Word.calls kj44 _ _ x11_1 t452 _ ?side1 ?side2 A49.out).mono ?_); (case side1 => repeat (first | exact (Kd.R_reads' HO_11.out).2.2 | (with_reducible refine Kd.C_alloc ?_ _) | (with_reducible refine Kd.C_drewN ?_ _) | (with_reducible refine Kd.C_drew ?_))); (case side2 => exact (Kd.R_reads' HO_11.out).2.1); rintro e w' ⟨rfl, ⟨nd, rfl⟩⟩; refine ⟨_, rfl, ?_⟩))
                  go_ret
                  exact ⟨by first | rfl | (simp [errW_none, errW_some] <;> rfl) | (simp [*, errW_none, errW_some] <;> rfl), by repeat (first | (with_reducible first | exact HB.out | apply below_alloc | apply pw_below_drewN | apply below_drew1) | exact HB.out)⟩
                · replace c48 := Bool.eq_false_iff.mpr c48
                  subst c48
                  have H1 : (if a0 = 2 then ((jacquardref01_add.f kj44 t430 t433 0).bind fun t453 => ((jacquardref01_Word.f kj44 t453).bind fun t456 => (some t456))) else (if a0 = 3 then ((jacquardref01_Ones.f kj44 a1).bind fun t457 => ((jacquardref01_Bits.f kj44 a1 (IntKind.u64.wrap (t457 - t429))).bind fun t458 => ((jacquardref01_add.f kj44 t430 t458 1).bind fun t461 => ((jacquardref01_Word.f kj44 t461).bind fun t464 => (some t464))))) else (if a0 = 4 then ((jacquardref01_mul.f kj44 a1 t428 t429).bind fun t465 => (some t465)) else (if a0 = 12 then ((jacquardref01_amount.f a1 t429).bind fun t466 => ((jacquardref01_Shl.f kj44 a1 t428 t466).bind fun t467 => (some t467))) else (if a0 = 13 then ((jacquardref01_amount.f a1 t429).bind fun t468 => ((jacquardref01_shr.f kj44 a1 t428 t468 0).bind fun t469 => (some t469))) else (if a0 = 14 then ((jacquardref01_amount.f a1 t429).bind fun t470 => ((jacquardref01_shr.f kj44 a1 t428 t470 x13_40).bind fun t471 => (some t471))) else (if a0 = 15 then ((jacquardref01_bit.f (t428 == t429)).bind fun t472 => (some t472)) else (if a0 = 16 then ((jacquardref01_bit.f (t428 != t429)).bind fun t473 => (some t473)) else (if a0 = 17 then ((jacquardref01_bit.f (decide (t428 < t429))).bind fun t474 => (some t474)) else (if a0 = 18 then ((jacquardref01_bit.f (decide (t428 ≤ t429))).bind fun t475 => (some t475)) else (if a0 = 19 then ((jacquardref01_Signed.f kj44 a1 t428).bind fun t476 => ((jacquardref01_Signed.f kj44 a1 t429).bind fun t477 => ((jacquardref01_bit.f (decide (t476 < t477))).bind fun t478 => (some t478)))) else (if a0 = 20 then ((jacquardref01_Signed.f kj44 a1 t428).bind fun t479 => ((jacquardref01_Signed.f kj44 a1 t429).bind fun t480 => ((jacquardref01_bit.f (decide (t479 ≤ t480))).bind fun t481 => (some t481)))) else (if a0 = 5 then (jacquardref01_Binary.j3 kj44 a0 a1 t428 t429 (a0 == 5)) else (jacquardref01_Binary.j3 kj44 a0 a1 t428 t429 (a0 == 6))))))))))))))) = some r := by rw [if_neg (show ¬ (false = true) by decide)] at H; exact H
                  clear H
                  have H := H1
                  clear H1
                  by_cases c51 : a0 = 2
                  · rw [if_pos c51] at H
                    have c51b0 : (a0 == 2) = true := beq_iff_eq.mpr c51
                    have c51b1 : (a0 != 2) = false := bne_eq_false_iff_eq.mpr c51
                    clear c51
                    replace H := Option.bind_eq_some_iff.mp H
                    obtain ⟨t453, A520, H⟩ := H
                    replace H : ((jacquardref01_Word.f kj44 t453).bind fun t456 => (some t456)) = some r := H
                    have A52 := Aside0.mk A520
                    clear A520
                    replace H := Option.bind_eq_some_iff.mp H
                    obtain ⟨t456, A530, H⟩ := H
                    replace H : (some t456) = some r := H
                    have A53 := Aside0.mk A530
                    clear A530
                    obtain rfl := Option.some.inj H
                    obtain ⟨Ao54, co54, eo54⟩ := Kd.R_slice HO_10.out
                    subst eo54
                    go_wp2_with (first | ((with_reducible refine gate_callee (f := 81) rfl ?_); refine goesL_ (some 92) rfl rfl Try.func81 (by kernel_rfl) rfl #[.slice Ao42 t430.length co42, .slice Ao54 t433.length co54, .int .i64 0] rfl (by (try simp only [List.map_toArray, List.map_cons, List.map_nil]); first | done | rfl | (simp only [List.length_drop, List.length_take]; rfl)) ?_; (with_reducible refine (jacquardref01_add.calls kj44 _ _ t430 _ _ t433 0 t453 _ ?side1 ?side2 ?side3 ?side4 A52.out).mono ?_); (case side1 => repeat (first | exact (Kd.R_reads' HO_9.out).2.2 | (with_reducible refine Kd.C_alloc ?_ _) | (with_reducible refine Kd.C_drewN ?_ _) | (with_reducible refine Kd.C_drew ?_))); (case side2 => exact (Kd.R_reads' HO_9.out).2.1); (case side3 => repeat (first | exact (Kd.R_reads' HO_10.out).2.2 | (with_reducible refine Kd.C_alloc ?_ _) | (with_reducible refine Kd.C_drewN ?_ _) | (with_reducible refine Kd.C_drew ?_))); (case side4 => exact (Kd.R_reads' HO_10.out).2.1); rintro e w55 ⟨v454, rfl, ho0, hb⟩; refine ⟨_, rfl, ?_⟩; have n0_ := Aside0.mk (Kd.R_elder' (by (with_reducible repeat (first | apply Kd.R_alloc | apply Kd.R_drewN | apply Kd.R_drew)); exact HO_9.out) (Kd.R_base ho0) hb); have n1_ := Aside0.mk (Kd.R_elder' (by (with_reducible repeat (first | apply Kd.R_alloc | apply Kd.R_drewN | apply Kd.R_drew)); exact HO_10.out) (Kd.R_base ho0) hb); have n2_ := Aside0.mk (Kd.R_elder' (by (with_reducible repeat (first | apply Kd.R_alloc | apply Kd.R_drewN | apply Kd.R_drew)); exact HO_11.out) (Kd.R_base ho0) hb); have n3_ := Aside0.mk (Kd.R_lower (Kd.R_new' (Kd.R_new' (Kd.R_new' ho0 (Kd.R_lt (by (with_reducible repeat (first | apply Kd.R_alloc | apply Kd.R_drewN | apply Kd.R_drew)); exact HO_9.out))) (Kd.R_lt (by (with_reducible repeat (first | apply Kd.R_alloc | apply Kd.R_drewN | apply Kd.R_drew)); exact HO_10.out))) (Kd.R_lt (by (with_reducible repeat (first | apply Kd.R_alloc | apply Kd.R_drewN | apply Kd.R_drew)); exact HO_11.out))) (below_size (by repeat (first | (with_reducible first | exact HB.out | apply below_alloc | apply pw_below_drewN | apply below_drew1) | exact HB.out)))); have n4_ := Aside0.mk (below_step (by repeat (first | (with_reducible first | exact HB.out | apply below_alloc | apply pw_below_drewN | apply below_drew1) | exact HB.out)) hb); clear HO_9; clear HO_10; clear HO_11; clear HB; have HO_9 := n0_; have HO_10 := n1_; have HO_11 := n2_; have HO455 := n3_; have HB := n4_; clear n0_ n1_ n2_ n3_ n4_; (try clear hb); (try clear hb2); (try clear hk); (try clear hi); (try clear ho0); obtain ⟨Ao56, co56, eo56⟩ := Kd.R_slice HO455.out; subst eo56) | ((with_reducible refine gate_callee (f := 80) rfl ?_); refine goesL_ (some 93) rfl rfl Try.func80 (by kernel_rfl) rfl #[.slice Ao56 t453.length co56] rfl (by (try simp only [List.map_toArray, List.map_cons, List.map_nil]); first | done | rfl | (simp only [List.length_drop, List.length_take]; rfl)) ?_; (with_reducible refine (jacquardref01_Word.calls kj44 _ _ t453 t456 _ ?side1 ?side2 A53.out).mono ?_); (case side1 => repeat (first | exact (Kd.R_reads' HO455.out).2.2 | (with_reducible refine Kd.C_alloc ?_ _) | (with_reducible refine Kd.C_drewN ?_ _) | (with_reducible refine Kd.C_drew ?_))); (case side2 => exact (Kd.R_reads' HO455.out).2.1); rintro e w' ⟨rfl, ⟨nd, rfl⟩⟩; refine ⟨_, rfl, ?_⟩))
                    go_ret
                    exact ⟨by first | rfl | (simp [errW_none, errW_some] <;> rfl) | (simp [*, errW_none, errW_some] <;> rfl), by repeat (first | (with_reducible first | exact HB.out | apply below_alloc | apply pw_below_drewN | apply below_drew1) | exact HB.out)⟩
                  · rw [if_neg c51] at H
                    have c51b0 : (a0 == 2) = false := beq_eq_false_iff_ne.mpr c51
                    have c51b1 : (a0 != 2) = true := bne_iff_ne.mpr c51
                    by_cases c57 : a0 = 3
                    · rw [if_pos c57] at H
                      have c57b0 : (a0 == 3) = true := beq_iff_eq.mpr c57
                      have c57b1 : (a0 != 3) = false := bne_eq_false_iff_eq.mpr c57
                      clear c57
                      replace H := Option.bind_eq_some_iff.mp H
                      obtain ⟨t457, A580, H⟩ := H
                      replace H : ((jacquardref01_Bits.f kj44 a1 (IntKind.u64.wrap (t457 - t429))).bind fun t458 => ((jacquardref01_add.f kj44 t430 t458 1).bind fun t461 => ((jacquardref01_Word.f kj44 t461).bind fun t464 => (some t464)))) = some r := H
                      have A58 := Aside0.mk A580
                      clear A580
                      replace H := Option.bind_eq_some_iff.mp H
                      obtain ⟨t458, A590, H⟩ := H
                      replace H : ((jacquardref01_add.f kj44 t430 t458 1).bind fun t461 => ((jacquardref01_Word.f kj44 t461).bind fun t464 => (some t464))) = some r := H
                      have A59 := Aside0.mk A590
                      clear A590
                      replace H := Option.bind_eq_some_iff.mp H
                      obtain ⟨t461, A600, H⟩ := H
                      replace H : ((jacquardref01_Word.f kj44 t461).bind fun t464 => (some t464)) = some r := H
                      have A60 := Aside0.mk A600
                      clear A600
                      replace H := Option.bind_eq_some_iff.mp H
                      obtain ⟨t464, A610, H⟩ := H
                      replace H : (some t464) = some r := H
                      have A61 := Aside0.mk A610
                      clear A610
                      obtain rfl := Option.some.inj H
                      go_wp2_with (first | ((with_reducible refine gate_callee (f := 55) rfl ?_); refine goesL_ (some 99) rfl rfl Try.func55 (by kernel_rfl) rfl #[.int .i64 a1] rfl (by (try simp only [List.map_toArray, List.map_cons, List.map_nil]); first | done | rfl | (simp only [List.length_drop, List.length_take]; rfl)) ?_; (with_reducible refine (jacquardref01_Ones.calls kj44 a1 t457 _ A58.out).mono ?_); rintro e w62 ⟨rfl, hb⟩; refine ⟨_, rfl, ?_⟩; have n0_ := Aside0.mk (Kd.R_below (by (with_reducible repeat (first | apply Kd.R_alloc | apply Kd.R_drewN | apply Kd.R_drew)); exact HO_9.out) hb); have n1_ := Aside0.mk (Kd.R_below (by (with_reducible repeat (first | apply Kd.R_alloc | apply Kd.R_drewN | apply Kd.R_drew)); exact HO_10.out) hb); have n2_ := Aside0.mk (Kd.R_below (by (with_reducible repeat (first | apply Kd.R_alloc | apply Kd.R_drewN | apply Kd.R_drew)); exact HO_11.out) hb); have n3_ := Aside0.mk (below_step (by repeat (first | (with_reducible first | exact HB.out | apply below_alloc | apply pw_below_drewN | apply below_drew1) | exact HB.out)) hb); clear HO_9; clear HO_10; clear HO_11; clear HB; have HO_9 := n0_; have HO_10 := n1_; have HO_11 := n2_; have HB := n3_; clear n0_ n1_ n2_ n3_; (try clear hb); (try clear hb2); (try clear hk); (try clear hi)) | ((with_reducible refine gate_callee (f := 78) rfl ?_); refine goesL_ (some 102) rfl rfl Try.func78 (by kernel_rfl) rfl #[.int .i64 a1, .int .u64 (IntKind.u64.wrap (t457 - t429))] rfl (by (try simp only [List.map_toArray, List.map_cons, List.map_nil]); first | done | rfl | (simp only [List.length_drop, List.length_take]; rfl)) ?_; (with_reducible refine (jacquardref01_Bits.calls kj44 a1 (IntKind.u64.wrap (t457 - t429)) t458 _ A59.out).mono ?_); rintro e w63 ⟨v459, rfl, ho0, hb⟩; refine ⟨_, rfl, ?_⟩; have n0_ := Aside0.mk (Kd.R_elder' (by (with_reducible repeat (first | apply Kd.R_alloc | apply Kd.R_drewN | apply Kd.R_drew)); exact HO_9.out) (Kd.R_base ho0) hb); have n1_ := Aside0.mk (Kd.R_elder' (by (with_reducible repeat (first | apply Kd.R_alloc | apply Kd.R_drewN | apply Kd.R_drew)); exact HO_10.out) (Kd.R_base ho0) hb); have n2_ := Aside0.mk (Kd.R_elder' (by (with_reducible repeat (first | apply Kd.R_alloc | apply Kd.R_drewN | apply Kd.R_drew)); exact HO_11.out) (Kd.R_base ho0) hb); have n3_ := Aside0.mk (Kd.R_lower (Kd.R_new' (Kd.R_new' (Kd.R_new' ho0 (Kd.R_lt (by (with_reducible repeat (first | apply Kd.R_alloc | apply Kd.R_drewN | apply Kd.R_drew)); exact HO_9.out))) (Kd.R_lt (by (with_reducible repeat (first | apply Kd.R_alloc | apply Kd.R_drewN | apply Kd.R_drew)); exact HO_10.out))) (Kd.R_lt (by (with_reducible repeat (first | apply Kd.R_alloc | apply Kd.R_drewN | apply Kd.R_drew)); exact HO_11.out))) (below_size (by repeat (first | (with_reducible first | exact HB.out | apply below_alloc | apply pw_below_drewN | apply below_drew1) | exact HB.out)))); have n4_ := Aside0.mk (below_step (by repeat (first | (with_reducible first | exact HB.out | apply below_alloc | apply pw_below_drewN | apply below_drew1) | exact HB.out)) hb); clear HO_9; clear HO_10; clear HO_11; clear HB; have HO_9 := n0_; have HO_10 := n1_; have HO_11 := n2_; have HO460 := n3_; have HB := n4_; clear n0_ n1_ n2_ n3_ n4_; (try clear hb); (try clear hb2); (try clear hk); (try clear hi); (try clear ho0); obtain ⟨Ao64, co64, eo64⟩ := Kd.R_slice HO460.out; subst eo64) | ((with_reducible refine gate_callee (f := 81) rfl ?_); refine goesL_ (some 103) rfl rfl Try.func81 (by kernel_rfl) rfl #[.slice Ao42 t430.length co42, .slice Ao64 t458.length co64, .int .i64 1] rfl (by (try simp only [List.map_toArray, List.map_cons, List.map_nil]); first | done | rfl | (simp only [List.length_drop, List.length_take]; rfl)) ?_; (with_reducible refine (jacquardref01_add.calls kj44 _ _ t430 _ _ t458 1 t461 _ ?side1 ?side2 ?side3 ?side4 A60.out).mono ?_); (case side1 => repeat (first | exact (Kd.R_reads' HO_9.out).2.2 | (with_reducible refine Kd.C_alloc ?_ _) | (with_reducible refine Kd.C_drewN ?_ _) | (with_reducible refine Kd.C_drew ?_))); (case side2 => exact (Kd.R_reads' HO_9.out).2.1); (case side3 => repeat (first | exact (Kd.R_reads' HO460.out).2.2 | (with_reducible refine Kd.C_alloc ?_ _) | (with_reducible refine Kd.C_drewN ?_ _) | (with_reducible refine Kd.C_drew ?_))); (case side4 => exact (Kd.R_reads' HO460.out).2.1); rintro e w65 ⟨v462, rfl, ho0, hb⟩; refine ⟨_, rfl, ?_⟩; have n0_ := Aside0.mk (Kd.R_elder' (by (with_reducible repeat (first | apply Kd.R_alloc | apply Kd.R_drewN | apply Kd.R_drew)); exact HO_9.out) (Kd.R_base ho0) hb); have n1_ := Aside0.mk (Kd.R_elder' (by (with_reducible repeat (first | apply Kd.R_alloc | apply Kd.R_drewN | apply Kd.R_drew)); exact HO_10.out) (Kd.R_base ho0) hb); have n2_ := Aside0.mk (Kd.R_elder' (by (with_reducible repeat (first | apply Kd.R_alloc | apply Kd.R_drewN | apply Kd.R_drew)); exact HO_11.out) (Kd.R_base ho0) hb); have n3_ := Aside0.mk (Kd.R_elder' (by (with_reducible repeat (first | apply Kd.R_alloc | apply Kd.R_drewN | apply Kd.R_drew)); exact HO460.out) (Kd.R_base ho0) hb); have n4_ := Aside0.mk (Kd.R_lower (Kd.R_new' (Kd.R_new' (Kd.R_new' (Kd.R_new' ho0 (Kd.R_lt (by (with_reducible repeat (first | apply Kd.R_alloc | apply Kd.R_drewN | apply Kd.R_drew)); exact HO_9.out))) (Kd.R_lt (by (with_reducible repeat (first | apply Kd.R_alloc | apply Kd.R_drewN | apply Kd.R_drew)); exact HO_10.out))) (Kd.R_lt (by (with_reducible repeat (first | apply Kd.R_alloc | apply Kd.R_drewN | apply Kd.R_drew)); exact HO_11.out))) (Kd.R_lt (by (with_reducible repeat (first | apply Kd.R_alloc | apply Kd.R_drewN | apply Kd.R_drew)); exact HO460.out))) (below_size (by repeat (first | (with_reducible first | exact HB.out | apply below_alloc | apply pw_below_drewN | apply below_drew1) | exact HB.out)))); have n5_ := Aside0.mk (below_step (by repeat (first | (with_reducible first | exact HB.out | apply below_alloc | apply pw_below_drewN | apply below_drew1) | exact HB.out)) hb); clear HO_9; clear HO_10; clear HO_11; clear HO460; clear HB; have HO_9 := n0_; have HO_10 := n1_; have HO_11 := n2_; have HO460 := n3_; have HO463 := n4_; have HB := n5_; clear n0_ n1_ n2_ n3_ n4_ n5_; (try clear hb); (try clear hb2); (try clear hk); (try clear hi); (try clear ho0); obtain ⟨Ao66, co66, eo66⟩ := Kd.R_slice HO463.out; subst eo66) | ((with_reducible refine gate_callee (f := 80) rfl ?_); refine goesL_ (some 104) rfl rfl Try.func80 (by kernel_rfl) rfl #[.slice Ao66 t461.length co66] rfl (by (try simp only [List.map_toArray, List.map_cons, List.map_nil]); first | done | rfl | (simp only [List.length_drop, List.length_take]; rfl)) ?_; (with_reducible refine (jacquardref01_Word.calls kj44 _ _ t461 t464 _ ?side1 ?side2 A61.out).mono ?_); (case side1 => repeat (first | exact (Kd.R_reads' HO463.out).2.2 | (with_reducible refine Kd.C_alloc ?_ _) | (with_reducible refine Kd.C_drewN ?_ _) | (with_reducible refine Kd.C_drew ?_))); (case side2 => exact (Kd.R_reads' HO463.out).2.1); rintro e w' ⟨rfl, ⟨nd, rfl⟩⟩; refine ⟨_, rfl, ?_⟩))
                      go_ret
                      exact ⟨by first | rfl | (simp [errW_none, errW_some] <;> rfl) | (simp [*, errW_none, errW_some] <;> rfl), by repeat (first | (with_reducible first | exact HB.out | apply below_alloc | apply pw_below_drewN | apply below_drew1) | exact HB.out)⟩
                    · rw [if_neg c57] at H
                      have c57b0 : (a0 == 3) = false := beq_eq_false_iff_ne.mpr c57
                      have c57b1 : (a0 != 3) = true := bne_iff_ne.mpr c57
                      by_cases c67 : a0 = 4
                      · rw [if_pos c67] at H
                        have c67b0 : (a0 == 4) = true := beq_iff_eq.mpr c67
                        have c67b1 : (a0 != 4) = false := bne_eq_false_iff_eq.mpr c67
                        clear c67
                        replace H := Option.bind_eq_some_iff.mp H
                        obtain ⟨t465, A680, H⟩ := H
                        replace H : (some t465) = some r := H
                        have A68 := Aside0.mk A680
                        clear A680
                        obtain rfl := Option.some.inj H
                        go_wp2_with (first | ((with_reducible refine gate_callee (f := 82) rfl ?_); refine goesL_ (some 110) rfl rfl Try.func82 (by kernel_rfl) rfl #[.int .i64 a1, .int .u64 t428, .int .u64 t429] rfl (by (try simp only [List.map_toArray, List.map_cons, List.map_nil]); first | done | rfl | (simp only [List.length_drop, List.length_take]; rfl)) ?_; (with_reducible refine (jacquardref01_mul.calls kj44 a1 t428 t429 t465 _ A68.out).mono ?_); rintro e w69 ⟨rfl, hb⟩; refine ⟨_, rfl, ?_⟩; have n0_ := Aside0.mk (Kd.R_below (by (with_reducible repeat (first | apply Kd.R_alloc | apply Kd.R_drewN | apply Kd.R_drew)); exact HO_9.out) hb); have n1_ := Aside0.mk (Kd.R_below (by (with_reducible repeat (first | apply Kd.R_alloc | apply Kd.R_drewN | apply Kd.R_drew)); exact HO_10.out) hb); have n2_ := Aside0.mk (Kd.R_below (by (with_reducible repeat (first | apply Kd.R_alloc | apply Kd.R_drewN | apply Kd.R_drew)); exact HO_11.out) hb); have n3_ := Aside0.mk (below_step (by repeat (first | (with_reducible first | exact HB.out | apply below_alloc | apply pw_below_drewN | apply below_drew1) | exact HB.out)) hb); clear HO_9; clear HO_10; clear HO_11; clear HB; have HO_9 := n0_; have HO_10 := n1_; have HO_11 := n2_; have HB := n3_; clear n0_ n1_ n2_ n3_; (try clear hb); (try clear hb2); (try clear hk); (try clear hi)))
                        go_ret
                        exact ⟨by first | rfl | (simp [errW_none, errW_some] <;> rfl) | (simp [*, errW_none, errW_some] <;> rfl), by repeat (first | (with_reducible first | exact HB.out | apply below_alloc | apply pw_below_drewN | apply below_drew1) | exact HB.out)⟩
                      · rw [if_neg c67] at H
                        have c67b0 : (a0 == 4) = false := beq_eq_false_iff_ne.mpr c67
                        have c67b1 : (a0 != 4) = true := bne_iff_ne.mpr c67
                        by_cases c70 : a0 = 12
                        · rw [if_pos c70] at H
                          have c70b0 : (a0 == 12) = true := beq_iff_eq.mpr c70
                          have c70b1 : (a0 != 12) = false := bne_eq_false_iff_eq.mpr c70
                          clear c70
                          replace H := Option.bind_eq_some_iff.mp H
                          obtain ⟨t466, A710, H⟩ := H
                          replace H : ((jacquardref01_Shl.f kj44 a1 t428 t466).bind fun t467 => (some t467)) = some r := H
                          have A71 := Aside0.mk A710
                          clear A710
                          replace H := Option.bind_eq_some_iff.mp H
                          obtain ⟨t467, A720, H⟩ := H
                          replace H : (some t467) = some r := H
                          have A72 := Aside0.mk A720
                          clear A720
                          obtain rfl := Option.some.inj H
                          go_wp2_with (first | ((with_reducible refine gate_callee (f := 84) rfl ?_); refine goesL_ (some 117) rfl rfl Try.func84 (by kernel_rfl) rfl #[.int .i64 a1, .int .u64 t429] rfl (by (try simp only [List.map_toArray, List.map_cons, List.map_nil]); first | done | rfl | (simp only [List.length_drop, List.length_take]; rfl)) ?_; (with_reducible refine (jacquardref01_amount.calls a1 t429 t466 _ A71.out).mono ?_); rintro e w73 ⟨rfl, hb⟩; refine ⟨_, rfl, ?_⟩; have n0_ := Aside0.mk (Kd.R_below (by (with_reducible repeat (first | apply Kd.R_alloc | apply Kd.R_drewN | apply Kd.R_drew)); exact HO_9.out) hb); have n1_ := Aside0.mk (Kd.R_below (by (with_reducible repeat (first | apply Kd.R_alloc | apply Kd.R_drewN | apply Kd.R_drew)); exact HO_10.out) hb); have n2_ := Aside0.mk (Kd.R_below (by (with_reducible repeat (first | apply Kd.R_alloc | apply Kd.R_drewN | apply Kd.R_drew)); exact HO_11.out) hb); have n3_ := Aside0.mk (below_step (by repeat (first | (with_reducible first | exact HB.out | apply below_alloc | apply pw_below_drewN | apply below_drew1) | exact HB.out)) hb); clear HO_9; clear HO_10; clear HO_11; clear HB; have HO_9 := n0_; have HO_10 := n1_; have HO_11 := n2_; have HB := n3_; clear n0_ n1_ n2_ n3_; (try clear hb); (try clear hb2); (try clear hk); (try clear hi)) | ((with_reducible refine gate_callee (f := 83) rfl ?_); refine goesL_ (some 118) rfl rfl Try.func83 (by kernel_rfl) rfl #[.int .i64 a1, .int .u64 t428, .int .i64 t466] rfl (by (try simp only [List.map_toArray, List.map_cons, List.map_nil]); first | done | rfl | (simp only [List.length_drop, List.length_take]; rfl)) ?_; (with_reducible refine (jacquardref01_Shl.calls kj44 a1 t428 t466 t467 _ A72.out).mono ?_); rintro e w74 ⟨rfl, hb⟩; refine ⟨_, rfl, ?_⟩; have n0_ := Aside0.mk (Kd.R_below (by (with_reducible repeat (first | apply Kd.R_alloc | apply Kd.R_drewN | apply Kd.R_drew)); exact HO_9.out) hb); have n1_ := Aside0.mk (Kd.R_below (by (with_reducible repeat (first | apply Kd.R_alloc | apply Kd.R_drewN | apply Kd.R_drew)); exact HO_10.out) hb); have n2_ := Aside0.mk (Kd.R_below (by (with_reducible repeat (first | apply Kd.R_alloc | apply Kd.R_drewN | apply Kd.R_drew)); exact HO_11.out) hb); have n3_ := Aside0.mk (below_step (by repeat (first | (with_reducible first | exact HB.out | apply below_alloc | apply pw_below_drewN | apply below_drew1) | exact HB.out)) hb); clear HO_9; clear HO_10; clear HO_11; clear HB; have HO_9 := n0_; have HO_10 := n1_; have HO_11 := n2_; have HB := n3_; clear n0_ n1_ n2_ n3_; (try clear hb); (try clear hb2); (try clear hk); (try clear hi)))
                          go_ret
                          exact ⟨by first | rfl | (simp [errW_none, errW_some] <;> rfl) | (simp [*, errW_none, errW_some] <;> rfl), by repeat (first | (with_reducible first | exact HB.out | apply below_alloc | apply pw_below_drewN | apply below_drew1) | exact HB.out)⟩
                        · rw [if_neg c70] at H
                          have c70b0 : (a0 == 12) = false := beq_eq_false_iff_ne.mpr c70
                          have c70b1 : (a0 != 12) = true := bne_iff_ne.mpr c70
                          by_cases c75 : a0 = 13
                          · rw [if_pos c75] at H
                            have c75b0 : (a0 == 13) = true := beq_iff_eq.mpr c75
                            have c75b1 : (a0 != 13) = false := bne_eq_false_iff_eq.mpr c75
                            clear c75
                            replace H := Option.bind_eq_some_iff.mp H
                            obtain ⟨t468, A760, H⟩ := H
                            replace H : ((jacquardref01_shr.f kj44 a1 t428 t468 0).bind fun t469 => (some t469)) = some r := H
                            have A76 := Aside0.mk A760
                            clear A760
                            replace H := Option.bind_eq_some_iff.mp H
                            obtain ⟨t469, A770, H⟩ := H
                            replace H : (some t469) = some r := H
                            have A77 := Aside0.mk A770
                            clear A770
                            obtain rfl := Option.some.inj H
                            go_wp2_with (first | ((with_reducible refine gate_callee (f := 84) rfl ?_); refine goesL_ (some 125) rfl rfl Try.func84 (by kernel_rfl) rfl #[.int .i64 a1, .int .u64 t429] rfl (by (try simp only [List.map_toArray, List.map_cons, List.map_nil]); first | done | rfl | (simp only [List.length_drop, List.length_take]; rfl)) ?_; (with_reducible refine (jacquardref01_amount.calls a1 t429 t468 _ A76.out).mono ?_); rintro e w78 ⟨rfl, hb⟩; refine ⟨_, rfl, ?_⟩; have n0_ := Aside0.mk (Kd.R_below (by (with_reducible repeat (first | apply Kd.R_alloc | apply Kd.R_drewN | apply Kd.R_drew)); exact HO_9.out) hb); have n1_ := Aside0.mk (Kd.R_below (by (with_reducible repeat (first | apply Kd.R_alloc | apply Kd.R_drewN | apply Kd.R_drew)); exact HO_10.out) hb); have n2_ := Aside0.mk (Kd.R_below (by (with_reducible repeat (first | apply Kd.R_alloc | apply Kd.R_drewN | apply Kd.R_drew)); exact HO_11.out) hb); have n3_ := Aside0.mk (below_step (by repeat (first | (with_reducible first | exact HB.out | apply below_alloc | apply pw_below_drewN | apply below_drew1) | exact HB.out)) hb); clear HO_9; clear HO_10; clear HO_11; clear HB; have HO_9 := n0_; have HO_10 := n1_; have HO_11 := n2_; have HB := n3_; clear n0_ n1_ n2_ n3_; (try clear hb); (try clear hb2); (try clear hk); (try clear hi)) | ((with_reducible refine gate_callee (f := 85) rfl ?_); refine goesL_ (some 126) rfl rfl Try.func85 (by kernel_rfl) rfl #[.int .i64 a1, .int .u64 t428, .int .i64 t468, .int .i64 0] rfl (by (try simp only [List.map_toArray, List.map_cons, List.map_nil]); first | done | rfl | (simp only [List.length_drop, List.length_take]; rfl)) ?_; (with_reducible refine (jacquardref01_shr.calls kj44 a1 t428 t468 0 t469 _ A77.out).mono ?_); rintro e w79 ⟨rfl, hb⟩; refine ⟨_, rfl, ?_⟩; have n0_ := Aside0.mk (Kd.R_below (by (with_reducible repeat (first | apply Kd.R_alloc | apply Kd.R_drewN | apply Kd.R_drew)); exact HO_9.out) hb); have n1_ := Aside0.mk (Kd.R_below (by (with_reducible repeat (first | apply Kd.R_alloc | apply Kd.R_drewN | apply Kd.R_drew)); exact HO_10.out) hb); have n2_ := Aside0.mk (Kd.R_below (by (with_reducible repeat (first | apply Kd.R_alloc | apply Kd.R_drewN | apply Kd.R_drew)); exact HO_11.out) hb); have n3_ := Aside0.mk (below_step (by repeat (first | (with_reducible first | exact HB.out | apply below_alloc | apply pw_below_drewN | apply below_drew1) | exact HB.out)) hb); clear HO_9; clear HO_10; clear HO_11; clear HB; have HO_9 := n0_; have HO_10 := n1_; have HO_11 := n2_; have HB := n3_; clear n0_ n1_ n2_ n3_; (try clear hb); (try clear hb2); (try clear hk); (try clear hi)))
                            go_ret
                            exact ⟨by first | rfl | (simp [errW_none, errW_some] <;> rfl) | (simp [*, errW_none, errW_some] <;> rfl), by repeat (first | (with_reducible first | exact HB.out | apply below_alloc | apply pw_below_drewN | apply below_drew1) | exact HB.out)⟩
                          · rw [if_neg c75] at H
                            have c75b0 : (a0 == 13) = false := beq_eq_false_iff_ne.mpr c75
                            have c75b1 : (a0 != 13) = true := bne_iff_ne.mpr c75
                            by_cases c80 : a0 = 14
                            · rw [if_pos c80] at H
                              have c80b0 : (a0 == 14) = true := beq_iff_eq.mpr c80
                              have c80b1 : (a0 != 14) = false := bne_eq_false_iff_eq.mpr c80
                              clear c80
                              replace H := Option.bind_eq_some_iff.mp H
                              obtain ⟨t470, A810, H⟩ := H
                              replace H : ((jacquardref01_shr.f kj44 a1 t428 t470 x13_40).bind fun t471 => (some t471)) = some r := H
                              have A81 := Aside0.mk A810
                              clear A810
                              replace H := Option.bind_eq_some_iff.mp H
                              obtain ⟨t471, A820, H⟩ := H
                              replace H : (some t471) = some r := H
                              have A82 := Aside0.mk A820
                              clear A820
                              obtain rfl := Option.some.inj H
                              go_wp2_with (first | ((with_reducible refine gate_callee (f := 84) rfl ?_); refine goesL_ (some 133) rfl rfl Try.func84 (by kernel_rfl) rfl #[.int .i64 a1, .int .u64 t429] rfl (by (try simp only [List.map_toArray, List.map_cons, List.map_nil]); first | done | rfl | (simp only [List.length_drop, List.length_take]; rfl)) ?_; (with_reducible refine (jacquardref01_amount.calls a1 t429 t470 _ A81.out).mono ?_); rintro e w83 ⟨rfl, hb⟩; refine ⟨_, rfl, ?_⟩; have n0_ := Aside0.mk (Kd.R_below (by (with_reducible repeat (first | apply Kd.R_alloc | apply Kd.R_drewN | apply Kd.R_drew)); exact HO_9.out) hb); have n1_ := Aside0.mk (Kd.R_below (by (with_reducible repeat (first | apply Kd.R_alloc | apply Kd.R_drewN | apply Kd.R_drew)); exact HO_10.out) hb); have n2_ := Aside0.mk (Kd.R_below (by (with_reducible repeat (first | apply Kd.R_alloc | apply Kd.R_drewN | apply Kd.R_drew)); exact HO_11.out) hb); have n3_ := Aside0.mk (below_step (by repeat (first | (with_reducible first | exact HB.out | apply below_alloc | apply pw_below_drewN | apply below_drew1) | exact HB.out)) hb); clear HO_9; clear HO_10; clear HO_11; clear HB; have HO_9 := n0_; have HO_10 := n1_; have HO_11 := n2_; have HB := n3_; clear n0_ n1_ n2_ n3_; (try clear hb); (try clear hb2); (try clear hk); (try clear hi)) | ((with_reducible refine gate_callee (f := 85) rfl ?_); refine goesL_ (some 135) rfl rfl Try.func85 (by kernel_rfl) rfl #[.int .i64 a1, .int .u64 t428, .int .i64 t470, .int .i64 x13_40] rfl (by (try simp only [List.map_toArray, List.map_cons, List.map_nil]); first | done | rfl | (simp only [List.length_drop, List.length_take]; rfl)) ?_; (with_reducible refine (jacquardref01_shr.calls kj44 a1 t428 t470 x13_40 t471 _ A82.out).mono ?_); rintro e w84 ⟨rfl, hb⟩; refine ⟨_, rfl, ?_⟩; have n0_ := Aside0.mk (Kd.R_below (by (with_reducible repeat (first | apply Kd.R_alloc | apply Kd.R_drewN | apply Kd.R_drew)); exact HO_9.out) hb); have n1_ := Aside0.mk (Kd.R_below (by (with_reducible repeat (first | apply Kd.R_alloc | apply Kd.R_drewN | apply Kd.R_drew)); exact HO_10.out) hb); have n2_ := Aside0.mk (Kd.R_below (by (with_reducible repeat (first | apply Kd.R_alloc | apply Kd.R_drewN | apply Kd.R_drew)); exact HO_11.out) hb); have n3_ := Aside0.mk (below_step (by repeat (first | (with_reducible first | exact HB.out | apply below_alloc | apply pw_below_drewN | apply below_drew1) | exact HB.out)) hb); clear HO_9; clear HO_10; clear HO_11; clear HB; have HO_9 := n0_; have HO_10 := n1_; have HO_11 := n2_; have HB := n3_; clear n0_ n1_ n2_ n3_; (try clear hb); (try clear hb2); (try clear hk); (try clear hi)))
                              go_ret
                              exact ⟨by first | rfl | (simp [errW_none, errW_some] <;> rfl) | (simp [*, errW_none, errW_some] <;> rfl), by repeat (first | (with_reducible first | exact HB.out | apply below_alloc | apply pw_below_drewN | apply below_drew1) | exact HB.out)⟩
                            · rw [if_neg c80] at H
                              have c80b0 : (a0 == 14) = false := beq_eq_false_iff_ne.mpr c80
                              have c80b1 : (a0 != 14) = true := bne_iff_ne.mpr c80
                              by_cases c85 : a0 = 15
                              · rw [if_pos c85] at H
                                have c85b0 : (a0 == 15) = true := beq_iff_eq.mpr c85
                                have c85b1 : (a0 != 15) = false := bne_eq_false_iff_eq.mpr c85
                                clear c85
                                replace H := Option.bind_eq_some_iff.mp H
                                obtain ⟨t472, A860, H⟩ := H
                                replace H : (some t472) = some r := H
                                have A86 := Aside0.mk A860
                                clear A860
                                obtain rfl := Option.some.inj H
                                go_wp2_with (first | ((with_reducible refine gate_callee (f := 86) rfl ?_); refine goesL_ (some 141) rfl rfl Try.func86 (by kernel_rfl) rfl #[.bool (t428 == t429)] rfl (by (try simp only [List.map_toArray, List.map_cons, List.map_nil]); first | done | rfl | (simp only [List.length_drop, List.length_take]; rfl)) ?_; (with_reducible refine (jacquardref01_bit.calls (t428 == t429) t472 _ A86.out).mono ?_); rintro e w' ⟨rfl, ⟨nd, rfl⟩⟩; refine ⟨_, rfl, ?_⟩))
                                go_ret
                                exact ⟨by first | rfl | (simp [errW_none, errW_some] <;> rfl) | (simp [*, errW_none, errW_some] <;> rfl), by repeat (first | (with_reducible first | exact HB.out | apply below_alloc | apply pw_below_drewN | apply below_drew1) | exact HB.out)⟩
                              · rw [if_neg c85] at H
                                have c85b0 : (a0 == 15) = false := beq_eq_false_iff_ne.mpr c85
                                have c85b1 : (a0 != 15) = true := bne_iff_ne.mpr c85
                                by_cases c87 : a0 = 16
                                · rw [if_pos c87] at H
                                  have c87b0 : (a0 == 16) = true := beq_iff_eq.mpr c87
                                  have c87b1 : (a0 != 16) = false := bne_eq_false_iff_eq.mpr c87
                                  clear c87
                                  replace H := Option.bind_eq_some_iff.mp H
                                  obtain ⟨t473, A880, H⟩ := H
                                  replace H : (some t473) = some r := H
                                  have A88 := Aside0.mk A880
                                  clear A880
                                  obtain rfl := Option.some.inj H
                                  go_wp2_with (first | ((with_reducible refine gate_callee (f := 86) rfl ?_); refine goesL_ (some 147) rfl rfl Try.func86 (by kernel_rfl) rfl #[.bool (t428 != t429)] rfl (by (try simp only [List.map_toArray, List.map_cons, List.map_nil]); first | done | rfl | (simp only [List.length_drop, List.length_take]; rfl)) ?_; (with_reducible refine (jacquardref01_bit.calls (t428 != t429) t473 _ A88.out).mono ?_); rintro e w' ⟨rfl, ⟨nd, rfl⟩⟩; refine ⟨_, rfl, ?_⟩))
                                  go_ret
                                  exact ⟨by first | rfl | (simp [errW_none, errW_some] <;> rfl) | (simp [*, errW_none, errW_some] <;> rfl), by repeat (first | (with_reducible first | exact HB.out | apply below_alloc | apply pw_below_drewN | apply below_drew1) | exact HB.out)⟩
                                · rw [if_neg c87] at H
                                  have c87b0 : (a0 == 16) = false := beq_eq_false_iff_ne.mpr c87
                                  have c87b1 : (a0 != 16) = true := bne_iff_ne.mpr c87
                                  by_cases c89 : a0 = 17
                                  · rw [if_pos c89] at H
                                    have c89b0 : (a0 == 17) = true := beq_iff_eq.mpr c89
                                    have c89b1 : (a0 != 17) = false := bne_eq_false_iff_eq.mpr c89
                                    clear c89
                                    replace H := Option.bind_eq_some_iff.mp H
                                    obtain ⟨t474, A900, H⟩ := H
                                    replace H : (some t474) = some r := H
                                    have A90 := Aside0.mk A900
                                    clear A900
                                    obtain rfl := Option.some.inj H
                                    go_wp2_with (first | ((with_reducible refine gate_callee (f := 86) rfl ?_); refine goesL_ (some 153) rfl rfl Try.func86 (by kernel_rfl) rfl #[.bool (decide (t428 < t429))] rfl (by (try simp only [List.map_toArray, List.map_cons, List.map_nil]); first | done | rfl | (simp only [List.length_drop, List.length_take]; rfl)) ?_; (with_reducible refine (jacquardref01_bit.calls (decide (t428 < t429)) t474 _ A90.out).mono ?_); rintro e w' ⟨rfl, ⟨nd, rfl⟩⟩; refine ⟨_, rfl, ?_⟩))
                                    go_ret
                                    exact ⟨by first | rfl | (simp [errW_none, errW_some] <;> rfl) | (simp [*, errW_none, errW_some] <;> rfl), by repeat (first | (with_reducible first | exact HB.out | apply below_alloc | apply pw_below_drewN | apply below_drew1) | exact HB.out)⟩
                                  · rw [if_neg c89] at H
                                    have c89b0 : (a0 == 17) = false := beq_eq_false_iff_ne.mpr c89
                                    have c89b1 : (a0 != 17) = true := bne_iff_ne.mpr c89
                                    by_cases c91 : a0 = 18
                                    · rw [if_pos c91] at H
                                      have c91b0 : (a0 == 18) = true := beq_iff_eq.mpr c91
                                      have c91b1 : (a0 != 18) = false := bne_eq_false_iff_eq.mpr c91
                                      clear c91
                                      replace H := Option.bind_eq_some_iff.mp H
                                      obtain ⟨t475, A920, H⟩ := H
                                      replace H : (some t475) = some r := H
                                      have A92 := Aside0.mk A920
                                      clear A920
                                      obtain rfl := Option.some.inj H
                                      go_wp2_with (first | ((with_reducible refine gate_callee (f := 86) rfl ?_); refine goesL_ (some 159) rfl rfl Try.func86 (by kernel_rfl) rfl #[.bool (decide (t428 ≤ t429))] rfl (by (try simp only [List.map_toArray, List.map_cons, List.map_nil]); first | done | rfl | (simp only [List.length_drop, List.length_take]; rfl)) ?_; (with_reducible refine (jacquardref01_bit.calls (decide (t428 ≤ t429)) t475 _ A92.out).mono ?_); rintro e w' ⟨rfl, ⟨nd, rfl⟩⟩; refine ⟨_, rfl, ?_⟩))
                                      go_ret
                                      exact ⟨by first | rfl | (simp [errW_none, errW_some] <;> rfl) | (simp [*, errW_none, errW_some] <;> rfl), by repeat (first | (with_reducible first | exact HB.out | apply below_alloc | apply pw_below_drewN | apply below_drew1) | exact HB.out)⟩
                                    · rw [if_neg c91] at H
                                      have c91b0 : (a0 == 18) = false := beq_eq_false_iff_ne.mpr c91
                                      have c91b1 : (a0 != 18) = true := bne_iff_ne.mpr c91
                                      by_cases c93 : a0 = 19
                                      · rw [if_pos c93] at H
                                        have c93b0 : (a0 == 19) = true := beq_iff_eq.mpr c93
                                        have c93b1 : (a0 != 19) = false := bne_eq_false_iff_eq.mpr c93
                                        clear c93
                                        replace H := Option.bind_eq_some_iff.mp H
                                        obtain ⟨t476, A940, H⟩ := H
                                        replace H : ((jacquardref01_Signed.f kj44 a1 t429).bind fun t477 => ((jacquardref01_bit.f (decide (t476 < t477))).bind fun t478 => (some t478))) = some r := H
                                        have A94 := Aside0.mk A940
                                        clear A940
                                        replace H := Option.bind_eq_some_iff.mp H
                                        obtain ⟨t477, A950, H⟩ := H
                                        replace H : ((jacquardref01_bit.f (decide (t476 < t477))).bind fun t478 => (some t478)) = some r := H
                                        have A95 := Aside0.mk A950
                                        clear A950
                                        replace H := Option.bind_eq_some_iff.mp H
                                        obtain ⟨t478, A960, H⟩ := H
                                        replace H : (some t478) = some r := H
                                        have A96 := Aside0.mk A960
                                        clear A960
                                        obtain rfl := Option.some.inj H
                                        go_wp2_with (first | ((with_reducible refine gate_callee (f := 57) rfl ?_); refine goesL_ (some 164) rfl rfl Try.func57 (by kernel_rfl) rfl #[.int .i64 a1, .int .u64 t428] rfl (by (try simp only [List.map_toArray, List.map_cons, List.map_nil]); first | done | rfl | (simp only [List.length_drop, List.length_take]; rfl)) ?_; (with_reducible refine (jacquardref01_Signed.calls kj44 a1 t428 t476 _ A94.out).mono ?_); rintro e w97 ⟨rfl, hb⟩; refine ⟨_, rfl, ?_⟩; have n0_ := Aside0.mk (Kd.R_below (by (with_reducible repeat (first | apply Kd.R_alloc | apply Kd.R_drewN | apply Kd.R_drew)); exact HO_9.out) hb); have n1_ := Aside0.mk (Kd.R_below (by (with_reducible repeat (first | apply Kd.R_alloc | apply Kd.R_drewN | apply Kd.R_drew)); exact HO_10.out) hb); have n2_ := Aside0.mk (Kd.R_below (by (with_reducible repeat (first | apply Kd.R_alloc | apply Kd.R_drewN | apply Kd.R_drew)); exact HO_11.out) hb); have n3_ := Aside0.mk (below_step (by repeat (first | (with_reducible first | exact HB.out | apply below_alloc | apply pw_below_drewN | apply below_drew1) | exact HB.out)) hb); clear HO_9; clear HO_10; clear HO_11; clear HB; have HO_9 := n0_; have HO_10 := n1_; have HO_11 := n2_; have HB := n3_; clear n0_ n1_ n2_ n3_; (try clear hb); (try clear hb2); (try clear hk); (try clear hi)) | ((with_reducible refine gate_callee (f := 57) rfl ?_); refine goesL_ (some 167) rfl rfl Try.func57 (by kernel_rfl) rfl #[.int .i64 a1, .int .u64 t429] rfl (by (try simp only [List.map_toArray, List.map_cons, List.map_nil]); first | done | rfl | (simp only [List.length_drop, List.length_take]; rfl)) ?_; (with_reducible refine (jacquardref01_Signed.calls kj44 a1 t429 t477 _ A95.out).mono ?_); rintro e w98 ⟨rfl, hb⟩; refine ⟨_, rfl, ?_⟩; have n0_ := Aside0.mk (Kd.R_below (by (with_reducible repeat (first | apply Kd.R_alloc | apply Kd.R_drewN | apply Kd.R_drew)); exact HO_9.out) hb); have n1_ := Aside0.mk (Kd.R_below (by (with_reducible repeat (first | apply Kd.R_alloc | apply Kd.R_drewN | apply Kd.R_drew)); exact HO_10.out) hb); have n2_ := Aside0.mk (Kd.R_below (by (with_reducible repeat (first | apply Kd.R_alloc | apply Kd.R_drewN | apply Kd.R_drew)); exact HO_11.out) hb); have n3_ := Aside0.mk (below_step (by repeat (first | (with_reducible first | exact HB.out | apply below_alloc | apply pw_below_drewN | apply below_drew1) | exact HB.out)) hb); clear HO_9; clear HO_10; clear HO_11; clear HB; have HO_9 := n0_; have HO_10 := n1_; have HO_11 := n2_; have HB := n3_; clear n0_ n1_ n2_ n3_; (try clear hb); (try clear hb2); (try clear hk); (try clear hi)) | ((with_reducible refine gate_callee (f := 86) rfl ?_); refine goesL_ (some 169) rfl rfl Try.func86 (by kernel_rfl) rfl #[.bool (decide (t476 < t477))] rfl (by (try simp only [List.map_toArray, List.map_cons, List.map_nil]); first | done | rfl | (simp only [List.length_drop, List.length_take]; rfl)) ?_; (with_reducible refine (jacquardref01_bit.calls (decide (t476 < t477)) t478 _ A96.out).mono ?_); rintro e w' ⟨rfl, ⟨nd, rfl⟩⟩; refine ⟨_, rfl, ?_⟩))
                                        go_ret
                                        exact ⟨by first | rfl | (simp [errW_none, errW_some] <;> rfl) | (simp [*, errW_none, errW_some] <;> rfl), by repeat (first | (with_reducible first | exact HB.out | apply below_alloc | apply pw_below_drewN | apply below_drew1) | exact HB.out)⟩
                                      · rw [if_neg c93] at H
                                        have c93b0 : (a0 == 19) = false := beq_eq_false_iff_ne.mpr c93
                                        have c93b1 : (a0 != 19) = true := bne_iff_ne.mpr c93
                                        by_cases c99 : a0 = 20
                                        · rw [if_pos c99] at H
                                          have c99b0 : (a0 == 20) = true := beq_iff_eq.mpr c99
                                          have c99b1 : (a0 != 20) = false := bne_eq_false_iff_eq.mpr c99
                                          clear c99
                                          replace H := Option.bind_eq_some_iff.mp H
                                          obtain ⟨t479, A1000, H⟩ := H
                                          replace H : ((jacquardref01_Signed.f kj44 a1 t429).bind fun t480 => ((jacquardref01_bit.f (decide (t479 ≤ t480))).bind fun t481 => (some t481))) = some r := H
                                          have A100 := Aside0.mk A1000
                                          clear A1000
                                          replace H := Option.bind_eq_some_iff.mp H
                                          obtain ⟨t480, A1010, H⟩ := H
                                          replace H : ((jacquardref01_bit.f (decide (t479 ≤ t480))).bind fun t481 => (some t481)) = some r := H
                                          have A101 := Aside0.mk A1010
                                          clear A1010
                                          replace H := Option.bind_eq_some_iff.mp H
                                          obtain ⟨t481, A1020, H⟩ := H
                                          replace H : (some t481) = some r := H
                                          have A102 := Aside0.mk A1020
                                          clear A1020
                                          obtain rfl := Option.some.inj H
                                          go_wp2_with (first | ((with_reducible refine gate_callee (f := 57) rfl ?_); refine goesL_ (some 174) rfl rfl Try.func57 (by kernel_rfl) rfl #[.int .i64 a1, .int .u64 t428] rfl (by (try simp only [List.map_toArray, List.map_cons, List.map_nil]); first | done | rfl | (simp only [List.length_drop, List.length_take]; rfl)) ?_; (with_reducible refine (jacquardref01_Signed.calls kj44 a1 t428 t479 _ A100.out).mono ?_); rintro e w103 ⟨rfl, hb⟩; refine ⟨_, rfl, ?_⟩; have n0_ := Aside0.mk (Kd.R_below (by (with_reducible repeat (first | apply Kd.R_alloc | apply Kd.R_drewN | apply Kd.R_drew)); exact HO_9.out) hb); have n1_ := Aside0.mk (Kd.R_below (by (with_reducible repeat (first | apply Kd.R_alloc | apply Kd.R_drewN | apply Kd.R_drew)); exact HO_10.out) hb); have n2_ := Aside0.mk (Kd.R_below (by (with_reducible repeat (first | apply Kd.R_alloc | apply Kd.R_drewN | apply Kd.R_drew)); exact HO_11.out) hb); have n3_ := Aside0.mk (below_step (by repeat (first | (with_reducible first | exact HB.out | apply below_alloc | apply pw_below_drewN | apply below_drew1) | exact HB.out)) hb); clear HO_9; clear HO_10; clear HO_11; clear HB; have HO_9 := n0_; have HO_10 := n1_; have HO_11 := n2_; have HB := n3_; clear n0_ n1_ n2_ n3_; (try clear hb); (try clear hb2); (try clear hk); (try clear hi)) | ((with_reducible refine gate_callee (f := 57) rfl ?_); refine goesL_ (some 177) rfl rfl Try.func57 (by kernel_rfl) rfl #[.int .i64 a1, .int .u64 t429] rfl (by (try simp only [List.map_toArray, List.map_cons, List.map_nil]); first | done | rfl | (simp only [List.length_drop, List.length_take]; rfl)) ?_; (with_reducible refine (jacquardref01_Signed.calls kj44 a1 t429 t480 _ A101.out).mono ?_); rintro e w104 ⟨rfl, hb⟩; refine ⟨_, rfl, ?_⟩; have n0_ := Aside0.mk (Kd.R_below (by (with_reducible repeat (first | apply Kd.R_alloc | apply Kd.R_drewN | apply Kd.R_drew)); exact HO_9.out) hb); have n1_ := Aside0.mk (Kd.R_below (by (with_reducible repeat (first | apply Kd.R_alloc | apply Kd.R_drewN | apply Kd.R_drew)); exact HO_10.out) hb); have n2_ := Aside0.mk (Kd.R_below (by (with_reducible repeat (first | apply Kd.R_alloc | apply Kd.R_drewN | apply Kd.R_drew)); exact HO_11.out) hb); have n3_ := Aside0.mk (below_step (by repeat (first | (with_reducible first | exact HB.out | apply below_alloc | apply pw_below_drewN | apply below_drew1) | exact HB.out)) hb); clear HO_9; clear HO_10; clear HO_11; clear HB; have HO_9 := n0_; have HO_10 := n1_; have HO_11 := n2_; have HB := n3_; clear n0_ n1_ n2_ n3_; (try clear hb); (try clear hb2); (try clear hk); (try clear hi)) | ((with_reducible refine gate_callee (f := 86) rfl ?_); refine goesL_ (some 179) rfl rfl Try.func86 (by kernel_rfl) rfl #[.bool (decide (t479 ≤ t480))] rfl (by (try simp only [List.map_toArray, List.map_cons, List.map_nil]); first | done | rfl | (simp only [List.length_drop, List.length_take]; rfl)) ?_; (with_reducible refine (jacquardref01_bit.calls (decide (t479 ≤ t480)) t481 _ A102.out).mono ?_); rintro e w' ⟨rfl, ⟨nd, rfl⟩⟩; refine ⟨_, rfl, ?_⟩))
                                          go_ret
                                          exact ⟨by first | rfl | (simp [errW_none, errW_some] <;> rfl) | (simp [*, errW_none, errW_some] <;> rfl), by repeat (first | (with_reducible first | exact HB.out | apply below_alloc | apply pw_below_drewN | apply below_drew1) | exact HB.out)⟩
                                        · rw [if_neg c99] at H
                                          have c99b0 : (a0 == 20) = false := beq_eq_false_iff_ne.mpr c99
                                          have c99b1 : (a0 != 20) = true := bne_iff_ne.mpr c99
                                          have HC105 := Aside0.mk H
                                          clear H
                                          go_upto_if 180 with (fail)
                                          go_cut [180] (fun v180 wc => ∃ (kq : Nat) (x180_104 : Bool), v180 = .bool x180_104 ∧ Aside0 (jacquardref01_Binary.j3 kq a0 a1 t428 t429 x180_104 = some r) ∧ Aside0 (kq ≤ kj44) ∧ Aside0 (Below w.heap.size w wc))
                                          case first =>
                                            have H := HC105.out
                                            clear HC105
                                            by_cases c106 : a0 = 5
                                            · rw [if_pos c106] at H
                                              have c106b0 : (a0 == 5) = true := beq_iff_eq.mpr c106
                                              have c106b1 : (a0 != 5) = false := bne_eq_false_iff_eq.mpr c106
                                              clear c106
                                              (first | rw [c106b0] | (simp only [i64_w, i32_w]; rw [c106b0]) | skip)
                                              have H' := Aside0.mk H
                                              clear H
                                              go_wp2
                                              go_meet
                                              case rel => exact ⟨_, ((a0 == 5)), (by first | rfl | (simp; done) | (simp [*]; done)), H', ⟨by have := HK1.out; have := HJ40.out; have := HJ44.out; first | omega | exact Nat.le_refl _⟩, ⟨by repeat (first | (with_reducible first | exact HB.out | apply below_alloc | apply pw_below_drewN | apply below_drew1) | exact HB.out)⟩⟩
                                            · rw [if_neg c106] at H
                                              have c106b0 : (a0 == 5) = false := beq_eq_false_iff_ne.mpr c106
                                              have c106b1 : (a0 != 5) = true := bne_iff_ne.mpr c106
                                              (first | rw [c106b0] | (simp only [i64_w, i32_w]; rw [c106b0]) | skip)
                                              have H' := Aside0.mk H
                                              clear H
                                              go_wp2
                                              go_meet
                                              case rel => exact ⟨_, ((a0 == 6)), (by first | rfl | (simp; done) | (simp [*]; done)), H', ⟨by have := HK1.out; have := HJ40.out; have := HJ44.out; first | omega | exact Nat.le_refl _⟩, ⟨by repeat (first | (with_reducible first | exact HB.out | apply below_alloc | apply pw_below_drewN | apply below_drew1) | exact HB.out)⟩⟩
                                          case rest =>
                                            clear HC105
                                            try clear c1
                                            try clear c2
                                            try clear p2
                                            try clear c3
                                            try clear c4
                                            try clear p4
                                            try clear q4
                                            try clear hx4
                                            try clear c5
                                            try clear c6
                                            try clear p6
                                            try clear c7
                                            try clear c8
                                            try clear c9
                                            try clear c10
                                            try clear c13
                                            try clear c13b0
                                            try clear c14
                                            try clear c14b0
                                            try clear c14b1
                                            try clear c15
                                            try clear c16
                                            try clear c17
                                            try clear c22
                                            try clear c22b0
                                            try clear c22b1
                                            try clear c23
                                            try clear c23b0
                                            try clear c24
                                            try clear c24b0
                                            try clear c26
                                            try clear c31
                                            try clear c31b0
                                            try clear c31b1
                                            try clear c32
                                            try clear c32b0
                                            try clear c33
                                            try clear c33b0
                                            try clear c34
                                            try clear c44
                                            try clear p44
                                            try clear q44
                                            try clear hx44
                                            try clear c46
                                            try clear c46b0
                                            try clear c46b1
                                            try clear c47
                                            try clear c47b0
                                            try clear c47b1
                                            try clear c48
                                            try clear c51
                                            try clear c51b0
                                            try clear c51b1
                                            try clear c55
                                            try clear c57
                                            try clear c57b0
                                            try clear c57b1
                                            try clear p64
                                            try clear c67
                                            try clear c67b0
                                            try clear c67b1
                                            try clear c70
                                            try clear c70b0
                                            try clear c70b1
                                            try clear c75
                                            try clear c75b0
                                            try clear c75b1
                                            try clear c78
                                            try clear c79
                                            try clear c80
                                            try clear c80b0
                                            try clear c80b1
                                            try clear c81
                                            try clear c82
                                            try clear c83
                                            try clear c84
                                            try clear c85
                                            try clear c85b0
                                            try clear c85b1
                                            try clear c86
                                            try clear c87
                                            try clear c87b0
                                            try clear c87b1
                                            try clear c89
                                            try clear c89b0
                                            try clear c89b1
                                            try clear c91
                                            try clear c91b0
                                            try clear c91b1
                                            try clear c93
                                            try clear c93b0
                                            try clear c93b1
                                            try clear c99
                                            try clear c99b0
                                            try clear c99b1
                                            try clear c106
                                            try clear c106b0
                                            try clear c106b1
                                            try clear hx441_0
                                            try clear hx442_0
                                            try clear hx446_0
                                            try clear hx447_0
                                            try clear p2
                                            try clear p4
                                            try clear p44
                                            try clear p441
                                            try clear p442
                                            try clear p446
                                            try clear p447
                                            try clear p6
                                            try clear q4
                                            try clear q44
                                            try clear q441
                                            try clear q442
                                            try clear q446
                                            try clear q447
                                            obtain ⟨kq, x180_104, rfl, HA, HJ104, HB⟩ := hcut
                                            cases kq with
                                            | zero => exact absurd HA.out (by simp [jacquardref01_Binary.j3])
                                            | succ kj104 =>
                                              have H := HA.out
                                              clear HA
                                              simp only [jacquardref01_Binary.j3] at H
                                              by_cases c107 : x180_104 = true
                                              · subst c107
                                                have H1 : (if t429 = 0 then (if a0 = 5 then ((jacquardref01_Ones.f kj104 a1).bind fun t482 => (some t482)) else (some t428)) else (if a0 = 5 then (some (IntKind.u64.wrap (Int.tdiv t428 t429))) else (some (Int.tmod t428 t429)))) = some r := by rw [if_pos rfl] at H; exact H
                                                clear H
                                                have H := H1
                                                clear H1
                                                by_cases c108 : t429 = 0
                                                · rw [if_pos c108] at H
                                                  have c108b0 : (t429 == 0) = true := beq_iff_eq.mpr c108
                                                  have c108b1 : (t429 != 0) = false := bne_eq_false_iff_eq.mpr c108
                                                  clear c108
                                                  by_cases c109 : a0 = 5
                                                  · rw [if_pos c109] at H
                                                    have c109b0 : (a0 == 5) = true := beq_iff_eq.mpr c109
                                                    have c109b1 : (a0 != 5) = false := bne_eq_false_iff_eq.mpr c109
                                                    clear c109
                                                    replace H := Option.bind_eq_some_iff.mp H
                                                    obtain ⟨t482, A1100, H⟩ := H
                                                    replace H : (some t482) = some r := H
                                                    have A110 := Aside0.mk A1100
                                                    clear A1100
                                                    obtain rfl := Option.some.inj H
                                                    go_wp2_with (first | ((with_reducible refine gate_callee (f := 55) rfl ?_); refine goesL_ (some 188) rfl rfl Try.func55 (by kernel_rfl) rfl #[.int .i64 a1] rfl (by (try simp only [List.map_toArray, List.map_cons, List.map_nil]); first | done | rfl | (simp only [List.length_drop, List.length_take]; rfl)) ?_; (with_reducible refine (jacquardref01_Ones.calls kj104 a1 t482 _ A110.out).mono ?_); rintro e w111 ⟨rfl, hb⟩; refine ⟨_, rfl, ?_⟩; have n0_ := Aside0.mk (below_step (by repeat (first | (with_reducible first | exact HB.out | apply below_alloc | apply pw_below_drewN | apply below_drew1) | exact HB.out)) hb); clear HB; have HB := n0_; clear n0_; (try clear hb); (try clear hb2); (try clear hk); (try clear hi)))
                                                    go_ret
                                                    exact ⟨by first | rfl | (simp [errW_none, errW_some] <;> rfl) | (simp [*, errW_none, errW_some] <;> rfl), by repeat (first | (with_reducible first | exact HB.out | apply below_alloc | apply pw_below_drewN | apply below_drew1) | exact HB.out)⟩
                                                  · rw [if_neg c109] at H
                                                    have c109b0 : (a0 == 5) = false := beq_eq_false_iff_ne.mpr c109
                                                    have c109b1 : (a0 != 5) = true := bne_iff_ne.mpr c109
                                                    obtain rfl := Option.some.inj H
                                                    go_wp2
                                                    go_ret
                                                    exact ⟨by first | rfl | (simp [errW_none, errW_some] <;> rfl) | (simp [*, errW_none, errW_some] <;> rfl), by repeat (first | (with_reducible first | exact HB.out | apply below_alloc | apply pw_below_drewN | apply below_drew1) | exact HB.out)⟩
                                                · rw [if_neg c108] at H
                                                  have c108b0 : (t429 == 0) = false := beq_eq_false_iff_ne.mpr c108
                                                  have c108b1 : (t429 != 0) = true := bne_iff_ne.mpr c108
                                                  by_cases c112 : a0 = 5
                                                  · rw [if_pos c112] at H
                                                    have c112b0 : (a0 == 5) = true := beq_iff_eq.mpr c112
                                                    have c112b1 : (a0 != 5) = false := bne_eq_false_iff_eq.mpr c112
                                                    clear c112
                                                    obtain rfl := Option.some.inj H
                                                    go_wp2
                                                    go_ret
                                                    exact ⟨by first | rfl | (simp [errW_none, errW_some] <;> rfl) | (simp [*, errW_none, errW_some] <;> rfl), by repeat (first | (with_reducible first | exact HB.out | apply below_alloc | apply pw_below_drewN | apply below_drew1) | exact HB.out)⟩
                                                  · rw [if_neg c112] at H
                                                    have c112b0 : (a0 == 5) = false := beq_eq_false_iff_ne.mpr c112
                                                    have c112b1 : (a0 != 5) = true := bne_iff_ne.mpr c112
                                                    obtain rfl := Option.some.inj H
                                                    go_wp2
                                                    go_ret
                                                    exact ⟨by first | rfl | (simp [errW_none, errW_some] <;> rfl) | (simp [*, errW_none, errW_some] <;> rfl), by repeat (first | (with_reducible first | exact HB.out | apply below_alloc | apply pw_below_drewN | apply below_drew1) | exact HB.out)⟩
                                              · replace c107 := Bool.eq_false_iff.mpr c107
                                                subst c107
                                                have H1 : ((jacquardref01_divide.f kj104 a1 t428 t429).bind fun bt483 => (if a0 = 7 then (some bt483.1) else (some bt483.2))) = some r := by rw [if_neg (show ¬ (false = true) by decide)] at H; exact H
                                                clear H
                                                have H := H1
                                                clear H1
                                                replace H := Option.bind_eq_some_iff.mp H
                                                obtain ⟨⟨t483, t484⟩, A1130, H⟩ := H
                                                replace H : (if a0 = 7 then (some t483) else (some t484)) = some r := H
                                                have A113 := Aside0.mk A1130
                                                clear A1130
                                                by_cases c114 : a0 = 7
                                                · rw [if_pos c114] at H
                                                  have c114b0 : (a0 == 7) = true := beq_iff_eq.mpr c114
                                                  have c114b1 : (a0 != 7) = false := bne_eq_false_iff_eq.mpr c114
                                                  clear c114
                                                  obtain rfl := Option.some.inj H
                                                  go_wp2_with (first | ((with_reducible refine gate_callee (f := 87) rfl ?_); refine goesL_ (some 202) rfl rfl Try.func87 (by kernel_rfl) rfl #[.int .i64 a1, .int .u64 t428, .int .u64 t429] rfl (by (try simp only [List.map_toArray, List.map_cons, List.map_nil]); first | done | rfl | (simp only [List.length_drop, List.length_take]; rfl)) ?_; (with_reducible refine (jacquardref01_divide.calls kj104 a1 t428 t429 t483 t484 _ A113.out).mono ?_); rintro e w115 ⟨rfl, hb⟩; refine ⟨_, rfl, ?_⟩; have n0_ := Aside0.mk (below_step (by repeat (first | (with_reducible first | exact HB.out | apply below_alloc | apply pw_below_drewN | apply below_drew1) | exact HB.out)) hb); clear HB; have HB := n0_; clear n0_; (try clear hb); (try clear hb2); (try clear hk); (try clear hi)))
                                                  go_ret
                                                  exact ⟨by first | rfl | (simp [errW_none, errW_some] <;> rfl) | (simp [*, errW_none, errW_some] <;> rfl), by repeat (first | (with_reducible first | exact HB.out | apply below_alloc | apply pw_below_drewN | apply below_drew1) | exact HB.out)⟩
                                                · rw [if_neg c114] at H
                                                  have c114b0 : (a0 == 7) = false := beq_eq_false_iff_ne.mpr c114
                                                  have c114b1 : (a0 != 7) = true := bne_iff_ne.mpr c114
                                                  obtain rfl := Option.some.inj H
                                                  go_wp2_with (first | ((with_reducible refine gate_callee (f := 87) rfl ?_); refine goesL_ (some 202) rfl rfl Try.func87 (by kernel_rfl) rfl #[.int .i64 a1, .int .u64 t428, .int .u64 t429] rfl (by (try simp only [List.map_toArray, List.map_cons, List.map_nil]); first | done | rfl | (simp only [List.length_drop, List.length_take]; rfl)) ?_; (with_reducible refine (jacquardref01_divide.calls kj104 a1 t428 t429 t483 t484 _ A113.out).mono ?_); rintro e w116 ⟨rfl, hb⟩; refine ⟨_, rfl, ?_⟩; have n0_ := Aside0.mk (below_step (by repeat (first | (with_reducible first | exact HB.out | apply below_alloc | apply pw_below_drewN | apply below_drew1) | exact HB.out)) hb); clear HB; have HB := n0_; clear n0_; (try clear hb); (try clear hb2); (try clear hk); (try clear hi)))
                                                  go_ret
                                                  exact ⟨by first | rfl | (simp [errW_none, errW_some] <;> rfl) | (simp [*, errW_none, errW_some] <;> rfl), by repeat (first | (with_reducible first | exact HB.out | apply below_alloc | apply pw_below_drewN | apply below_drew1) | exact HB.out)⟩

end Go.Proofs.Ytanmehdcccldfaa.P
