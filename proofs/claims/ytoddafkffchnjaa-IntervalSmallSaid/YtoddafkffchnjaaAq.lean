import Derived.Test.YtoddafkffchnjaaRf
import Derived.Test.YtoddafkffchnjaaDf
/- The shapes of operators, and the value for single words. -/
namespace Go.Proofs.Ytoddafkffchnjaa.Aq
set_option linter.unusedVariables false
set_option linter.unusedSimpArgs false
set_option linter.unusedSectionVars false
open Go.RowKit Go.Proofs.Ytoddafkffchnjaa.P Go.Proofs.YtoddafkffchnjaaW.PrintWords Wd Im Iv Tg Lw0 Ap Cm Cn Ev Rf

/-- The shape's own test, behind the widths'. -/
def shc (op w : Int) (ws : List Int) : Bool :=
  if op = 1 then (ws.length : Int) == 0
  else if op = 21 then decide ((ws.length : Int) = 3 ∧ rd ws 0 = 1 ∧ rd ws 1 = w ∧ rd ws 2 = w)
  else if op = 22 ∨ op = 23 then decide ((ws.length : Int) = 1 ∧ rd ws 0 ≤ w)
  else if op = 24 then decide ((ws.length : Int) = 1 ∧ w ≤ rd ws 0)
  else if 15 ≤ op ∧ op ≤ 20 then decide ((ws.length : Int) = 2 ∧ rd ws 0 = rd ws 1 ∧ w = 1)
  else if 2 ≤ op ∧ op ≤ 14 then decide ((ws.length : Int) = 2 ∧ rd ws 0 = w ∧ rd ws 1 = w)
  else false
def okw (v : Int) : Bool := decide (1 ≤ v ∧ v ≤ 64)
def shb (op w : Int) (ws : List Int) : Bool := okw w && (ws.all okw && shc op w ws)
theorem three {ws : List Int} {w : Int} : (if (ws.length : Int) = 3 then (if 0 < (ws.length : Int) then (if (rd ws 0) = 1 then (if 1 < (ws.length : Int) then (if (rd ws 1) = w then (if 2 < (ws.length : Int) then (some ((rd ws 2) == w)) else (none)) else (some false)) else (none)) else (some false)) else (none)) else (some false)) = some (decide ((ws.length : Int) = 3 ∧ rd ws 0 = 1 ∧ rd ws 1 = w ∧ rd ws 2 = w)) := by
  by_cases h : (ws.length : Int) = 3
  · rw [if_pos h, if_pos (by omega)]
    by_cases h0 : rd ws 0 = 1
    · rw [if_pos h0, if_pos (by omega)]
      by_cases h1 : rd ws 1 = w
      · rw [if_pos h1, if_pos (by omega)]
        congr 1
        by_cases h2 : rd ws 2 = w <;> simp [h, h0, h1, h2]
      · rw [if_neg h1, decide_eq_false (fun h => h1 h.2.2.1)]
    · rw [if_neg h0, decide_eq_false (fun h => h0 h.2.1)]
  · rw [if_neg h, decide_eq_false (fun h' => h h'.1)]
theorem oneU {ws : List Int} {w : Int} : (if (ws.length : Int) = 1 then (if 0 < (ws.length : Int) then (some (decide ((rd ws 0) ≤ w))) else (none)) else (some false)) = some (decide ((ws.length : Int) = 1 ∧ rd ws 0 ≤ w)) := by
  by_cases h : (ws.length : Int) = 1
  · rw [if_pos h, if_pos (by omega)]; congr 1; rw [decide_eq_decide]; exact ⟨fun h1 => ⟨h, h1⟩, fun h1 => h1.2⟩
  · rw [if_neg h, decide_eq_false (fun h' => h h'.1)]
theorem oneD {ws : List Int} {w : Int} : (if (ws.length : Int) = 1 then (if 0 < (ws.length : Int) then (some (decide ((rd ws 0) ≥ w))) else (none)) else (some false)) = some (decide ((ws.length : Int) = 1 ∧ w ≤ rd ws 0)) := by
  by_cases h : (ws.length : Int) = 1
  · rw [if_pos h, if_pos (by omega)]; congr 1; rw [decide_eq_decide]; exact ⟨fun h1 => ⟨h, h1⟩, fun h1 => h1.2⟩
  · rw [if_neg h, decide_eq_false (fun h' => h h'.1)]
theorem twoC {ws : List Int} {w : Int} : (if (ws.length : Int) = 2 then (if 0 < (ws.length : Int) then (if 1 < (ws.length : Int) then (if (rd ws 0) = (rd ws 1) then (some (w == 1)) else (some false)) else (none)) else (none)) else (some false)) = some (decide ((ws.length : Int) = 2 ∧ rd ws 0 = rd ws 1 ∧ w = 1)) := by
  by_cases h : (ws.length : Int) = 2
  · rw [if_pos h, if_pos (by omega), if_pos (by omega)]
    by_cases h1 : rd ws 0 = rd ws 1
    · rw [if_pos h1]; congr 1; by_cases h2 : w = 1 <;> simp [h, h1, h2]
    · rw [if_neg h1, decide_eq_false (fun h => h1 h.2.1)]
  · rw [if_neg h, decide_eq_false (fun h' => h h'.1)]
theorem twoB {ws : List Int} {w : Int} : (if (ws.length : Int) = 2 then (if 0 < (ws.length : Int) then (if (rd ws 0) = w then (if 1 < (ws.length : Int) then (some ((rd ws 1) == w)) else (none)) else (some false)) else (none)) else (some false)) = some (decide ((ws.length : Int) = 2 ∧ rd ws 0 = w ∧ rd ws 1 = w)) := by
  by_cases h : (ws.length : Int) = 2
  · rw [if_pos h, if_pos (by omega)]
    by_cases h1 : rd ws 0 = w
    · rw [if_pos h1, if_pos (by omega)]; congr 1; by_cases h2 : rd ws 1 = w <;> simp [h, h1, h2]
    · rw [if_neg h1, decide_eq_false (fun h => h1 h.2.1)]
  · rw [if_neg h, decide_eq_false (fun h' => h h'.1)]
theorem isCompare_eq (op : Int) : bits_IsCompare.f op = some (decide (15 ≤ op ∧ op ≤ 20)) := by
  unfold bits_IsCompare.f
  by_cases h : op ≥ 15
  · rw [if_pos h]; congr 1; simp; omega
  · rw [if_neg h]; congr 1; simp; omega
theorem shaped_tail (k : Nat) (op w : Int) (ws : List Int) (i : Int) (hi : ¬ i < (ws.length : Int)) : interval_shaped.l0 (k + 2) op w ws ws (ws.length : Int) i = some (shc op w ws) := by
  have J : ∀ b : Bool, b = decide (op = 22 ∨ op = 23) → ¬ op = 1 → ¬ op = 21 → interval_shaped.j1 (k + 1) op w ws (ws.length : Int) op b = some (shc op w ws) := by
    intro b hb h1 h21
    unfold shc
    rw [if_neg h1, if_neg h21, interval_shaped.j1]
    by_cases c : op = 22 ∨ op = 23
    · rw [hb, if_pos (decide_eq_true c), if_pos c, oneU]
    · rw [hb, if_neg (by simpa using c), if_neg c]
      by_cases c2 : op = 24
      · rw [if_pos c2, if_pos c2, oneD]
      · rw [if_neg c2, if_neg c2, isCompare_eq, Option.bind_some]
        by_cases c3 : 15 ≤ op ∧ op ≤ 20
        · rw [if_pos (decide_eq_true c3), if_pos c3, twoC]
        · rw [if_neg (by simpa using c3), if_neg c3, isBinary_eq, Option.bind_some]
          by_cases c4 : 2 ≤ op ∧ op ≤ 14
          · rw [if_pos (decide_eq_true (by omega)), if_pos c4, twoB]
          · rw [if_neg (by simp; omega), if_neg c4]
  rw [interval_shaped.l0, if_neg hi]
  by_cases c1 : op = 1
  · rw [if_pos c1]; unfold shc; rw [if_pos c1]
  · rw [if_neg c1]
    by_cases c2 : op = 21
    · rw [if_pos c2, three]; unfold shc; rw [if_neg c1, if_pos c2]
    · rw [if_neg c2]
      by_cases c3 : op = 22
      · rw [if_pos c3]; exact J _ (by rw [c3]; rfl) c1 c2
      · rw [if_neg c3]; exact J _ (by rw [Bool.eq_iff_iff]; simp [c3]) c1 c2
theorem shaped_loop (op w : Int) (ws : List Int) (hl : ws.length ≤ 8) (d : Nat) : ∀ (k i : Nat), i + d = ws.length → d + 2 ≤ k → interval_shaped.l0 k op w ws ws (ws.length : Int) i = some ((ws.drop i).all okw && shc op w ws) := by
  induction d with
  | zero =>
    intro k i hi hk
    obtain ⟨k, rfl⟩ : ∃ m, k = m + 2 := ⟨k - 2, by omega⟩
    rw [shaped_tail _ _ _ _ _ (by omega), List.drop_eq_nil_of_le (by omega)]; rfl
  | succ d ih =>
    intro k i hi hk
    obtain ⟨k, rfl⟩ : ∃ m, k = m + 1 := ⟨k - 1, by omega⟩
    have h2 := ih k (i + 1) (by omega) (by omega)
    have hlt : i < ws.length := by omega
    have er : rd ws (i : Int) = ws[i] := by
      unfold rd; rw [Int.toNat_natCast, List.getD_eq_getElem?_getD, List.getElem?_eq_getElem hlt]; rfl
    rw [interval_shaped.l0, if_pos (by omega), if_pos (by omega), if_pos (by omega), good_eq, Option.bind_some, List.drop_eq_getElem_cons hlt, er]
    by_cases c : 1 ≤ ws[i] ∧ ws[i] ≤ 64
    · rw [if_pos (decide_eq_true c), show wrap64 ((i : Int) + 1) = ((i + 1 : Nat) : Int) by rw [wrap64_id (by omega) (by omega)]; omega, h2]
      simp only [List.all_cons, show okw ws[i] = true from decide_eq_true c, Bool.true_and]
    · rw [if_neg (by simpa using c)]
      simp only [List.all_cons, okw, decide_eq_false c, Bool.false_and]
theorem shaped_eq (op w : Int) (ws : List Int) (hl : ws.length ≤ 8) {k : Nat} (hk : 12 ≤ k) : interval_shaped.f k op w ws = some (shb op w ws) := by
  have h := shaped_loop op w ws hl ws.length k 0 (by omega) (by omega)
  unfold interval_shaped.f shb
  rw [good_eq, Option.bind_some]
  by_cases c : 1 ≤ w ∧ w ≤ 64
  · rw [if_pos (decide_eq_true c), show okw w = true from decide_eq_true c, Bool.true_and]; simpa using h
  · rw [if_neg (by simpa using c), show okw w = false from decide_eq_false c]; rfl
theorem rshape_tail (k : Nat) (op w : Int) (ws : List Int) (i : Int) (hi : ¬ i < (ws.length : Int)) : jacquardref12_Shape.l0 (k + 4) op w ws i = some (shc op w ws) := by
  have J4 : ∀ b : Bool, b = decide (op = 22 ∨ op = 23) → ¬ op = 1 → ¬ op = 21 → ¬ (15 ≤ op ∧ op ≤ 20) → ¬ (2 ≤ op ∧ op ≤ 14) → jacquardref12_Shape.j4 (k + 1) op w ws (ws.length : Int) b = some (shc op w ws) := by
    intro b hb h1 h21 h15 h2
    unfold shc
    rw [if_neg h1, if_neg h21, jacquardref12_Shape.j4]
    by_cases c : op = 22 ∨ op = 23
    · rw [hb, if_pos (decide_eq_true c), if_pos c, oneU]
    · rw [hb, if_neg (by simpa using c), if_neg c]
      by_cases c2 : op = 24
      · rw [if_pos c2, if_pos c2, oneD]
      · rw [if_neg c2, if_neg c2, if_neg h15, if_neg h2]
  have J3 : ∀ b : Bool, b = decide (15 ≤ op ∧ op ≤ 20) → ¬ op = 1 → ¬ (2 ≤ op ∧ op ≤ 14) → jacquardref12_Shape.j3 (k + 2) op w ws (ws.length : Int) b = some (shc op w ws) := by
    intro b hb h1 h2
    rw [jacquardref12_Shape.j3]
    by_cases c : 15 ≤ op ∧ op ≤ 20
    · rw [hb, if_pos (decide_eq_true c), twoC]; unfold shc; rw [if_neg h1, if_neg (by omega), if_neg (by omega), if_neg (by omega), if_pos c]
    · rw [hb, if_neg (by simpa using c)]
      by_cases c2 : op = 21
      · rw [if_pos c2, three]; unfold shc; rw [if_neg h1, if_pos c2]
      · rw [if_neg c2]
        by_cases c3 : op = 22
        · rw [if_pos c3]; exact J4 _ (by rw [c3]; rfl) h1 c2 c h2
        · rw [if_neg c3]; exact J4 _ (by rw [Bool.eq_iff_iff]; simp [c3]) h1 c2 c h2
  have J2 : ∀ b : Bool, b = decide (2 ≤ op ∧ op ≤ 14) → ¬ op = 1 → jacquardref12_Shape.j2 (k + 3) op w ws (ws.length : Int) b = some (shc op w ws) := by
    intro b hb h1
    rw [jacquardref12_Shape.j2]
    by_cases c : 2 ≤ op ∧ op ≤ 14
    · rw [hb, if_pos (decide_eq_true c), twoB]; unfold shc; rw [if_neg h1, if_neg (by omega), if_neg (by omega), if_neg (by omega), if_neg (by omega), if_pos c]
    · rw [hb, if_neg (by simpa using c)]
      by_cases c2 : op ≥ 15
      · rw [if_pos c2]; exact J3 _ (by rw [decide_eq_decide]; omega) h1 c
      · rw [if_neg c2]; exact J3 _ (decide_eq_false (by omega)).symm h1 c
  rw [jacquardref12_Shape.l0, if_neg hi]
  by_cases c1 : op = 1
  · rw [if_pos c1]; unfold shc; rw [if_pos c1]
  · rw [if_neg c1]
    by_cases c2 : op ≥ 2
    · rw [if_pos c2]; exact J2 _ (by rw [decide_eq_decide]; omega) c1
    · rw [if_neg c2]; exact J2 _ (decide_eq_false (by omega)).symm c1
theorem rshape_loop (op w : Int) (ws : List Int) (hl : ws.length ≤ 8) (d : Nat) : ∀ (k i : Nat), i + d = ws.length → d + 4 ≤ k → jacquardref12_Shape.l0 k op w ws i = some ((ws.drop i).all okw && shc op w ws) := by
  induction d with
  | zero =>
    intro k i hi hk
    obtain ⟨k, rfl⟩ : ∃ m, k = m + 4 := ⟨k - 4, by omega⟩
    rw [rshape_tail _ _ _ _ _ (by omega), List.drop_eq_nil_of_le (by omega)]; rfl
  | succ d ih =>
    intro k i hi hk
    obtain ⟨k, rfl⟩ : ∃ m, k = m + 1 := ⟨k - 1, by omega⟩
    have h2 := ih k (i + 1) (by omega) (by omega)
    have hlt : i < ws.length := by omega
    have er : rd ws (i : Int) = ws[i] := by
      unfold rd; rw [Int.toNat_natCast, List.getD_eq_getElem?_getD, List.getElem?_eq_getElem hlt]; rfl
    rw [jacquardref12_Shape.l0, if_pos (by omega), if_pos (by omega), List.drop_eq_getElem_cons hlt, er]
    by_cases c1 : ws[i] < 1
    · rw [if_pos c1]
      simp only [List.all_cons, okw, decide_eq_false (show ¬ (1 ≤ ws[i] ∧ ws[i] ≤ 64) by omega), Bool.false_and]
    · rw [if_neg c1]
      by_cases c2 : ws[i] > 64
      · rw [if_pos c2]
        simp only [List.all_cons, okw, decide_eq_false (show ¬ (1 ≤ ws[i] ∧ ws[i] ≤ 64) by omega), Bool.false_and]
      · rw [if_neg c2, show wrap64 ((i : Int) + 1) = ((i + 1 : Nat) : Int) by rw [wrap64_id (by omega) (by omega)]; omega, h2]
        simp only [List.all_cons, okw, decide_eq_true (show 1 ≤ ws[i] ∧ ws[i] ≤ 64 by omega), Bool.true_and]
theorem rshape_eq (op w : Int) (ws : List Int) (hl : ws.length ≤ 8) {k : Nat} (hk : 14 ≤ k) : jacquardref12_Shape.f k op w ws = some (shb op w ws) := by
  obtain ⟨k, rfl⟩ : ∃ m, k = m + 1 := ⟨k - 1, by omega⟩
  have h := rshape_loop op w ws hl ws.length k 0 (by omega) (by omega)
  unfold jacquardref12_Shape.f shb
  by_cases c1 : w < 1
  · rw [if_pos c1, jacquardref12_Shape.j0, if_pos rfl, show okw w = false from decide_eq_false (by omega)]; rfl
  · rw [if_neg c1, jacquardref12_Shape.j0]
    by_cases c2 : w > 64
    · rw [if_pos (decide_eq_true c2), show okw w = false from decide_eq_false (by omega)]; rfl
    · rw [if_neg (by simpa using c2), show okw w = true from decide_eq_true (show 1 ≤ w ∧ w ≤ 64 by omega), Bool.true_and]; simpa using h
theorem len1 {ws : List Int} (h : (ws.length : Int) = 1) : ws = [rd ws 0] := by
  match ws, h with
  | [a], _ => rfl
theorem len2 {ws : List Int} (h : (ws.length : Int) = 2) : ws = [rd ws 0, rd ws 1] := by
  match ws, h with
  | [a, b], _ => rfl
theorem len3 {ws : List Int} (h : (ws.length : Int) = 3) : ws = [rd ws 0, rd ws 1, rd ws 2] := by
  match ws, h with
  | [a, b, c], _ => rfl
theorem sh_of {op w : Int} {ws : List Int} (h : shb op w ws = true) : Sh op w ws := by
  unfold shb okw at h
  simp only [Bool.and_eq_true, List.all_eq_true, decide_eq_true_eq] at h
  obtain ⟨hw, ha, hs⟩ := h
  refine ⟨hw, ha, ?_⟩
  unfold shc at hs
  by_cases c1 : op = 1
  · rw [if_pos c1] at hs; left; refine ⟨c1, ?_⟩; simpa using hs
  rw [if_neg c1] at hs
  by_cases c2 : op = 21
  · rw [if_pos c2] at hs; obtain ⟨h0, h1, h2, h3⟩ := of_decide_eq_true hs; have e := len3 h0; rw [h1, h2, h3] at e; exact .inr (.inr (.inr (.inl ⟨c2, e⟩)))
  rw [if_neg c2] at hs
  by_cases c3 : op = 22 ∨ op = 23
  · rw [if_pos c3] at hs; obtain ⟨h0, h1⟩ := of_decide_eq_true hs; exact .inr (.inr (.inr (.inr (.inl ⟨c3, _, len1 h0, h1⟩))))
  rw [if_neg c3] at hs
  by_cases c4 : op = 24
  · rw [if_pos c4] at hs; obtain ⟨h0, h1⟩ := of_decide_eq_true hs; exact .inr (.inr (.inr (.inr (.inr ⟨c4, _, len1 h0, h1⟩))))
  rw [if_neg c4] at hs
  by_cases c5 : 15 ≤ op ∧ op ≤ 20
  · rw [if_pos c5] at hs; obtain ⟨h0, h1, h2⟩ := of_decide_eq_true hs; have e := len2 h0; rw [h1] at e; exact .inr (.inr (.inl ⟨c5, h2, _, e⟩))
  rw [if_neg c5] at hs
  by_cases c6 : 2 ≤ op ∧ op ≤ 14
  · rw [if_pos c6] at hs; obtain ⟨h0, h1, h2⟩ := of_decide_eq_true hs; have e := len2 h0; rw [h1, h2] at e; exact .inr (.inl ⟨c6, e⟩)
  rw [if_neg c6] at hs; cases hs
end Go.Proofs.Ytoddafkffchnjaa.Aq
