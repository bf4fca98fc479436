import Derived.Test.YthhhegblccoonaaGreatDoorQ1
import Derived.Test.YthhhegblccoonaaGreatDoorDg
/- Apply, by both packages: one result. -/
namespace Go.Proofs.YthhhegblccoonaaGreatDoor.Ar
set_option linter.unusedVariables false
set_option linter.unusedSimpArgs false
set_option linter.unusedSectionVars false
open Go.RowKit Go.Proofs.YthhhegblccoonaaGreatDoor.P Go.Proofs.YthhhegblccoonaaGreatDoorW.PrintWords Wd Im Iv Tg Lw0 Ap Cm Cn Ev Rf Aq

/-- A range as the program's data let it come in. -/
def Wf (s : S48) : Prop := (0 ≤ s.f0 ∧ s.f0 < 18446744073709551616) ∧ I64 s.f2 ∧ I64 s.f3
theorem tg_eq {w : Int} {s : S48} (h : Wf s) (hk : 3 ≤ Q) : interval_Tighten.f w s.f0 s.f1 s.f2 s.f3 = some (tg w (q s)) := by
  obtain ⟨h0, h2, h3⟩ := h
  unfold I64 at h2 h3
  rw [tighten_eq _ _ _ _ _ h0.1 ⟨h2.1, h3.2⟩]; rfl
theorem rtg_eq {w : Int} {s : S48} (h : Wf s) (hk : 70 < Q) : jacquardref13_Tighten.f w s.f0 s.f1 s.f2 s.f3 = some (tg w (q s)) := by
  obtain ⟨h0, h2, h3⟩ := h
  unfold I64 at h2 h3
  rw [rtighten_eq _ _ _ _ _ h0.1 ⟨h2.1, h3.2⟩ hk]; rfl
def ts (t : Int × Int × Int × Int × Bool) : S48 := ⟨t.1, t.2.1, t.2.2.1, t.2.2.2.1⟩
/-- A range that is tight at a width. -/
def Ti (v : Int) (s : S48) : Prop := (1 ≤ v ∧ v ≤ 64) ∧ BdR (nn v) (q s)
theorem ti_of {v : Int} (hv : 1 ≤ v ∧ v ≤ 64) {s : S48} (h : Wf s) (hok : (tg v (q s)).2.2.2.2 = true) : Ti v (ts (tg v (q s))) := ⟨hv, tg_bd hv h.1.1 hok⟩
theorem word_of {v : Int} {s : S48} (h : Ti v s) : 0 ≤ s.f0 ∧ s.f0 < 2 ^ nn v := by
  obtain ⟨_, hb, h0⟩ := h
  have h1 := hb.h1
  have h2 := hb.h2
  simp only [q] at h0 h1 h2
  omega
theorem top_i {w : Int} (hw : 1 ≤ w ∧ w ≤ 64) : interval_Top.f w = some (top (nn w)) := by rw [top_eq, if_pos hw]; rfl
theorem of_i {w : Int} (hw : 1 ≤ w ∧ w ≤ 64) {x : Int} (hx : 0 ≤ x ∧ x < 18446744073709551616) : interval_Of.f w x = some (one (nn w) x) := by rw [of_eq w hx, if_pos hw]; rfl
theorem bin_i {op v a b : Int} (hv : 1 ≤ v ∧ v ≤ 64) (ho : 2 ≤ op ∧ op ≤ 20) (ha : 0 ≤ a ∧ a < 2 ^ nn v) (hb : 0 ≤ b ∧ b < 2 ^ nn v) : bits_Binary.f op v a b = some (bin op (nn v) a b, 0) := by
  have hp := pow_le (nn_le v)
  rw [binary_eq op v a b (by omega) (by omega), if_pos ⟨ho.1, ho.2, hv.1, hv.2⟩, mod_small ha.1 ha.2, mod_small hb.1 hb.2]
/-- The value for two words. -/
theorem value_two {op w v : Int} (hv : 1 ≤ v ∧ v ≤ 64) (ho : 2 ≤ op ∧ op ≤ 20) {a b : S48} (ha : Ti v a) (hb : Ti v b) (hk : 5 ≤ Q) : interval_value.f op w [v, v] [a, b] = some (bin op (nn v) a.f0 b.f0) := by
  unfold interval_value.f
  rw [if_pos (by simp), if_neg (by omega), if_neg (by omega), show rd_T48 [a, b] 0 = a from rfl, interval_value.j0, if_neg (by simp; omega), if_neg (by omega), if_pos (by simp), if_pos (by simp), show rd [v, v] 0 = v from rfl, show rd_T48 [a, b] 1 = b from rfl, bin_i hv ho (word_of ha) (word_of hb)]
  rfl
theorem value_sel {w : Int} {ws : List Int} {a b c : S48} (ha : Ti 1 a) : interval_value.f 21 w ws [a, b, c] = some (if a.f0 = 1 then b.f0 else c.f0) := by
  have h := word_of ha
  have e : nn 1 = 1 := by decide
  rw [e] at h
  have hx : a.f0 = 0 ∨ a.f0 = 1 := by omega
  unfold interval_value.f
  rw [if_pos (by simp), if_pos rfl, show rd_T48 [a, b, c] 0 = a from rfl]
  rcases hx with hx | hx
  · rw [hx, show IntKind.u64.wrap (2 - 0) = 2 by decide, if_pos (by decide), if_pos (by simp)]; rfl
  · rw [hx, show IntKind.u64.wrap (2 - 1) = 1 by decide, if_pos (by decide), if_pos (by simp)]; rfl
/-- What an extension or a truncation of one word yields, cut to the result's width. -/
theorem value_cast {op w v : Int} (hw : 1 ≤ w ∧ w ≤ 64) (ho : op = 22 ∨ op = 23 ∨ op = 24) {a : S48} (ha : Ti v a) (hk : 2 ≤ Q) : ∃ x, interval_value.f op w [v] [a] = some x ∧ (0 ≤ x ∧ x < 18446744073709551616) ∧ one (nn w) x = one (nn w) (castv op (nn w) (nn v) a.f0) := by
  have h := word_of ha
  have hp := pow_le (nn_le v)
  have mm : ∀ x : Int, one (nn w) x = one (nn w) (x % 2 ^ nn w) := fun x => by
    unfold one; rw [sg_fit, Int.emod_emod_of_dvd _ (Int.dvd_refl _)]
  unfold interval_value.f
  rw [if_pos (by simp), if_neg (by omega), show rd_T48 [a] 0 = a from rfl]
  rcases ho with rfl | rfl | rfl
  · refine ⟨a.f0, ?_, by omega, ?_⟩
    · rw [if_pos rfl, interval_value.j0, if_pos (by decide)]
    · rw [show castv 22 (nn w) (nn v) a.f0 = a.f0 % 2 ^ nn w by simp [castv]]; exact mm _
  · refine ⟨sg (nn v) a.f0 % 2 ^ nn w, ?_, mod_U (nn_le w) _, ?_⟩
    · rw [if_neg (by decide), interval_value.j0, if_neg (by decide), if_pos rfl, if_pos (by simp), show rd [v] 0 = v from rfl]
      unfold bits_Extend.f
      rw [if_pos rfl, signed_eq v (by omega), Option.bind_some, from_eq]; rfl
    · rw [show castv 23 (nn w) (nn v) a.f0 = sg (nn v) a.f0 % 2 ^ nn w by simp [castv]]
  · refine ⟨a.f0, ?_, by omega, ?_⟩
    · rw [if_neg (by decide), interval_value.j0, if_pos (by decide)]
    · rw [show castv 24 (nn w) (nn v) a.f0 = a.f0 % 2 ^ nn w by simp [castv]]; exact mm _
/-! ### One round of the loops -/
theorem rd_at {ws : List Int} {i : Nat} (h : i < ws.length) : rd ws (i : Int) = ws[i] := by
  unfold rd; rw [Int.toNat_natCast, List.getD_eq_getElem?_getD, List.getElem?_eq_getElem h]; rfl
theorem step_i {op w : Int} (hw : 1 ≤ w ∧ w ≤ 64) {ws : List Int} {args acc : List S48} (s : Bool) {i : Nat} (h1 : i < args.length) (h2 : i < ws.length) (hl : args.length ≤ 8) (ha : acc.length ≤ 8) {v : Int} {a : S48} (hv : rd ws (i : Int) = v) (he : rd_T48 args (i : Int) = a) (hwf : Wf a) {k : Nat} (hk : 3 ≤ k) :
    interval_Apply.l0 (k + 1) op w ws s acc args (args.length : Int) (i : Int) = if (tg v (q a)).2.2.2.2 = true then interval_Apply.l0 k op w ws (s && ((tg v (q a)).1 == (tg v (q a)).2.1)) (acc ++ [ts (tg v (q a))]) args (args.length : Int) ((i + 1 : Nat) : Int) else some (top (nn w)) := by
  have hQb := Q_big
  rw [interval_Apply.l0, if_pos (by omega), if_pos (by omega), if_pos (by omega), if_pos (by omega), hv, he, tg_eq hwf (by have := Q_big; omega), Option.bind_some]
  by_cases c : (tg v (q a)).2.2.2.2 = true
  · rw [if_pos c, if_pos c, if_pos (by omega), Option.bind_some, show wrap64 ((i : Int) + 1) = ((i + 1 : Nat) : Int) by rw [wrap64_id (by omega) (by omega)]; omega]
    cases s
    · rw [if_neg (by decide)]; rfl
    · rw [if_pos rfl, Bool.true_and]; rfl
  · rw [if_neg c, if_neg c, top_i hw]; rfl
theorem step_r {op w : Int} (hw : 1 ≤ w ∧ w ≤ 64) {ws : List Int} {args acc : List S48} {words : List Int} (num : Int) (s : Bool) {i : Nat} (h1 : i < args.length) (h2 : i < ws.length) (hl : args.length ≤ 8) (ha : acc.length ≤ 8) (hwd : words.length ≤ 8) {v : Int} {a : S48} (hv : rd ws (i : Int) = v) (he : rd_T48 args (i : Int) = a) (hwf : Wf a) {k : Nat} (hk : 71 < k) :
    jacquardref13_Apply.l0 (k + 1) op w ws args num acc words s (i : Int) = if (tg v (q a)).2.2.2.2 = true then jacquardref13_Apply.l0 k op w ws args num (acc ++ [ts (tg v (q a))]) (words ++ [(tg v (q a)).1]) (s && ((tg v (q a)).1 == (tg v (q a)).2.1)) ((i + 1 : Nat) : Int) else some (top (nn w)) := by
  have hQb := Q_big
  have hn := nn_of (w := w) (by omega) hw.2
  obtain ⟨k, rfl⟩ : ∃ m, k = m + 1 := ⟨k - 1, by omega⟩
  rw [jacquardref13_Apply.l0, if_pos (by omega), if_pos (by omega), if_pos (by omega), hv, he, rtg_eq hwf (by omega), Option.bind_some]
  by_cases c : (tg v (q a)).2.2.2.2 = true
  · rw [if_pos c, if_pos c, if_pos (by omega), Option.bind_some, if_pos (by omega), Option.bind_some, show wrap64 ((i : Int) + 1) = ((i + 1 : Nat) : Int) by rw [wrap64_id (by omega) (by omega)]; omega]
    cases s
    · rw [if_neg (by decide)]; rfl
    · rw [if_pos rfl, Bool.true_and]; rfl
  · rw [if_neg c, if_neg c, rtop (w := w) (n := nn w) hn.symm (by omega) (nn_le w) (by omega)]; rfl
/-! ### The end of the loops -/
theorem fin_one_i {op w : Int} (hw : 1 ≤ w ∧ w ≤ 64) {ws : List Int} {args acc : List S48} {i : Int} (h : ¬ i < (args.length : Int)) {x : Int} {k : Nat} (hv : interval_value.f op w ws acc = some x) (hx : 0 ≤ x ∧ x < 18446744073709551616) :
    interval_Apply.l0 (k + 1) op w ws true acc args (args.length : Int) i = some (one (nn w) x) := by
  have hQb := Q_big
  rw [interval_Apply.l0, if_neg h, if_pos rfl, hv, Option.bind_some, of_i hw hx]; rfl
theorem fin_many_i {op w : Int} (hw : 1 ≤ w ∧ w ≤ 64) {ws : List Int} {args acc : List S48} {i : Int} (h : ¬ i < (args.length : Int)) {u s : Int × Int} {k : Nat} (hk : 3 ≤ k)
    (hc : interval_computer_compute.f w (2 ^ nn w - 1) (-2 ^ (nn w - 1)) (2 ^ (nn w - 1) - 1) 0 (2 ^ nn w - 1) (-2 ^ (nn w - 1)) (2 ^ (nn w - 1) - 1) op ws acc = res w (nn w) u s) (h0 : 0 ≤ u.1) (hI : I64 s.1 ∧ I64 s.2) :
    interval_Apply.l0 (k + 1) op w ws false acc args (args.length : Int) i = some (fitr w (u.1, u.2, s.1, s.2)) := by
  have hQb := Q_big
  obtain ⟨k, rfl⟩ : ∃ m, k = m + 3 := ⟨k - 3, by omega⟩
  rw [interval_Apply.l0, if_neg h, if_neg (by decide), ends_eq hw, Option.bind_some, mask_eq, Option.bind_some, top_i hw, Option.bind_some]
  simp only [top]
  rw [hc]
  unfold res
  simp only [Option.bind_some]
  rw [tighten_eq w u.1 u.2 s.1 s.2 h0 ⟨hI.1.1, hI.2.2⟩, Option.bind_some]
  unfold fitr tg
  simp only []
  by_cases c : Valid w u.1 u.2 s.1 s.2
  · rw [if_pos c]
    by_cases c2 : (Tg.tight (nn w) u.1 u.2 s.1 s.2).2.2.2.2 = true
    · rw [if_pos c2, if_pos c2]
    · rw [if_neg c2, if_neg c2]; rfl
  · rw [if_neg c]; rfl
theorem fin_one_r {op w : Int} (hw : 1 ≤ w ∧ w ≤ 64) {ws : List Int} {args acc : List S48} {words : List Int} {num i : Int} (h : ¬ i < (args.length : Int)) {x : Int} {k : Nat} (hk : 71 < k) (hv : jacquardref12_Eval.f op w ws words num = some x) (hx : 0 ≤ x ∧ x < 18446744073709551616) :
    jacquardref13_Apply.l0 (k + 1) op w ws args num acc words true i = some (one (nn w) x) := by
  have hQb := Q_big
  have hn := nn_of (w := w) (by omega) hw.2
  obtain ⟨k, rfl⟩ : ∃ m, k = m + 1 := ⟨k - 1, by omega⟩
  rw [jacquardref13_Apply.l0, if_neg h, if_pos rfl, hv, Option.bind_some, rof (w := w) (n := nn w) hn.symm (by omega) (nn_le w) (by omega) hx]; rfl
theorem fit_r {w : Int} (hw : 1 ≤ w ∧ w ≤ 64) {r : R} (h0 : 0 ≤ r.1) (hI : I64 r.2.2.1 ∧ I64 r.2.2.2) {k : Nat} (hk : 71 < k) : jacquardref13_Apply.j4 (k + 1) w r.1 r.2.1 r.2.2.1 r.2.2.2 = some (fitr w r) := by
  have hQb := Q_big
  have hn := nn_of (w := w) (by omega) hw.2
  obtain ⟨k, rfl⟩ : ∃ m, k = m + 1 := ⟨k - 1, by omega⟩
  rw [jacquardref13_Apply.j4, rtighten_eq w r.1 r.2.1 r.2.2.1 r.2.2.2 h0 ⟨hI.1.1, hI.2.2⟩ (by omega), Option.bind_some]
  unfold fitr tg
  by_cases c : Valid w r.1 r.2.1 r.2.2.1 r.2.2.2
  · rw [if_pos c]
    by_cases c2 : (Tg.tight (nn w) r.1 r.2.1 r.2.2.1 r.2.2.2).2.2.2.2 = true
    · rw [if_pos c2, if_pos c2]
    · rw [if_neg c2, if_neg c2, rtop (w := w) (n := nn w) hn.symm (by omega) (nn_le w) (by omega)]; rfl
  · rw [if_neg c]
    rw [if_neg (by decide), if_neg (by decide), rtop (w := w) (n := nn w) hn.symm (by omega) (nn_le w) (by omega)]; rfl
/-- The whole, for both: the rounds that are left, and what they end in. -/
def go (top : R) (fin : Bool → List S48 → R) : List (Int × S48) → Bool → List S48 → R
  | [], s, acc => fin s acc
  | (v, a) :: l, s, acc => if (tg v (q a)).2.2.2.2 = true then go top fin l (s && ((tg v (q a)).1 == (tg v (q a)).2.1)) (acc ++ [ts (tg v (q a))]) else top
end Go.Proofs.YthhhegblccoonaaGreatDoor.Ar
/- Apply, by both packages: one result. -/
namespace Go.Proofs.YthhhegblccoonaaGreatDoor.As
set_option linter.unusedVariables false
set_option linter.unusedSimpArgs false
set_option linter.unusedSectionVars false
open Go.RowKit Go.Proofs.YthhhegblccoonaaGreatDoor.P Go.Proofs.YthhhegblccoonaaGreatDoorW.PrintWords Wd Im Iv Tg Lw0 Ap Cm Cn Ev Rf Aq Ar

theorem four_I {a b c d : Int} (ha : I64 a) (hb : I64 b) (hc : I64 c) (hd : I64 d) : I64 (mn4 a b c d) ∧ I64 (mx4 a b c d) := by
  unfold I64 mn4 mx4 at *
  have h1 := mn_facts a b
  have h2 := mn_facts (mn a b) c
  have h3 := mn_facts (mn (mn a b) c) d
  have g1 := mx_facts a b
  have g2 := mx_facts (mx a b) c
  have g3 := mx_facts (mx (mx a b) c) d
  omega
theorem div_I {x : Int} (h : I64 x) (p : Nat) : I64 (x / 2 ^ p) := by
  unfold I64 at *
  rcases Int.lt_or_le x 0 with k | k
  · have := div_neg' p k
    omega
  · have := div_nn p k
    omega
section
variable {n : Nat} (hn : 1 ≤ n) (h64 : n ≤ 64) {alo ahi al am blo bhi bl bm : Int} (ha0 : 0 ≤ alo) (hb0 : 0 ≤ blo) (va : Bd n alo ahi al am) (vb : Bd n blo bhi bl bm)
include hn h64 ha0 hb0 va vb
theorem su {op : Int} (ho : 2 ≤ op ∧ op ≤ 14) : 0 ≤ (U op n alo ahi blo bhi).1 ∧ I64 (S op n al am bl bm blo bhi).1 ∧ I64 (S op n al am bl bm blo bhi).2 := by
  obtain ⟨ia, ia'⟩ := bd_i64 h64 va
  obtain ⟨ib, ib'⟩ := bd_i64 h64 vb
  obtain ⟨a1, a2, a3, a4, a5⟩ := va
  obtain ⟨b1, b2, b3, b4, b5⟩ := vb
  have hp := pow_le63 (n := n - 1) (by omega)
  have hpp := pow_pos (n - 1)
  have d1 : I64 (-2 ^ (n - 1)) ∧ I64 (2 ^ (n - 1) - 1) := by unfold I64; omega
  have dS : ∀ p, S op n al am bl bm blo bhi = p → p = (-2 ^ (n - 1), 2 ^ (n - 1) - 1) → I64 (S op n al am bl bm blo bhi).1 ∧ I64 (S op n al am bl bm blo bhi).2 := by
    intro p h1 h2; rw [h1, h2]; exact d1
  have dU : ∀ p, U op n alo ahi blo bhi = p → p = (0, 2 ^ n - 1) → 0 ≤ (U op n alo ahi blo bhi).1 := by
    intro p h1 h2; rw [h1, h2]; exact Int.le_refl 0
  have m1 := mod_lt n (alo + blo)
  have m2 := mod_lt n (alo - bhi)
  obtain rfl | rfl | rfl | rfl | rfl | rfl | rfl | rfl | rfl | rfl | rfl | rfl | rfl : op = 2 ∨ op = 3 ∨ op = 4 ∨ op = 5 ∨ op = 6 ∨ op = 7 ∨ op = 8 ∨ op = 9 ∨ op = 10 ∨ op = 11 ∨ op = 12 ∨ op = 13 ∨ op = 14 := by omega
  · refine ⟨?_, ?_⟩
    · simp only [U, if_pos]
      split
      · show 0 ≤ alo + blo; omega
      · split
        · exact m1.1
        · exact Int.le_refl 0
    · simp only [S, if_pos]
      split
      · rename_i h; exact ⟨i64_inr h64 h.1, i64_inr h64 h.2⟩
      · exact d1
  · refine ⟨?_, ?_⟩
    · simp only [U, if_pos, if_neg (show ¬ (3 : Int) = 2 by decide)]
      split
      · exact m2.1
      · exact Int.le_refl 0
    · simp only [S, if_pos, if_neg (show ¬ (3 : Int) = 2 by decide)]
      split
      · rename_i h; exact ⟨i64_inr h64 h.1, i64_inr h64 h.2⟩
      · exact d1
  · refine ⟨?_, ?_⟩
    · simp only [U, if_pos, if_neg (show ¬ (4 : Int) = 2 by decide), if_neg (show ¬ (4 : Int) = 3 by decide)]
      split
      · exact Int.mul_nonneg ha0 hb0
      · exact Int.le_refl 0
    · simp only [S, if_pos, if_neg (show ¬ (4 : Int) = 2 by decide), if_neg (show ¬ (4 : Int) = 3 by decide)]
      split
      · rename_i h; exact four_I (i64_inr h64 h.1) (i64_inr h64 h.2.1) (i64_inr h64 h.2.2.1) (i64_inr h64 h.2.2.2)
      · exact d1
  · refine ⟨?_, dS _ rfl (by simp [S])⟩
    simp only [U, if_pos, if_neg (show ¬ (5 : Int) = 2 by decide), if_neg (show ¬ (5 : Int) = 3 by decide), if_neg (show ¬ (5 : Int) = 4 by decide)]
    split
    · exact Int.ediv_nonneg ha0 (by omega)
    · exact Int.le_refl 0
  · refine ⟨?_, dS _ rfl (by simp [S])⟩
    simp only [U, if_pos, if_neg (show ¬ (6 : Int) = 2 by decide), if_neg (show ¬ (6 : Int) = 3 by decide), if_neg (show ¬ (6 : Int) = 4 by decide), if_neg (show ¬ (6 : Int) = 5 by decide)]
    split
    · split
      · exact ha0
      · exact Int.le_refl 0
    · exact Int.le_refl 0
  · refine ⟨dU _ rfl (by simp [U]), ?_⟩
    simp only [S, if_pos, if_neg (show ¬ (7 : Int) = 2 by decide), if_neg (show ¬ (7 : Int) = 3 by decide), if_neg (show ¬ (7 : Int) = 4 by decide)]
    split
    · rename_i h
      exact four_I (tdiv_I ia ib (by omega)) (tdiv_I ia ib' (by omega)) (tdiv_I ia' ib (by omega)) (tdiv_I ia' ib' (by omega))
    · exact d1
  · refine ⟨dU _ rfl (by simp [U]), ?_⟩
    have f1 := mn_facts al 0
    have f2 := mx_facts am 0
    have f3 := mx_facts (mn al 0) (1 - bm)
    have f4 := mn_facts (mx am 0) (bm - 1)
    simp only [S, if_pos, if_neg (show ¬ (8 : Int) = 2 by decide), if_neg (show ¬ (8 : Int) = 3 by decide), if_neg (show ¬ (8 : Int) = 4 by decide), if_neg (show ¬ (8 : Int) = 7 by decide)]
    unfold I64 at *
    split
    · simp only []; omega
    · simp only []; omega
  · exact ⟨by simp [U], dS _ rfl (by simp [S])⟩
  · have f := mx_facts alo blo
    exact ⟨by simp [U]; omega, dS _ rfl (by simp [S])⟩
  · exact ⟨by simp [U], dS _ rfl (by simp [S])⟩
  · have eU : U 12 n alo ahi blo bhi = if blo = bhi then (if (n : Int) ≤ blo then (0, 0) else if ahi ≤ (2 ^ n - 1) / 2 ^ blo.toNat then (alo * 2 ^ blo.toNat, ahi * 2 ^ blo.toNat) else (0, 2 ^ n - 1)) else (0, 2 ^ n - 1) := by simp [U]
    have eS : S 12 n al am bl bm blo bhi = if blo = bhi ∧ blo < n ∧ (-2 ^ (n - 1)) / 2 ^ blo.toNat ≤ al ∧ am ≤ (2 ^ (n - 1) - 1) / 2 ^ blo.toNat then (al * 2 ^ blo.toNat, am * 2 ^ blo.toNat) else (-2 ^ (n - 1), 2 ^ (n - 1) - 1) := by simp [S]
    have hps := pow_pos' blo.toNat
    rw [eU, eS]
    refine ⟨?_, ?_⟩
    · split
      · split
        · exact Int.le_refl 0
        · split
          · exact Int.mul_nonneg ha0 (by omega)
          · exact Int.le_refl 0
      · exact Int.le_refl 0
    · split
      · rename_i h
        obtain ⟨c1, c2, c3, c4⟩ := h
        have hd : (2 : Int) ^ (n - 1) = 2 ^ (n - 1 - blo.toNat) * 2 ^ blo.toNat := by rw [← Int.pow_add]; congr 1; omega
        have h1 : am * 2 ^ blo.toNat ≤ 2 ^ (n - 1) - 1 := by
          have h1 := Int.mul_le_mul_of_nonneg_right c4 (show 0 ≤ (2 : Int) ^ blo.toNat by omega)
          have h2 := Int.ediv_mul_le (2 ^ (n - 1) - 1) (b := 2 ^ blo.toNat) (by omega)
          omega
        have h4 : -2 ^ (n - 1) ≤ al * 2 ^ blo.toNat := by
          rw [hd, ← Int.neg_mul, Int.mul_ediv_cancel _ (by omega)] at c3
          rw [hd, ← Int.neg_mul]
          exact Int.mul_le_mul_of_nonneg_right c3 (by omega)
        have h5 : al * 2 ^ blo.toNat ≤ am * 2 ^ blo.toNat := Int.mul_le_mul_of_nonneg_right a4 (by omega)
        unfold I64; simp only []; omega
      · exact d1
  · exact ⟨by simp only [U]; exact (div_nn bhi.toNat ha0).1, dS _ rfl (by simp [S])⟩
  · refine ⟨dU _ rfl (by simp [U]), ?_⟩
    simp only [S]
    exact four_I (div_I ia _) (div_I ia _) (div_I ia' _) (div_I ia' _)
end
theorem fit_cmp {op : Int} (ho : 15 ≤ op ∧ op ≤ 20) (alo ahi al am blo bhi bl bm : Int) : fitr 1 (cmp op alo ahi al am blo bhi bl bm) = cmp op alo ahi al am blo bhi bl bm := by
  obtain rfl | rfl | rfl | rfl | rfl | rfl : op = 15 ∨ op = 16 ∨ op = 17 ∨ op = 18 ∨ op = 19 ∨ op = 20 := by omega
  · rw [show cmp 15 alo ahi al am blo bhi bl bm = dec False (Apart alo ahi al am blo bhi bl bm) by simp [cmp], fit_dec]
  · rw [show cmp 16 alo ahi al am blo bhi bl bm = dec (Apart alo ahi al am blo bhi bl bm) False by simp [cmp], fit_dec]
  · rw [show cmp 17 alo ahi al am blo bhi bl bm = dec (ahi < blo) (bhi ≤ alo) by simp [cmp], fit_dec]
  · rw [show cmp 18 alo ahi al am blo bhi bl bm = dec (ahi ≤ blo) (bhi < alo) by simp [cmp], fit_dec]
  · rw [show cmp 19 alo ahi al am blo bhi bl bm = dec (am < bl) (bm ≤ al) by simp [cmp], fit_dec]
  · rw [show cmp 20 alo ahi al am blo bhi bl bm = dec (am ≤ bl) (bm < al) by simp [cmp], fit_dec]
theorem dec_range (yes no : Prop) [Decidable yes] [Decidable no] : 0 ≤ (dec yes no).1 ∧ I64 (dec yes no).2.2.1 ∧ I64 (dec yes no).2.2.2 := by
  unfold dec
  split
  · decide
  · split <;> decide
theorem cmp_range {op : Int} (ho : 15 ≤ op ∧ op ≤ 20) (alo ahi al am blo bhi bl bm : Int) : 0 ≤ (cmp op alo ahi al am blo bhi bl bm).1 ∧ I64 (cmp op alo ahi al am blo bhi bl bm).2.2.1 ∧ I64 (cmp op alo ahi al am blo bhi bl bm).2.2.2 := by
  obtain rfl | rfl | rfl | rfl | rfl | rfl : op = 15 ∨ op = 16 ∨ op = 17 ∨ op = 18 ∨ op = 19 ∨ op = 20 := by omega
  · rw [show cmp 15 alo ahi al am blo bhi bl bm = dec False (Apart alo ahi al am blo bhi bl bm) by simp [cmp]]; exact dec_range _ _
  · rw [show cmp 16 alo ahi al am blo bhi bl bm = dec (Apart alo ahi al am blo bhi bl bm) False by simp [cmp]]; exact dec_range _ _
  · rw [show cmp 17 alo ahi al am blo bhi bl bm = dec (ahi < blo) (bhi ≤ alo) by simp [cmp]]; exact dec_range _ _
  · rw [show cmp 18 alo ahi al am blo bhi bl bm = dec (ahi ≤ blo) (bhi < alo) by simp [cmp]]; exact dec_range _ _
  · rw [show cmp 19 alo ahi al am blo bhi bl bm = dec (am < bl) (bm ≤ al) by simp [cmp]]; exact dec_range _ _
  · rw [show cmp 20 alo ahi al am blo bhi bl bm = dec (am ≤ bl) (bm < al) by simp [cmp]]; exact dec_range _ _
/-- The bounds of a comparison, an extension or a choice, by the implementation. -/
theorem comp_cmp {op : Int} (ho : 15 ≤ op ∧ op ≤ 20) (ws : List Int) (a b : S48) : interval_computer_compute.f 1 (2 ^ nn 1 - 1) (-2 ^ (nn 1 - 1)) (2 ^ (nn 1 - 1) - 1) 0 (2 ^ nn 1 - 1) (-2 ^ (nn 1 - 1)) (2 ^ (nn 1 - 1) - 1) op ws [a, b] =
    res 1 (nn 1) ((cmp op a.f0 a.f1 a.f2 a.f3 b.f0 b.f1 b.f2 b.f3).1, (cmp op a.f0 a.f1 a.f2 a.f3 b.f0 b.f1 b.f2 b.f3).2.1) ((cmp op a.f0 a.f1 a.f2 a.f3 b.f0 b.f1 b.f2 b.f3).2.2.1, (cmp op a.f0 a.f1 a.f2 a.f3 b.f0 b.f1 b.f2 b.f3).2.2.2) := by
  have e : mn 1 (wrap64 ((([a, b] : List S48).length : Int) - 1)) = 1 := by show mn 1 (wrap64 (2 - 1)) = 1; decide +kernel
  have e1 : nn 1 = 1 := by decide
  have e2 : (2 : Int) ^ 1 - 1 = 1 := by decide
  have e3 : -(2 : Int) ^ (1 - 1) = -1 := by decide
  have e4 : (2 : Int) ^ (1 - 1) - 1 = 0 := by decide
  unfold interval_computer_compute.f res
  rw [e, if_pos (by simp), if_pos (by decide), if_pos (by simp), show rd_T48 [a, b] 0 = a from rfl, show rd_T48 [a, b] 1 = b from rfl, e1, e2, e3, e4, if_neg (by omega), if_neg (by omega), if_neg (by omega), if_neg (by omega), if_neg (by omega), if_neg (by omega), interval_computer_compute.j0, if_neg (by simp; omega), if_neg (by omega), if_neg (by omega), if_neg (by omega), if_neg (by omega), if_neg (by omega), interval_computer_compute.j1, if_neg (by simp; omega), if_neg (by omega), if_neg (by omega), if_neg (by omega), interval_computer_compute.j2, if_neg (by simp; omega), compare_eq' ho]
  rfl
theorem comp_sel {w : Int} {n : Nat} (ws : List Int) (a b c : S48) : interval_computer_compute.f w (2 ^ n - 1) (-2 ^ (n - 1)) (2 ^ (n - 1) - 1) 0 (2 ^ n - 1) (-2 ^ (n - 1)) (2 ^ (n - 1) - 1) 21 ws [a, b, c] =
    res w n ((core 21 n 1 (q a) (q b) (q c)).1, (core 21 n 1 (q a) (q b) (q c)).2.1) ((core 21 n 1 (q a) (q b) (q c)).2.2.1, (core 21 n 1 (q a) (q b) (q c)).2.2.2) := by
  have e : mn 1 (wrap64 ((([a, b, c] : List S48).length : Int) - 1)) = 1 := by show mn 1 (wrap64 (3 - 1)) = 1; decide +kernel
  have e2 : core 21 n 1 (q a) (q b) (q c) = if a.f0 = a.f1 then (if a.f0 = 1 then q b else q c) else join (q b) (q c) := by unfold core; rw [if_neg (by omega), if_pos rfl]; rfl
  rw [e2]
  unfold interval_computer_compute.f res
  rw [e, if_pos (by simp), if_pos (by decide), if_pos (by simp), show rd_T48 [a, b, c] 0 = a from rfl, show rd_T48 [a, b, c] 1 = b from rfl, if_neg (by decide), if_neg (by decide), if_neg (by decide), if_neg (by decide), if_neg (by decide), if_neg (by decide), interval_computer_compute.j0, if_neg (by decide), if_neg (by decide), if_neg (by decide), if_neg (by decide), if_neg (by decide), if_neg (by decide), interval_computer_compute.j1, if_neg (by decide), if_pos rfl, show rd_T48 [a, b, c] 2 = c from rfl]
  by_cases c1 : a.f0 = a.f1
  · rw [if_pos c1, if_pos c1]
    by_cases c2 : a.f0 = 1
    · rw [if_pos c2, if_pos c2]; rfl
    · rw [if_neg c2, if_neg c2, if_pos (by simp)]; rfl
  · rw [if_neg c1, if_neg c1, if_pos (by simp)]
    rfl
theorem comp_cast {op w v : Int} {n m : Nat} (hw : w = n) (hv : v = m) (hn : 1 ≤ n) (hm : 1 ≤ m) (h64 : n ≤ 64) (ho : (op = 22 ∧ m ≤ n) ∨ (op = 23 ∧ m ≤ n) ∨ (op = 24 ∧ n ≤ m)) (a : S48) (ha : BdR m (q a)) :
    interval_computer_compute.f w (2 ^ n - 1) (-2 ^ (n - 1)) (2 ^ (n - 1) - 1) 0 (2 ^ n - 1) (-2 ^ (n - 1)) (2 ^ (n - 1) - 1) op [v] [a] = res w n ((cast op n m a.f0 a.f1 a.f2 a.f3).1, (cast op n m a.f0 a.f1 a.f2 a.f3).2.1) ((cast op n m a.f0 a.f1 a.f2 a.f3).2.2.1, (cast op n m a.f0 a.f1 a.f2 a.f3).2.2.2) := by
  have e : mn 1 (wrap64 ((([a] : List S48).length : Int) - 1)) = 0 := by show mn 1 (wrap64 (1 - 1)) = 0; decide +kernel
  have hc := convert_eq hw hv hn hm h64 ho (alo := a.f0) (ahi := a.f1) (al := a.f2) (am := a.f3) ha.2 ha.1
  have ho' : op = 22 ∨ op = 23 ∨ op = 24 := by omega
  unfold interval_computer_compute.f
  rw [e, if_pos (by simp), if_pos (by decide), if_pos (by simp), show rd_T48 [a] 0 = a from rfl, if_neg (by omega), if_neg (by omega), if_neg (by omega), if_neg (by omega), if_neg (by omega), if_neg (by omega), interval_computer_compute.j0, if_neg (by simp; omega), if_neg (by omega), if_neg (by omega), if_neg (by omega), if_neg (by omega), if_neg (by omega), interval_computer_compute.j1, if_neg (by simp; omega), if_neg (by omega)]
  rcases ho' with rfl | rfl | rfl
  · rw [if_pos rfl, interval_computer_compute.j2, if_pos (by decide), if_pos (by simp), show rd [v] 0 = v from rfl, hc]; rfl
  · rw [if_neg (by decide), if_pos rfl, interval_computer_compute.j2, if_pos (by decide), if_pos (by simp), show rd [v] 0 = v from rfl, hc]; rfl
  · rw [if_neg (by decide), if_neg (by decide), interval_computer_compute.j2, if_pos (by decide), if_pos (by simp), show rd [v] 0 = v from rfl, hc]; rfl
end Go.Proofs.YthhhegblccoonaaGreatDoor.As
/- Apply, by both packages: one result. -/
namespace Go.Proofs.YthhhegblccoonaaGreatDoor.At
set_option linter.unusedVariables false
set_option linter.unusedSimpArgs false
set_option linter.unusedSectionVars false
open Go.RowKit Go.Proofs.YthhhegblccoonaaGreatDoor.P Go.Proofs.YthhhegblccoonaaGreatDoorW.PrintWords Wd Im Iv Tg Lw0 Ap Cm Cn Ev Rf Aq Ar As

/-- What the rounds lead to, for lists of one, two and three ranges. -/
def g1 (t : R) (fin : Bool → S48 → R) (v : Int) (a : S48) : R := if (tg v (q a)).2.2.2.2 = true then fin (true && ((tg v (q a)).1 == (tg v (q a)).2.1)) (ts (tg v (q a))) else t
def g2 (t : R) (fin : Bool → S48 → S48 → R) (v u : Int) (a b : S48) : R :=
  if (tg v (q a)).2.2.2.2 = true then (if (tg u (q b)).2.2.2.2 = true then fin (true && ((tg v (q a)).1 == (tg v (q a)).2.1) && ((tg u (q b)).1 == (tg u (q b)).2.1)) (ts (tg v (q a))) (ts (tg u (q b))) else t) else t
def g3 (t : R) (fin : Bool → S48 → S48 → S48 → R) (v u x : Int) (a b c : S48) : R :=
  if (tg v (q a)).2.2.2.2 = true then (if (tg u (q b)).2.2.2.2 = true then (if (tg x (q c)).2.2.2.2 = true then fin (true && ((tg v (q a)).1 == (tg v (q a)).2.1) && ((tg u (q b)).1 == (tg u (q b)).2.1) && ((tg x (q c)).1 == (tg x (q c)).2.1)) (ts (tg v (q a))) (ts (tg u (q b))) (ts (tg x (q c))) else t) else t) else t
section
variable {op w : Int} (hw : 1 ≤ w ∧ w ≤ 64)
include hw
theorem one_i {v : Int} {a : S48} (hv : 1 ≤ v ∧ v ≤ 64) (wa : Wf a) {k : Nat} (hk : 90 < k) {fin : Bool → S48 → R}
    (hf : ∀ s a', Ti v a' → interval_Apply.l0 k op w [v] s [a'] [a] 1 1 = some (fin s a')) : interval_Apply.l0 (k + 1) op w [v] true [] [a] 1 0 = some (g1 (top (nn w)) fin v a) := by
  have hQb := Q_big
  have h := step_i hw (op := op) (ws := [v]) (args := [a]) (acc := []) true (i := 0) (by simp) (by simp) (by simp) (by simp) (v := v) (a := a) rfl rfl wa (k := k) (by omega)
  refine (show _ = _ from h).trans ?_
  unfold g1
  by_cases c : (tg v (q a)).2.2.2.2 = true
  · rw [if_pos c, if_pos c]; exact hf _ _ (ti_of hv wa c)
  · rw [if_neg c, if_neg c]
theorem one_r {v num : Int} {a : S48} (hv : 1 ≤ v ∧ v ≤ 64) (wa : Wf a) {k : Nat} (hk : 90 < k) {fin : Bool → S48 → R}
    (hf : ∀ s a', Ti v a' → jacquardref13_Apply.l0 k op w [v] [a] num [a'] [a'.f0] s 1 = some (fin s a')) : jacquardref13_Apply.l0 (k + 1) op w [v] [a] num [] [] true 0 = some (g1 (top (nn w)) fin v a) := by
  have hQb := Q_big
  have h := step_r hw (op := op) (ws := [v]) (args := [a]) (acc := []) (words := []) num true (i := 0) (by simp) (by simp) (by simp) (by simp) (by simp) (v := v) (a := a) rfl rfl wa (k := k) (by omega)
  refine (show _ = _ from h).trans ?_
  unfold g1
  by_cases c : (tg v (q a)).2.2.2.2 = true
  · rw [if_pos c, if_pos c]; exact hf _ _ (ti_of hv wa c)
  · rw [if_neg c, if_neg c]
theorem two_i {v u : Int} {a b : S48} (hv : 1 ≤ v ∧ v ≤ 64) (hu : 1 ≤ u ∧ u ≤ 64) (wa : Wf a) (wb : Wf b) {k : Nat} (hk : 90 < k) {fin : Bool → S48 → S48 → R}
    (hf : ∀ s a' b', Ti v a' → Ti u b' → interval_Apply.l0 k op w [v, u] s [a', b'] [a, b] 2 2 = some (fin s a' b')) : interval_Apply.l0 (k + 2) op w [v, u] true [] [a, b] 2 0 = some (g2 (top (nn w)) fin v u a b) := by
  have hQb := Q_big
  have h := step_i hw (op := op) (ws := [v, u]) (args := [a, b]) (acc := []) true (i := 0) (by simp) (by simp) (by simp) (by simp) (v := v) (a := a) rfl rfl wa (k := k + 1) (by omega)
  refine (show _ = _ from h).trans ?_
  unfold g2
  by_cases c : (tg v (q a)).2.2.2.2 = true
  · rw [if_pos c, if_pos c]
    have h2 := step_i hw (op := op) (ws := [v, u]) (args := [a, b]) (acc := [ts (tg v (q a))]) (true && ((tg v (q a)).1 == (tg v (q a)).2.1)) (i := 1) (by simp) (by simp) (by simp) (by simp) (v := u) (a := b) rfl rfl wb (k := k) (by omega)
    refine (show _ = _ from h2).trans ?_
    by_cases c2 : (tg u (q b)).2.2.2.2 = true
    · rw [if_pos c2, if_pos c2]; exact hf _ _ _ (ti_of hv wa c) (ti_of hu wb c2)
    · rw [if_neg c2, if_neg c2]
  · rw [if_neg c, if_neg c]
theorem two_r {v u num : Int} {a b : S48} (hv : 1 ≤ v ∧ v ≤ 64) (hu : 1 ≤ u ∧ u ≤ 64) (wa : Wf a) (wb : Wf b) {k : Nat} (hk : 90 < k) {fin : Bool → S48 → S48 → R}
    (hf : ∀ s a' b', Ti v a' → Ti u b' → jacquardref13_Apply.l0 k op w [v, u] [a, b] num [a', b'] [a'.f0, b'.f0] s 2 = some (fin s a' b')) : jacquardref13_Apply.l0 (k + 2) op w [v, u] [a, b] num [] [] true 0 = some (g2 (top (nn w)) fin v u a b) := by
  have hQb := Q_big
  have h := step_r hw (op := op) (ws := [v, u]) (args := [a, b]) (acc := []) (words := []) num true (i := 0) (by simp) (by simp) (by simp) (by simp) (by simp) (v := v) (a := a) rfl rfl wa (k := k + 1) (by omega)
  refine (show _ = _ from h).trans ?_
  unfold g2
  by_cases c : (tg v (q a)).2.2.2.2 = true
  · rw [if_pos c, if_pos c]
    have h2 := step_r hw (op := op) (ws := [v, u]) (args := [a, b]) (acc := [ts (tg v (q a))]) (words := [(tg v (q a)).1]) num (true && ((tg v (q a)).1 == (tg v (q a)).2.1)) (i := 1) (by simp) (by simp) (by simp) (by simp) (by simp) (v := u) (a := b) rfl rfl wb (k := k) (by omega)
    refine (show _ = _ from h2).trans ?_
    by_cases c2 : (tg u (q b)).2.2.2.2 = true
    · rw [if_pos c2, if_pos c2]; exact hf _ _ _ (ti_of hv wa c) (ti_of hu wb c2)
    · rw [if_neg c2, if_neg c2]
  · rw [if_neg c, if_neg c]
theorem three_i {v u x : Int} {a b d : S48} (hv : 1 ≤ v ∧ v ≤ 64) (hu : 1 ≤ u ∧ u ≤ 64) (hx : 1 ≤ x ∧ x ≤ 64) (wa : Wf a) (wb : Wf b) (wd : Wf d) {k : Nat} (hk : 90 < k) {fin : Bool → S48 → S48 → S48 → R}
    (hf : ∀ s a' b' d', Ti v a' → Ti u b' → Ti x d' → interval_Apply.l0 k op w [v, u, x] s [a', b', d'] [a, b, d] 3 3 = some (fin s a' b' d')) : interval_Apply.l0 (k + 3) op w [v, u, x] true [] [a, b, d] 3 0 = some (g3 (top (nn w)) fin v u x a b d) := by
  have hQb := Q_big
  have h := step_i hw (op := op) (ws := [v, u, x]) (args := [a, b, d]) (acc := []) true (i := 0) (by simp) (by simp) (by simp) (by simp) (v := v) (a := a) rfl rfl wa (k := k + 2) (by omega)
  refine (show _ = _ from h).trans ?_
  unfold g3
  by_cases c : (tg v (q a)).2.2.2.2 = true
  · rw [if_pos c, if_pos c]
    have h2 := step_i hw (op := op) (ws := [v, u, x]) (args := [a, b, d]) (acc := [ts (tg v (q a))]) (true && ((tg v (q a)).1 == (tg v (q a)).2.1)) (i := 1) (by simp) (by simp) (by simp) (by simp) (v := u) (a := b) rfl rfl wb (k := k + 1) (by omega)
    refine (show _ = _ from h2).trans ?_
    by_cases c2 : (tg u (q b)).2.2.2.2 = true
    · rw [if_pos c2, if_pos c2]
      have h3 := step_i hw (op := op) (ws := [v, u, x]) (args := [a, b, d]) (acc := [ts (tg v (q a)), ts (tg u (q b))]) (true && ((tg v (q a)).1 == (tg v (q a)).2.1) && ((tg u (q b)).1 == (tg u (q b)).2.1)) (i := 2) (by simp) (by simp) (by simp) (by simp) (v := x) (a := d) rfl rfl wd (k := k) (by omega)
      refine (show _ = _ from h3).trans ?_
      by_cases c3 : (tg x (q d)).2.2.2.2 = true
      · rw [if_pos c3, if_pos c3]; exact hf _ _ _ _ (ti_of hv wa c) (ti_of hu wb c2) (ti_of hx wd c3)
      · rw [if_neg c3, if_neg c3]
    · rw [if_neg c2, if_neg c2]
  · rw [if_neg c, if_neg c]
theorem three_r {v u x num : Int} {a b d : S48} (hv : 1 ≤ v ∧ v ≤ 64) (hu : 1 ≤ u ∧ u ≤ 64) (hx : 1 ≤ x ∧ x ≤ 64) (wa : Wf a) (wb : Wf b) (wd : Wf d) {k : Nat} (hk : 90 < k) {fin : Bool → S48 → S48 → S48 → R}
    (hf : ∀ s a' b' d', Ti v a' → Ti u b' → Ti x d' → jacquardref13_Apply.l0 k op w [v, u, x] [a, b, d] num [a', b', d'] [a'.f0, b'.f0, d'.f0] s 3 = some (fin s a' b' d')) : jacquardref13_Apply.l0 (k + 3) op w [v, u, x] [a, b, d] num [] [] true 0 = some (g3 (top (nn w)) fin v u x a b d) := by
  have hQb := Q_big
  have h := step_r hw (op := op) (ws := [v, u, x]) (args := [a, b, d]) (acc := []) (words := []) num true (i := 0) (by simp) (by simp) (by simp) (by simp) (by simp) (v := v) (a := a) rfl rfl wa (k := k + 2) (by omega)
  refine (show _ = _ from h).trans ?_
  unfold g3
  by_cases c : (tg v (q a)).2.2.2.2 = true
  · rw [if_pos c, if_pos c]
    have h2 := step_r hw (op := op) (ws := [v, u, x]) (args := [a, b, d]) (acc := [ts (tg v (q a))]) (words := [(tg v (q a)).1]) num (true && ((tg v (q a)).1 == (tg v (q a)).2.1)) (i := 1) (by simp) (by simp) (by simp) (by simp) (by simp) (v := u) (a := b) rfl rfl wb (k := k + 1) (by omega)
    refine (show _ = _ from h2).trans ?_
    by_cases c2 : (tg u (q b)).2.2.2.2 = true
    · rw [if_pos c2, if_pos c2]
      have h3 := step_r hw (op := op) (ws := [v, u, x]) (args := [a, b, d]) (acc := [ts (tg v (q a)), ts (tg u (q b))]) (words := [(tg v (q a)).1, (tg u (q b)).1]) num (true && ((tg v (q a)).1 == (tg v (q a)).2.1) && ((tg u (q b)).1 == (tg u (q b)).2.1)) (i := 2) (by simp) (by simp) (by simp) (by simp) (by simp) (v := x) (a := d) rfl rfl wd (k := k) (by omega)
      refine (show _ = _ from h3).trans ?_
      by_cases c3 : (tg x (q d)).2.2.2.2 = true
      · rw [if_pos c3, if_pos c3]; exact hf _ _ _ _ (ti_of hv wa c) (ti_of hu wb c2) (ti_of hx wd c3)
      · rw [if_neg c3, if_neg c3]
    · rw [if_neg c2, if_neg c2]
  · rw [if_neg c, if_neg c]
end
end Go.Proofs.YthhhegblccoonaaGreatDoor.At
/- Apply, by both packages: one result. -/
namespace Go.Proofs.YthhhegblccoonaaGreatDoor.Au
set_option linter.unusedVariables false
set_option linter.unusedSimpArgs false
set_option linter.unusedSectionVars false
open Go.RowKit Go.Proofs.YthhhegblccoonaaGreatDoor.P Go.Proofs.YthhhegblccoonaaGreatDoorW.PrintWords Wd Im Iv Tg Lw0 Ap Cm Cn Ev Rf Aq Ar As At

/-- What the rounds end in. -/
def e1 (op w v : Int) (s : Bool) (a : S48) : R := if s = true then one (nn w) (castv op (nn w) (nn v) a.f0) else fitr w (core op (nn w) (nn v) (q a) (q a) (q a))
def e2 (op w v : Int) (s : Bool) (a b : S48) : R := if s = true then one (nn w) (if op ≤ 14 then bin op (nn w) a.f0 b.f0 else bin op (nn v) a.f0 b.f0) else fitr w (core op (nn w) (nn v) (q a) (q b) (q b))
def e3 (op w v : Int) (s : Bool) (a b d : S48) : R := if s = true then one (nn w) (if a.f0 = 1 then b.f0 else d.f0) else fitr w (core op (nn w) (nn v) (q a) (q b) (q d))
def ap (op w : Int) (ws : List Int) (args : List S48) (num : Int) : R :=
  match ws, args with
  | [v], [a] => g1 (top (nn w)) (e1 op w v) v a
  | [v, u], [a, b] => g2 (top (nn w)) (e2 op w v) v u a b
  | [v, u, x], [a, b, d] => g3 (top (nn w)) (e3 op w v) v u x a b d
  | _, _ => one (nn w) num
theorem core_two {op : Int} (ho : 2 ≤ op ∧ op ≤ 14) (n m : Nat) (a b c : R) : core op n m a b c = ((U op n a.1 a.2.1 b.1 b.2.1).1, (U op n a.1 a.2.1 b.1 b.2.1).2, (S op n a.2.2.1 a.2.2.2 b.2.2.1 b.2.2.2 b.1 b.2.1).1, (S op n a.2.2.1 a.2.2.2 b.2.2.1 b.2.2.2 b.1 b.2.1).2) := by
  unfold core; rw [if_neg (by omega), if_neg (by omega), if_neg (by omega)]
theorem core_cmp {op : Int} (ho : 15 ≤ op ∧ op ≤ 20) (n m : Nat) (a b c : R) : core op n m a b c = cmp op a.1 a.2.1 a.2.2.1 a.2.2.2 b.1 b.2.1 b.2.2.1 b.2.2.2 := by
  unfold core; rw [if_pos ho]
theorem core_cast {op : Int} (ho : 22 ≤ op) (n m : Nat) (a b c : R) : core op n m a b c = cast op n m a.1 a.2.1 a.2.2.1 a.2.2.2 := by
  unfold core; rw [if_neg (by omega), if_neg (by omega), if_pos ho]
theorem core_sel (n m : Nat) (a b c : R) : core 21 n m a b c = if a.1 = a.2.1 then (if a.1 = 1 then b else c) else join b c := by
  unfold core; rw [if_neg (by omega), if_pos rfl]
theorem bin_word {op : Int} {v : Int} (hv : 1 ≤ v ∧ v ≤ 64) {a b : S48} (ha : Ti v a) (hb : Ti v b) : 0 ≤ bin op (nn v) a.f0 b.f0 ∧ bin op (nn v) a.f0 b.f0 < 18446744073709551616 := by
  have hn := nn_of (w := v) (by omega) hv.2
  have h1 := word_of ha
  have h2 := word_of hb
  have := bin_range (op := op) (n := nn v) (by omega) h1.1 h1.2 h2.1 h2.2
  have := pow_le (nn_le v)
  omega
theorem bd_I {v : Int} {a : S48} (ha : Ti v a) : I64 a.f2 ∧ I64 a.f3 := by
  obtain ⟨hv, hb, _⟩ := ha
  exact bd_i64 (nn_le v) hb
theorem cast_range {op w v : Int} (hw : 1 ≤ w ∧ w ≤ 64) {a : S48} (ha : Ti v a) : 0 ≤ (cast op (nn w) (nn v) a.f0 a.f1 a.f2 a.f3).1 ∧ I64 (cast op (nn w) (nn v) a.f0 a.f1 a.f2 a.f3).2.2.1 ∧ I64 (cast op (nn w) (nn v) a.f0 a.f1 a.f2 a.f3).2.2.2 ∨ (op = 22 ∧ nn w < nn v) := by
  have hi := bd_I ha
  obtain ⟨hv, hb, h0⟩ := ha
  have hnw := nn_of (w := w) (by omega) hw.2
  have hp := pow_le63 (n := nn w - 1) (by have := nn_le w; omega)
  have hpp := pow_pos (nn w - 1)
  have h0 : 0 ≤ a.f0 := h0
  have hb : Bd (nn v) a.f0 a.f1 a.f2 a.f3 := hb
  unfold Ap.cast
  by_cases c : nn w = nn v
  · rw [if_pos c]; exact .inl ⟨h0, hi.1, hi.2⟩
  · rw [if_neg c]
    by_cases c2 : op = 22
    · rw [if_pos c2]
      rcases Nat.lt_or_ge (nn w) (nn v) with h | h
      · exact .inr ⟨c2, h⟩
      · left
        have := pow_le63 (n := nn v) (by have := nn_le w; omega)
        have h1 := hb.h1
        have h2 := hb.h2
        exact ⟨h0, by unfold I64; simp only []; omega, by unfold I64; simp only []; omega⟩
    · rw [if_neg c2]
      left
      by_cases c3 : op = 23
      · rw [if_pos c3]; exact ⟨Int.le_refl 0, hi.1, hi.2⟩
      · rw [if_neg c3]
        refine ⟨?_, ?_, ?_⟩
        · simp only []; split
          · exact h0
          · exact Int.le_refl 0
        · simp only []; split
          · exact hi.1
          · unfold I64; omega
        · simp only []; split
          · exact hi.2
          · unfold I64; omega
section
variable {op w num : Int} {ws : List Int} {args : List S48} (hs : Sh op w ws) (hl : args.length = ws.length) (hwf : ∀ a ∈ args, Wf a) (hnum : 0 ≤ num ∧ num < 18446744073709551616)
include hs hl hwf hnum
theorem ap_i {k : Nat} (hk : 100 < k) : interval_Apply.j0 (k + 5) op w ws args num false = some (ap op w ws args num) := by
  have hQb := Q_big
  obtain ⟨hw, hws, hs⟩ := hs
  have hn := nn_of (w := w) (by omega) hw.2
  have h64 := nn_le w
  have hwn : w = (nn w : Int) := hn.symm
  rw [interval_Apply.j0, if_neg (by decide)]
  rcases hs with ⟨rfl, rfl⟩ | ⟨ho, rfl⟩ | ⟨ho, rfl, v, rfl⟩ | ⟨rfl, rfl⟩ | ⟨ho, v, rfl, hle⟩ | ⟨ho, v, rfl, hle⟩
  · rw [if_pos rfl, of_i hw hnum]
    match args, hl with
    | [], _ => rfl
  · match args, hl with
    | [a, b], _ =>
      rw [if_neg (by omega)]
      have hh : ∀ s a' b', Ti w a' → Ti w b' → interval_Apply.l0 (k + 2) op w [w, w] s [a', b'] [a, b] 2 2 = some (e2 op w w s a' b') := ?_
      · exact two_i (op := op) hw hw hw (hwf a (by simp)) (hwf b (by simp)) (k := k + 2) (by omega) hh
      intro s a' b' ha hb
      unfold e2
      cases s
      · have hsu := su (n := nn w) (by omega) h64 (alo := a'.f0) (blo := b'.f0) ha.2.2 hb.2.2 ha.2.1 hb.2.1 ho
        have e := fin_many_i hw (op := op) (ws := [w, w]) (args := [a, b]) (acc := [a', b']) (i := 2) (by simp) (k := k + 1) (by omega) (by
          obtain ⟨k, rfl⟩ : ∃ m, k = m + 12 := ⟨k - 12, by omega⟩
          exact two_eq hwn (by omega) h64 ho [w, w] a' b' ha.2 hb.2) hsu.1 hsu.2
        refine (show _ = _ from e).trans ?_
        rw [if_neg (by decide), core_two ho]; rfl
      · have hv := value_two (op := op) (w := w) hw (by omega) ha hb (by omega)
        have e := fin_one_i hw (op := op) (ws := [w, w]) (args := [a, b]) (acc := [a', b']) (i := 2) (by simp) (k := k + 1) hv (bin_word hw ha hb)
        refine (show _ = _ from e).trans ?_
        rw [if_pos rfl, if_pos ho.2]
  · match args, hl with
    | [a, b], _ =>
      have hv : 1 ≤ v ∧ v ≤ 64 := hws v (by simp)
      rw [if_neg (by omega)]
      have hh : ∀ s a' b', Ti v a' → Ti v b' → interval_Apply.l0 (k + 2) op 1 [v, v] s [a', b'] [a, b] 2 2 = some (e2 op 1 v s a' b') := ?_
      · exact two_i (op := op) hw hv hv (hwf a (by simp)) (hwf b (by simp)) (k := k + 2) (by omega) hh
      intro s a' b' ha hb
      unfold e2
      cases s
      · have hr := cmp_range ho a'.f0 a'.f1 a'.f2 a'.f3 b'.f0 b'.f1 b'.f2 b'.f3
        have e := fin_many_i hw (op := op) (ws := [v, v]) (args := [a, b]) (acc := [a', b']) (i := 2) (by simp) (k := k + 1) (by omega) (by
          obtain ⟨k, rfl⟩ : ∃ m, k = m + 12 := ⟨k - 12, by omega⟩
          exact comp_cmp ho [v, v] a' b') hr.1 hr.2
        refine (show _ = _ from e).trans ?_
        rw [if_neg (by decide), core_cmp ho]; rfl
      · have hv2 := value_two (op := op) (w := 1) hv (by omega) ha hb (by omega)
        have e := fin_one_i hw (op := op) (ws := [v, v]) (args := [a, b]) (acc := [a', b']) (i := 2) (by simp) (k := k + 1) hv2 (bin_word hv ha hb)
        refine (show _ = _ from e).trans ?_
        rw [if_pos rfl, if_neg (by omega)]
  · match args, hl with
    | [a, b, d], _ =>
      rw [if_neg (by decide)]
      have hh : ∀ s a' b' d', Ti 1 a' → Ti w b' → Ti w d' → interval_Apply.l0 (k + 1) 21 w [1, w, w] s [a', b', d'] [a, b, d] 3 3 = some (e3 21 w 1 s a' b' d') := ?_
      · exact three_i (op := 21) (v := 1) hw (by decide) hw hw (hwf a (by simp)) (hwf b (by simp)) (hwf d (by simp)) (k := k + 1) (by omega) hh
      intro s a' b' d' ha hb hd
      unfold e3
      cases s
      · have hr : 0 ≤ (core 21 (nn w) 1 (q a') (q b') (q d')).1 ∧ I64 (core 21 (nn w) 1 (q a') (q b') (q d')).2.2.1 ∧ I64 (core 21 (nn w) 1 (q a') (q b') (q d')).2.2.2 := by
          have ib := bd_I hb
          have id := bd_I hd
          have zb := hb.2.2
          have zd := hd.2.2
          have f1 := mn_facts b'.f0 d'.f0
          have f3 := mn_facts b'.f2 d'.f2
          have f4 := mx_facts b'.f3 d'.f3
          rw [core_sel]
          split
          · split
            · exact ⟨zb, ib.1, ib.2⟩
            · exact ⟨zd, id.1, id.2⟩
          · unfold I64 at *
            simp only [join, q] at *
            omega
        have e := fin_many_i hw (op := 21) (ws := [1, w, w]) (args := [a, b, d]) (acc := [a', b', d']) (i := 3) (by simp) (k := k) (by omega) (by
          obtain ⟨k, rfl⟩ : ∃ m, k = m + 12 := ⟨k - 12, by omega⟩
          exact comp_sel [1, w, w] a' b' d') hr.1 hr.2
        refine (show _ = _ from e).trans ?_
        rw [if_neg (by decide)]; rfl
      · have hv2 := value_sel (w := w) (ws := [1, w, w]) (b := b') (c := d') ha
        have zb := word_of hb
        have zd := word_of hd
        have := pow_le (nn_le w)
        have e := fin_one_i hw (op := 21) (ws := [1, w, w]) (args := [a, b, d]) (acc := [a', b', d']) (i := 3) (by simp) (k := k) hv2 (by split <;> omega)
        refine (show _ = _ from e).trans ?_
        rw [if_pos rfl]
  all_goals
    match args, hl with
    | [a], _ =>
      have hv : 1 ≤ v ∧ v ≤ 64 := hws v (by simp)
      have hnv := nn_of (w := v) (by omega) hv.2
      rw [if_neg (by omega)]
      have hh : ∀ s a', Ti v a' → interval_Apply.l0 (k + 3) op w [v] s [a'] [a] 1 1 = some (e1 op w v s a') := ?_
      · exact one_i (op := op) hw hv (hwf a (by simp)) (k := k + 3) (by omega) hh
      intro s a' ha
      unfold e1
      have ho' : (op = 22 ∧ nn v ≤ nn w) ∨ (op = 23 ∧ nn v ≤ nn w) ∨ (op = 24 ∧ nn w ≤ nn v) := by omega
      cases s
      · have hr : 0 ≤ (cast op (nn w) (nn v) a'.f0 a'.f1 a'.f2 a'.f3).1 ∧ I64 (cast op (nn w) (nn v) a'.f0 a'.f1 a'.f2 a'.f3).2.2.1 ∧ I64 (cast op (nn w) (nn v) a'.f0 a'.f1 a'.f2 a'.f3).2.2.2 := by
          rcases cast_range (op := op) hw ha with h | h
          · exact h
          · omega
        have e := fin_many_i hw (op := op) (ws := [v]) (args := [a]) (acc := [a']) (i := 1) (by simp) (k := k + 2) (by omega) (by
          obtain ⟨k, rfl⟩ : ∃ m, k = m + 12 := ⟨k - 12, by omega⟩
          exact comp_cast hwn hnv.symm (by omega) (by omega) h64 ho' a' ha.2) hr.1 hr.2
        refine (show _ = _ from e).trans ?_
        rw [if_neg (by decide), core_cast (by omega)]; rfl
      · obtain ⟨x, h1, h2, h3⟩ := value_cast (op := op) (v := v) hw (by omega) ha (by omega)
        have e := fin_one_i hw (op := op) (ws := [v]) (args := [a]) (acc := [a']) (i := 1) (by simp) (k := k + 2) h1 h2
        refine (show _ = _ from e).trans ?_
        rw [if_pos rfl, h3]
end
end Go.Proofs.YthhhegblccoonaaGreatDoor.Au
/- Apply of the reference: the same result. -/
namespace Go.Proofs.YthhhegblccoonaaGreatDoor.Av
set_option linter.unusedVariables false
set_option linter.unusedSimpArgs false
set_option linter.unusedSectionVars false
open Go.RowKit Go.Proofs.YthhhegblccoonaaGreatDoor.P Go.Proofs.YthhhegblccoonaaGreatDoorW.PrintWords Wd Im Iv Tg Lw0 Ap Cm Cn Ev Rf Aq Ar As At Au

section
variable {op w num : Int} {ws : List Int} {args : List S48} (hs : Sh op w ws) (hl : args.length = ws.length) (hwf : ∀ a ∈ args, Wf a) (hnum : 0 ≤ num ∧ num < 18446744073709551616)
include hs hl hwf hnum
theorem ap_r {k : Nat} (hk : 120 < k) : jacquardref13_Apply.j0 (k + 9) op w ws args num false = some (ap op w ws args num) := by
  have hQb := Q_big
  obtain ⟨hw, hws, hs⟩ := hs
  have hn := nn_of (w := w) (by omega) hw.2
  have h64 := nn_le w
  have hwn : w = (nn w : Int) := hn.symm
  have hpw := pow_le h64
  rw [jacquardref13_Apply.j0, if_neg (by decide)]
  rcases hs with ⟨rfl, rfl⟩ | ⟨ho, rfl⟩ | ⟨ho, rfl, v, rfl⟩ | ⟨rfl, rfl⟩ | ⟨ho, v, rfl, hle⟩ | ⟨ho, v, rfl, hle⟩
  · match args, hl with
    | [], _ =>
      have e := fin_one_r hw (op := 1) (ws := []) (args := []) (acc := []) (words := []) (num := num) (i := 0) (by simp) (k := k + 7) (by omega) (eval_const hwn h64 [] [] hnum (by omega)) (mod_U h64 num)
      refine (show _ = _ from e).trans ?_
      show some (one (nn w) (num % 2 ^ nn w)) = some (one (nn w) num)
      unfold one; rw [sg_fit, Int.emod_emod_of_dvd _ (Int.dvd_refl _)]
  · match args, hl with
    | [a, b], _ =>
      have hh : ∀ s a' b', Ti w a' → Ti w b' → jacquardref13_Apply.l0 (k + 6) op w [w, w] [a, b] num [a', b'] [a'.f0, b'.f0] s 2 = some (e2 op w w s a' b') := ?_
      · exact two_r (op := op) hw hw hw (hwf a (by simp)) (hwf b (by simp)) (k := k + 6) (by omega) hh
      intro s a' b' ha hb
      unfold e2
      cases s
      · have hsu := su (n := nn w) (by omega) h64 (alo := a'.f0) (ahi := a'.f1) (al := a'.f2) (am := a'.f3) (blo := b'.f0) (bhi := b'.f1) (bl := b'.f2) (bm := b'.f3) ha.2.2 hb.2.2 ha.2.1 hb.2.1 ho
        have hU := unsigned_eq hwn (by omega) h64 (alo := a'.f0) (ahi := a'.f1) (al := a'.f2) (am := a'.f3) (blo := b'.f0) (bhi := b'.f1) (bl := b'.f2) (bm := b'.f3) ha.2.2 hb.2.2 ha.2.1 hb.2.1 (by omega) ho
        have hS := signed_eq' hwn (by omega) h64 (alo := a'.f0) (ahi := a'.f1) (al := a'.f2) (am := a'.f3) (blo := b'.f0) (bhi := b'.f1) (bl := b'.f2) (bm := b'.f3) ha.2.2 hb.2.2 ha.2.1 hb.2.1 (by omega) ho
        have hj : ∀ b, b = false → jacquardref13_Apply.j2 (k + 5) op w [w, w] [a', b'] b = some (fitr w (core op (nn w) (nn w) (q a') (q b') (q b'))) := by
          intro b hb
          subst hb
          rw [jacquardref13_Apply.j2, if_neg (by decide), if_neg (by omega), jacquardref13_Apply.j3, if_neg (by decide), if_neg (by omega), if_neg (by simp), if_pos (by simp), if_pos (by simp), show rd_T48 [a', b'] 0 = a' from rfl, show rd_T48 [a', b'] 1 = b' from rfl, hU, Option.bind_some, hS, Option.bind_some]
          have e := fit_r hw (r := ((U op (nn w) a'.f0 a'.f1 b'.f0 b'.f1).1, (U op (nn w) a'.f0 a'.f1 b'.f0 b'.f1).2, (S op (nn w) a'.f2 a'.f3 b'.f2 b'.f3 b'.f0 b'.f1).1, (S op (nn w) a'.f2 a'.f3 b'.f2 b'.f3 b'.f0 b'.f1).2)) hsu.1 hsu.2 (k := k + 2) (by omega)
          rw [core_two ho]
          exact e
        rw [jacquardref13_Apply.l0, if_neg (by simp), if_neg (by decide), if_neg (by omega), if_neg (by decide), hj _ rfl]
      · have e := fin_one_r hw (op := op) (ws := [w, w]) (args := [a, b]) (acc := [a', b']) (words := [a'.f0, b'.f0]) (num := num) (i := 2) (by simp) (k := k + 5) (by omega) (eval_bin hwn (by omega) h64 ho [w, w] (word_of ha) (word_of hb) num (by omega)) (bin_word hw ha hb)
        refine (show _ = _ from e).trans ?_
        rw [if_pos rfl, if_pos ho.2]
  · match args, hl with
    | [a, b], _ =>
      have hv : 1 ≤ v ∧ v ≤ 64 := hws v (by simp)
      have hnv := nn_of (w := v) (by omega) hv.2
      have hh : ∀ s a' b', Ti v a' → Ti v b' → jacquardref13_Apply.l0 (k + 6) op 1 [v, v] [a, b] num [a', b'] [a'.f0, b'.f0] s 2 = some (e2 op 1 v s a' b') := ?_
      · exact two_r (op := op) hw hv hv (hwf a (by simp)) (hwf b (by simp)) (k := k + 6) (by omega) hh
      intro s a' b' ha hb
      unfold e2
      cases s
      · rw [jacquardref13_Apply.l0, if_neg (by simp), if_neg (by decide), if_pos (show op ≥ 15 from ho.1), decide_eq_true ho.2, jacquardref13_Apply.j2, if_pos rfl, if_pos (by simp), if_pos (by simp), show rd_T48 [a', b'] 0 = a' from rfl, show rd_T48 [a', b'] 1 = b' from rfl, rcompare ho _ _ _ _ _ _ _ _ (by omega), Option.bind_some, if_neg (by decide), core_cmp ho]
        have e1 : nn 1 = 1 := by decide
        exact congrArg some (fit_cmp ho _ _ _ _ _ _ _ _).symm
      · have e := fin_one_r hw (op := op) (ws := [v, v]) (args := [a, b]) (acc := [a', b']) (words := [a'.f0, b'.f0]) (num := num) (i := 2) (by simp) (k := k + 5) (by omega) (eval_cmp ho 1 hnv.symm (by omega) (nn_le v) (word_of ha) (word_of hb) num (by omega)) (bin_word hv ha hb)
        refine (show _ = _ from e).trans ?_
        rw [if_pos rfl, if_neg (by omega)]
  · match args, hl with
    | [a, b, d], _ =>
      have hh : ∀ s a' b' d', Ti 1 a' → Ti w b' → Ti w d' → jacquardref13_Apply.l0 (k + 5) 21 w [1, w, w] [a, b, d] num [a', b', d'] [a'.f0, b'.f0, d'.f0] s 3 = some (e3 21 w 1 s a' b' d') := ?_
      · exact three_r (op := 21) (v := 1) hw (by decide) hw hw (hwf a (by simp)) (hwf b (by simp)) (hwf d (by simp)) (k := k + 5) (by omega) hh
      intro s a' b' d' ha hb hd
      unfold e3
      have ib := bd_I hb
      have id := bd_I hd
      have zb := hb.2.2
      have zd := hd.2.2
      cases s
      · have wa := word_of ha
        have e1 : nn 1 = 1 := by decide
        rw [e1] at wa
        have hx : a'.f0 = 0 ∨ a'.f0 = 1 := by omega
        rw [jacquardref13_Apply.l0, if_neg (by simp), if_neg (by decide), if_pos (by decide), show decide ((21 : Int) ≤ 20) = false from rfl, jacquardref13_Apply.j2, if_neg (by decide), if_pos rfl, if_pos (by simp), show rd_T48 [a', b', d'] 0 = a' from rfl, jacquardref13_Apply.j3, if_neg (show ¬ (false = true) by decide), core_sel]
        by_cases c : a'.f0 = a'.f1
        · rw [if_pos (by simpa using c), if_pos (by simp), show rd_T48 [a', b', d'] 0 = a' from rfl]
          show _ = some (fitr w (if a'.f0 = a'.f1 then (if a'.f0 = 1 then q b' else q d') else join (q b') (q d')))
          rw [if_pos c]
          rcases hx with hx | hx
          · rw [hx, show wrap64 (2 - wrap64 0) = 2 by decide +kernel, if_pos (by decide), if_pos (by simp), show rd_T48 [a', b', d'] 2 = d' from rfl, if_neg (by decide)]
            exact fit_r hw (r := q d') zd id (k := k + 1) (by omega)
          · rw [hx, show wrap64 (2 - wrap64 1) = 1 by decide +kernel, if_pos (by decide), if_pos (by simp), show rd_T48 [a', b', d'] 1 = b' from rfl, if_pos rfl]
            exact fit_r hw (r := q b') zb ib (k := k + 1) (by omega)
        · rw [if_neg (by simpa using c), if_pos rfl, if_pos (by simp), if_pos (by simp), show rd_T48 [a', b', d'] 1 = b' from rfl, show rd_T48 [a', b', d'] 2 = d' from rfl]
          show _ = some (fitr w (if a'.f0 = a'.f1 then (if a'.f0 = 1 then q b' else q d') else join (q b') (q d')))
          rw [if_neg c]
          have f1 := mn_facts b'.f0 d'.f0
          have f3 := mn_facts b'.f2 d'.f2
          have f4 := mx_facts b'.f3 d'.f3
          have hr : 0 ≤ (join (q b') (q d')).1 ∧ I64 (join (q b') (q d')).2.2.1 ∧ I64 (join (q b') (q d')).2.2.2 := by
            unfold I64 at *
            simp only [join, q] at *
            omega
          exact fit_r hw (r := join (q b') (q d')) hr.1 hr.2 (k := k + 1) (by omega)
      · have wb := word_of hb
        have wd := word_of hd
        have e := fin_one_r hw (op := 21) (ws := [1, w, w]) (args := [a, b, d]) (acc := [a', b', d']) (words := [a'.f0, b'.f0, d'.f0]) (num := num) (i := 3) (by simp) (k := k + 4) (by omega) (eval_select w [1, w, w] a'.f0 b'.f0 d'.f0 num (by omega)) (by split <;> omega)
        refine (show _ = _ from e).trans ?_
        rw [if_pos rfl]
  all_goals
    match args, hl with
    | [a], _ =>
      have hv : 1 ≤ v ∧ v ≤ 64 := hws v (by simp)
      have hnv := nn_of (w := v) (by omega) hv.2
      have hh : ∀ s a', Ti v a' → jacquardref13_Apply.l0 (k + 7) op w [v] [a] num [a'] [a'.f0] s 1 = some (e1 op w v s a') := ?_
      · exact one_r (op := op) hw hv (hwf a (by simp)) (k := k + 7) (by omega) hh
      intro s a' ha
      unfold e1
      have ho' : (op = 22 ∧ nn v ≤ nn w) ∨ (op = 23 ∧ nn v ≤ nn w) ∨ (op = 24 ∧ nn w ≤ nn v) := by omega
      cases s
      · have hr : 0 ≤ (cast op (nn w) (nn v) a'.f0 a'.f1 a'.f2 a'.f3).1 ∧ I64 (cast op (nn w) (nn v) a'.f0 a'.f1 a'.f2 a'.f3).2.2.1 ∧ I64 (cast op (nn w) (nn v) a'.f0 a'.f1 a'.f2 a'.f3).2.2.2 := by
          rcases cast_range (op := op) hw ha with h | h
          · exact h
          · omega
        rw [jacquardref13_Apply.l0, if_neg (by simp), if_neg (by decide), if_pos (by omega), decide_eq_false (by omega), jacquardref13_Apply.j2, if_neg (by decide), if_neg (by omega), jacquardref13_Apply.j3, if_neg (by decide), if_neg (by omega), if_pos (by simp), if_pos (by simp), if_pos (by simp), show rd [v] 0 = v from rfl, show rd_T48 [a'] 0 = a' from rfl, rcast hwn hnv.symm (by omega) (by omega) h64 ho' (alo := a'.f0) (ahi := a'.f1) (al := a'.f2) (am := a'.f3) ha.2.2 ha.2.1 (by omega), Option.bind_some, if_neg (by decide), core_cast (by omega)]
        exact fit_r hw (r := cast op (nn w) (nn v) a'.f0 a'.f1 a'.f2 a'.f3) hr.1 hr.2 (k := k + 3) (by omega)
      · have hc : 0 ≤ castv op (nn w) (nn v) a'.f0 ∧ castv op (nn w) (nn v) a'.f0 < 18446744073709551616 := by
          unfold castv; split
          · exact mod_U h64 _
          · exact mod_U h64 _
        have e := fin_one_r hw (op := op) (ws := [v]) (args := [a]) (acc := [a']) (words := [a'.f0]) (num := num) (i := 1) (by simp) (k := k + 6) (by omega) (eval_cast (by omega) hwn (by omega) h64 hnv.symm (by omega) (nn_le v) (word_of ha) num (by omega)) hc
        refine (show _ = _ from e).trans ?_
        rw [if_pos rfl]
end
/-- The range of a width that is none. -/
def topx (w : Int) : R := if 1 ≤ w ∧ w ≤ 64 then top (nn w) else (0, 0, 0, 0)
theorem topx_i (w : Int) : interval_Top.f w = some (topx w) := top_eq w
theorem topx_r (w : Int) (hk : 72 < Q) : jacquardref13_Top.f w = some (topx w) := by
  unfold topx
  by_cases c : 1 ≤ w ∧ w ≤ 64
  · have hn := nn_of (w := w) (by omega) c.2
    rw [if_pos c, rtop (w := w) (n := nn w) hn.symm (by omega) (nn_le w) (by omega)]
  · rw [if_neg c]
    unfold jacquardref13_Top.f
    by_cases c1 : w < 1
    · rw [if_pos c1, jacquardref13_Top.j0, if_pos rfl]
    · rw [if_neg c1, decide_eq_true (show w > 64 by omega), jacquardref13_Top.j0, if_pos rfl]
/-- Apply of both packages. -/
theorem both {op w num : Int} {ws : List Int} {args : List S48} (h1 : ws.length ≤ 8) (h2 : args.length ≤ 8) (hwf : ∀ a ∈ args, Wf a) (hnum : 0 ≤ num ∧ num < 18446744073709551616) :
    ∃ r, interval_Apply.f op w ws args num = some r ∧ jacquardref13_Apply.f op w ws args num = some r := by
  have hQb := Q_big
  obtain ⟨q, hQ⟩ := Q_ex 200
  unfold interval_Apply.f jacquardref13_Apply.f
  rw [shaped_eq op w ws h1 (by omega), rshape_eq op w ws h1 (by omega), Option.bind_some, Option.bind_some, hQ]
  have it : interval_Apply.j0 (q + 200) op w ws args num true = some (topx w) := by rw [interval_Apply.j0, if_pos rfl, topx_i]; rfl
  have rt : jacquardref13_Apply.j0 (q + 200) op w ws args num true = some (topx w) := by rw [jacquardref13_Apply.j0, if_pos rfl, topx_r w (by omega)]; rfl
  by_cases c : shb op w ws = true
  · rw [if_pos c, if_pos c]
    by_cases c2 : args.length = ws.length
    · have e : ((args.length : Int) != (ws.length : Int)) = false := by rw [c2]; simp
      rw [e]
      exact ⟨_, ap_i (sh_of c) c2 hwf hnum (k := q + 195) (by omega), ap_r (sh_of c) c2 hwf hnum (k := q + 191) (by omega)⟩
    · have e : ((args.length : Int) != (ws.length : Int)) = true := by rw [bne_iff_ne]; omega
      rw [e]; exact ⟨_, it, rt⟩
  · rw [if_neg c, if_neg c]; exact ⟨_, it, rt⟩
end Go.Proofs.YthhhegblccoonaaGreatDoor.Av
/- facts.Apply of both packages. -/
namespace Go.Proofs.YthhhegblccoonaaGreatDoor.Ko
set_option linter.unusedVariables false
set_option linter.unusedSimpArgs false
set_option linter.unusedSectionVars false
open Go.RowKit Go.Proofs.YthhhegblccoonaaGreatDoor.P Go.Proofs.YthhhegblccoonaaGreatDoorW.PrintWords Wd Im Iv Tg Lw0 Ap Cm Cn Ev Rf Aq Ar As At Au
open Ft hiding top

abbrev T6 := Int × Int × Int × Int × Int × Int
def ftop (w : Int) : T6 := (0, 0, (Av.topx w).1, (Av.topx w).2.1, (Av.topx w).2.2.1, (Av.topx w).2.2.2)
theorem ftop_i (w : Int) : facts_Top.f w = some (ftop w) := by
  unfold facts_Top.f facts_fact.f
  rw [Av.topx_i]; rfl
theorem ftop_r (w : Int) (hk : 72 < Q) : jacquardref14_Top.f w = some (ftop w) := by
  unfold jacquardref14_Top.f jacquardref14_fact.f
  rw [Av.topx_r w hk]; rfl
theorem six (x : Option T6) : (x.bind fun b => some (b.1, b.2.1, b.2.2.1, b.2.2.2.1, b.2.2.2.2.1, b.2.2.2.2.2)) = x := by cases x <;> rfl
/-- The parts of facts. -/
def kb (s : S30) : Nat × Nat := (s.f0.toNat, s.f1.toNat)
def iv (s : S30) : S48 := ⟨s.f2, s.f3, s.f4, s.f5⟩
structure Wf6 (s : S30) : Prop where
  h0 : 0 ≤ s.f0 ∧ s.f0 < 18446744073709551616
  h1 : 0 ≤ s.f1 ∧ s.f1 < 18446744073709551616
  h2 : 0 ≤ s.f2 ∧ s.f2 < 18446744073709551616
  h3 : 0 ≤ s.f3 ∧ s.f3 < 18446744073709551616
  h4 : I64 s.f4
  h5 : I64 s.f5
section
variable {op w num : Int} {ws : List Int} {args : List S30} (hl : args.length = ws.length) (h8 : args.length ≤ 8) (hwf : ∀ s ∈ args, Wf6 s)
include hl h8 hwf
/-- The loops over the operands: a fact that is not valid ends them, else their parts are collected. -/
theorem floops (d : Nat) : ∀ (k k' i : Nat) (bl : List S45) (rl : List S48), i + d = args.length → bl.length ≤ i → rl.length ≤ i →
    (facts_Apply.l0 (k + d) op w ws num bl rl args (args.length : Int) (i : Int) = some (ftop w) ∧ jacquardref14_Apply.l0 (k' + d) op w ws args num bl rl (i : Int) = some (ftop w)) ∨
    (facts_Apply.l0 (k + d) op w ws num bl rl args (args.length : Int) (i : Int) = facts_Apply.l0 k op w ws num (bl ++ (args.drop i).map fun s => Kb.mk (kb s)) (rl ++ (args.drop i).map iv) args (args.length : Int) (args.length : Int) ∧
     jacquardref14_Apply.l0 (k' + d) op w ws args num bl rl (i : Int) = jacquardref14_Apply.l0 k' op w ws args num (bl ++ (args.drop i).map fun s => Kb.mk (kb s)) (rl ++ (args.drop i).map iv) (args.length : Int)) := by
  have hQb := Q_big
  induction d with
  | zero =>
    intro k k' i bl rl hi _ _
    obtain rfl : i = args.length := by omega
    right
    rw [List.drop_eq_nil_of_le (Nat.le_refl _), List.map_nil, List.map_nil, List.append_nil, List.append_nil, Nat.add_zero, Nat.add_zero]
    exact ⟨rfl, rfl⟩
  | succ d ih =>
    intro k k' i bl rl hi hb hr
    have hlt : i < args.length := by omega
    have es : rd_T30 args (i : Int) = args[i] := by
      unfold rd_T30; rw [Int.toNat_natCast, List.getD_eq_getElem?_getD, List.getElem?_eq_getElem hlt]; rfl
    have hs := hwf args[i] (List.getElem_mem hlt)
    rw [List.drop_eq_getElem_cons hlt, List.map_cons, List.map_cons]
    generalize args[i] = s at es hs ⊢
    obtain ⟨z, hz⟩ := Int.eq_ofNat_of_zero_le hs.h0.1
    obtain ⟨o, ho⟩ := Int.eq_ofNat_of_zero_le hs.h1.1
    have hz6 : z < 18446744073709551616 := by have := hs.h0; omega
    have ho6 : o < 18446744073709551616 := by have := hs.h1; omega
    have em : Kb.mk (kb s) = ⟨s.f0, s.f1⟩ := by
      unfold Kb.mk kb; rw [hz, ho]; simp
    rw [show k + (d + 1) = (k + d) + 1 by omega, show k' + (d + 1) = (k' + d) + 1 by omega, facts_Apply.l0, if_pos (by omega), if_pos (by omega), if_pos (by omega), if_pos (by omega), jacquardref14_Apply.l0, if_pos (by omega), if_pos (by omega), if_pos (by omega), es, hz, ho, fvalid_eq hz6 ho6, rfvalid_eq hz6 ho6 _ _ _ _ _ (by omega), Option.bind_some, Option.bind_some]
    by_cases c : FV (rd ws (i : Int)) z o s.f2 s.f3 s.f4 s.f5
    · rw [if_pos (decide_eq_true c), if_pos (decide_eq_true c)]
      have b1 : bl.length < 8796093022208 := by omega
      have b2 : rl.length < 4398046511104 := by omega
      have hw : wrap64 ((i : Int) + 1) = ((i + 1 : Nat) : Int) := by rw [wrap64_id (by omega) (by omega)]; omega
      simp only [facts_known.f, facts_span.f, jacquardref14_bits.f, jacquardref14_span.f, Option.bind_some, b1, b2, if_true, hw]
      have h2 := ih k k' (i + 1) (bl ++ [Kb.mk (kb s)]) (rl ++ [iv s]) (by omega) (by simp; omega) (by simp; omega)
      rw [em, List.append_assoc, List.append_assoc, hz, ho] at h2
      rw [em, hz, ho]
      exact h2
    · rw [if_neg (by simpa using c), if_neg (by simpa using c), ftop_i, ftop_r w (by omega)]
      exact .inl ⟨rfl, rfl⟩
end
/-- A fact that says nothing, drawn tight: the same. -/
theorem tight_top (w : Int) : ∃ r, facts_Tighten.f w 0 0 (Av.topx w).1 (Av.topx w).2.1 (Av.topx w).2.2.1 (Av.topx w).2.2.2 = some r ∧
    (r.2.2.2.2.2.2 = true → (r.1, r.2.1, r.2.2.1, r.2.2.2.1, r.2.2.2.2.1, r.2.2.2.2.2.1) = ftop w) := by
  have h0 : 0 ≤ (Av.topx w).1 := by
    unfold Av.topx; split
    · exact Int.le_refl _
    · decide
  obtain ⟨r, e1, _, hP⟩ := tighten_main w (z := 0) (o := 0) (lo := (Av.topx w).1) (hi := (Av.topx w).2.1) (l := (Av.topx w).2.2.1) (m := (Av.topx w).2.2.2) (by decide) (by decide) h0
  refine ⟨r, e1, fun hr => ?_⟩
  by_cases hv : FV w 0 0 (Av.topx w).1 (Av.topx w).2.1 (Av.topx w).2.2.1 (Av.topx w).2.2.2
  · have hw := hv.1.1
    have hn := nn_of (w := w) (by omega) hw.2
    have hn1 : 1 ≤ nn w := by omega
    have hn64 := nn_le w
    have hp := Nat.two_pow_pos (nn w)
    have hp1 := Nat.two_pow_pos (nn w - 1)
    have hpp : 2 ^ nn w = 2 * 2 ^ (nn w - 1) := by
      obtain ⟨m, hm⟩ : ∃ m, nn w = m + 1 := ⟨nn w - 1, by omega⟩
      rw [hm, Nat.pow_succ]; simp; omega
    have et : Av.topx w = (0, 2 ^ nn w - 1, -2 ^ (nn w - 1), 2 ^ (nn w - 1) - 1) := by unfold Av.topx; rw [if_pos hw]; rfl
    rcases hP.2 hv with ⟨rfl, _⟩ | ⟨z', o', a, b, c, d, rfl, h1, h2, _, _, h5, h6, h7, h8, hK⟩
    · exact absurd hr (by decide)
    · have all : ∀ x : Nat, x < 2 ^ nn w → x &&& z' = 0 ∧ x &&& o' = o' ∧ In (nn w) a b c d x := fun x hx => by
        have hx6 := up hn64 hx
        have : FC w 0 0 (Av.topx w).1 (Av.topx w).2.1 (Av.topx w).2.2.1 (Av.topx w).2.2.2 x := by
          rw [fc_iff hw, et]
          refine ⟨hx, by simp, by simp, ?_⟩
          have hs := sg_range hn1 (x : Int)
          refine ⟨by show (0 : Int) ≤ _; omega, by show _ ≤ (2 : Int) ^ nn w - 1; rw [mnat]; omega, hs.1, by show _ ≤ (2 : Int) ^ (nn w - 1) - 1; omega⟩
        have := ((fc_iff hw).1 ((hK x hx6).2 this))
        exact this.2
      rw [et] at h5 h6 h7 h8
      have a0 := all 0 hp
      have a1 := all (2 ^ nn w - 1) (by omega)
      have a2 := all (2 ^ (nn w - 1)) (by omega)
      have a3 := all (2 ^ (nn w - 1) - 1) (by omega)
      have hz : z' = 0 := by
        have := a1.1
        rw [Nat.and_comm, Nat.and_two_pow_sub_one_eq_mod, Nat.mod_eq_of_lt h1] at this
        exact this
      have ho : o' = 0 := by have := a0.2.1; rw [Nat.zero_and] at this; exact this.symm
      have i0 := a0.2.2
      have i1 := a1.2.2
      have i2 := a2.2.2
      have i3 := a3.2.2
      unfold In at i0 i1 i2 i3
      rw [sgh hn1 (Nat.le_refl _) (by omega)] at i2
      rw [sgl hn1 (by omega)] at i3
      have q1 : (2 : Int) ^ nn w = ((2 ^ nn w : Nat) : Int) := pnat _
      have q2 : (2 : Int) ^ (nn w - 1) = ((2 ^ (nn w - 1) : Nat) : Int) := pnat _
      simp only [q1, q2] at h5 h6 h7 h8
      unfold ftop
      rw [et]
      simp only [q1, q2, hz, ho]
      have e1 : a = 0 := by omega
      have e2 : b = ((2 ^ nn w : Nat) : Int) - 1 := by omega
      have e3 : c = -((2 ^ (nn w - 1) : Nat) : Int) := by omega
      have e4 : d = ((2 ^ (nn w - 1) : Nat) : Int) - 1 := by omega
      rw [e1, e2, e3, e4]; rfl
  · rw [hP.1 hv] at hr; exact absurd hr (by decide)
theorem fitr_nn {w : Int} (hw : 1 ≤ w ∧ w ≤ 64) {r : R} (h0 : 0 ≤ r.1) : 0 ≤ (fitr w r).1 := by
  unfold fitr
  split
  · rename_i h; exact (tg_bd hw h0 h).2
  · exact Int.le_refl _
theorem one_nn (n : Nat) (x : Int) : 0 ≤ (one n x).1 := (mod_lt n x).1
theorem dec_nn (yes no : Prop) [Decidable yes] [Decidable no] : 0 ≤ (dec yes no).1 := by unfold dec; split <;> (try split) <;> decide
theorem core_nn {op w v : Int} (hw : 1 ≤ w ∧ w ≤ 64) {a b d : S48} (ha : Ti v a) (hb : Ti v b ∨ 15 ≤ op) (hb0 : 0 ≤ b.f0) (hd0 : 0 ≤ d.f0) (hvw : op ≤ 14 → nn w = nn v) (ho : 2 ≤ op ∧ op ≤ 24) : 0 ≤ (core op (nn w) (nn v) (q a) (q b) (q d)).1 := by
  have a0 : 0 ≤ a.f0 := ha.2.2
  unfold core
  by_cases c1 : 15 ≤ op ∧ op ≤ 20
  · rw [if_pos c1]; unfold cmp
    repeat' split
    all_goals exact dec_nn _ _
  · rw [if_neg c1]
    by_cases c2 : op = 21
    · rw [if_pos c2]
      split
      · split
        · exact hb0
        · exact hd0
      · show 0 ≤ mn b.f0 d.f0
        unfold mn; split <;> omega
    · rw [if_neg c2]
      by_cases c3 : 22 ≤ op
      · rw [if_pos c3]; unfold Ap.cast
        show 0 ≤ (if nn w = nn v then _ else _ : R).1
        repeat' split
        all_goals first | exact a0 | exact Int.le_refl _ | (show 0 ≤ (if _ then _ else _); split <;> first | exact a0 | exact Int.le_refl _)
      · rw [if_neg c3]
        have hv := ha.1
        have hn := nn_of (w := v) (by omega) hv.2
        have hb' : Ti v b := by rcases hb with h | h; exact h; omega
        rw [hvw (by omega)]
        exact (su (n := nn v) (by omega) (nn_le v) (alo := a.f0) (ahi := a.f1) (al := a.f2) (am := a.f3) (blo := b.f0) (bhi := b.f1) (bl := b.f2) (bm := b.f3) ha.2.2 hb'.2.2 ha.2.1 hb'.2.1 (op := op) (by omega)).1
/-- The least word of a result is no negative number. -/
theorem ap_nn {op w num : Int} {ws : List Int} {args : List S48} (hs : Sh op w ws) (hl : args.length = ws.length) (hwf : ∀ a ∈ args, Wf a) : 0 ≤ (ap op w ws args num).1 := by
  obtain ⟨hw, hws, hs⟩ := hs
  rcases hs with ⟨rfl, rfl⟩ | ⟨ho, rfl⟩ | ⟨ho, rfl, v, rfl⟩ | ⟨rfl, rfl⟩ | ⟨ho, v, rfl, hle⟩ | ⟨ho, v, rfl, hle⟩
  · match args, hl with
    | [], _ => exact one_nn _ _
  · match args, hl with
    | [a, b], _ =>
      show 0 ≤ (g2 (top (nn w)) (e2 op w w) w w a b).1
      unfold g2
      split
      · rename_i h1
        split
        · rename_i h2
          have t1 := ti_of hw (hwf a (by simp)) h1
          have t2 := ti_of hw (hwf b (by simp)) h2
          unfold e2
          split
          · exact one_nn _ _
          · exact fitr_nn hw (core_nn hw t1 (.inl t2) t2.2.2 t2.2.2 (fun _ => rfl) (by omega))
        · exact Int.le_refl _
      · exact Int.le_refl _
  · match args, hl with
    | [a, b], _ =>
      have hv : 1 ≤ v ∧ v ≤ 64 := hws v (by simp)
      show 0 ≤ (g2 (top (nn 1)) (e2 op 1 v) v v a b).1
      unfold g2
      split
      · rename_i h1
        split
        · rename_i h2
          have t1 := ti_of hv (hwf a (by simp)) h1
          have t2 := ti_of hv (hwf b (by simp)) h2
          unfold e2
          split
          · exact one_nn _ _
          · exact fitr_nn hw (core_nn hw t1 (.inl t2) t2.2.2 t2.2.2 (fun _ => by omega) (by omega))
        · exact Int.le_refl _
      · exact Int.le_refl _
  · match args, hl with
    | [a, b, d], _ =>
      show 0 ≤ (g3 (top (nn w)) (e3 21 w 1) 1 w w a b d).1
      unfold g3
      split
      · rename_i h1
        split
        · rename_i h2
          split
          · rename_i h3
            have t1 := ti_of (v := 1) (by decide) (hwf a (by simp)) h1
            have t2 := ti_of hw (hwf b (by simp)) h2
            have t3 := ti_of hw (hwf d (by simp)) h3
            unfold e3
            split
            · exact one_nn _ _
            · exact fitr_nn hw (core_nn hw t1 (.inr (by decide)) t2.2.2 t3.2.2 (fun h => absurd h (by decide)) (by decide))
          · exact Int.le_refl _
        · exact Int.le_refl _
      · exact Int.le_refl _
  all_goals
    match args, hl with
    | [a], _ =>
      have hv : 1 ≤ v ∧ v ≤ 64 := hws v (by simp)
      show 0 ≤ (g1 (top (nn w)) (e1 op w v) v a).1
      unfold g1
      split
      · rename_i h1
        have t1 := ti_of hv (hwf a (by simp)) h1
        unfold e1
        split
        · exact one_nn _ _
        · exact fitr_nn hw (core_nn hw t1 (.inl t1) t1.2.2 t1.2.2 (fun h => absurd h (by omega)) (by omega))
      · exact Int.le_refl _
/-- Both packages' range of a result. -/
theorem iv_both {op w num : Int} {ws : List Int} {rs : List S48} (h1 : ws.length ≤ 8) (h2 : rs.length ≤ 8) (hwf : ∀ a ∈ rs, Wf a) (hnum : 0 ≤ num ∧ num < 18446744073709551616) :
    ∃ r : R, interval_Apply.f op w ws rs num = some r ∧ jacquardref13_Apply.f op w ws rs num = some r ∧ 0 ≤ r.1 ∧ (¬ shb op w ws = true → r = Av.topx w) := by
  have hQb := Q_big
  obtain ⟨q, hQ⟩ := Q_ex 200
  unfold interval_Apply.f jacquardref13_Apply.f
  rw [shaped_eq op w ws h1 (by first | omega | decide), rshape_eq op w ws h1 (by first | omega | decide), Option.bind_some, Option.bind_some, hQ]
  have it : interval_Apply.j0 (q + 200) op w ws rs num true = some (Av.topx w) := by rw [interval_Apply.j0, if_pos rfl, Av.topx_i]; rfl
  have rt : jacquardref13_Apply.j0 (q + 200) op w ws rs num true = some (Av.topx w) := by rw [jacquardref13_Apply.j0, if_pos rfl, Av.topx_r w (by first | omega | decide)]; rfl
  have t0 : 0 ≤ (Av.topx w).1 := by
    unfold Av.topx; split
    · exact Int.le_refl _
    · decide
  by_cases c : shb op w ws = true
  · rw [if_pos c, if_pos c]
    by_cases c2 : rs.length = ws.length
    · have e : ((rs.length : Int) != (ws.length : Int)) = false := by rw [c2]; simp
      rw [e]
      exact ⟨_, ap_i (sh_of c) c2 hwf hnum (k := q + 195) (by first | omega | decide), Av.ap_r (sh_of c) c2 hwf hnum (k := q + 191) (by first | omega | decide), ap_nn (sh_of c) c2 hwf, fun h => absurd c h⟩
    · have e : ((rs.length : Int) != (ws.length : Int)) = true := by rw [bne_iff_ne]; omega
      rw [e]; exact ⟨_, it, rt, t0, fun _ => rfl⟩
  · rw [if_neg c, if_neg c]; exact ⟨_, it, rt, t0, fun _ => rfl⟩
theorem kb_un {op w num : Int} {ws : List Int} {zs : List S45} (h8 : ws.length ≤ 8) (c : ¬ shb op w ws = true) : knownbits_Apply.f op w ws zs num = some (0, 0) := by
  have hQb := Q_big
  obtain ⟨q, hQ⟩ := Q_ex 1
  unfold knownbits_Apply.f
  rw [Kb.kshaped_eq op w ws h8 (by omega), Option.bind_some, if_neg c, hQ, knownbits_Apply.j0, if_pos rfl]
theorem facts_both {op w num : Int} {ws : List Int} {args : List S30} (h8 : ws.length ≤ 8) (ha8 : args.length ≤ 8) (hwf : ∀ s ∈ args, Wf6 s) (hnum : 0 ≤ num ∧ num < 18446744073709551616) :
    ∃ r, facts_Apply.f op w ws args num = some r ∧ jacquardref14_Apply.f op w ws args num = some r := by
  have hQb := Q_big
  obtain ⟨q, hQ⟩ := Q_ex 2000
  unfold facts_Apply.f jacquardref14_Apply.f
  rw [rshape_eq op w ws h8 (by omega), Option.bind_some, hQ]
  have rt : jacquardref14_Apply.j0 (q + 2000) op w ws args num true = some (ftop w) := by rw [jacquardref14_Apply.j0, if_pos rfl, ftop_r w (by omega)]; rfl
  by_cases hl : args.length = ws.length
  · rw [if_pos (by omega)]
    have e : ((args.length : Int) != (ws.length : Int)) = false := by rw [hl]; simp
    rw [e]
    have hkb := Kb.kb_both (op := op) (w := w) (num := num) (ws := ws) (ars := args.map kb) h8 (fun p hp => by
      obtain ⟨s, hs, rfl⟩ := List.mem_map.1 hp
      have h := hwf s hs
      have q0 := h.h0
      have q1 := h.h1
      exact ⟨by unfold kb; omega, by unfold kb; omega⟩) hnum
    have hiv := iv_both (op := op) (w := w) (num := num) (ws := ws) (rs := args.map iv) h8 (by simpa using ha8) (fun a ha => by
      obtain ⟨s, hs, rfl⟩ := List.mem_map.1 ha
      have h := hwf s hs
      exact ⟨h.h2, h.h4, h.h5⟩) hnum
    obtain ⟨z, o, hz, ho, ek1, ek2⟩ := hkb
    obtain ⟨r, ei1, ei2, r0, rtop⟩ := hiv
    rw [List.map_map] at ek1 ek2
    have hm : ((Kb.mk ∘ kb) : S30 → S45) = fun s => Kb.mk (kb s) := rfl
    rw [hm] at ek1 ek2
    have t1 : ∀ (k : Nat), facts_Apply.l0 (k + 1) op w ws num (args.map fun s => Kb.mk (kb s)) (args.map iv) args (args.length : Int) (args.length : Int) =
        (facts_Tighten.f w z o r.1 r.2.1 r.2.2.1 r.2.2.2).bind fun b => if b.2.2.2.2.2.2 = true then some (b.1, b.2.1, b.2.2.1, b.2.2.2.1, b.2.2.2.2.1, b.2.2.2.2.2.1) else some (ftop w) := by
      intro k
      rw [facts_Apply.l0, if_neg (by omega), ek1, Option.bind_some, ei1, Option.bind_some]
      unfold facts_fact.f
      simp only [Option.bind_some, ftop_i]
    have t2 : ∀ (k : Nat), jacquardref14_Apply.l0 (k + 1) op w ws args num (args.map fun s => Kb.mk (kb s)) (args.map iv) (args.length : Int) =
        (jacquardref14_Tighten.f w z o r.1 r.2.1 r.2.2.1 r.2.2.2).bind fun b => if b.2.2.2.2.2.2 = true then some (b.1, b.2.1, b.2.2.1, b.2.2.2.1, b.2.2.2.2.1, b.2.2.2.2.2.1) else some (ftop w) := by
      intro k
      rw [jacquardref14_Apply.l0, if_neg (by omega), ek2, Option.bind_some, ei2, Option.bind_some]
      unfold jacquardref14_fact.f
      simp only [Option.bind_some, ftop_r w (show 72 < Q by omega)]
    have fl := floops (op := op) (w := w) (num := num) (ws := ws) (args := args) hl ha8 hwf args.length (q + 2000 - args.length) (q + 1999 - args.length) 0 [] [] (by omega) (by simp) (by simp)
    have dz : args.drop 0 = args := rfl
    have c0 : ((0 : Nat) : Int) = 0 := rfl
    simp only [dz, c0, List.nil_append] at fl
    rw [show q + 2000 - args.length + args.length = q + 2000 by omega, show q + 1999 - args.length + args.length = q + 1999 by omega] at fl
    by_cases c : shb op w ws = true
    · rw [if_pos c]
      have j1 : jacquardref14_Apply.j0 (q + 2000) op w ws args num false = jacquardref14_Apply.l0 (q + 1999) op w ws args num [] [] 0 := by rw [jacquardref14_Apply.j0, if_neg (by decide)]
      rw [j1]
      rcases fl with ⟨f1, f2⟩ | ⟨f1, f2⟩
      · exact ⟨_, f1, f2⟩
      · obtain ⟨R, er1, er2, _⟩ := tighten_main w (z := z) (o := o) (lo := r.1) (hi := r.2.1) (l := r.2.2.1) (m := r.2.2.2) hz ho r0
        have q1 := t1 (q + 1999 - args.length)
        have q2 := t2 (q + 1998 - args.length)
        rw [show q + 1999 - args.length + 1 = q + 2000 - args.length by omega, er1, Option.bind_some] at q1
        rw [show q + 1998 - args.length + 1 = q + 1999 - args.length by omega, er2, Option.bind_some] at q2
        rw [f1, f2, q1, q2]
        split <;> exact ⟨_, rfl, rfl⟩
    · rw [if_neg c, rt]
      refine ⟨_, ?_, rfl⟩
      rcases fl with ⟨f1, _⟩ | ⟨f1, _⟩
      · exact f1
      · rw [f1]
        have hz0 := kb_un (op := op) (w := w) (num := num) (ws := ws) (zs := args.map fun s => Kb.mk (kb s)) h8 c
        rw [ek1] at hz0
        have hzz := Option.some.inj hz0
        have z0 : z = 0 := by have := congrArg Prod.fst hzz; simpa using this
        have o0 : o = 0 := by have := congrArg Prod.snd hzz; simpa using this
        obtain ⟨R1, er1, hR⟩ := tight_top w
        have q1 := t1 (q + 1999 - args.length)
        rw [show q + 1999 - args.length + 1 = q + 2000 - args.length by omega, z0, o0, rtop c] at q1
        rw [q1]
        show (facts_Tighten.f w 0 0 _ _ _ _).bind _ = _
        rw [er1, Option.bind_some]
        split
        · rename_i h; rw [hR h]
        · rfl
  · rw [if_neg (by omega), ftop_i]
    have e : ((args.length : Int) != (ws.length : Int)) = true := by rw [bne_iff_ne]; omega
    rw [e, rt]
    refine ⟨ftop w, rfl, ?_⟩
    split <;> rfl
end Go.Proofs.YthhhegblccoonaaGreatDoor.Ko
/- FactsApply in plain Lean. -/
namespace Go.Proofs.YthhhegblccoonaaGreatDoor.Pure
set_option linter.unusedVariables false
set_option linter.unusedSimpArgs false
set_option linter.unusedSectionVars false
open Go.RowKit Go.Proofs.YthhhegblccoonaaGreatDoor.P Go.Proofs.YthhhegblccoonaaGreatDoorW.PrintWords Wd Ko
theorem fawake_eq : jacquardlaw14_awake.f = some true := by decide +kernel
theorem ffew_eq (op w : Int) (ws : List Int) (args : List S30) (num : Int) : jacquardlaw14_few.f op w ws args num = some (decide ((ws.length : Int) ≤ 8 ∧ (args.length : Int) ≤ 8)) := by
  unfold jacquardlaw14_few.f
  by_cases c : (ws.length : Int) ≤ 8
  · rw [if_pos c]; congr 1; rw [decide_eq_decide]; exact ⟨fun h => ⟨c, h⟩, fun h => h.2⟩
  · rw [if_neg c, decide_eq_false (fun h => c h.1)]
theorem FactsApply : jacquardlaw14_FactsApply.Pure := by
  intro op w ws args num h1 h2 h3 h4 h5
  unfold jacquardlaw14_FactsApply.f
  rw [fawake_eq, Option.bind_some, if_pos rfl, ffew_eq, Option.bind_some]
  by_cases c : (ws.length : Int) ≤ 8 ∧ (args.length : Int) ≤ 8
  · have hwf : ∀ s ∈ args, Wf6 s := fun s hs => by
      obtain ⟨p0, p1, p2, p3, p4, p5⟩ := h4.2 s hs
      exact ⟨(wf_u64 _).1 p0, (wf_u64 _).1 p1, (wf_u64 _).1 p2, (wf_u64 _).1 p3, (wf_i64 _).1 p4, (wf_i64 _).1 p5⟩
    obtain ⟨r, e1, e2⟩ := facts_both (op := op) (w := w) (num := num) (ws := ws) (args := args) (by omega) (by omega) hwf ((wf_u64 _).1 h5)
    rw [if_pos (decide_eq_true c), e1, Option.bind_some, e2, Option.bind_some]
    simp
  · rw [if_neg (by simpa using c)]
end Go.Proofs.YthhhegblccoonaaGreatDoor.Pure
