import Derived.Test.YtoddafkffchnjaaAr
import Derived.Test.YtoddafkffchnjaaDf
/- Apply, by both packages: one result. -/
namespace Go.Proofs.Ytoddafkffchnjaa.As
set_option linter.unusedVariables false
set_option linter.unusedSimpArgs false
set_option linter.unusedSectionVars false
open Go.RowKit Go.Proofs.Ytoddafkffchnjaa.P Go.Proofs.YtoddafkffchnjaaW.PrintWords Wd Im Iv Tg Lw0 Ap Cm Cn Ev Rf Aq Ar

theorem four_I {a b c d : Int} (ha : I64 a) (hb : I64 b) (hc : I64 c) (hd : I64 d) : I64 (mn4 a b c d) ∧ I64 (mx4 a b c d) := by
  unfold I64 mn4 mx4 at *
  have h1 := mn_facts a b
  have h2 := mn_facts (mn a b) c
  have h3 := mn_facts (mn (mn a b) c) d
  have g1 := mx_facts a b
  have g2 := mx_facts (mx a b) c
  have g3 := mx_facts (mx (mx a b) c) d
  omega
theorem div_I {x : Int} (h : I64 x) (p : Nat) : I64 (x / 2 ^ p) := by
  unfold I64 at *
  rcases Int.lt_or_le x 0 with k | k
  · have := div_neg' p k
    omega
  · have := div_nn p k
    omega
section
variable {n : Nat} (hn : 1 ≤ n) (h64 : n ≤ 64) {alo ahi al am blo bhi bl bm : Int} (ha0 : 0 ≤ alo) (hb0 : 0 ≤ blo) (va : Bd n alo ahi al am) (vb : Bd n blo bhi bl bm)
include hn h64 ha0 hb0 va vb
theorem su {op : Int} (ho : 2 ≤ op ∧ op ≤ 14) : 0 ≤ (U op n alo ahi blo bhi).1 ∧ I64 (S op n al am bl bm blo bhi).1 ∧ I64 (S op n al am bl bm blo bhi).2 := by
  obtain ⟨ia, ia'⟩ := bd_i64 h64 va
  obtain ⟨ib, ib'⟩ := bd_i64 h64 vb
  obtain ⟨a1, a2, a3, a4, a5⟩ := va
  obtain ⟨b1, b2, b3, b4, b5⟩ := vb
  have hp := pow_le63 (n := n - 1) (by omega)
  have hpp := pow_pos (n - 1)
  have d1 : I64 (-2 ^ (n - 1)) ∧ I64 (2 ^ (n - 1) - 1) := by unfold I64; omega
  have dS : ∀ p, S op n al am bl bm blo bhi = p → p = (-2 ^ (n - 1), 2 ^ (n - 1) - 1) → I64 (S op n al am bl bm blo bhi).1 ∧ I64 (S op n al am bl bm blo bhi).2 := by
    intro p h1 h2; rw [h1, h2]; exact d1
  have dU : ∀ p, U op n alo ahi blo bhi = p → p = (0, 2 ^ n - 1) → 0 ≤ (U op n alo ahi blo bhi).1 := by
    intro p h1 h2; rw [h1, h2]; exact Int.le_refl 0
  have m1 := mod_lt n (alo + blo)
  have m2 := mod_lt n (alo - bhi)
  obtain rfl | rfl | rfl | rfl | rfl | rfl | rfl | rfl | rfl | rfl | rfl | rfl | rfl : op = 2 ∨ op = 3 ∨ op = 4 ∨ op = 5 ∨ op = 6 ∨ op = 7 ∨ op = 8 ∨ op = 9 ∨ op = 10 ∨ op = 11 ∨ op = 12 ∨ op = 13 ∨ op = 14 := by omega
  · refine ⟨?_, ?_⟩
    · simp only [U, if_pos]
      split
      · show 0 ≤ alo + blo; omega
      · split
        · exact m1.1
        · exact Int.le_refl 0
    · simp only [S, if_pos]
      split
      · rename_i h; exact ⟨i64_inr h64 h.1, i64_inr h64 h.2⟩
      · exact d1
  · refine ⟨?_, ?_⟩
    · simp only [U, if_pos, if_neg (show ¬ (3 : Int) = 2 by decide)]
      split
      · exact m2.1
      · exact Int.le_refl 0
    · simp only [S, if_pos, if_neg (show ¬ (3 : Int) = 2 by decide)]
      split
      · rename_i h; exact ⟨i64_inr h64 h.1, i64_inr h64 h.2⟩
      · exact d1
  · refine ⟨?_, ?_⟩
    · simp only [U, if_pos, if_neg (show ¬ (4 : Int) = 2 by decide), if_neg (show ¬ (4 : Int) = 3 by decide)]
      split
      · exact Int.mul_nonneg ha0 hb0
      · exact Int.le_refl 0
    · simp only [S, if_pos, if_neg (show ¬ (4 : Int) = 2 by decide), if_neg (show ¬ (4 : Int) = 3 by decide)]
      split
      · rename_i h; exact four_I (i64_inr h64 h.1) (i64_inr h64 h.2.1) (i64_inr h64 h.2.2.1) (i64_inr h64 h.2.2.2)
      · exact d1
  · refine ⟨?_, dS _ rfl (by simp [S])⟩
    simp only [U, if_pos, if_neg (show ¬ (5 : Int) = 2 by decide), if_neg (show ¬ (5 : Int) = 3 by decide), if_neg (show ¬ (5 : Int) = 4 by decide)]
    split
    · exact Int.ediv_nonneg ha0 (by omega)
    · exact Int.le_refl 0
  · refine ⟨?_, dS _ rfl (by simp [S])⟩
    simp only [U, if_pos, if_neg (show ¬ (6 : Int) = 2 by decide), if_neg (show ¬ (6 : Int) = 3 by decide), if_neg (show ¬ (6 : Int) = 4 by decide), if_neg (show ¬ (6 : Int) = 5 by decide)]
    split
    · split
      · exact ha0
      · exact Int.le_refl 0
    · exact Int.le_refl 0
  · refine ⟨dU _ rfl (by simp [U]), ?_⟩
    simp only [S, if_pos, if_neg (show ¬ (7 : Int) = 2 by decide), if_neg (show ¬ (7 : Int) = 3 by decide), if_neg (show ¬ (7 : Int) = 4 by decide)]
    split
    · rename_i h
      exact four_I (tdiv_I ia ib (by omega)) (tdiv_I ia ib' (by omega)) (tdiv_I ia' ib (by omega)) (tdiv_I ia' ib' (by omega))
    · exact d1
  · refine ⟨dU _ rfl (by simp [U]), ?_⟩
    have f1 := mn_facts al 0
    have f2 := mx_facts am 0
    have f3 := mx_facts (mn al 0) (1 - bm)
    have f4 := mn_facts (mx am 0) (bm - 1)
    simp only [S, if_pos, if_neg (show ¬ (8 : Int) = 2 by decide), if_neg (show ¬ (8 : Int) = 3 by decide), if_neg (show ¬ (8 : Int) = 4 by decide), if_neg (show ¬ (8 : Int) = 7 by decide)]
    unfold I64 at *
    split
    · simp only []; omega
    · simp only []; omega
  · exact ⟨by simp [U], dS _ rfl (by simp [S])⟩
  · have f := mx_facts alo blo
    exact ⟨by simp [U]; omega, dS _ rfl (by simp [S])⟩
  · exact ⟨by simp [U], dS _ rfl (by simp [S])⟩
  · have eU : U 12 n alo ahi blo bhi = if blo = bhi then (if (n : Int) ≤ blo then (0, 0) else if ahi ≤ (2 ^ n - 1) / 2 ^ blo.toNat then (alo * 2 ^ blo.toNat, ahi * 2 ^ blo.toNat) else (0, 2 ^ n - 1)) else (0, 2 ^ n - 1) := by simp [U]
    have eS : S 12 n al am bl bm blo bhi = if blo = bhi ∧ blo < n ∧ (-2 ^ (n - 1)) / 2 ^ blo.toNat ≤ al ∧ am ≤ (2 ^ (n - 1) - 1) / 2 ^ blo.toNat then (al * 2 ^ blo.toNat, am * 2 ^ blo.toNat) else (-2 ^ (n - 1), 2 ^ (n - 1) - 1) := by simp [S]
    have hps := pow_pos' blo.toNat
    rw [eU, eS]
    refine ⟨?_, ?_⟩
    · split
      · split
        · exact Int.le_refl 0
        · split
          · exact Int.mul_nonneg ha0 (by omega)
          · exact Int.le_refl 0
      · exact Int.le_refl 0
    · split
      · rename_i h
        obtain ⟨c1, c2, c3, c4⟩ := h
        have hd : (2 : Int) ^ (n - 1) = 2 ^ (n - 1 - blo.toNat) * 2 ^ blo.toNat := by rw [← Int.pow_add]; congr 1; omega
        have h1 : am * 2 ^ blo.toNat ≤ 2 ^ (n - 1) - 1 := by
          have h1 := Int.mul_le_mul_of_nonneg_right c4 (show 0 ≤ (2 : Int) ^ blo.toNat by omega)
          have h2 := Int.ediv_mul_le (2 ^ (n - 1) - 1) (b := 2 ^ blo.toNat) (by omega)
          omega
        have h4 : -2 ^ (n - 1) ≤ al * 2 ^ blo.toNat := by
          rw [hd, ← Int.neg_mul, Int.mul_ediv_cancel _ (by omega)] at c3
          rw [hd, ← Int.neg_mul]
          exact Int.mul_le_mul_of_nonneg_right c3 (by omega)
        have h5 : al * 2 ^ blo.toNat ≤ am * 2 ^ blo.toNat := Int.mul_le_mul_of_nonneg_right a4 (by omega)
        unfold I64; simp only []; omega
      · exact d1
  · exact ⟨by simp only [U]; exact (div_nn bhi.toNat ha0).1, dS _ rfl (by simp [S])⟩
  · refine ⟨dU _ rfl (by simp [U]), ?_⟩
    simp only [S]
    exact four_I (div_I ia _) (div_I ia _) (div_I ia' _) (div_I ia' _)
end
theorem fit_cmp {op : Int} (ho : 15 ≤ op ∧ op ≤ 20) (alo ahi al am blo bhi bl bm : Int) : fitr 1 (cmp op alo ahi al am blo bhi bl bm) = cmp op alo ahi al am blo bhi bl bm := by
  obtain rfl | rfl | rfl | rfl | rfl | rfl : op = 15 ∨ op = 16 ∨ op = 17 ∨ op = 18 ∨ op = 19 ∨ op = 20 := by omega
  · rw [show cmp 15 alo ahi al am blo bhi bl bm = dec False (Apart alo ahi al am blo bhi bl bm) by simp [cmp], fit_dec]
  · rw [show cmp 16 alo ahi al am blo bhi bl bm = dec (Apart alo ahi al am blo bhi bl bm) False by simp [cmp], fit_dec]
  · rw [show cmp 17 alo ahi al am blo bhi bl bm = dec (ahi < blo) (bhi ≤ alo) by simp [cmp], fit_dec]
  · rw [show cmp 18 alo ahi al am blo bhi bl bm = dec (ahi ≤ blo) (bhi < alo) by simp [cmp], fit_dec]
  · rw [show cmp 19 alo ahi al am blo bhi bl bm = dec (am < bl) (bm ≤ al) by simp [cmp], fit_dec]
  · rw [show cmp 20 alo ahi al am blo bhi bl bm = dec (am ≤ bl) (bm < al) by simp [cmp], fit_dec]
theorem dec_range (yes no : Prop) [Decidable yes] [Decidable no] : 0 ≤ (dec yes no).1 ∧ I64 (dec yes no).2.2.1 ∧ I64 (dec yes no).2.2.2 := by
  unfold dec
  split
  · decide
  · split <;> decide
theorem cmp_range {op : Int} (ho : 15 ≤ op ∧ op ≤ 20) (alo ahi al am blo bhi bl bm : Int) : 0 ≤ (cmp op alo ahi al am blo bhi bl bm).1 ∧ I64 (cmp op alo ahi al am blo bhi bl bm).2.2.1 ∧ I64 (cmp op alo ahi al am blo bhi bl bm).2.2.2 := by
  obtain rfl | rfl | rfl | rfl | rfl | rfl : op = 15 ∨ op = 16 ∨ op = 17 ∨ op = 18 ∨ op = 19 ∨ op = 20 := by omega
  · rw [show cmp 15 alo ahi al am blo bhi bl bm = dec False (Apart alo ahi al am blo bhi bl bm) by simp [cmp]]; exact dec_range _ _
  · rw [show cmp 16 alo ahi al am blo bhi bl bm = dec (Apart alo ahi al am blo bhi bl bm) False by simp [cmp]]; exact dec_range _ _
  · rw [show cmp 17 alo ahi al am blo bhi bl bm = dec (ahi < blo) (bhi ≤ alo) by simp [cmp]]; exact dec_range _ _
  · rw [show cmp 18 alo ahi al am blo bhi bl bm = dec (ahi ≤ blo) (bhi < alo) by simp [cmp]]; exact dec_range _ _
  · rw [show cmp 19 alo ahi al am blo bhi bl bm = dec (am < bl) (bm ≤ al) by simp [cmp]]; exact dec_range _ _
  · rw [show cmp 20 alo ahi al am blo bhi bl bm = dec (am ≤ bl) (bm < al) by simp [cmp]]; exact dec_range _ _
/-- The bounds of a comparison, an extension or a choice, by the implementation. -/
theorem comp_cmp {op : Int} (ho : 15 ≤ op ∧ op ≤ 20) (ws : List Int) (a b : S30) (k : Nat) : interval_computer_compute.f (k + 12) 1 (2 ^ nn 1 - 1) (-2 ^ (nn 1 - 1)) (2 ^ (nn 1 - 1) - 1) 0 (2 ^ nn 1 - 1) (-2 ^ (nn 1 - 1)) (2 ^ (nn 1 - 1) - 1) op ws [a, b] =
    res 1 (nn 1) ((cmp op a.f0 a.f1 a.f2 a.f3 b.f0 b.f1 b.f2 b.f3).1, (cmp op a.f0 a.f1 a.f2 a.f3 b.f0 b.f1 b.f2 b.f3).2.1) ((cmp op a.f0 a.f1 a.f2 a.f3 b.f0 b.f1 b.f2 b.f3).2.2.1, (cmp op a.f0 a.f1 a.f2 a.f3 b.f0 b.f1 b.f2 b.f3).2.2.2) := by
  have e : mn 1 (wrap64 ((([a, b] : List S30).length : Int) - 1)) = 1 := by show mn 1 (wrap64 (2 - 1)) = 1; decide +kernel
  have e1 : nn 1 = 1 := by decide
  have e2 : (2 : Int) ^ 1 - 1 = 1 := by decide
  have e3 : -(2 : Int) ^ (1 - 1) = -1 := by decide
  have e4 : (2 : Int) ^ (1 - 1) - 1 = 0 := by decide
  unfold interval_computer_compute.f res
  rw [e, if_pos (by simp), if_pos (by decide), if_pos (by simp), show rd_T30 [a, b] 0 = a from rfl, show rd_T30 [a, b] 1 = b from rfl, e1, e2, e3, e4, if_neg (by omega), if_neg (by omega), if_neg (by omega), if_neg (by omega), if_neg (by omega), if_neg (by omega), interval_computer_compute.j0, if_neg (by simp; omega), if_neg (by omega), if_neg (by omega), if_neg (by omega), if_neg (by omega), if_neg (by omega), interval_computer_compute.j1, if_neg (by simp; omega), if_neg (by omega), if_neg (by omega), if_neg (by omega), interval_computer_compute.j2, if_neg (by simp; omega), compare_eq' ho]
  rfl
theorem comp_sel {w : Int} {n : Nat} (ws : List Int) (a b c : S30) (k : Nat) : interval_computer_compute.f (k + 12) w (2 ^ n - 1) (-2 ^ (n - 1)) (2 ^ (n - 1) - 1) 0 (2 ^ n - 1) (-2 ^ (n - 1)) (2 ^ (n - 1) - 1) 21 ws [a, b, c] =
    res w n ((core 21 n 1 (q a) (q b) (q c)).1, (core 21 n 1 (q a) (q b) (q c)).2.1) ((core 21 n 1 (q a) (q b) (q c)).2.2.1, (core 21 n 1 (q a) (q b) (q c)).2.2.2) := by
  have e : mn 1 (wrap64 ((([a, b, c] : List S30).length : Int) - 1)) = 1 := by show mn 1 (wrap64 (3 - 1)) = 1; decide +kernel
  have e2 : core 21 n 1 (q a) (q b) (q c) = if a.f0 = a.f1 then (if a.f0 = 1 then q b else q c) else join (q b) (q c) := by unfold core; rw [if_neg (by omega), if_pos rfl]; rfl
  rw [e2]
  unfold interval_computer_compute.f res
  rw [e, if_pos (by simp), if_pos (by decide), if_pos (by simp), show rd_T30 [a, b, c] 0 = a from rfl, show rd_T30 [a, b, c] 1 = b from rfl, if_neg (by decide), if_neg (by decide), if_neg (by decide), if_neg (by decide), if_neg (by decide), if_neg (by decide), interval_computer_compute.j0, if_neg (by decide), if_neg (by decide), if_neg (by decide), if_neg (by decide), if_neg (by decide), if_neg (by decide), interval_computer_compute.j1, if_neg (by decide), if_pos rfl, show rd_T30 [a, b, c] 2 = c from rfl]
  by_cases c1 : a.f0 = a.f1
  · rw [if_pos c1, if_pos c1]
    by_cases c2 : a.f0 = 1
    · rw [if_pos c2, if_pos c2]; rfl
    · rw [if_neg c2, if_neg c2, if_pos (by simp)]; rfl
  · rw [if_neg c1, if_neg c1, if_pos (by simp)]
    rfl
theorem comp_cast {op w v : Int} {n m : Nat} (hw : w = n) (hv : v = m) (hn : 1 ≤ n) (hm : 1 ≤ m) (h64 : n ≤ 64) (ho : (op = 22 ∧ m ≤ n) ∨ (op = 23 ∧ m ≤ n) ∨ (op = 24 ∧ n ≤ m)) (a : S30) (ha : BdR m (q a)) (k : Nat) :
    interval_computer_compute.f (k + 12) w (2 ^ n - 1) (-2 ^ (n - 1)) (2 ^ (n - 1) - 1) 0 (2 ^ n - 1) (-2 ^ (n - 1)) (2 ^ (n - 1) - 1) op [v] [a] = res w n ((cast op n m a.f0 a.f1 a.f2 a.f3).1, (cast op n m a.f0 a.f1 a.f2 a.f3).2.1) ((cast op n m a.f0 a.f1 a.f2 a.f3).2.2.1, (cast op n m a.f0 a.f1 a.f2 a.f3).2.2.2) := by
  have e : mn 1 (wrap64 ((([a] : List S30).length : Int) - 1)) = 0 := by show mn 1 (wrap64 (1 - 1)) = 0; decide +kernel
  have hc := convert_eq hw hv hn hm h64 ho (alo := a.f0) (ahi := a.f1) (al := a.f2) (am := a.f3) ha.2 ha.1
  have ho' : op = 22 ∨ op = 23 ∨ op = 24 := by omega
  unfold interval_computer_compute.f
  rw [e, if_pos (by simp), if_pos (by decide), if_pos (by simp), show rd_T30 [a] 0 = a from rfl, if_neg (by omega), if_neg (by omega), if_neg (by omega), if_neg (by omega), if_neg (by omega), if_neg (by omega), interval_computer_compute.j0, if_neg (by simp; omega), if_neg (by omega), if_neg (by omega), if_neg (by omega), if_neg (by omega), if_neg (by omega), interval_computer_compute.j1, if_neg (by simp; omega), if_neg (by omega)]
  rcases ho' with rfl | rfl | rfl
  · rw [if_pos rfl, interval_computer_compute.j2, if_pos (by decide), if_pos (by simp), show rd [v] 0 = v from rfl, hc]; rfl
  · rw [if_neg (by decide), if_pos rfl, interval_computer_compute.j2, if_pos (by decide), if_pos (by simp), show rd [v] 0 = v from rfl, hc]; rfl
  · rw [if_neg (by decide), if_neg (by decide), interval_computer_compute.j2, if_pos (by decide), if_pos (by simp), show rd [v] 0 = v from rfl, hc]; rfl
end Go.Proofs.Ytoddafkffchnjaa.As
