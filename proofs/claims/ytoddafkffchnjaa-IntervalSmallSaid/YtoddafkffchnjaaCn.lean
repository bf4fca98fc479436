import Derived.Test.YtoddafkffchnjaaCm
import Derived.Test.YtoddafkffchnjaaDf
/- What the computer's methods come to: shifts, extensions, comparisons, bitwise operators; and the whole. -/
namespace Go.Proofs.Ytoddafkffchnjaa.Cn
set_option linter.unusedVariables false
set_option linter.unusedSimpArgs false
set_option linter.unusedSectionVars false
open Go.RowKit Go.Proofs.Ytoddafkffchnjaa.P Go.Proofs.YtoddafkffchnjaaW.PrintWords Wd Im Iv Tg Lw0 Ap Cm

theorem shr_u {x y : Int} (hx : 0 ≤ x ∧ x < 18446744073709551616) (hy : 0 ≤ y) : shr .u64 x y = x / 2 ^ y.toNat := by
  unfold shr
  by_cases c : y.toNat ≤ 64
  · rw [show min y.toNat (IntKind.bits .u64) = y.toNat by show min _ 64 = _; omega]
  · rw [show min y.toNat (IntKind.bits .u64) = 64 by show min _ 64 = _; omega]
    have := pow_mono (a := 64) (b := y.toNat) (by omega)
    have e : (2 : Int) ^ 64 = 18446744073709551616 := by decide
    rw [Int.ediv_eq_zero_of_lt hx.1 (by omega), Int.ediv_eq_zero_of_lt hx.1 (by omega)]
theorem shr_i {x y : Int} (hy : 0 ≤ y ∧ y ≤ 64) : shr .i64 x y = x / 2 ^ y.toNat := by
  unfold shr
  rw [show min y.toNat (IntKind.bits .i64) = y.toNat by show min _ 64 = _; omega]
theorem shl_u {x y : Int} (hy : 0 ≤ y ∧ y ≤ 64) (h0 : 0 ≤ x * 2 ^ y.toNat) (h : x * 2 ^ y.toNat < 18446744073709551616) : shl .u64 x y = x * 2 ^ y.toNat := by
  unfold shl
  rw [show min y.toNat (IntKind.bits .u64) = y.toNat by show min _ 64 = _; omega, wrap_u64]; omega
theorem shl_i {x y : Int} (hy : 0 ≤ y ∧ y ≤ 64) (h : I64 (x * 2 ^ y.toNat)) : shl .i64 x y = x * 2 ^ y.toNat := by
  unfold shl
  rw [show min y.toNat (IntKind.bits .i64) = y.toNat by show min _ 64 = _; omega, IntKind.wrap_i64]; unfold I64 at h; omega
section
variable {w : Int} {n : Nat} (hw : w = n) (hn : 1 ≤ n) (h64 : n ≤ 64) {alo ahi al am blo bhi bl bm : Int} (ha0 : 0 ≤ alo) (hb0 : 0 ≤ blo) (va : Bd n alo ahi al am) (vb : Bd n blo bhi bl bm)
include hw hn h64 ha0 hb0 va vb
theorem lshr_eq (k : Nat) : interval_computer_shift.f k w (2 ^ n - 1) (-2 ^ (n - 1)) (2 ^ (n - 1) - 1) 0 (2 ^ n - 1) (-2 ^ (n - 1)) (2 ^ (n - 1) - 1) 13 alo ahi al am blo bhi bl bm = res w n (U 13 n alo ahi blo bhi) (-2 ^ (n - 1), 2 ^ (n - 1) - 1) := by
  obtain ⟨a1, a2, a3, a4, a5⟩ := va
  obtain ⟨b1, b2, b3, b4, b5⟩ := vb
  have hp := pow_le h64
  unfold interval_computer_shift.f
  rw [if_pos rfl, if_pos (by omega), if_pos hb0, shr_u (by omega) (by omega), shr_u (by omega) hb0]
  rfl
theorem ashr_eq (k : Nat) : interval_computer_shift.f (k + 4) w (2 ^ n - 1) (-2 ^ (n - 1)) (2 ^ (n - 1) - 1) 0 (2 ^ n - 1) (-2 ^ (n - 1)) (2 ^ (n - 1) - 1) 14 alo ahi al am blo bhi bl bm = res w n (0, 2 ^ n - 1) (S 14 n al am bl bm blo bhi) := by
  obtain ⟨b1, b2, b3, b4, b5⟩ := vb
  have e : IntKind.u64.wrap (wrap64 (w - 1)) = (n : Int) - 1 := by rw [wrap64_id (by omega) (by omega), wrap_u64]; omega
  have f1 := mn_facts blo ((n : Int) - 1)
  have f2 := mn_facts bhi ((n : Int) - 1)
  unfold interval_computer_shift.f
  rw [if_neg (by decide), if_pos rfl, e, if_pos (by omega), if_pos (by omega), shr_i (by omega), shr_i (by omega), shr_i (by omega), shr_i (by omega), corners_eq]
  rfl
theorem shl_eq (k : Nat) : interval_computer_shift.f k w (2 ^ n - 1) (-2 ^ (n - 1)) (2 ^ (n - 1) - 1) 0 (2 ^ n - 1) (-2 ^ (n - 1)) (2 ^ (n - 1) - 1) 12 alo ahi al am blo bhi bl bm = res w n (U 12 n alo ahi blo bhi) (S 12 n al am bl bm blo bhi) := by
  obtain ⟨ia, ia'⟩ := bd_i64 h64 va
  have va' := va
  have vb' := vb
  obtain ⟨a1, a2, a3, a4, a5⟩ := va
  obtain ⟨b1, b2, b3, b4, b5⟩ := vb
  have hp := pow_le h64
  have hp63 := pow_le63 (n := n - 1) (by omega)
  have hpp := pow_pos n
  have hpp1 := pow_pos (n - 1)
  have e : IntKind.u64.wrap (wrap64 (w - 1)) = (n : Int) - 1 := by rw [wrap64_id (by omega) (by omega), wrap_u64]; omega
  unfold interval_computer_shift.f
  rw [if_neg (by decide), if_neg (by decide), e]
  have eU : U 12 n alo ahi blo bhi = if blo = bhi then (if (n : Int) ≤ blo then (0, 0) else if ahi ≤ (2 ^ n - 1) / 2 ^ blo.toNat then (alo * 2 ^ blo.toNat, ahi * 2 ^ blo.toNat) else (0, 2 ^ n - 1)) else (0, 2 ^ n - 1) := by simp [U]
  have eS : S 12 n al am bl bm blo bhi = if blo = bhi ∧ blo < n ∧ (-2 ^ (n - 1)) / 2 ^ blo.toNat ≤ al ∧ am ≤ (2 ^ (n - 1) - 1) / 2 ^ blo.toNat then (al * 2 ^ blo.toNat, am * 2 ^ blo.toNat) else (-2 ^ (n - 1), 2 ^ (n - 1) - 1) := by simp [S]
  rw [eU, eS]
  by_cases c : blo = bhi
  · rw [if_pos c, if_pos c]
    by_cases c2 : blo > (n : Int) - 1
    · rw [if_pos c2, if_pos (show (n : Int) ≤ blo by omega), if_neg (by omega)]; rfl
    · have hps := pow_pos' blo.toNat
      rw [if_neg c2, if_pos hb0, if_neg (show ¬ (n : Int) ≤ blo by omega), shr_u (by omega) hb0]
      have hd : (2 : Int) ^ (n - 1) = 2 ^ (n - 1 - blo.toNat) * 2 ^ blo.toNat := by rw [← Int.pow_add]; congr 1; omega
      have sT : ∀ o0 o1, (if al ≥ shr .i64 (-2 ^ (n - 1)) blo then (if am ≤ shr .i64 (2 ^ (n - 1) - 1) blo then ((interval_computer_s.f w (2 ^ n - 1) (-2 ^ (n - 1)) (2 ^ (n - 1) - 1) o0 o1 (-2 ^ (n - 1)) (2 ^ (n - 1) - 1) (shl .i64 al blo) (shl .i64 am blo)).bind fun bt => (some (bt.1, bt.2.1, bt.2.2.1, bt.2.2.2.1, bt.2.2.2.2.1, bt.2.2.2.2.2.1, bt.2.2.2.2.2.2.1, bt.2.2.2.2.2.2.2))) else (some (w, 2 ^ n - 1, -2 ^ (n - 1), 2 ^ (n - 1) - 1, o0, o1, -2 ^ (n - 1), 2 ^ (n - 1) - 1))) else (some (w, 2 ^ n - 1, -2 ^ (n - 1), 2 ^ (n - 1) - 1, o0, o1, -2 ^ (n - 1), 2 ^ (n - 1) - 1))) = res w n (o0, o1) (if blo = bhi ∧ blo < n ∧ (-2 ^ (n - 1)) / 2 ^ blo.toNat ≤ al ∧ am ≤ (2 ^ (n - 1) - 1) / 2 ^ blo.toNat then (al * 2 ^ blo.toNat, am * 2 ^ blo.toNat) else (-2 ^ (n - 1), 2 ^ (n - 1) - 1)) := by
        intro o0 o1
        rw [shr_i (by omega), shr_i (by omega)]
        by_cases c3 : (-2 ^ (n - 1)) / 2 ^ blo.toNat ≤ al
        · rw [if_pos (show al ≥ _ from c3)]
          by_cases c4 : am ≤ (2 ^ (n - 1) - 1) / 2 ^ blo.toNat
          · rw [if_pos c4, if_pos ⟨c, by omega, c3, c4⟩]
            have h1 : am * 2 ^ blo.toNat ≤ 2 ^ (n - 1) - 1 := by
              have h1 := Int.mul_le_mul_of_nonneg_right c4 (show 0 ≤ (2 : Int) ^ blo.toNat by omega)
              have h2 := Int.ediv_mul_le (2 ^ (n - 1) - 1) (b := 2 ^ blo.toNat) (by omega)
              omega
            have h4 : -2 ^ (n - 1) ≤ al * 2 ^ blo.toNat := by
              rw [hd, ← Int.neg_mul, Int.mul_ediv_cancel _ (by omega)] at c3
              rw [hd, ← Int.neg_mul]
              exact Int.mul_le_mul_of_nonneg_right c3 (by omega)
            have h5 : al * 2 ^ blo.toNat ≤ am * 2 ^ blo.toNat := Int.mul_le_mul_of_nonneg_right a4 (by omega)
            rw [shl_i (by omega) (by unfold I64; omega), shl_i (by omega) (by unfold I64; omega)]; rfl
          · rw [if_neg c4, if_neg (fun h => c4 h.2.2.2)]; rfl
        · rw [if_neg (show ¬ al ≥ _ from c3), if_neg (fun h => c3 h.2.2.1)]; rfl
      by_cases c3 : ahi ≤ (2 ^ n - 1) / 2 ^ blo.toNat
      · rw [if_pos c3, if_pos c3]
        have h1 : ahi * 2 ^ blo.toNat ≤ 2 ^ n - 1 := by
          have h1 := Int.mul_le_mul_of_nonneg_right c3 (show 0 ≤ (2 : Int) ^ blo.toNat by omega)
          have h2 := Int.ediv_mul_le (2 ^ n - 1) (b := 2 ^ blo.toNat) (by omega)
          omega
        have h5 : alo * 2 ^ blo.toNat ≤ ahi * 2 ^ blo.toNat := Int.mul_le_mul_of_nonneg_right a1 (by omega)
        have h6 : 0 ≤ alo * 2 ^ blo.toNat := Int.mul_nonneg ha0 (by omega)
        rw [shl_u (by omega) h6 (by omega), shl_u (by omega) (by omega) (by omega)]
        exact sT _ _
      · rw [if_neg c3, if_neg c3]; exact sT _ _
  · rw [if_neg c, if_neg c, if_neg (fun h => c h.1)]; rfl
end
theorem convert_eq {w v : Int} {n m : Nat} (hw : w = n) (hv : v = m) (hn : 1 ≤ n) (hm : 1 ≤ m) (h64 : n ≤ 64) {op : Int} (ho : (op = 22 ∧ m ≤ n) ∨ (op = 23 ∧ m ≤ n) ∨ (op = 24 ∧ n ≤ m)) {alo ahi al am : Int} (ha0 : 0 ≤ alo) (va : Bd m alo ahi al am) (k : Nat) :
    interval_computer_convert.f (k + 1) w (2 ^ n - 1) (-2 ^ (n - 1)) (2 ^ (n - 1) - 1) 0 (2 ^ n - 1) (-2 ^ (n - 1)) (2 ^ (n - 1) - 1) op v alo ahi al am = res w n ((cast op n m alo ahi al am).1, (cast op n m alo ahi al am).2.1) ((cast op n m alo ahi al am).2.2.1, (cast op n m alo ahi al am).2.2.2) := by
  obtain ⟨a1, a2, a3, a4, a5⟩ := va
  unfold interval_computer_convert.f Ap.cast
  by_cases c : n = m
  · subst c
    rcases ho with ⟨rfl, _⟩ | ⟨rfl, _⟩ | ⟨rfl, _⟩
    · rw [if_pos rfl, if_pos rfl]
      unfold interval_computer_u.f
      simp only [Option.bind_some]
      rw [if_neg (by omega)]; rfl
    · rw [if_neg (by decide), if_pos rfl, if_pos (by omega), if_pos rfl]; rfl
    · have i1 : inr n al := ⟨by omega, by omega⟩
      have i2 : inr n am := ⟨by omega, by omega⟩
      rw [if_neg (by decide), if_neg (by decide), if_pos a2, if_pos rfl]
      unfold interval_computer_u.f
      rw [Option.bind_some, interval_computer_convert.j0, within_eq, Option.bind_some, if_pos (decide_eq_true i1), within_eq, Option.bind_some, if_pos (decide_eq_true i2)]; rfl
  · rw [if_neg c]
    rcases ho with ⟨rfl, h⟩ | ⟨rfl, h⟩ | ⟨rfl, h⟩
    · have := pow_le63 (n := m) (by omega)
      rw [if_pos rfl, if_pos rfl]
      unfold interval_computer_u.f
      simp only [Option.bind_some]
      rw [if_pos (by omega), wrap64_id (by omega) (by omega), wrap64_id (by omega) (by omega)]; rfl
    · rw [if_neg (by decide), if_pos rfl, if_neg (by omega), if_neg (by decide), if_pos rfl]; rfl
    · rw [if_neg (by decide), if_neg (by decide), if_neg (show ¬ (24 : Int) = 22 by decide), if_neg (show ¬ (24 : Int) = 23 by decide)]
      have J : ∀ o0 o1, interval_computer_convert.j0 (k + 1) w (2 ^ n - 1) (-2 ^ (n - 1)) (2 ^ (n - 1) - 1) o0 o1 (-2 ^ (n - 1)) (2 ^ (n - 1) - 1) alo ahi al am = res w n (o0, o1) ((if inr n al ∧ inr n am then al else -2 ^ (n - 1)), (if inr n al ∧ inr n am then am else 2 ^ (n - 1) - 1)) := by
        intro o0 o1
        rw [interval_computer_convert.j0, within_eq, Option.bind_some]
        by_cases c1 : inr n al
        · rw [if_pos (decide_eq_true c1), within_eq, Option.bind_some]
          by_cases c2 : inr n am
          · rw [if_pos (decide_eq_true c2), if_pos ⟨c1, c2⟩, if_pos ⟨c1, c2⟩]; rfl
          · rw [if_neg (by simpa using c2), if_neg (fun h => c2 h.2), if_neg (fun h => c2 h.2)]; rfl
        · rw [if_neg (by simpa using c1), if_neg (fun h => c1 h.1), if_neg (fun h => c1 h.1)]; rfl
      by_cases c3 : ahi ≤ 2 ^ n - 1
      · rw [if_pos c3, if_pos c3, if_pos c3]
        unfold interval_computer_u.f
        rw [Option.bind_some]; exact J _ _
      · rw [if_neg c3, if_neg c3, if_neg c3]; exact J _ _
theorem one_one : interval_Of.f 1 1 = some (1, 1, -1, -1) := by rw [of_eq 1 (by decide)]; decide
theorem one_zero : interval_Of.f 1 0 = some (0, 0, 0, 0) := by rw [of_eq 1 (by decide)]; decide
theorem truth_eq (w m mi ma : Int) (yes no : Prop) [Decidable yes] [Decidable no] (k : Nat) : interval_computer_truth.f (k + 1) w m mi ma 0 1 (-1) 0 (decide yes) (decide no) = some (w, m, mi, ma, (dec yes no).1, (dec yes no).2.1, (dec yes no).2.2.1, (dec yes no).2.2.2) := by
  unfold interval_computer_truth.f dec
  by_cases c : yes
  · rw [if_pos (decide_eq_true c), if_pos c, interval_computer_truth.j0, if_pos rfl, if_pos (decide_eq_true c), one_one]; rfl
  · rw [if_neg (by simpa using c), if_neg c, interval_computer_truth.j0]
    by_cases c2 : no
    · rw [if_pos (decide_eq_true c2), if_neg (by simpa using c), one_zero, if_pos c2]; rfl
    · rw [if_neg (by simpa using c2), if_neg c2]
theorem compare_eq' {op : Int} (ho : 15 ≤ op ∧ op ≤ 20) (w m mi ma alo ahi al am blo bhi bl bm : Int) (k : Nat) :
    interval_computer_compare.f (k + 2) w m mi ma 0 1 (-1) 0 op alo ahi al am blo bhi bl bm = some (w, m, mi, ma, (cmp op alo ahi al am blo bhi bl bm).1, (cmp op alo ahi al am blo bhi bl bm).2.1, (cmp op alo ahi al am blo bhi bl bm).2.2.1, (cmp op alo ahi al am blo bhi bl bm).2.2.2) := by
  have J : ∀ b : Bool, b = decide (Apart alo ahi al am blo bhi bl bm) → interval_computer_compare.j0 (k + 2) op b w m mi ma 0 1 (-1) 0 alo ahi al am blo bhi bl bm = some (w, m, mi, ma, (cmp op alo ahi al am blo bhi bl bm).1, (cmp op alo ahi al am blo bhi bl bm).2.1, (cmp op alo ahi al am blo bhi bl bm).2.2.1, (cmp op alo ahi al am blo bhi bl bm).2.2.2) := by
    intro b hb
    subst hb
    have tf := fun (p : Prop) [Decidable p] => truth_eq w m mi ma p False k
    have ft := fun (p : Prop) [Decidable p] => truth_eq w m mi ma False p k
    have e : (decide False) = false := rfl
    rw [e] at tf ft
    obtain rfl | rfl | rfl | rfl | rfl | rfl : op = 15 ∨ op = 16 ∨ op = 17 ∨ op = 18 ∨ op = 19 ∨ op = 20 := by omega
    · rw [interval_computer_compare.j0, if_pos rfl, ft]; simp [cmp]
    · rw [interval_computer_compare.j0, if_neg (by decide), if_pos rfl, tf]; simp [cmp]
    · rw [interval_computer_compare.j0, if_neg (by decide), if_neg (by decide), if_pos rfl, truth_eq]; simp [cmp]
    · rw [interval_computer_compare.j0, if_neg (by decide), if_neg (by decide), if_neg (by decide), if_pos rfl, truth_eq]; simp [cmp]
    · rw [interval_computer_compare.j0, if_neg (by decide), if_neg (by decide), if_neg (by decide), if_neg (by decide), if_pos rfl, truth_eq]; simp [cmp]
    · rw [interval_computer_compare.j0, if_neg (by decide), if_neg (by decide), if_neg (by decide), if_neg (by decide), if_neg (by decide), truth_eq]; simp [cmp]
  unfold interval_computer_compare.f
  by_cases c1 : ahi < blo
  · rw [if_pos c1]; exact J _ (decide_eq_true (Or.inl c1)).symm
  · rw [if_neg c1]
    by_cases c2 : bhi < alo
    · rw [if_pos c2]; exact J _ (decide_eq_true (Or.inr (Or.inl c2))).symm
    · rw [if_neg c2]
      by_cases c3 : am < bl
      · rw [if_pos c3]; exact J _ (decide_eq_true (Or.inr (Or.inr (Or.inl c3)))).symm
      · rw [if_neg c3]; exact J _ (by rw [decide_eq_decide]; unfold Apart; omega)
/-! ### Lengths -/
theorem len_div {z s : Nat} (h : 2 ^ s ≤ z) : len z = len (z / 2 ^ s) + s := by
  have hp := Nat.two_pow_pos s
  have h1 : 1 ≤ z / 2 ^ s := (Nat.le_div_iff_mul_le hp).2 (by omega)
  apply len_uniq
  · have := lt_len (z / 2 ^ s)
    rw [Nat.pow_add]
    exact (Nat.div_lt_iff_lt_mul hp).1 this
  · intro j hj
    have hs : s ≤ j := by
      rcases Nat.lt_or_ge j s with c | c
      · have := Nat.pow_le_pow_right (n := 2) (by decide) (show j ≤ s by omega)
        omega
      · exact c
    have : z / 2 ^ s < 2 ^ (j - s) := by
      apply (Nat.div_lt_iff_lt_mul hp).2
      rw [← Nat.pow_add, Nat.sub_add_cancel hs]; exact hj
    have := (len_lt _ _).1 this
    omega
def T8 : ByteArray := ⟨#[0, 1, 2, 2, 3, 3, 3, 3, 4, 4, 4, 4, 4, 4, 4, 4, 5, 5, 5, 5, 5, 5, 5, 5, 5, 5, 5, 5, 5, 5, 5, 5, 6, 6, 6, 6, 6, 6, 6, 6, 6, 6, 6, 6, 6, 6, 6, 6, 6, 6, 6, 6, 6, 6, 6, 6, 6, 6, 6, 6, 6, 6, 6, 6, 7, 7, 7, 7, 7, 7, 7, 7, 7, 7, 7, 7, 7, 7, 7, 7, 7, 7, 7, 7, 7, 7, 7, 7, 7, 7, 7, 7, 7, 7, 7, 7, 7, 7, 7, 7, 7, 7, 7, 7, 7, 7, 7, 7, 7, 7, 7, 7, 7, 7, 7, 7, 7, 7, 7, 7, 7, 7, 7, 7, 7, 7, 7, 7, 8, 8, 8, 8, 8, 8, 8, 8, 8, 8, 8, 8, 8, 8, 8, 8, 8, 8, 8, 8, 8, 8, 8, 8, 8, 8, 8, 8, 8, 8, 8, 8, 8, 8, 8, 8, 8, 8, 8, 8, 8, 8, 8, 8, 8, 8, 8, 8, 8, 8, 8, 8, 8, 8, 8, 8, 8, 8, 8, 8, 8, 8, 8, 8, 8, 8, 8, 8, 8, 8, 8, 8, 8, 8, 8, 8, 8, 8, 8, 8, 8, 8, 8, 8, 8, 8, 8, 8, 8, 8, 8, 8, 8, 8, 8, 8, 8, 8, 8, 8, 8, 8, 8, 8, 8, 8, 8, 8, 8, 8, 8, 8, 8, 8, 8, 8, 8, 8, 8, 8, 8, 8, 8, 8, 8, 8, 8, 8]⟩
theorem T8_len : ∀ i : Fin 256, bt T8 (i.1 : Int) = (len i.1 : Int) := by decide +kernel
theorem T8_at {x : Int} (h0 : 0 ≤ x) (h : x < 256) : bt T8 (x % 256) = (len x.toNat : Int) := by
  have := T8_len ⟨x.toNat, by omega⟩
  simp only at this
  rw [show x % 256 = ((x.toNat : Nat) : Int) by omega]; exact this
theorem len_hi {x : Int} {s : Nat} {p : Int} (hp : p = 2 ^ s) (h : p ≤ x) : (len x.toNat : Int) = (len (x / p).toNat : Int) + s := by
  have hpp := pow_pos' s
  have e1 := pow_toNat s
  have hz : 2 ^ s ≤ x.toNat := by omega
  have e : (x / p).toNat = x.toNat / 2 ^ s := by
    subst hp
    obtain ⟨a, rfl⟩ := Int.eq_ofNat_of_zero_le (show 0 ≤ x by omega)
    rw [← cast_pow]
    simp only [← Int.natCast_ediv, Int.toNat_natCast]
  rw [e, len_div hz]; omega
/-- The three ways that the length is put together. -/
theorem put3 {a L c : Int} {r : Option Int} (h : a = L) (hc : 0 ≤ c ∧ c ≤ 32) (h0 : 0 ≤ L) (h8 : L ≤ 8) (e : some (L + 8 + 16 + c) = r) : some (wrap64 (wrap64 (wrap64 (c + 16) + 8) + wrap64 a)) = r := by
  have w : ∀ y : Int, 0 ≤ y → y ≤ 1000 → wrap64 y = y := fun y h h' => wrap64_id (by omega) (by omega)
  rw [h, w L (by omega) (by omega), w (c + 16) (by omega) (by omega), w (c + 16 + 8) (by omega) (by omega), w (c + 16 + 8 + L) (by omega) (by omega), ← e]; congr 1; omega
theorem put2 {a L c d : Int} {r : Option Int} (h : a = L) (hd : 0 ≤ d ∧ d ≤ 16) (hc : 0 ≤ c ∧ c ≤ 32) (h0 : 0 ≤ L) (h8 : L ≤ 8) (e : some (L + d + c) = r) : some (wrap64 (wrap64 (c + d) + wrap64 a)) = r := by
  have w : ∀ y : Int, 0 ≤ y → y ≤ 1000 → wrap64 y = y := fun y h h' => wrap64_id (by omega) (by omega)
  rw [h, w L (by omega) (by omega), w (c + d) (by omega) (by omega), w (c + d + L) (by omega) (by omega), ← e]; congr 1; omega
theorem put1 {a L c : Int} {r : Option Int} (h : a = L) (hc : 0 ≤ c ∧ c ≤ 32) (h0 : 0 ≤ L) (h8 : L ≤ 8) (e : some (L + c) = r) : some (wrap64 (c + wrap64 a)) = r := by
  have w : ∀ y : Int, 0 ≤ y → y ≤ 1000 → wrap64 y = y := fun y h h' => wrap64_id (by omega) (by omega)
  rw [h, w L (by omega) (by omega), w (c + L) (by omega) (by omega), ← e]; congr 1; omega
theorem len64_j (k : Nat) {x : Int} (c : Int) (hc : 0 ≤ c ∧ c ≤ 32) (h0 : 0 ≤ x) (h : x < 4294967296) : bits_Len64.j0 (k + 1) x c = some ((len x.toNat : Int) + c) := by
  have l8 : ∀ y : Int, 0 ≤ y → y < 256 → (len y.toNat : Int) ≤ 8 := fun y h0 h => by
    have := len_le (z := y.toNat) (k := 8) (by omega)
    omega
  have w : ∀ y : Int, 0 ≤ y → y ≤ 1000 → wrap64 y = y := fun y h h' => wrap64_id (by omega) (by omega)
  rw [bits_Len64.j0]
  by_cases c1 : x ≥ 65536
  · rw [if_pos c1]
    have e1 := len_hi (x := x) (s := 16) (p := 65536) (by decide) c1
    by_cases c2 : x / 65536 ≥ 256
    · have e2 := len_hi (x := x / 65536) (s := 8) (p := 256) (by decide) c2
      have a := T8_at (x := x / 65536 / 256) (by omega) (by omega)
      have b := l8 (x / 65536 / 256) (by omega) (by omega)
      rw [if_pos c2, if_pos (by omega), if_pos (by omega)]
      exact put3 a hc (Int.natCast_nonneg _) b (by rw [e1, e2]; rfl)
    · have a := T8_at (x := x / 65536) (by omega) (by omega)
      have b := l8 (x / 65536) (by omega) (by omega)
      rw [if_neg c2, if_pos (by omega), if_pos (by omega)]
      exact put2 a (by decide) hc (Int.natCast_nonneg _) b (by rw [e1]; rfl)
  · rw [if_neg c1]
    by_cases c2 : x ≥ 256
    · have e2 := len_hi (x := x) (s := 8) (p := 256) (by decide) c2
      have a := T8_at (x := x / 256) (by omega) (by omega)
      have b := l8 (x / 256) (by omega) (by omega)
      rw [if_pos c2, if_pos (by omega), if_pos (by omega)]
      exact put2 a (by decide) hc (Int.natCast_nonneg _) b (by rw [e2]; rfl)
    · have a := T8_at (x := x) (by omega) (by omega)
      have b := l8 x (by omega) (by omega)
      rw [if_neg c2, if_pos (by omega), if_pos (by omega)]
      exact put1 a hc (Int.natCast_nonneg _) b rfl
theorem len64_eq (k : Nat) {x : Int} (hx : 0 ≤ x ∧ x < 18446744073709551616) : bits_Len64.f (k + 1) x = some (len x.toNat : Int) := by
  unfold bits_Len64.f
  by_cases c : x ≥ 4294967296
  · have e := len_hi (x := x) (s := 32) (p := 4294967296) (by decide) c
    rw [if_pos c, len64_j k 32 (by decide) (by omega) (by omega)]; congr 1; omega
  · rw [if_neg c, len64_j k 0 (by decide) hx.1 (by omega)]; simp
theorem join_eq (a b : R) : interval_Join.f a.1 a.2.1 a.2.2.1 a.2.2.2 b.1 b.2.1 b.2.2.1 b.2.2.2 = some (join a b) := by unfold interval_Join.f; rfl
/-- Bounds as the program's struct has them. -/
def q (s : S30) : R := (s.f0, s.f1, s.f2, s.f3)
section
variable {w : Int} {n : Nat} (hw : w = n) (hn : 1 ≤ n) (h64 : n ≤ 64)
include hw hn h64
theorem two_eq {op : Int} (ho : 2 ≤ op ∧ op ≤ 14) (ws : List Int) (a b : S30) (va : BdR n (q a)) (vb : BdR n (q b)) (k : Nat) :
    interval_computer_compute.f (k + 12) w (2 ^ n - 1) (-2 ^ (n - 1)) (2 ^ (n - 1) - 1) 0 (2 ^ n - 1) (-2 ^ (n - 1)) (2 ^ (n - 1) - 1) op ws [a, b] = res w n (U op n a.f0 a.f1 b.f0 b.f1) (S op n a.f2 a.f3 b.f2 b.f3 b.f0 b.f1) := by
  obtain ⟨va, ha0⟩ := va
  obtain ⟨vb, hb0⟩ := vb
  simp only [q] at va vb ha0 hb0
  have e : mn 1 (wrap64 ((([a, b] : List S30).length : Int) - 1)) = 1 := by show mn 1 (wrap64 (2 - 1)) = 1; decide +kernel
  unfold interval_computer_compute.f
  rw [e, if_pos (by simp), if_pos (by decide), if_pos (by simp), show rd_T30 [a, b] 0 = a from rfl, show rd_T30 [a, b] 1 = b from rfl]
  have rs : ∀ u s, (res w n u s).bind (fun bt => (some (bt.1, bt.2.1, bt.2.2.1, bt.2.2.2.1, bt.2.2.2.2.1, bt.2.2.2.2.2.1, bt.2.2.2.2.2.2.1, bt.2.2.2.2.2.2.2))) = res w n u s := fun u s => rfl
  have hp := pow_le h64
  have hm : ∀ (x y : Int), 0 ≤ x → 0 ≤ y → x ≤ 2 ^ n - 1 → y ≤ 2 ^ n - 1 → 0 ≤ Go.bits .or .u64 x y ∧ Go.bits .or .u64 x y < 18446744073709551616 ∧ len (Go.bits .or .u64 x y).toNat = len (mx x y).toNat ∧ len (mx x y).toNat ≤ 64 := by
    intro x y h1 h2 h3 h4
    have f := mx_facts x y
    rw [bor x y (by omega) (by omega)]
    have h5 := Nat.or_lt_two_pow (n := 64) (x := x.toNat) (y := y.toNat) (by omega) (by omega)
    refine ⟨by omega, by omega, ?_, len_le (by omega)⟩
    rw [Int.toNat_natCast, len_or]; congr 1; omega
  have h1 := va.h1
  have h2 := va.h2
  have h3 := vb.h1
  have h4 := vb.h2
  have mk : ∀ l : Nat, l ≤ 64 → bits_Mask.f (l : Int) = some (2 ^ l - 1) := fun l hl => by
    rw [mask_eq]; have : (nn (l : Int) : Int) = l := nn_of (by omega) (by omega)
    rw [show nn (l : Int) = l by omega]
  obtain ⟨o1, o2, o3, o4⟩ := hm a.f1 b.f1 (by omega) (by omega) h2 h4
  have uS : ∀ op : Int, (op = 5 ∨ op = 6 ∨ op = 9 ∨ op = 10 ∨ op = 11 ∨ op = 13) → S op n a.f2 a.f3 b.f2 b.f3 b.f0 b.f1 = (-2 ^ (n - 1), 2 ^ (n - 1) - 1) := by
    intro op h; rcases h with rfl | rfl | rfl | rfl | rfl | rfl <;> simp [S]
  have uU : ∀ op : Int, (op = 7 ∨ op = 8 ∨ op = 14) → U op n a.f0 a.f1 b.f0 b.f1 = (0, 2 ^ n - 1) := by
    intro op h; rcases h with rfl | rfl | rfl <;> simp [U]
  obtain rfl | rfl | rfl | rfl | rfl | rfl | rfl | rfl | rfl | rfl | rfl | rfl | rfl : op = 2 ∨ op = 3 ∨ op = 4 ∨ op = 5 ∨ op = 6 ∨ op = 7 ∨ op = 8 ∨ op = 9 ∨ op = 10 ∨ op = 11 ∨ op = 12 ∨ op = 13 ∨ op = 14 := by omega
  · rw [if_pos rfl, add_eq w hn h64 ha0 hb0 va vb, rs]
  · rw [if_neg (by decide), if_pos rfl, sub_eq w hn h64 ha0 hb0 va vb, rs]
  · rw [if_neg (by decide), if_neg (by decide), if_pos rfl, mul_eq w hn h64 ha0 hb0 va vb, rs]
  · rw [if_neg (by decide), if_neg (by decide), if_neg (by decide), if_pos rfl, interval_computer_compute.j0, if_pos (by decide), udiv_eq w hn h64 ha0 hb0 va vb, rs, uS 5 (by omega)]
  · rw [if_neg (by decide), if_neg (by decide), if_neg (by decide), if_neg (by decide), if_pos rfl, interval_computer_compute.j0, if_pos (by decide), urem_eq w hn h64 ha0 hb0 va vb, rs, uS 6 (by omega)]
  · rw [if_neg (by decide), if_neg (by decide), if_neg (by decide), if_neg (by decide), if_neg (by decide), if_pos rfl, interval_computer_compute.j0, if_pos (by decide), sdiv_eq w hn h64 ha0 hb0 va vb, rs, uU 7 (by omega)]
  · rw [if_neg (by decide), if_neg (by decide), if_neg (by decide), if_neg (by decide), if_neg (by decide), if_neg (by decide), interval_computer_compute.j0, if_pos (by decide), srem_eq w hn h64 ha0 hb0 va vb, rs, uU 8 (by omega)]
  · rw [if_neg (by decide), if_neg (by decide), if_neg (by decide), if_neg (by decide), if_neg (by decide), if_neg (by decide), interval_computer_compute.j0, if_neg (by decide), if_pos rfl, uS 9 (by omega)]; rfl
  · rw [if_neg (by decide), if_neg (by decide), if_neg (by decide), if_neg (by decide), if_neg (by decide), if_neg (by decide), interval_computer_compute.j0, if_neg (by decide), if_neg (by decide), if_pos rfl, len64_eq _ ⟨o1, o2⟩, Option.bind_some, o3, mk _ o4, uS 10 (by omega)]; rfl
  · rw [if_neg (by decide), if_neg (by decide), if_neg (by decide), if_neg (by decide), if_neg (by decide), if_neg (by decide), interval_computer_compute.j0, if_neg (by decide), if_neg (by decide), if_neg (by decide), if_pos rfl, len64_eq _ ⟨o1, o2⟩, Option.bind_some, o3, mk _ o4, uS 11 (by omega)]; rfl
  · rw [if_neg (by decide), if_neg (by decide), if_neg (by decide), if_neg (by decide), if_neg (by decide), if_neg (by decide), interval_computer_compute.j0, if_neg (by decide), if_neg (by decide), if_neg (by decide), if_neg (by decide), if_pos rfl, interval_computer_compute.j1, if_pos (by decide), shl_eq hw hn h64 ha0 hb0 va vb, rs]
  · rw [if_neg (by decide), if_neg (by decide), if_neg (by decide), if_neg (by decide), if_neg (by decide), if_neg (by decide), interval_computer_compute.j0, if_neg (by decide), if_neg (by decide), if_neg (by decide), if_neg (by decide), if_neg (by decide), if_pos rfl, interval_computer_compute.j1, if_pos (by decide), lshr_eq hw hn h64 ha0 hb0 va vb, rs, uS 13 (by omega)]
  · rw [if_neg (by decide), if_neg (by decide), if_neg (by decide), if_neg (by decide), if_neg (by decide), if_neg (by decide), interval_computer_compute.j0, if_neg (by decide), if_neg (by decide), if_neg (by decide), if_neg (by decide), if_neg (by decide), if_neg (by decide), interval_computer_compute.j1, if_pos (by decide), ashr_eq hw hn h64 ha0 hb0 va vb, rs, uU 14 (by omega)]
end
end Go.Proofs.Ytoddafkffchnjaa.Cn
