import Derived.Test.YtoddafkffchnjaaWd
import Derived.Test.YtoddafkffchnjaaDf
/- What the functions of package bits come to, in plain arithmetic of words. -/
namespace Go.Proofs.Ytoddafkffchnjaa.Im
set_option linter.unusedVariables false
set_option linter.unusedSimpArgs false
set_option linter.unusedSectionVars false
open Go.RowKit Go.Proofs.Ytoddafkffchnjaa.P Go.Proofs.YtoddafkffchnjaaW.PrintWords Wd

theorem limit_eq (w : Int) : bits_limit.f w = some (nn w : Int) := by unfold bits_limit.f; rw [nn_int]
theorem mask_eq (w : Int) : bits_Mask.f w = some (2 ^ nn w - 1) := by
  unfold bits_Mask.f
  rw [limit_eq, Option.bind_some]
  have h := nn_le w
  by_cases h0 : nn w = 0
  · rw [if_pos (by omega), h0]; rfl
  · rw [if_neg (by omega), if_pos (by unfold wrap64; omega), shr_ones h]
theorem fit_eq (w : Int) {x : Int} (hx : 0 ≤ x ∧ x < 18446744073709551616) : bits_Fit.f w x = some (x % 2 ^ nn w) := by
  unfold bits_Fit.f
  rw [mask_eq, Option.bind_some, and_mask (nn_le w) hx]
theorem negative_eq (w : Int) {x : Int} (hx : 0 ≤ x) (hx1 : x < 2 ^ nn w) : bits_negative.f w x = some (decide (2 ^ (nn w - 1) ≤ x)) := by
  unfold bits_negative.f
  rw [limit_eq, Option.bind_some]
  have h := nn_le w
  by_cases h0 : nn w = 0
  · rw [if_neg (by omega), h0]
    rw [h0] at hx1
    have : ¬ ((2 : Int) ^ (0 - 1) ≤ x) := by simp at hx1 ⊢; omega
    rw [decide_eq_false this]
  · have e : wrap64 ((nn w : Int) - 1) = ((nn w - 1 : Nat) : Int) := by unfold wrap64; omega
    rw [if_pos (by omega), if_pos (by rw [e]; omega), e]
    have hs : shr .u64 x ((nn w - 1 : Nat) : Int) = x / 2 ^ (nn w - 1) := by
      unfold shr
      rw [show min ((nn w - 1 : Nat) : Int).toNat (IntKind.bits .u64) = nn w - 1 by show min _ 64 = _; omega]
    have hp := pow_pos (nn w - 1)
    have hp2 := pow_succ' (n := nn w) (by omega)
    have hp3 := pow_le h
    have hd : 0 ≤ x / 2 ^ (nn w - 1) := Int.ediv_nonneg hx (by omega)
    have hd2 : x / 2 ^ (nn w - 1) < 2 := Int.ediv_lt_of_lt_mul (by omega) (by omega)
    rw [hs, and_one ⟨hd, by omega⟩, Int.emod_eq_of_lt hd hd2]
    congr 1
    by_cases hc : 2 ^ (nn w - 1) ≤ x
    · have : 1 ≤ x / 2 ^ (nn w - 1) := Int.le_ediv_of_mul_le (by omega) (by omega)
      rw [decide_eq_true hc, show x / 2 ^ (nn w - 1) = 1 by omega]; rfl
    · have : x / 2 ^ (nn w - 1) < 1 := Int.ediv_lt_of_lt_mul (by omega) (by omega)
      rw [decide_eq_false hc, show x / 2 ^ (nn w - 1) = 0 by omega]; rfl
theorem signed_eq (w : Int) {x : Int} (hx : 0 ≤ x ∧ x < 18446744073709551616) : bits_Signed.f w x = some (sg (nn w) x) := by
  unfold bits_Signed.f
  have h := nn_le w
  obtain ⟨m0, m1⟩ := mod_lt (nn w) x
  have hp := pow_pos (nn w)
  have hp3 := pow_le h
  rw [fit_eq w hx, Option.bind_some, negative_eq w m0 m1, Option.bind_some]
  by_cases hc : 2 ^ (nn w - 1) ≤ x % 2 ^ nn w
  · rw [if_pos (decide_eq_true hc), mask_eq, Option.bind_some, compl h, or_compl h m0 m1]
    have hn : 1 ≤ nn w := by
      rcases Nat.eq_zero_or_pos (nn w) with h0 | h0
      · rw [h0] at hc m1; simp at hc m1 <;> omega
      · exact h0
    have hp2 := pow_succ' hn
    have := pow_le63 (n := nn w - 1) (by omega)
    unfold sg wrap64
    rw [if_neg (by omega)]
    congr 1; omega
  · rw [if_neg (by simpa using hc)]
    unfold sg
    rw [if_pos (by omega), wrap64_id (by omega) (by
      rcases Nat.eq_zero_or_pos (nn w) with h0 | h0
      · rw [h0] at m1 ⊢; simp at m1 ⊢ <;> omega
      · have := pow_le63 (n := nn w - 1) (by omega)
        omega)]
theorem from_eq (w x : Int) : bits_From.f w x = some (x % 2 ^ nn w) := by
  unfold bits_From.f
  rw [fit_eq w (by rw [wrap_u64]; omega), Option.bind_some, wrap_mod (nn_le w)]
theorem one_eq (b : Bool) : bits_one.f b = some (if b then 1 else 0) := by unfold bits_one.f; cases b <;> rfl
theorem isBinary_eq (op : Int) : bits_IsBinary.f op = some (decide (2 ≤ op ∧ op ≤ 20)) := by
  unfold bits_IsBinary.f
  by_cases h : op ≥ 2
  · rw [if_pos h]; congr 1; simp; omega
  · rw [if_neg h]; congr 1; simp; omega

/-- The value of a binary operator on words of n bits. -/
def bin (op : Int) (n : Nat) (a b : Int) : Int :=
  if op = 2 then (a + b) % 2 ^ n else if op = 3 then (a - b) % 2 ^ n else if op = 4 then (a * b) % 2 ^ n
  else if op = 5 then (if b = 0 then 2 ^ n - 1 else a / b) else if op = 6 then (if b = 0 then a else a % b)
  else if op = 7 then (if b = 0 then 2 ^ n - 1 else Int.tdiv (sg n a) (sg n b) % 2 ^ n)
  else if op = 8 then (if b = 0 then a else Int.tmod (sg n a) (sg n b) % 2 ^ n)
  else if op = 9 then ((a.toNat &&& b.toNat : Nat) : Int) else if op = 10 then ((a.toNat ||| b.toNat : Nat) : Int) else if op = 11 then ((a.toNat ^^^ b.toNat : Nat) : Int)
  else if op = 12 then (if (n : Int) ≤ b then 0 else (a * 2 ^ b.toNat) % 2 ^ n)
  else if op = 13 then (if (n : Int) ≤ b then 0 else a / 2 ^ b.toNat)
  else if op = 14 then (if (n : Int) ≤ b then (if 2 ^ (n - 1) ≤ a then 2 ^ n - 1 else 0) else (sg n a / 2 ^ b.toNat) % 2 ^ n)
  else if op = 15 then (if a = b then 1 else 0) else if op = 16 then (if a = b then 0 else 1)
  else if op = 17 then (if a < b then 1 else 0) else if op = 18 then (if a ≤ b then 1 else 0)
  else if op = 19 then (if sg n a < sg n b then 1 else 0) else (if sg n a ≤ sg n b then 1 else 0)

section
variable {w : Int} (h1 : 1 ≤ w) (h2 : w ≤ 64) {a b : Int} (ha0 : 0 ≤ a) (ha : a < 2 ^ nn w) (hb0 : 0 ≤ b) (hb : b < 2 ^ nn w)
include h1 h2 ha0 ha hb0 hb
theorem sg_eq_zero {n : Nat} {x : Int} (hn : 1 ≤ n) (hx0 : 0 ≤ x) (hx : x < 2 ^ n) : sg n x = 0 ↔ x = 0 := by
  have := pow_succ' hn
  unfold sg; rw [mod_small hx0 hx]; split <;> omega
theorem ssigned_eq : bits_signed.f w a b = some (bin 7 (nn w) a b, bin 8 (nn w) a b) := by
  have hn := nn_of (w := w) (by omega) h2
  have hp := pow_pos (nn w)
  have hp3 := pow_le (nn_le w)
  unfold bits_signed.f
  rw [signed_eq w (x := a) ⟨ha0, by omega⟩, Option.bind_some, signed_eq w (x := b) ⟨hb0, by omega⟩, Option.bind_some]
  have hz := sg_eq_zero h1 h2 ha0 ha hb0 hb (n := nn w) (x := b) (by omega) hb0 hb
  by_cases c0 : sg (nn w) b = 0
  · have hb1 := hz.1 c0
    rw [if_pos c0, mask_eq, Option.bind_some]
    simp [bin, hb1]
  · have hb1 : ¬ b = 0 := fun h => c0 (hz.2 h)
    rw [if_neg c0]
    by_cases c1 : sg (nn w) b = -1
    · rw [if_pos c1, fit_eq w (by rw [wrap_u64]; omega), Option.bind_some, wrap_mod (nn_le w)]
      simp only [bin, c1, hb1]
      simp
      have : -a % 2 ^ nn w = - sg (nn w) a % 2 ^ nn w := by
        have e := sg_mod (n := nn w) a
        rw [← Int.zero_sub, ← Int.zero_sub (sg (nn w) a), Int.sub_emod, ← e, ← Int.sub_emod]
      exact this
    · rw [if_neg c1, from_eq, Option.bind_some, from_eq, Option.bind_some]
      have hr := sg_I (nn_le w) a
      have hr2 := sg_I (nn_le w) b
      have hq : wrap64 (Int.tdiv (sg (nn w) a) (sg (nn w) b)) = Int.tdiv (sg (nn w) a) (sg (nn w) b) := by
        by_cases cb : sg (nn w) b = 1
        · rw [cb, Int.tdiv_one]; exact wrap64_id hr.1 hr.2
        have h3 : (Int.tdiv (sg (nn w) a) (sg (nn w) b)).natAbs ≤ (sg (nn w) a).natAbs / 2 := by
          rw [Int.natAbs_tdiv]
          exact Nat.div_le_div_left (by omega) (by decide)
        apply wrap64_id <;> omega
      rw [hq]
      simp [bin, hb1]
theorem divide_eq {op : Int} (ho : op = 5 ∨ op = 6 ∨ op = 7 ∨ op = 8) : bits_divide.f op w a b = some (bin op (nn w) a b) := by
  have hp3 := pow_le (nn_le w)
  unfold bits_divide.f
  rcases ho with rfl | rfl | rfl | rfl
  · simp only [if_true]
    by_cases h : b = 0
    · rw [if_pos h, mask_eq]; simp [bin, h]
    · rw [if_neg h]
      have e : IntKind.u64.wrap (Int.tdiv a b) = a / b := by
        rw [Int.tdiv_eq_ediv_of_nonneg ha0, wrap_u64]
        have := Int.ediv_le_self b ha0
        have := Int.ediv_nonneg ha0 hb0
        omega
      rw [e]; simp [bin, h]
  · rw [if_neg (by decide), if_pos rfl]
    by_cases h : b = 0
    · rw [if_pos h]; simp [bin, h]
    · rw [if_neg h, Int.tmod_eq_emod_of_nonneg ha0]; simp [bin, h]
  · rw [if_neg (by decide), if_neg (by decide), ssigned_eq h1 h2 ha0 ha hb0 hb, Option.bind_some, if_pos rfl]
  · rw [if_neg (by decide), if_neg (by decide), ssigned_eq h1 h2 ha0 ha hb0 hb, Option.bind_some, if_neg (by decide)]
theorem shift_eq {op : Int} (ho : op = 12 ∨ op = 13 ∨ op = 14) : bits_shift.f op w a b = some (bin op (nn w) a b) := by
  have hn := nn_of (w := w) (by omega) h2
  have hp3 := pow_le (nn_le w)
  have hw : IntKind.u64.wrap w = (nn w : Int) := by rw [wrap_u64]; omega
  have hpm := pow_succ' (n := nn w) (by omega)
  have hpp := pow_pos (nn w - 1)
  unfold bits_shift.f
  rw [hw]
  by_cases hc : b ≥ (nn w : Int)
  · rw [if_pos hc]
    have hc' : (nn w : Int) ≤ b := hc
    rcases ho with rfl | rfl | rfl
    · simp [bin, hc']
    · simp [bin, hc']
    · rw [if_pos rfl, negative_eq w ha0 ha, Option.bind_some]
      by_cases h : 2 ^ (nn w - 1) ≤ a
      · rw [if_pos (decide_eq_true h), mask_eq]; simp [bin, hc', h]
      · rw [if_neg (by simpa using h)]; simp [bin, hc', h]
  · rw [if_neg hc]
    have hc' : ¬ (nn w : Int) ≤ b := hc
    have hm : min b.toNat (IntKind.bits .u64) = b.toNat := by show min _ 64 = _; omega
    have hm' : min b.toNat (IntKind.bits .i64) = b.toNat := by show min _ 64 = _; omega
    rcases ho with rfl | rfl | rfl
    · rw [if_pos rfl, if_pos hb0]
      unfold shl
      rw [hm, fit_eq w (by rw [wrap_u64]; omega), Option.bind_some, wrap_mod (nn_le w)]
      simp [bin, hc']
    · rw [if_neg (by decide), if_pos rfl, if_pos hb0]
      unfold shr
      rw [hm]; simp [bin, hc']
    · rw [if_neg (by decide), if_neg (by decide), signed_eq w (x := a) ⟨ha0, by omega⟩, Option.bind_some, if_pos hb0]
      unfold shr
      rw [hm', from_eq, Option.bind_some]; simp [bin, hc']
theorem compare_eq {op : Int} (ho : 15 ≤ op ∧ op ≤ 20) : bits_compare.f op w a b = some (bin op (nn w) a b) := by
  have hp3 := pow_le (nn_le w)
  have sa := signed_eq w (x := a) ⟨ha0, by omega⟩
  have sb := signed_eq w (x := b) ⟨hb0, by omega⟩
  unfold bits_compare.f
  obtain rfl | rfl | rfl | rfl | rfl | rfl : op = 15 ∨ op = 16 ∨ op = 17 ∨ op = 18 ∨ op = 19 ∨ op = 20 := by omega
  all_goals simp [one_eq, bin, sa, sb]
  all_goals (split <;> simp_all)
end
/-- Which result Binary has: the value and OK, or 0 and ErrArg. -/
theorem binary_eq (k : Nat) (op w a b : Int) (ha : 0 ≤ a ∧ a < 18446744073709551616) (hb : 0 ≤ b ∧ b < 18446744073709551616) :
    bits_Binary.f (k + 3) op w a b = some (if 2 ≤ op ∧ op ≤ 20 ∧ 1 ≤ w ∧ w ≤ 64 then (bin op (nn w) (a % 2 ^ nn w) (b % 2 ^ nn w), 0) else (0, 1)) := by
  unfold bits_Binary.f
  rw [isBinary_eq, Option.bind_some]
  have e0 : ∀ a b, bits_Binary.j0 (k + 3) op w a b true = some (0, 1) := fun a b => by simp only [bits_Binary.j0]; rfl
  by_cases h : 2 ≤ op ∧ op ≤ 20
  · rw [if_pos (decide_eq_true h)]
    by_cases hw : w < 1
    · rw [if_pos hw, e0, if_neg (by omega)]
    · rw [if_neg hw]
      by_cases hw2 : w > 64
      · rw [decide_eq_true hw2, e0, if_neg (by omega)]
      · rw [decide_eq_false hw2, if_pos ⟨h.1, h.2, by omega, by omega⟩]
        have hw3 : w ≤ 64 := by omega
        have hw1 : 1 ≤ w := by omega
        obtain ⟨a0, a1⟩ := mod_lt (nn w) a
        obtain ⟨b0, b1⟩ := mod_lt (nn w) b
        have hp3 := pow_le (nn_le w)
        simp only [bits_Binary.j0]
        rw [if_neg (by decide), fit_eq w ha, Option.bind_some, fit_eq w hb, Option.bind_some]
        generalize a % 2 ^ nn w = a at *
        generalize b % 2 ^ nn w = b at *
        have f3 : ∀ x : Int, bits_Fit.f w (IntKind.u64.wrap x) = some (x % 2 ^ nn w) := fun x => by rw [fit_eq w (by rw [wrap_u64]; omega), wrap_mod (nn_le w)]
        by_cases o2 : op = 2
        · rw [if_pos o2, f3]; simp [bin, o2]
        rw [if_neg o2]
        by_cases o3 : op = 3
        · rw [if_pos o3, f3]; simp [bin, o3]
        rw [if_neg o3]
        by_cases o4 : op = 4
        · rw [if_pos o4, f3]; simp [bin, o4]
        rw [if_neg o4]
        by_cases od : op = 5 ∨ op = 6 ∨ op = 7 ∨ op = 8
        · have hd := divide_eq hw1 hw3 a0 a1 b0 b1 od
          have e1 : bits_Binary.j1 (k + 2) op w a b op true = some (bin op (nn w) a b, 0) := by
            simp only [bits_Binary.j1, if_true, hd, Option.bind_some]
          rcases od with rfl | rfl | rfl | rfl <;> simpa using e1
        · have o5 : ¬ op = 5 := by omega
          have o6 : ¬ op = 6 := by omega
          have o7 : ¬ op = 7 := by omega
          have o8 : ¬ op = 8 := by omega
          rw [if_neg o5, if_neg o6, if_neg o7, show (op == 8) = false by simpa using o8]
          simp only [bits_Binary.j1]
          rw [if_neg (by decide)]
          by_cases o9 : op = 9
          · rw [if_pos o9, band a b (by omega) (by omega)]; simp [bin, o9]
          rw [if_neg o9]
          by_cases o10 : op = 10
          · rw [if_pos o10, bor a b (by omega) (by omega)]; simp [bin, o10]
          rw [if_neg o10]
          by_cases o11 : op = 11
          · rw [if_pos o11, bxor a b (by omega) (by omega)]; simp [bin, o11]
          rw [if_neg o11]
          by_cases os : op = 12 ∨ op = 13 ∨ op = 14
          · have hd := shift_eq hw1 hw3 a0 a1 b0 b1 os
            have e1 : bits_Binary.j2 (k + 1) op w a b true = some (bin op (nn w) a b, 0) := by
              simp only [bits_Binary.j2, if_true, hd, Option.bind_some]
            rcases os with rfl | rfl | rfl <;> simpa using e1
          · have o12 : ¬ op = 12 := by omega
            have o13 : ¬ op = 13 := by omega
            have o14 : ¬ op = 14 := by omega
            rw [if_neg o12, if_neg o13, show (op == 14) = false by simpa using o14]
            simp only [bits_Binary.j2]
            rw [if_neg (by decide), compare_eq hw1 hw3 a0 a1 b0 b1 (by omega)]
            rfl
  · rw [if_neg (by simpa using h), e0, if_neg (fun h' => h ⟨h'.1, h'.2.1⟩)]
end Go.Proofs.Ytoddafkffchnjaa.Im
