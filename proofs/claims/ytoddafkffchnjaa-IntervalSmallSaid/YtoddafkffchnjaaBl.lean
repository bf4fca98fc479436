import Derived.Test.YtoddafkffchnjaaWd
/- Lists of bits, the lowest first. -/
namespace Go.Proofs.Ytoddafkffchnjaa.Bl
set_option linter.unusedVariables false
set_option linter.unusedSimpArgs false
set_option linter.unusedSectionVars false
open Go.RowKit Go.Proofs.YtoddafkffchnjaaW.PrintWords Wd

/-- The number that a list of bits stands for. -/
def val : List Int → Int
  | [] => 0
  | b :: l => b + 2 * val l
/-- The low m bits of a whole number. -/
def bitsL (m : Nat) (y : Int) : List Int := (List.range m).map fun j => y / 2 ^ j % 2
def Bit (l : List Int) : Prop := ∀ x ∈ l, x = 0 ∨ x = 1
theorem bitsL_length (m : Nat) (y : Int) : (bitsL m y).length = m := by simp [bitsL]
theorem bitsL_bit (m : Nat) (y : Int) : Bit (bitsL m y) := by
  intro x hx
  obtain ⟨j, _, rfl⟩ := List.mem_map.1 hx
  omega
theorem bitsL_succ (m : Nat) (y : Int) : bitsL (m + 1) y = bitsL m y ++ [y / 2 ^ m % 2] := by simp [bitsL, List.range_succ]
theorem rd_bitsL {m : Nat} {y : Int} {i : Int} (h0 : 0 ≤ i) (h : i < m) : rd (bitsL m y) i = y / 2 ^ i.toNat % 2 := by
  unfold rd bitsL
  rw [List.getD_eq_getElem?_getD, List.getElem?_map, List.getElem?_range (by omega)]
  rfl
theorem val_append (l r : List Int) : val (l ++ r) = val l + 2 ^ l.length * val r := by
  induction l with
  | nil => simp [val]
  | cons b l ih => simp only [List.cons_append, val, ih, List.length_cons, Int.pow_succ]; grind
theorem val_range {l : List Int} (h : Bit l) : 0 ≤ val l ∧ val l < 2 ^ l.length := by
  induction l with
  | nil => simp [val]
  | cons b l ih =>
    have h1 := ih (fun x hx => h x (List.mem_cons_of_mem _ hx))
    have h2 := h b (List.mem_cons_self ..)
    simp only [val, List.length_cons, Int.pow_succ]
    omega
theorem mod_succ (m : Nat) (y : Int) : y % 2 ^ (m + 1) = y % 2 ^ m + 2 ^ m * (y / 2 ^ m % 2) := by
  have hp := pow_pos m
  have h1 := Int.mul_ediv_add_emod y (2 ^ m)
  have h2 := Int.mul_ediv_add_emod (y / 2 ^ m) 2
  have h3 := mod_lt m y
  have h4 : (0 : Int) ≤ y / 2 ^ m % 2 ∧ y / 2 ^ m % 2 < 2 := by omega
  generalize y / 2 ^ m % 2 = c at *
  generalize y / 2 ^ m / 2 = d at *
  have e : y = (y % 2 ^ m + 2 ^ m * c) + 2 ^ (m + 1) * d := by
    rw [Int.pow_succ]
    have : 2 ^ m * (y / 2 ^ m) = 2 ^ m * (2 * d + c) := by rw [h2]
    grind
  have hr : 0 ≤ y % 2 ^ m + 2 ^ m * c ∧ y % 2 ^ m + 2 ^ m * c < 2 ^ (m + 1) := by
    rw [Int.pow_succ]
    obtain rfl | rfl : c = 0 ∨ c = 1 := by omega
    · simp; omega
    · simp; omega
  conv => lhs; rw [e]
  rw [Int.add_mul_emod_self_left]
  exact mod_small hr.1 hr.2
theorem val_bitsL (m : Nat) (y : Int) : val (bitsL m y) = y % 2 ^ m := by
  induction m with
  | zero => simp [bitsL, val, Int.emod_one]
  | succ m ih => rw [bitsL_succ, val_append, bitsL_length, ih, mod_succ]; simp [val]
theorem bitsL_ext {l : List Int} {m : Nat} {y : Int} (hl : l.length = m) (h : ∀ i : Nat, i < m → l[i]? = some (y / 2 ^ i % 2)) : l = bitsL m y := by
  apply List.ext_getElem?
  intro i
  by_cases hi : i < m
  · rw [h i hi]; simp [bitsL, List.getElem?_range hi]
  · rw [List.getElem?_eq_none (by omega), List.getElem?_eq_none (by rw [bitsL_length]; omega)]
theorem bit_high {n : Nat} (hn : 1 ≤ n) {x : Int} : x / 2 ^ (n - 1) % 2 = if 2 ^ (n - 1) ≤ x % 2 ^ n then 1 else 0 := by
  obtain ⟨m, rfl⟩ : ∃ m, n = m + 1 := ⟨n - 1, by omega⟩
  have h := mod_succ m x
  have h3 := mod_lt m x
  rw [h]
  simp only [Nat.add_sub_cancel]
  obtain h4 | h4 : x / 2 ^ m % 2 = 0 ∨ x / 2 ^ m % 2 = 1 := by omega
  · rw [h4, if_neg (by simp; omega)]
  · rw [h4, if_pos (by simp; omega)]
theorem div_pow_pow (x : Int) (s j : Nat) : x / 2 ^ s / 2 ^ j = x / 2 ^ (s + j) := by
  rw [Int.ediv_ediv_of_nonneg (by have := pow_pos s; omega), ← Int.pow_add]
theorem shl_bit (x : Int) (s j : Nat) : x * 2 ^ s / 2 ^ j % 2 = if s ≤ j then x / 2 ^ (j - s) % 2 else 0 := by
  have hs := pow_pos s
  split
  · rename_i h
    obtain ⟨d, rfl⟩ : ∃ d, j = s + d := ⟨j - s, by omega⟩
    rw [Nat.add_sub_cancel_left, Int.pow_add, ← Int.ediv_ediv_of_nonneg (by omega), Int.mul_ediv_cancel _ (by omega)]
  · rename_i h
    obtain ⟨d, rfl⟩ : ∃ d, s = j + 1 + d := ⟨s - j - 1, by omega⟩
    have hj := pow_pos j
    rw [Int.pow_add, Int.pow_succ, show x * (2 ^ j * 2 * 2 ^ d) = x * (2 * 2 ^ d) * 2 ^ j by grind, Int.mul_ediv_cancel _ (by omega)]
    rw [show x * (2 * 2 ^ d) = 2 * (x * 2 ^ d) by grind]
    omega
theorem small_bit {n : Nat} {x : Int} (h0 : 0 ≤ x) (h : x < 2 ^ n) {j : Nat} (hj : n ≤ j) : x / 2 ^ j % 2 = 0 := by
  have : (2 : Int) ^ n ≤ 2 ^ j := by
    have := Nat.pow_le_pow_right (n := 2) (by decide) hj
    have h2 : ((2 ^ n : Nat) : Int) ≤ ((2 ^ j : Nat) : Int) := Int.ofNat_le.2 this
    rw [Int.natCast_pow, Int.natCast_pow] at h2
    exact h2
  rw [Int.ediv_eq_zero_of_lt h0 (by omega)]; rfl
theorem neg_bit {n : Nat} {x : Int} (h0 : x < 0) (h : -2 ^ n ≤ x) {j : Nat} (hj : n ≤ j) : x / 2 ^ j % 2 = 1 := by
  have : (2 : Int) ^ n ≤ 2 ^ j := by
    have := Nat.pow_le_pow_right (n := 2) (by decide) hj
    have h2 : ((2 ^ n : Nat) : Int) ≤ ((2 ^ j : Nat) : Int) := Int.ofNat_le.2 this
    rw [Int.natCast_pow, Int.natCast_pow] at h2
    exact h2
  have hp := pow_pos j
  have e : x / 2 ^ j = -1 := by
    apply Int.ediv_eq_iff_of_pos (by omega) |>.2 
    omega
  rw [e]; rfl
theorem sub_pow_bit (x : Int) {n j : Nat} (h : j < n) : (x - 2 ^ n) / 2 ^ j % 2 = x / 2 ^ j % 2 := by
  obtain ⟨d, rfl⟩ : ∃ d, n = j + 1 + d := ⟨n - j - 1, by omega⟩
  have hj := pow_pos j
  rw [Int.pow_add, Int.pow_succ, show x - 2 ^ j * 2 * 2 ^ d = x + (-(2 * 2 ^ d)) * 2 ^ j by grind, Int.add_mul_ediv_right _ _ (by omega)]
  omega
end Go.Proofs.Ytoddafkffchnjaa.Bl
