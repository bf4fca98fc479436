import Derived.Test.YtbiohdgeclokmaaTg
import Derived.Test.YtbiohdgeclokmaaPx3
/- facts.Tighten: the fast form and the plain one come to the same, and keep the words that a fact contains. -/
namespace Go.Proofs.Ytbiohdgeclokmaa.Ft
set_option linter.unusedVariables false
set_option linter.unusedSimpArgs false
set_option linter.unusedSectionVars false
open Go.RowKit Go.Proofs.Ytbiohdgeclokmaa.P Go.Proofs.YtbiohdgeclokmaaW.PrintWords Wd Im Iv Tg

def ndiff (a b : Nat) : Nat := a ^^^ (a &&& b)
theorem tb_ndiff (a b i : Nat) : (ndiff a b).testBit i = (a.testBit i && !b.testBit i) := by
  unfold ndiff; rw [Nat.testBit_xor, Nat.testBit_and]; cases a.testBit i <;> cases b.testBit i <;> rfl
theorem tb_big {a n i : Nat} (h : a < 2 ^ n) (hi : n ≤ i) : a.testBit i = false := Nat.testBit_lt_two_pow (Nat.lt_of_lt_of_le h (Nat.pow_le_pow_right (by decide) hi))
theorem ndiff_lt {a b n : Nat} (h : a < 2 ^ n) : ndiff a b < 2 ^ n := Nat.lt_pow_two_of_testBit _ fun i hi => by rw [tb_ndiff, tb_big h hi]; rfl
theorem or_lt {a b n : Nat} (h : a < 2 ^ n) (h2 : b < 2 ^ n) : a ||| b < 2 ^ n := Nat.or_lt_two_pow h h2
theorem up {a n : Nat} (hn : n ≤ 64) (h : a < 2 ^ n) : a < 18446744073709551616 := Nat.lt_of_lt_of_le h (Nat.le_trans (Nat.pow_le_pow_right (by decide) hn) (by decide))
section
variable {a b : Nat} (ha : a < 18446744073709551616) (hb : b < 18446744073709551616)
include ha hb
theorem nand : Go.bits .and .u64 (a : Int) (b : Int) = ((a &&& b : Nat) : Int) := by rw [band _ _ (by omega) (by omega)]; rfl
theorem nor : Go.bits .or .u64 (a : Int) (b : Int) = ((a ||| b : Nat) : Int) := by rw [bor _ _ (by omega) (by omega)]; rfl
theorem nxor : Go.bits .xor .u64 (a : Int) (b : Int) = ((a ^^^ b : Nat) : Int) := by rw [bxor _ _ (by omega) (by omega)]; rfl
theorem nandn : Go.bits .andNot .u64 (a : Int) (b : Int) = ((ndiff a b : Nat) : Int) := by
  have e : (BitVec.ofInt 64 (a : Int) &&& ~~~BitVec.ofInt 64 (b : Int)).toNat = ndiff a b := by
    apply Nat.eq_of_testBit_eq
    intro i
    rw [BitVec.testBit_toNat, BitVec.getLsbD_and, BitVec.getLsbD_not, ← BitVec.testBit_toNat, ← BitVec.testBit_toNat, ofInt_toNat _ (by omega) (by omega), ofInt_toNat _ (by omega) (by omega), tb_ndiff, Int.toNat_natCast, Int.toNat_natCast]
    by_cases hi : i < 64
    · simp [hi]
    · rw [tb_big (n := 64) ha (by omega)]; rfl
  show IntKind.u64.wrap ((BitVec.ofInt 64 (a : Int) &&& ~~~BitVec.ofInt 64 (b : Int)).toNat : Int) = _
  rw [e, wrap_u64]
  have : ndiff a b < 2 ^ 64 := ndiff_lt ha
  omega
end
theorem pnat (n : Nat) : (2 : Int) ^ n = ((2 ^ n : Nat) : Int) := by rw [Int.natCast_pow]; rfl
theorem mnat (n : Nat) : (2 : Int) ^ n - 1 = ((2 ^ n - 1 : Nat) : Int) := by have := Nat.two_pow_pos n; rw [pnat]; omega
theorem shl_one {i : Nat} (h : i ≤ 63) : shl .u64 1 (i : Int) = ((2 ^ i : Nat) : Int) := by
  have := pow_le63 h
  have := pow_pos i
  unfold shl
  rw [show min (i : Int).toNat (IntKind.bits .u64) = i by show min _ 64 = _; omega, wrap_u64, Int.one_mul, ← pnat]
  omega
theorem sbit (x i : Nat) : x &&& 2 ^ i = 0 ↔ x.testBit i = false := by
  constructor
  · intro h
    have := congrArg (Nat.testBit · i) h
    simpa [Nat.testBit_two_pow] using this
  · intro h
    apply Nat.eq_of_testBit_eq
    intro j
    rw [Nat.testBit_and, Nat.testBit_two_pow]
    by_cases e : i = j
    · subst e; simp [h]
    · simp [e]
theorem disj {a b : Nat} : a &&& b = 0 ↔ ∀ i, ¬ (a.testBit i = true ∧ b.testBit i = true) := by
  constructor
  · intro h i hh
    have := congrArg (Nat.testBit · i) h
    simp [hh.1, hh.2] at this
  · intro h
    apply Nat.eq_of_testBit_eq
    intro i
    have := h i
    rw [Nat.testBit_and]
    cases e1 : a.testBit i <;> cases e2 : b.testBit i <;> simp_all
theorem subs {x o : Nat} : x &&& o = o ↔ ∀ i, o.testBit i = true → x.testBit i = true := by
  constructor
  · intro h i hh
    have := congrArg (Nat.testBit · i) h
    simpa [hh] using this
  · intro h
    apply Nat.eq_of_testBit_eq
    intro i
    have := h i
    rw [Nat.testBit_and]
    cases e1 : o.testBit i <;> cases e2 : x.testBit i <;> simp_all
theorem diff0 {a b : Nat} : ndiff a b = 0 ↔ ∀ i, a.testBit i = true → b.testBit i = true := by
  constructor
  · intro h i hh
    have := congrArg (Nat.testBit · i) h
    simpa [tb_ndiff, hh] using this
  · intro h
    apply Nat.eq_of_testBit_eq
    intro i
    have := h i
    rw [tb_ndiff]
    cases e1 : a.testBit i <;> cases e2 : b.testBit i <;> simp_all
theorem sub_le {x o : Nat} (h : ∀ i, o.testBit i = true → x.testBit i = true) : o ≤ x := by
  have := subs.2 h
  rw [← this]; exact Nat.and_le_left
theorem within {a n : Nat} : ndiff a (2 ^ n - 1) = 0 ↔ a < 2 ^ n := by
  rw [diff0]
  constructor
  · intro h
    apply Nat.lt_pow_two_of_testBit
    intro i hi
    have := h i
    rw [Nat.testBit_two_pow_sub_one] at this
    cases e : a.testBit i
    · rfl
    · have := this e; simp at this; omega
  · intro h i hi
    rw [Nat.testBit_two_pow_sub_one]
    by_cases c : i < n
    · simp [c]
    · rw [tb_big h (by omega)] at hi; exact absurd hi (by decide)

/-! ### The length of a word -/
theorem tbl_fact : ∀ b : Fin 256, (b.1 = 0 ∧ bt (⟨#[0, 1, 2, 2, 3, 3, 3, 3, 4, 4, 4, 4, 4, 4, 4, 4, 5, 5, 5, 5, 5, 5, 5, 5, 5, 5, 5, 5, 5, 5, 5, 5, 6, 6, 6, 6, 6, 6, 6, 6, 6, 6, 6, 6, 6, 6, 6, 6, 6, 6, 6, 6, 6, 6, 6, 6, 6, 6, 6, 6, 6, 6, 6, 6, 7, 7, 7, 7, 7, 7, 7, 7, 7, 7, 7, 7, 7, 7, 7, 7, 7, 7, 7, 7, 7, 7, 7, 7, 7, 7, 7, 7, 7, 7, 7, 7, 7, 7, 7, 7, 7, 7, 7, 7, 7, 7, 7, 7, 7, 7, 7, 7, 7, 7, 7, 7, 7, 7, 7, 7, 7, 7, 7, 7, 7, 7, 7, 7, 8, 8, 8, 8, 8, 8, 8, 8, 8, 8, 8, 8, 8, 8, 8, 8, 8, 8, 8, 8, 8, 8, 8, 8, 8, 8, 8, 8, 8, 8, 8, 8, 8, 8, 8, 8, 8, 8, 8, 8, 8, 8, 8, 8, 8, 8, 8, 8, 8, 8, 8, 8, 8, 8, 8, 8, 8, 8, 8, 8, 8, 8, 8, 8, 8, 8, 8, 8, 8, 8, 8, 8, 8, 8, 8, 8, 8, 8, 8, 8, 8, 8, 8, 8, 8, 8, 8, 8, 8, 8, 8, 8, 8, 8, 8, 8, 8, 8, 8, 8, 8, 8, 8, 8, 8, 8, 8, 8, 8, 8, 8, 8, 8, 8, 8, 8, 8, 8, 8, 8, 8, 8, 8, 8, 8, 8, 8, 8]⟩ : ByteArray) b.1 = 0) ∨ (∃ t : Fin 8, bt (⟨#[0, 1, 2, 2, 3, 3, 3, 3, 4, 4, 4, 4, 4, 4, 4, 4, 5, 5, 5, 5, 5, 5, 5, 5, 5, 5, 5, 5, 5, 5, 5, 5, 6, 6, 6, 6, 6, 6, 6, 6, 6, 6, 6, 6, 6, 6, 6, 6, 6, 6, 6, 6, 6, 6, 6, 6, 6, 6, 6, 6, 6, 6, 6, 6, 7, 7, 7, 7, 7, 7, 7, 7, 7, 7, 7, 7, 7, 7, 7, 7, 7, 7, 7, 7, 7, 7, 7, 7, 7, 7, 7, 7, 7, 7, 7, 7, 7, 7, 7, 7, 7, 7, 7, 7, 7, 7, 7, 7, 7, 7, 7, 7, 7, 7, 7, 7, 7, 7, 7, 7, 7, 7, 7, 7, 7, 7, 7, 7, 8, 8, 8, 8, 8, 8, 8, 8, 8, 8, 8, 8, 8, 8, 8, 8, 8, 8, 8, 8, 8, 8, 8, 8, 8, 8, 8, 8, 8, 8, 8, 8, 8, 8, 8, 8, 8, 8, 8, 8, 8, 8, 8, 8, 8, 8, 8, 8, 8, 8, 8, 8, 8, 8, 8, 8, 8, 8, 8, 8, 8, 8, 8, 8, 8, 8, 8, 8, 8, 8, 8, 8, 8, 8, 8, 8, 8, 8, 8, 8, 8, 8, 8, 8, 8, 8, 8, 8, 8, 8, 8, 8, 8, 8, 8, 8, 8, 8, 8, 8, 8, 8, 8, 8, 8, 8, 8, 8, 8, 8, 8, 8, 8, 8, 8, 8, 8, 8, 8, 8, 8, 8, 8, 8, 8, 8, 8, 8]⟩ : ByteArray) b.1 = (t.1 : Int) + 1 ∧ 2 ^ t.1 ≤ b.1 ∧ b.1 < 2 ^ (t.1 + 1)) := by decide +kernel
theorem tbl_at {y : Int} (h0 : 0 ≤ y) (h1 : y < 256) : ∃ t : Nat, t ≤ 8 ∧ bt (⟨#[0, 1, 2, 2, 3, 3, 3, 3, 4, 4, 4, 4, 4, 4, 4, 4, 5, 5, 5, 5, 5, 5, 5, 5, 5, 5, 5, 5, 5, 5, 5, 5, 6, 6, 6, 6, 6, 6, 6, 6, 6, 6, 6, 6, 6, 6, 6, 6, 6, 6, 6, 6, 6, 6, 6, 6, 6, 6, 6, 6, 6, 6, 6, 6, 7, 7, 7, 7, 7, 7, 7, 7, 7, 7, 7, 7, 7, 7, 7, 7, 7, 7, 7, 7, 7, 7, 7, 7, 7, 7, 7, 7, 7, 7, 7, 7, 7, 7, 7, 7, 7, 7, 7, 7, 7, 7, 7, 7, 7, 7, 7, 7, 7, 7, 7, 7, 7, 7, 7, 7, 7, 7, 7, 7, 7, 7, 7, 7, 8, 8, 8, 8, 8, 8, 8, 8, 8, 8, 8, 8, 8, 8, 8, 8, 8, 8, 8, 8, 8, 8, 8, 8, 8, 8, 8, 8, 8, 8, 8, 8, 8, 8, 8, 8, 8, 8, 8, 8, 8, 8, 8, 8, 8, 8, 8, 8, 8, 8, 8, 8, 8, 8, 8, 8, 8, 8, 8, 8, 8, 8, 8, 8, 8, 8, 8, 8, 8, 8, 8, 8, 8, 8, 8, 8, 8, 8, 8, 8, 8, 8, 8, 8, 8, 8, 8, 8, 8, 8, 8, 8, 8, 8, 8, 8, 8, 8, 8, 8, 8, 8, 8, 8, 8, 8, 8, 8, 8, 8, 8, 8, 8, 8, 8, 8, 8, 8, 8, 8, 8, 8, 8, 8, 8, 8, 8, 8]⟩ : ByteArray) y = (t : Int) ∧ y < 2 ^ t ∧ (t = 0 ∧ y = 0 ∨ 1 ≤ t ∧ 2 ^ (t - 1) ≤ y) := by
  have e : y = ((⟨y.toNat, by omega⟩ : Fin 256).1 : Int) := by show y = (y.toNat : Int); omega
  rw [e]
  generalize (⟨y.toNat, by omega⟩ : Fin 256) = b
  rcases tbl_fact b with ⟨h2, h3⟩ | ⟨t, h2, h3, h4⟩
  · exact ⟨0, by omega, h3, by rw [h2]; decide, .inl ⟨rfl, by rw [h2]; rfl⟩⟩
  · have ht := t.2
    refine ⟨t.1 + 1, by omega, by rw [h2]; omega, ?_, .inr ⟨by omega, ?_⟩⟩
    · rw [pnat]; omega
    · rw [Nat.add_sub_cancel, pnat]; omega
theorem scale (s t : Nat) {x : Int} (h1 : x / 2 ^ s < 2 ^ t) : x < 2 ^ (s + t) := by
  have hp := pow_pos s
  rw [Int.ediv_lt_iff_lt_mul (by omega)] at h1
  rw [Int.pow_add, Int.mul_comm]; exact h1
theorem scale2 (s t : Nat) {x : Int} (ht : 1 ≤ t) (h1 : 2 ^ (t - 1) ≤ x / 2 ^ s) : 2 ^ (s + t - 1) ≤ x := by
  have hp := pow_pos s
  rw [Int.le_ediv_iff_mul_le (by omega)] at h1
  rw [show s + t - 1 = s + (t - 1) by omega, Int.pow_add, Int.mul_comm]; exact h1
theorem len_br (s : Nat) {x y : Int} (hs : y = x / 2 ^ s) (h0 : 0 ≤ y) (h1 : y < 256) (hp : s = 0 ∨ 1 ≤ y) : ∃ t : Nat, t ≤ 8 ∧ bt (⟨#[0, 1, 2, 2, 3, 3, 3, 3, 4, 4, 4, 4, 4, 4, 4, 4, 5, 5, 5, 5, 5, 5, 5, 5, 5, 5, 5, 5, 5, 5, 5, 5, 6, 6, 6, 6, 6, 6, 6, 6, 6, 6, 6, 6, 6, 6, 6, 6, 6, 6, 6, 6, 6, 6, 6, 6, 6, 6, 6, 6, 6, 6, 6, 6, 7, 7, 7, 7, 7, 7, 7, 7, 7, 7, 7, 7, 7, 7, 7, 7, 7, 7, 7, 7, 7, 7, 7, 7, 7, 7, 7, 7, 7, 7, 7, 7, 7, 7, 7, 7, 7, 7, 7, 7, 7, 7, 7, 7, 7, 7, 7, 7, 7, 7, 7, 7, 7, 7, 7, 7, 7, 7, 7, 7, 7, 7, 7, 7, 8, 8, 8, 8, 8, 8, 8, 8, 8, 8, 8, 8, 8, 8, 8, 8, 8, 8, 8, 8, 8, 8, 8, 8, 8, 8, 8, 8, 8, 8, 8, 8, 8, 8, 8, 8, 8, 8, 8, 8, 8, 8, 8, 8, 8, 8, 8, 8, 8, 8, 8, 8, 8, 8, 8, 8, 8, 8, 8, 8, 8, 8, 8, 8, 8, 8, 8, 8, 8, 8, 8, 8, 8, 8, 8, 8, 8, 8, 8, 8, 8, 8, 8, 8, 8, 8, 8, 8, 8, 8, 8, 8, 8, 8, 8, 8, 8, 8, 8, 8, 8, 8, 8, 8, 8, 8, 8, 8, 8, 8, 8, 8, 8, 8, 8, 8, 8, 8, 8, 8, 8, 8, 8, 8, 8, 8, 8, 8]⟩ : ByteArray) (y % 256) = (t : Int) ∧ x < 2 ^ (s + t) ∧ (s + t = 0 ∧ x = 0 ∨ 1 ≤ s + t ∧ 2 ^ (s + t - 1) ≤ x) := by
  obtain ⟨t, h2, h3, h4, h5⟩ := tbl_at h0 h1
  refine ⟨t, h2, by rw [show y % 256 = y by omega]; exact h3, scale s t (by rw [← hs]; exact h4), ?_⟩
  rcases h5 with ⟨h5, h6⟩ | ⟨h5, h6⟩
  · rcases hp with hp | hp
    · subst hp
      left; refine ⟨by omega, ?_⟩
      simp at hs; omega
    · omega
  · right; exact ⟨by omega, scale2 s t h5 (by rw [← hs]; exact h6)⟩
theorem len_j0 (k : Nat) {x n : Int} (h0 : 0 ≤ x) (h1 : x < 4294967296) (hn : n = 0 ∨ n = 32) : ∃ t : Nat, t ≤ 32 ∧ bits_Len64.j0 (k + 1) x n = some (n + t) ∧ x < 2 ^ t ∧ (t = 0 ∧ x = 0 ∨ 1 ≤ t ∧ 2 ^ (t - 1) ≤ x) := by
  rw [bits_Len64.j0]
  have w : ∀ a : Int, 0 ≤ a → a < 200 → wrap64 a = a := fun a h h' => wrap64_id (by omega) (by omega)
  by_cases c1 : x ≥ 65536
  · rw [if_pos c1]
    by_cases c2 : x / 65536 ≥ 256
    · obtain ⟨t, h2, h3, h4⟩ := len_br 24 (x := x) (y := x / 65536 / 256) (by rw [show (2 : Int) ^ 24 = 16777216 from rfl]; omega) (by omega) (by omega) (.inr (by omega))
      rw [if_pos c2, if_pos (by omega), if_pos (by omega), h3, w t (by omega) (by omega), w (n + 16) (by omega) (by omega), w (n + 16 + 8) (by omega) (by omega), w _ (by omega) (by omega)]
      exact ⟨24 + t, by omega, congrArg some (by omega), h4⟩
    · obtain ⟨t, h2, h3, h4⟩ := len_br 16 (x := x) (y := x / 65536) rfl (by omega) (by omega) (.inr (by omega))
      rw [if_neg c2, if_pos (by omega), if_pos (by omega), h3, w t (by omega) (by omega), w (n + 16) (by omega) (by omega), w _ (by omega) (by omega)]
      exact ⟨16 + t, by omega, congrArg some (by omega), h4⟩
  · rw [if_neg c1]
    by_cases c2 : x ≥ 256
    · obtain ⟨t, h2, h3, h4⟩ := len_br 8 (x := x) (y := x / 256) rfl (by omega) (by omega) (.inr (by omega))
      rw [if_pos c2, if_pos (by omega), if_pos (by omega), h3, w t (by omega) (by omega), w (n + 8) (by omega) (by omega), w _ (by omega) (by omega)]
      exact ⟨8 + t, by omega, congrArg some (by omega), h4⟩
    · obtain ⟨t, h2, h3, h4⟩ := len_br 0 (x := x) (y := x) (by simp) (by omega) (by omega) (.inl rfl)
      rw [Nat.zero_add] at h4
      rw [if_neg c2, if_pos (by omega), if_pos (by omega), h3, w t (by omega) (by omega), w _ (by omega) (by omega)]
      exact ⟨t, by omega, rfl, h4⟩
theorem len_eq (k : Nat) {x : Int} (h0 : 0 ≤ x) (h1 : x < 18446744073709551616) : ∃ t : Nat, t ≤ 64 ∧ bits_Len64.f (k + 1) x = some (t : Int) ∧ x < 2 ^ t ∧ (t = 0 ∧ x = 0 ∨ 1 ≤ t ∧ 2 ^ (t - 1) ≤ x) := by
  unfold bits_Len64.f
  by_cases c : x ≥ 4294967296
  · obtain ⟨t, h2, h3, h4, h5⟩ := len_j0 k (x := x / 4294967296) (n := 32) (by omega) (by omega) (.inr rfl)
    rw [if_pos c, h3]
    have e : x / 4294967296 = x / 2 ^ 32 := rfl
    rw [e] at h4 h5
    refine ⟨32 + t, by omega, by congr 1, scale 32 t h4, .inr ⟨by omega, ?_⟩⟩
    rcases h5 with ⟨h5, h6⟩ | ⟨h5, h6⟩
    · rw [show (2 : Int) ^ 32 = 4294967296 from rfl] at h6; omega
    · exact scale2 32 t h5 h6
  · obtain ⟨t, h2, h3, h4, h5⟩ := len_j0 k (x := x) (n := 0) (by omega) (by omega) (.inl rfl)
    rw [if_neg c, h3]
    exact ⟨t, by omega, by rw [Int.zero_add], h4, h5⟩

/-! ### The limits that the bits set -/
theorem tb_top {n y : Nat} (hn : 1 ≤ n) (h : y < 2 ^ n) : y.testBit (n - 1) = true ↔ 2 ^ (n - 1) ≤ y := by
  constructor
  · exact Nat.ge_two_pow_of_testBit
  · intro h2
    cases e : y.testBit (n - 1) with
    | true => rfl
    | false =>
      have : y < 2 ^ (n - 1) := Nat.lt_pow_two_of_testBit _ fun i hi => by
        rcases Nat.eq_or_lt_of_le hi with h3 | h3
        · rw [← h3]; exact e
        · exact tb_big h (by omega)
      omega
def lowS (n z o : Nat) : Nat := if z &&& 2 ^ (n - 1) = 0 then o ||| 2 ^ (n - 1) else o
def top (n z : Nat) : Nat := ndiff (2 ^ n - 1) z
def highS (n z o : Nat) : Nat := if o &&& 2 ^ (n - 1) = 0 then ndiff (top n z) (2 ^ (n - 1)) else top n z
theorem pow_lt {n : Nat} (hn : 1 ≤ n) : 2 ^ (n - 1) < 2 ^ n := Nat.pow_lt_pow_right (by decide) (by omega)
theorem top_lt (n z : Nat) : top n z < 2 ^ n := ndiff_lt (by have := Nat.two_pow_pos n; omega)
theorem lowS_lt {n z o : Nat} (hn : 1 ≤ n) (ho : o < 2 ^ n) : lowS n z o < 2 ^ n := by
  unfold lowS; split
  · exact or_lt ho (pow_lt hn)
  · exact ho
theorem highS_lt {n z o : Nat} : highS n z o < 2 ^ n := by
  unfold highS; split
  · exact ndiff_lt (top_lt n z)
  · exact top_lt n z
theorem tb_F {n j : Nat} : (2 ^ n - 1).testBit j = decide (j < n) := Nat.testBit_two_pow_sub_one n j
theorem tb_lt {n x j : Nat} (h : x < 2 ^ n) (hj : x.testBit j = true) : j < n := by
  rcases Nat.lt_or_ge j n with c | c
  · exact c
  · rw [tb_big h c] at hj; exact absurd hj (by decide)
theorem sgl {n y : Nat} (hn : 1 ≤ n) (h : y < 2 ^ (n - 1)) : sg n (y : Int) = y := sg_lo (by omega) (by rw [pnat]; omega) hn
theorem sgh {n y : Nat} (hn : 1 ≤ n) (h0 : 2 ^ (n - 1) ≤ y) (h : y < 2 ^ n) : sg n (y : Int) = y - ((2 ^ n : Nat) : Int) := by
  rw [sg_hi (by rw [pnat]; omega) (by rw [pnat]; omega) hn, pnat]
theorem lims {n z o x : Nat} (hn : 1 ≤ n) (hz : z < 2 ^ n) (ho : o < 2 ^ n) (hx : x < 2 ^ n) (h1 : x &&& z = 0) (h2 : x &&& o = o) :
    o ≤ x ∧ x ≤ top n z ∧ sg n (lowS n z o : Int) ≤ sg n (x : Int) ∧ sg n (x : Int) ≤ sg n (highS n z o : Int) := by
  rw [disj] at h1
  rw [subs] at h2
  have hp := pow_lt hn
  have t1 := lowS_lt (z := z) hn ho
  have t2 : highS n z o < 2 ^ n := highS_lt
  have hxt : ∀ i, x.testBit i = true → (top n z).testBit i = true := fun i hi => by
    have := h1 i
    unfold top; rw [tb_ndiff, tb_F, decide_eq_true (tb_lt hx hi)]
    cases e : z.testBit i
    · rfl
    · exact absurd ⟨hi, e⟩ this
  have hT := sub_le hxt
  have hO := sub_le h2
  have tx := tb_top hn hx
  have tt := top_lt n z
  refine ⟨hO, hT, ?_, ?_⟩
  · unfold lowS
    by_cases c : z &&& 2 ^ (n - 1) = 0
    · rw [if_pos c]
      have hA : 2 ^ (n - 1) ≤ o ||| 2 ^ (n - 1) := Nat.right_le_or
      have hA2 := or_lt ho hp
      rw [sgh hn hA hA2]
      by_cases cx : 2 ^ (n - 1) ≤ x
      · have : o ||| 2 ^ (n - 1) ≤ x := sub_le fun i hi => by
          rw [Nat.testBit_or, Nat.testBit_two_pow] at hi
          by_cases e : n - 1 = i
          · subst e; exact tx.2 cx
          · simp [e] at hi; exact h2 i hi
        rw [sgh hn cx hx]; omega
      · rw [sgl hn (by omega)]; omega
    · rw [if_neg c]
      rw [sbit] at c
      have cx : x < 2 ^ (n - 1) := by
        rcases Nat.lt_or_ge x (2 ^ (n - 1)) with d | d
        · exact d
        · exact absurd ⟨tx.2 d, by simpa using c⟩ (h1 (n - 1))
      rw [sgl hn cx, sgl hn (by omega)]; omega
  · unfold highS
    by_cases c : o &&& 2 ^ (n - 1) = 0
    · rw [if_pos c]
      have hB : ndiff (top n z) (2 ^ (n - 1)) < 2 ^ (n - 1) := by
        apply Nat.lt_pow_two_of_testBit
        intro i hi
        rw [tb_ndiff, Nat.testBit_two_pow]
        by_cases e : n - 1 = i
        · simp [e]
        · rw [tb_big tt (by omega)]; rfl
      rw [sgl (y := ndiff (top n z) (2 ^ (n - 1))) hn hB]
      by_cases cx : 2 ^ (n - 1) ≤ x
      · rw [sgh hn cx hx]; omega
      · have : x ≤ ndiff (top n z) (2 ^ (n - 1)) := sub_le fun i hi => by
          rw [tb_ndiff, Nat.testBit_two_pow, hxt i hi]
          by_cases e : n - 1 = i
          · subst e; exact absurd (tx.1 hi) cx
          · simp [e]
        rw [sgl hn (by omega)]; omega
    · rw [if_neg c]
      rw [sbit] at c
      have cx : 2 ^ (n - 1) ≤ x := tx.1 (h2 _ (by simpa using c))
      rw [sgh hn cx hx, sgh hn (by omega) tt]; omega

/-! ### The bits that a range sets -/
def free (n L : Nat) : Nat := ndiff (2 ^ n - 1) (2 ^ L - 1)
def zf (n L z lo : Nat) : Nat := z ||| ndiff (free n L) lo
def of (n L o lo : Nat) : Nat := o ||| (lo &&& free n L)
theorem tb_free (n L j : Nat) : (free n L).testBit j = (decide (L ≤ j) && decide (j < n)) := by
  unfold free; rw [tb_ndiff, tb_F, tb_F]
  by_cases h1 : j < n <;> by_cases h2 : j < L <;> simp [h1, h2] <;> omega
theorem tb_zf (n L z lo j : Nat) : (zf n L z lo).testBit j = (z.testBit j || (decide (L ≤ j) && decide (j < n) && !lo.testBit j)) := by unfold zf; rw [Nat.testBit_or, tb_ndiff, tb_free]
theorem tb_of (n L o lo j : Nat) : (of n L o lo).testBit j = (o.testBit j || (decide (L ≤ j) && decide (j < n) && lo.testBit j)) := by
  unfold of; rw [Nat.testBit_or, Nat.testBit_and, tb_free, Bool.and_comm (lo.testBit j)]
theorem free_lt (n L : Nat) : free n L < 2 ^ n := ndiff_lt (by have := Nat.two_pow_pos n; omega)
theorem zf_lt {n L z lo : Nat} (hz : z < 2 ^ n) : zf n L z lo < 2 ^ n := or_lt hz (ndiff_lt (free_lt n L))
theorem of_lt {n L o lo : Nat} (ho : o < 2 ^ n) : of n L o lo < 2 ^ n := or_lt ho (Nat.lt_of_le_of_lt Nat.and_le_right (free_lt n L))
theorem pre {lo hi x L : Nat} (h : lo ^^^ hi < 2 ^ L) (h1 : lo ≤ x) (h2 : x ≤ hi) {j : Nat} (hj : L ≤ j) : x.testBit j = lo.testBit j := by
  have e : lo / 2 ^ L = hi / 2 ^ L := by
    apply Nat.eq_of_testBit_eq
    intro i
    rw [Nat.testBit_div_two_pow, Nat.testBit_div_two_pow]
    have := tb_big (i := i + L) h (by omega)
    rw [Nat.testBit_xor] at this
    cases a : lo.testBit (i + L) <;> cases b : hi.testBit (i + L) <;> simp_all
  have a1 : lo / 2 ^ L ≤ x / 2 ^ L := Nat.div_le_div_right h1
  have a2 : x / 2 ^ L ≤ hi / 2 ^ L := Nat.div_le_div_right h2
  have e2 : x / 2 ^ L = lo / 2 ^ L := by omega
  have := congrArg (Nat.testBit · (j - L)) e2
  simp only [Nat.testBit_div_two_pow] at this
  rwa [show j - L + L = j by omega] at this
theorem keep {n L z o lo hi x : Nat} (h : lo ^^^ hi < 2 ^ L) (h1 : lo ≤ x) (h2 : x ≤ hi) : (x &&& zf n L z lo = 0 ↔ x &&& z = 0) ∧ (x &&& of n L o lo = of n L o lo ↔ x &&& o = o) := by
  have p := fun j (hj : L ≤ j) => pre h h1 h2 hj
  constructor
  · rw [disj, disj]
    constructor
    · intro a i hi; exact a i ⟨hi.1, by rw [tb_zf, hi.2]; rfl⟩
    · intro a i hi
      rw [tb_zf] at hi
      by_cases c : L ≤ i
      · have := p i c
        have := a i
        cases e : lo.testBit i <;> simp_all
      · simp [c] at hi; exact a i hi
  · rw [subs, subs]
    constructor
    · intro a i hi; exact a i (by rw [tb_of, hi]; rfl)
    · intro a i hi
      rw [tb_of] at hi
      by_cases c : L ≤ i
      · have := p i c
        have := a i
        cases e : lo.testBit i <;> simp_all
      · simp [c] at hi; exact a i hi
end Go.Proofs.Ytbiohdgeclokmaa.Ft
