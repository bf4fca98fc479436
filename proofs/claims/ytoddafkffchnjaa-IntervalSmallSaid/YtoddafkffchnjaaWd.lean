import Derived.Laws.BitsLemmas
import Derived.RowKit
import Derived.Test.YtoddafkffchnjaaVMore
/- Words of 0 to 64 bits as integers: what the operations of the machine come to, in plain arithmetic. -/
namespace Go.Proofs.Ytoddafkffchnjaa.Wd
set_option linter.unusedVariables false
set_option linter.unusedSimpArgs false
set_option linter.unusedSectionVars false
open Go.RowKit Go.Proofs.YtoddafkffchnjaaW.PrintWords

theorem wrap_u64 (n : Int) : IntKind.u64.wrap n = n % 18446744073709551616 := by simp [IntKind.wrap, IntKind.bits, IntKind.signed]
theorem wf_u64 (n : Int) : (Lit.int .u64 n).wf = true ↔ 0 ≤ n ∧ n < 18446744073709551616 := by
  simp [Lit.wf, IntKind.min, IntKind.max, IntKind.bits, IntKind.signed]
  omega
theorem wf_i64 (n : Int) : (Lit.int .i64 n).wf = true ↔ -9223372036854775808 ≤ n ∧ n < 9223372036854775808 := by
  simp [Lit.wf, IntKind.min, IntKind.max, IntKind.bits, IntKind.signed]
  omega
theorem wrap64_id {n : Int} (h : -9223372036854775808 ≤ n) (h1 : n < 9223372036854775808) : wrap64 n = n := by unfold wrap64; omega

theorem ofInt_toNat (x : Int) (h : 0 ≤ x) (h1 : x < 18446744073709551616) : (BitVec.ofInt 64 x).toNat = x.toNat := by
  obtain ⟨a, rfl⟩ := Int.eq_ofNat_of_zero_le h
  simp only [BitVec.ofInt_natCast, BitVec.toNat_ofNat, Int.toNat_natCast]
  omega
section
variable (x y : Int) (hx : 0 ≤ x ∧ x < 18446744073709551616) (hy : 0 ≤ y ∧ y < 18446744073709551616)
include hx hy
theorem band : Go.bits .and .u64 x y = ((x.toNat &&& y.toNat : Nat) : Int) := by
  have a := Nat.and_lt_two_pow (n := 64) x.toNat (y := y.toNat) (by omega)
  show IntKind.u64.wrap ((BitVec.ofInt 64 x &&& BitVec.ofInt 64 y).toNat : Int) = _
  rw [BitVec.toNat_and, ofInt_toNat x hx.1 hx.2, ofInt_toNat y hy.1 hy.2, wrap_u64]
  omega
theorem bor : Go.bits .or .u64 x y = ((x.toNat ||| y.toNat : Nat) : Int) := by
  have a := Nat.or_lt_two_pow (n := 64) (x := x.toNat) (y := y.toNat) (by omega) (by omega)
  show IntKind.u64.wrap ((BitVec.ofInt 64 x ||| BitVec.ofInt 64 y).toNat : Int) = _
  rw [BitVec.toNat_or, ofInt_toNat x hx.1 hx.2, ofInt_toNat y hy.1 hy.2, wrap_u64]
  omega
theorem bxor : Go.bits .xor .u64 x y = ((x.toNat ^^^ y.toNat : Nat) : Int) := by
  have a := Nat.xor_lt_two_pow (n := 64) (x := x.toNat) (y := y.toNat) (by omega) (by omega)
  show IntKind.u64.wrap ((BitVec.ofInt 64 x ^^^ BitVec.ofInt 64 y).toNat : Int) = _
  rw [BitVec.toNat_xor, ofInt_toNat x hx.1 hx.2, ofInt_toNat y hy.1 hy.2, wrap_u64]
  omega
end

theorem pow_le {n : Nat} (h : n ≤ 64) : (2 : Int) ^ n ≤ 18446744073709551616 := by
  have h1 : 2 ^ n ≤ 18446744073709551616 := Nat.le_trans (Nat.pow_le_pow_right (by decide) h) (by decide)
  have h2 : ((2 ^ n : Nat) : Int) ≤ (18446744073709551616 : Nat) := Int.ofNat_le.2 h1
  rw [Int.natCast_pow] at h2
  exact h2
theorem pow_le63 {n : Nat} (h : n ≤ 63) : (2 : Int) ^ n ≤ 9223372036854775808 := by
  have h1 : 2 ^ n ≤ 9223372036854775808 := Nat.le_trans (Nat.pow_le_pow_right (by decide) h) (by decide)
  have h2 : ((2 ^ n : Nat) : Int) ≤ (9223372036854775808 : Nat) := Int.ofNat_le.2 h1
  rw [Int.natCast_pow] at h2
  exact h2
theorem pow_pos (n : Nat) : (1 : Int) ≤ 2 ^ n := by
  have := Nat.two_pow_pos n
  exact_mod_cast this
theorem pow_succ' {n : Nat} (h : 1 ≤ n) : (2 : Int) ^ n = 2 * 2 ^ (n - 1) := by
  obtain ⟨m, rfl⟩ : ∃ m, n = m + 1 := ⟨n - 1, by omega⟩
  rw [Int.pow_succ]; simp; omega
theorem pow_dvd {n : Nat} (h : n ≤ 64) : (2 : Int) ^ n ∣ 18446744073709551616 := by
  have : ((2 ^ n : Nat) : Int) ∣ ((2 ^ 64 : Nat) : Int) := Int.ofNat_dvd.2 (Nat.pow_dvd_pow 2 h)
  rw [Int.natCast_pow] at this
  exact this
theorem pow_toNat (n : Nat) : ((2 : Int) ^ n).toNat = 2 ^ n := by
  rw [show (2 : Int) ^ n = ((2 ^ n : Nat) : Int) by rw [Int.natCast_pow]; rfl, Int.toNat_natCast]
theorem mask_toNat (n : Nat) : ((2 : Int) ^ n - 1).toNat = 2 ^ n - 1 := by
  have := pow_toNat n
  have := pow_pos n
  omega
theorem mod_mod_pow {n : Nat} (h : n ≤ 64) (x : Int) : x % 18446744073709551616 % 2 ^ n = x % 2 ^ n := Int.emod_emod_of_dvd x (pow_dvd h)
theorem wrap_mod {n : Nat} (h : n ≤ 64) (x : Int) : IntKind.u64.wrap x % 2 ^ n = x % 2 ^ n := by rw [wrap_u64, mod_mod_pow h]
theorem mod_lt (n : Nat) (x : Int) : 0 ≤ x % 2 ^ n ∧ x % 2 ^ n < 2 ^ n :=
  ⟨Int.emod_nonneg _ (by have := pow_pos n; omega), Int.emod_lt_of_pos _ (by have := pow_pos n; omega)⟩
theorem mod_U {n : Nat} (h : n ≤ 64) (x : Int) : 0 ≤ x % 2 ^ n ∧ x % 2 ^ n < 18446744073709551616 := by
  have := mod_lt n x
  have := pow_le h
  omega
theorem mask_U {n : Nat} (h : n ≤ 64) : 0 ≤ (2 : Int) ^ n - 1 ∧ (2 : Int) ^ n - 1 < 18446744073709551616 := by
  have := pow_pos n
  have := pow_le h
  omega
theorem and_mask {n : Nat} (hn : n ≤ 64) {x : Int} (hx : 0 ≤ x ∧ x < 18446744073709551616) : Go.bits .and .u64 x (2 ^ n - 1) = x % 2 ^ n :=
  bits_mask .u64 64 (by decide) (fun n h0 h1 => by rw [wrap_u64]; omega) n hn x hx.1 (by omega)
theorem and_one {x : Int} (hx : 0 ≤ x ∧ x < 18446744073709551616) : Go.bits .and .u64 x 1 = x % 2 := and_mask (n := 1) (by decide) hx

/-- A width, cut to 0..64. -/
def nn (w : Int) : Nat := (mn (mx w 0) 64).toNat
theorem nn_int (w : Int) : mn (mx w 0) 64 = (nn w : Int) := by
  have h : 0 ≤ mn (mx w 0) 64 := by unfold mn mx; split <;> split <;> omega
  unfold nn; omega
theorem nn_le (w : Int) : nn w ≤ 64 := by
  have := nn_int w
  unfold mn mx at this; split at this <;> split at this <;> omega
theorem nn_of {w : Int} (h1 : 0 ≤ w) (h2 : w ≤ 64) : (nn w : Int) = w := by
  rw [← nn_int]; unfold mn mx; split <;> split <;> omega
theorem nn_low {w : Int} (h1 : w ≤ 0) : nn w = 0 := by
  have := nn_int w
  unfold mn mx at this; split at this <;> split at this <;> omega
theorem nn_high {w : Int} (h1 : 64 ≤ w) : nn w = 64 := by
  have := nn_int w
  unfold mn mx at this; split at this <;> split at this <;> omega
theorem ones_div : ∀ m : Fin 65, (18446744073709551615 : Int) / 2 ^ (64 - m.1) = 2 ^ m.1 - 1 := by decide +kernel
theorem shr_ones {n : Nat} (hn : n ≤ 64) : shr .u64 18446744073709551615 (wrap64 (64 - (n : Int))) = 2 ^ n - 1 := by
  have h : wrap64 (64 - (n : Int)) = 64 - (n : Int) := wrap64_id (by omega) (by omega)
  have e : min (64 - (n : Int)).toNat (IntKind.bits .u64) = 64 - n := by show min _ 64 = _; omega
  rw [h]
  unfold shr
  rw [e]
  exact ones_div ⟨n, by omega⟩
theorem ones_xor : ∀ m : Fin 65, (18446744073709551615 : Nat) ^^^ (2 ^ m.1 - 1) = 2 ^ m.1 * (2 ^ (64 - m.1) - 1) := by decide +kernel
theorem split64 : ∀ m : Fin 65, (2 : Int) ^ m.1 * (2 ^ (64 - m.1) - 1) = 18446744073709551616 - 2 ^ m.1 := by decide +kernel
theorem compl {n : Nat} (hn : n ≤ 64) : Go.bits .xor .u64 18446744073709551615 (2 ^ n - 1) = 18446744073709551616 - 2 ^ n := by
  rw [bxor _ _ (by omega) (mask_U hn), mask_toNat]
  have h := ones_xor ⟨n, by omega⟩
  have h2 := split64 ⟨n, by omega⟩
  simp only at h h2
  rw [show (18446744073709551615 : Int).toNat = 18446744073709551615 from rfl, h, Int.natCast_mul, Int.natCast_pow, Int.natCast_sub (Nat.two_pow_pos _), Int.natCast_pow]
  exact h2
theorem or_compl {n : Nat} (hn : n ≤ 64) {t : Int} (h0 : 0 ≤ t) (h1 : t < 2 ^ n) : Go.bits .or .u64 t (18446744073709551616 - 2 ^ n) = t + (18446744073709551616 - 2 ^ n) := by
  have hp := pow_pos n
  have hp2 := pow_le hn
  rw [bor _ _ (by omega) (by omega)]
  have h2 := split64 ⟨n, by omega⟩
  simp only at h2
  have e : (18446744073709551616 - (2 : Int) ^ n).toNat = 2 ^ n * (2 ^ (64 - n) - 1) := by
    rw [← h2, show (2 : Int) ^ n * (2 ^ (64 - n) - 1) = ((2 ^ n * (2 ^ (64 - n) - 1) : Nat) : Int) by rw [Int.natCast_mul, Int.natCast_pow, Int.natCast_sub (Nat.two_pow_pos _), Int.natCast_pow]; rfl, Int.toNat_natCast]
  obtain ⟨a, rfl⟩ := Int.eq_ofNat_of_zero_le h0
  have ha : a < 2 ^ n := by exact_mod_cast h1
  rw [e, Int.toNat_natCast, Nat.or_comm, ← Nat.two_pow_add_eq_or_of_lt ha, ← e]
  omega

/-- The signed number that a word stands for. -/
def sg (n : Nat) (x : Int) : Int := if x % 2 ^ n < 2 ^ (n - 1) then x % 2 ^ n else x % 2 ^ n - 2 ^ n
theorem sg_range {n : Nat} (h : 1 ≤ n) (x : Int) : -2 ^ (n - 1) ≤ sg n x ∧ sg n x < 2 ^ (n - 1) := by
  have := mod_lt n x
  have := pow_succ' h
  unfold sg; split <;> omega
theorem sg_zero (x : Int) : sg 0 x = 0 := by unfold sg; simp [Int.emod_one]
theorem sg_I {n : Nat} (h1 : n ≤ 64) (x : Int) : -9223372036854775808 ≤ sg n x ∧ sg n x < 9223372036854775808 := by
  rcases Nat.eq_zero_or_pos n with h | h
  · subst h; rw [sg_zero]; omega
  · have := sg_range h x
    have := pow_le63 (n := n - 1) (by omega)
    omega
theorem sg_mod {n : Nat} (x : Int) : sg n x % 2 ^ n = x % 2 ^ n := by
  unfold sg; split
  · exact Int.emod_emod_of_dvd _ (Int.dvd_refl _)
  · rw [Int.sub_emod_right]; exact Int.emod_emod_of_dvd _ (Int.dvd_refl _)
theorem sg_of_mod {n : Nat} {x y : Int} (h : x % 2 ^ n = y % 2 ^ n) : sg n x = sg n y := by unfold sg; rw [h]
theorem sg_fit (n : Nat) (x : Int) : sg n (x % 2 ^ n) = sg n x := sg_of_mod (Int.emod_emod_of_dvd _ (Int.dvd_refl _))
theorem mod_small {n : Nat} {x : Int} (h0 : 0 ≤ x) (h1 : x < 2 ^ n) : x % 2 ^ n = x := Int.emod_eq_of_lt h0 h1
end Go.Proofs.Ytoddafkffchnjaa.Wd
