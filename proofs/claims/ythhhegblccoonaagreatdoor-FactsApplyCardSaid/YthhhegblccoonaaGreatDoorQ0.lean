import Derived.Laws.BitsLemmas
import Derived.RowKit
import Derived.Test.YthhhegblccoonaaGreatDoorVW
import Derived.Test.YthhhegblccoonaaGreatDoorDg
/- Words of 0 to 64 bits as integers: what the operations of the machine come to, in plain arithmetic. -/
namespace Go.Proofs.YthhhegblccoonaaGreatDoor.Wd
set_option linter.unusedVariables false
set_option linter.unusedSimpArgs false
set_option linter.unusedSectionVars false
open Go.RowKit Go.Proofs.YthhhegblccoonaaGreatDoorW.PrintWords

theorem wrap_u64 (n : Int) : IntKind.u64.wrap n = n % 18446744073709551616 := by simp [IntKind.wrap, IntKind.bits, IntKind.signed]
theorem wf_u64 (n : Int) : (Lit.int .u64 n).wf = true ↔ 0 ≤ n ∧ n < 18446744073709551616 := by
  simp [Lit.wf, IntKind.min, IntKind.max, IntKind.bits, IntKind.signed]
  omega
theorem wf_i64 (n : Int) : (Lit.int .i64 n).wf = true ↔ -9223372036854775808 ≤ n ∧ n < 9223372036854775808 := by
  simp [Lit.wf, IntKind.min, IntKind.max, IntKind.bits, IntKind.signed]
  omega
theorem wrap64_id {n : Int} (h : -9223372036854775808 ≤ n) (h1 : n < 9223372036854775808) : wrap64 n = n := by unfold wrap64; omega

theorem ofInt_toNat (x : Int) (h : 0 ≤ x) (h1 : x < 18446744073709551616) : (BitVec.ofInt 64 x).toNat = x.toNat := by
  obtain ⟨a, rfl⟩ := Int.eq_ofNat_of_zero_le h
  simp only [BitVec.ofInt_natCast, BitVec.toNat_ofNat, Int.toNat_natCast]
  omega
section
variable (x y : Int) (hx : 0 ≤ x ∧ x < 18446744073709551616) (hy : 0 ≤ y ∧ y < 18446744073709551616)
include hx hy
theorem band : Go.bits .and .u64 x y = ((x.toNat &&& y.toNat : Nat) : Int) := by
  have a := Nat.and_lt_two_pow (n := 64) x.toNat (y := y.toNat) (by omega)
  show IntKind.u64.wrap ((BitVec.ofInt 64 x &&& BitVec.ofInt 64 y).toNat : Int) = _
  rw [BitVec.toNat_and, ofInt_toNat x hx.1 hx.2, ofInt_toNat y hy.1 hy.2, wrap_u64]
  omega
theorem bor : Go.bits .or .u64 x y = ((x.toNat ||| y.toNat : Nat) : Int) := by
  have a := Nat.or_lt_two_pow (n := 64) (x := x.toNat) (y := y.toNat) (by omega) (by omega)
  show IntKind.u64.wrap ((BitVec.ofInt 64 x ||| BitVec.ofInt 64 y).toNat : Int) = _
  rw [BitVec.toNat_or, ofInt_toNat x hx.1 hx.2, ofInt_toNat y hy.1 hy.2, wrap_u64]
  omega
theorem bxor : Go.bits .xor .u64 x y = ((x.toNat ^^^ y.toNat : Nat) : Int) := by
  have a := Nat.xor_lt_two_pow (n := 64) (x := x.toNat) (y := y.toNat) (by omega) (by omega)
  show IntKind.u64.wrap ((BitVec.ofInt 64 x ^^^ BitVec.ofInt 64 y).toNat : Int) = _
  rw [BitVec.toNat_xor, ofInt_toNat x hx.1 hx.2, ofInt_toNat y hy.1 hy.2, wrap_u64]
  omega
end

theorem pow_le {n : Nat} (h : n ≤ 64) : (2 : Int) ^ n ≤ 18446744073709551616 := by
  have h1 : 2 ^ n ≤ 18446744073709551616 := Nat.le_trans (Nat.pow_le_pow_right (by decide) h) (by decide)
  have h2 : ((2 ^ n : Nat) : Int) ≤ (18446744073709551616 : Nat) := Int.ofNat_le.2 h1
  rw [Int.natCast_pow] at h2
  exact h2
theorem pow_le63 {n : Nat} (h : n ≤ 63) : (2 : Int) ^ n ≤ 9223372036854775808 := by
  have h1 : 2 ^ n ≤ 9223372036854775808 := Nat.le_trans (Nat.pow_le_pow_right (by decide) h) (by decide)
  have h2 : ((2 ^ n : Nat) : Int) ≤ (9223372036854775808 : Nat) := Int.ofNat_le.2 h1
  rw [Int.natCast_pow] at h2
  exact h2
theorem pow_pos (n : Nat) : (1 : Int) ≤ 2 ^ n := by
  have := Nat.two_pow_pos n
  exact_mod_cast this
theorem pow_succ' {n : Nat} (h : 1 ≤ n) : (2 : Int) ^ n = 2 * 2 ^ (n - 1) := by
  obtain ⟨m, rfl⟩ : ∃ m, n = m + 1 := ⟨n - 1, by omega⟩
  rw [Int.pow_succ]; simp; omega
theorem pow_dvd {n : Nat} (h : n ≤ 64) : (2 : Int) ^ n ∣ 18446744073709551616 := by
  have : ((2 ^ n : Nat) : Int) ∣ ((2 ^ 64 : Nat) : Int) := Int.ofNat_dvd.2 (Nat.pow_dvd_pow 2 h)
  rw [Int.natCast_pow] at this
  exact this
theorem pow_toNat (n : Nat) : ((2 : Int) ^ n).toNat = 2 ^ n := by
  rw [show (2 : Int) ^ n = ((2 ^ n : Nat) : Int) by rw [Int.natCast_pow]; rfl, Int.toNat_natCast]
theorem mask_toNat (n : Nat) : ((2 : Int) ^ n - 1).toNat = 2 ^ n - 1 := by
  have := pow_toNat n
  have := pow_pos n
  omega
theorem mod_mod_pow {n : Nat} (h : n ≤ 64) (x : Int) : x % 18446744073709551616 % 2 ^ n = x % 2 ^ n := Int.emod_emod_of_dvd x (pow_dvd h)
theorem wrap_mod {n : Nat} (h : n ≤ 64) (x : Int) : IntKind.u64.wrap x % 2 ^ n = x % 2 ^ n := by rw [wrap_u64, mod_mod_pow h]
theorem mod_lt (n : Nat) (x : Int) : 0 ≤ x % 2 ^ n ∧ x % 2 ^ n < 2 ^ n :=
  ⟨Int.emod_nonneg _ (by have := pow_pos n; omega), Int.emod_lt_of_pos _ (by have := pow_pos n; omega)⟩
theorem mod_U {n : Nat} (h : n ≤ 64) (x : Int) : 0 ≤ x % 2 ^ n ∧ x % 2 ^ n < 18446744073709551616 := by
  have := mod_lt n x
  have := pow_le h
  omega
theorem mask_U {n : Nat} (h : n ≤ 64) : 0 ≤ (2 : Int) ^ n - 1 ∧ (2 : Int) ^ n - 1 < 18446744073709551616 := by
  have := pow_pos n
  have := pow_le h
  omega
theorem and_mask {n : Nat} (hn : n ≤ 64) {x : Int} (hx : 0 ≤ x ∧ x < 18446744073709551616) : Go.bits .and .u64 x (2 ^ n - 1) = x % 2 ^ n :=
  bits_mask .u64 64 (by decide) (fun n h0 h1 => by rw [wrap_u64]; omega) n hn x hx.1 (by omega)
theorem and_one {x : Int} (hx : 0 ≤ x ∧ x < 18446744073709551616) : Go.bits .and .u64 x 1 = x % 2 := and_mask (n := 1) (by decide) hx

/-- A width, cut to 0..64. -/
def nn (w : Int) : Nat := (mn (mx w 0) 64).toNat
theorem nn_int (w : Int) : mn (mx w 0) 64 = (nn w : Int) := by
  have h : 0 ≤ mn (mx w 0) 64 := by unfold mn mx; split <;> split <;> omega
  unfold nn; omega
theorem nn_le (w : Int) : nn w ≤ 64 := by
  have := nn_int w
  unfold mn mx at this; split at this <;> split at this <;> omega
theorem nn_of {w : Int} (h1 : 0 ≤ w) (h2 : w ≤ 64) : (nn w : Int) = w := by
  rw [← nn_int]; unfold mn mx; split <;> split <;> omega
theorem nn_low {w : Int} (h1 : w ≤ 0) : nn w = 0 := by
  have := nn_int w
  unfold mn mx at this; split at this <;> split at this <;> omega
theorem nn_high {w : Int} (h1 : 64 ≤ w) : nn w = 64 := by
  have := nn_int w
  unfold mn mx at this; split at this <;> split at this <;> omega
theorem ones_div : ∀ m : Fin 65, (18446744073709551615 : Int) / 2 ^ (64 - m.1) = 2 ^ m.1 - 1 := by decide +kernel
theorem shr_ones {n : Nat} (hn : n ≤ 64) : shr .u64 18446744073709551615 (wrap64 (64 - (n : Int))) = 2 ^ n - 1 := by
  have h : wrap64 (64 - (n : Int)) = 64 - (n : Int) := wrap64_id (by omega) (by omega)
  have e : min (64 - (n : Int)).toNat (IntKind.bits .u64) = 64 - n := by show min _ 64 = _; omega
  rw [h]
  unfold shr
  rw [e]
  exact ones_div ⟨n, by omega⟩
theorem ones_xor : ∀ m : Fin 65, (18446744073709551615 : Nat) ^^^ (2 ^ m.1 - 1) = 2 ^ m.1 * (2 ^ (64 - m.1) - 1) := by decide +kernel
theorem split64 : ∀ m : Fin 65, (2 : Int) ^ m.1 * (2 ^ (64 - m.1) - 1) = 18446744073709551616 - 2 ^ m.1 := by decide +kernel
theorem compl {n : Nat} (hn : n ≤ 64) : Go.bits .xor .u64 18446744073709551615 (2 ^ n - 1) = 18446744073709551616 - 2 ^ n := by
  rw [bxor _ _ (by omega) (mask_U hn), mask_toNat]
  have h := ones_xor ⟨n, by omega⟩
  have h2 := split64 ⟨n, by omega⟩
  simp only at h h2
  rw [show (18446744073709551615 : Int).toNat = 18446744073709551615 from rfl, h, Int.natCast_mul, Int.natCast_pow, Int.natCast_sub (Nat.two_pow_pos _), Int.natCast_pow]
  exact h2
theorem or_compl {n : Nat} (hn : n ≤ 64) {t : Int} (h0 : 0 ≤ t) (h1 : t < 2 ^ n) : Go.bits .or .u64 t (18446744073709551616 - 2 ^ n) = t + (18446744073709551616 - 2 ^ n) := by
  have hp := pow_pos n
  have hp2 := pow_le hn
  rw [bor _ _ (by omega) (by omega)]
  have h2 := split64 ⟨n, by omega⟩
  simp only at h2
  have e : (18446744073709551616 - (2 : Int) ^ n).toNat = 2 ^ n * (2 ^ (64 - n) - 1) := by
    rw [← h2, show (2 : Int) ^ n * (2 ^ (64 - n) - 1) = ((2 ^ n * (2 ^ (64 - n) - 1) : Nat) : Int) by rw [Int.natCast_mul, Int.natCast_pow, Int.natCast_sub (Nat.two_pow_pos _), Int.natCast_pow]; rfl, Int.toNat_natCast]
  obtain ⟨a, rfl⟩ := Int.eq_ofNat_of_zero_le h0
  have ha : a < 2 ^ n := by exact_mod_cast h1
  rw [e, Int.toNat_natCast, Nat.or_comm, ← Nat.two_pow_add_eq_or_of_lt ha, ← e]
  omega

/-- The signed number that a word stands for. -/
def sg (n : Nat) (x : Int) : Int := if x % 2 ^ n < 2 ^ (n - 1) then x % 2 ^ n else x % 2 ^ n - 2 ^ n
theorem sg_range {n : Nat} (h : 1 ≤ n) (x : Int) : -2 ^ (n - 1) ≤ sg n x ∧ sg n x < 2 ^ (n - 1) := by
  have := mod_lt n x
  have := pow_succ' h
  unfold sg; split <;> omega
theorem sg_zero (x : Int) : sg 0 x = 0 := by unfold sg; simp [Int.emod_one]
theorem sg_I {n : Nat} (h1 : n ≤ 64) (x : Int) : -9223372036854775808 ≤ sg n x ∧ sg n x < 9223372036854775808 := by
  rcases Nat.eq_zero_or_pos n with h | h
  · subst h; rw [sg_zero]; omega
  · have := sg_range h x
    have := pow_le63 (n := n - 1) (by omega)
    omega
theorem sg_mod {n : Nat} (x : Int) : sg n x % 2 ^ n = x % 2 ^ n := by
  unfold sg; split
  · exact Int.emod_emod_of_dvd _ (Int.dvd_refl _)
  · rw [Int.sub_emod_right]; exact Int.emod_emod_of_dvd _ (Int.dvd_refl _)
theorem sg_of_mod {n : Nat} {x y : Int} (h : x % 2 ^ n = y % 2 ^ n) : sg n x = sg n y := by unfold sg; rw [h]
theorem sg_fit (n : Nat) (x : Int) : sg n (x % 2 ^ n) = sg n x := sg_of_mod (Int.emod_emod_of_dvd _ (Int.dvd_refl _))
theorem mod_small {n : Nat} {x : Int} (h0 : 0 ≤ x) (h1 : x < 2 ^ n) : x % 2 ^ n = x := Int.emod_eq_of_lt h0 h1
end Go.Proofs.YthhhegblccoonaaGreatDoor.Wd
/- What the functions of package bits come to, in plain arithmetic of words. -/
namespace Go.Proofs.YthhhegblccoonaaGreatDoor.Im
set_option linter.unusedVariables false
set_option linter.unusedSimpArgs false
set_option linter.unusedSectionVars false
open Go.RowKit Go.Proofs.YthhhegblccoonaaGreatDoor.P Go.Proofs.YthhhegblccoonaaGreatDoorW.PrintWords Wd

theorem Q_big : 18446744073709551615 < Q := by unfold Q; omega
theorem Q_ex (n : Nat) (h : n ≤ 1000000 := by decide) : ∃ j, Q = j + n := ⟨Q - n, by have := Q_big; omega⟩
theorem limit_eq (w : Int) : bits_limit.f w = some (nn w : Int) := by unfold bits_limit.f; rw [nn_int]
theorem mask_eq (w : Int) : bits_Mask.f w = some (2 ^ nn w - 1) := by
  unfold bits_Mask.f
  rw [limit_eq, Option.bind_some]
  have h := nn_le w
  by_cases h0 : nn w = 0
  · rw [if_pos (by omega), h0]; rfl
  · rw [if_neg (by omega), if_pos (by unfold wrap64; omega), shr_ones h]
theorem fit_eq (w : Int) {x : Int} (hx : 0 ≤ x ∧ x < 18446744073709551616) : bits_Fit.f w x = some (x % 2 ^ nn w) := by
  unfold bits_Fit.f
  rw [mask_eq, Option.bind_some, and_mask (nn_le w) hx]
theorem negative_eq (w : Int) {x : Int} (hx : 0 ≤ x) (hx1 : x < 2 ^ nn w) : bits_negative.f w x = some (decide (2 ^ (nn w - 1) ≤ x)) := by
  unfold bits_negative.f
  rw [limit_eq, Option.bind_some]
  have h := nn_le w
  by_cases h0 : nn w = 0
  · rw [if_neg (by omega), h0]
    rw [h0] at hx1
    have : ¬ ((2 : Int) ^ (0 - 1) ≤ x) := by simp at hx1 ⊢; omega
    rw [decide_eq_false this]
  · have e : wrap64 ((nn w : Int) - 1) = ((nn w - 1 : Nat) : Int) := by unfold wrap64; omega
    rw [if_pos (by omega), if_pos (by rw [e]; omega), e]
    have hs : shr .u64 x ((nn w - 1 : Nat) : Int) = x / 2 ^ (nn w - 1) := by
      unfold shr
      rw [show min ((nn w - 1 : Nat) : Int).toNat (IntKind.bits .u64) = nn w - 1 by show min _ 64 = _; omega]
    have hp := pow_pos (nn w - 1)
    have hp2 := pow_succ' (n := nn w) (by omega)
    have hp3 := pow_le h
    have hd : 0 ≤ x / 2 ^ (nn w - 1) := Int.ediv_nonneg hx (by omega)
    have hd2 : x / 2 ^ (nn w - 1) < 2 := Int.ediv_lt_of_lt_mul (by omega) (by omega)
    rw [hs, and_one ⟨hd, by omega⟩, Int.emod_eq_of_lt hd hd2]
    congr 1
    by_cases hc : 2 ^ (nn w - 1) ≤ x
    · have : 1 ≤ x / 2 ^ (nn w - 1) := Int.le_ediv_of_mul_le (by omega) (by omega)
      rw [decide_eq_true hc, show x / 2 ^ (nn w - 1) = 1 by omega]; rfl
    · have : x / 2 ^ (nn w - 1) < 1 := Int.ediv_lt_of_lt_mul (by omega) (by omega)
      rw [decide_eq_false hc, show x / 2 ^ (nn w - 1) = 0 by omega]; rfl
theorem signed_eq (w : Int) {x : Int} (hx : 0 ≤ x ∧ x < 18446744073709551616) : bits_Signed.f w x = some (sg (nn w) x) := by
  unfold bits_Signed.f
  have h := nn_le w
  obtain ⟨m0, m1⟩ := mod_lt (nn w) x
  have hp := pow_pos (nn w)
  have hp3 := pow_le h
  rw [fit_eq w hx, Option.bind_some, negative_eq w m0 m1, Option.bind_some]
  by_cases hc : 2 ^ (nn w - 1) ≤ x % 2 ^ nn w
  · rw [if_pos (decide_eq_true hc), mask_eq, Option.bind_some, compl h, or_compl h m0 m1]
    have hn : 1 ≤ nn w := by
      rcases Nat.eq_zero_or_pos (nn w) with h0 | h0
      · rw [h0] at hc m1; simp at hc m1 <;> omega
      · exact h0
    have hp2 := pow_succ' hn
    have := pow_le63 (n := nn w - 1) (by omega)
    unfold sg wrap64
    rw [if_neg (by omega)]
    congr 1; omega
  · rw [if_neg (by simpa using hc)]
    unfold sg
    rw [if_pos (by omega), wrap64_id (by omega) (by
      rcases Nat.eq_zero_or_pos (nn w) with h0 | h0
      · rw [h0] at m1 ⊢; simp at m1 ⊢ <;> omega
      · have := pow_le63 (n := nn w - 1) (by omega)
        omega)]
theorem from_eq (w x : Int) : bits_From.f w x = some (x % 2 ^ nn w) := by
  unfold bits_From.f
  rw [fit_eq w (by rw [wrap_u64]; omega), Option.bind_some, wrap_mod (nn_le w)]
theorem one_eq (b : Bool) : bits_one.f b = some (if b then 1 else 0) := by unfold bits_one.f; cases b <;> rfl
theorem isBinary_eq (op : Int) : bits_IsBinary.f op = some (decide (2 ≤ op ∧ op ≤ 20)) := by
  unfold bits_IsBinary.f
  by_cases h : op ≥ 2
  · rw [if_pos h]; congr 1; simp; omega
  · rw [if_neg h]; congr 1; simp; omega

/-- The value of a binary operator on words of n bits. -/
def bin (op : Int) (n : Nat) (a b : Int) : Int :=
  if op = 2 then (a + b) % 2 ^ n else if op = 3 then (a - b) % 2 ^ n else if op = 4 then (a * b) % 2 ^ n
  else if op = 5 then (if b = 0 then 2 ^ n - 1 else a / b) else if op = 6 then (if b = 0 then a else a % b)
  else if op = 7 then (if b = 0 then 2 ^ n - 1 else Int.tdiv (sg n a) (sg n b) % 2 ^ n)
  else if op = 8 then (if b = 0 then a else Int.tmod (sg n a) (sg n b) % 2 ^ n)
  else if op = 9 then ((a.toNat &&& b.toNat : Nat) : Int) else if op = 10 then ((a.toNat ||| b.toNat : Nat) : Int) else if op = 11 then ((a.toNat ^^^ b.toNat : Nat) : Int)
  else if op = 12 then (if (n : Int) ≤ b then 0 else (a * 2 ^ b.toNat) % 2 ^ n)
  else if op = 13 then (if (n : Int) ≤ b then 0 else a / 2 ^ b.toNat)
  else if op = 14 then (if (n : Int) ≤ b then (if 2 ^ (n - 1) ≤ a then 2 ^ n - 1 else 0) else (sg n a / 2 ^ b.toNat) % 2 ^ n)
  else if op = 15 then (if a = b then 1 else 0) else if op = 16 then (if a = b then 0 else 1)
  else if op = 17 then (if a < b then 1 else 0) else if op = 18 then (if a ≤ b then 1 else 0)
  else if op = 19 then (if sg n a < sg n b then 1 else 0) else (if sg n a ≤ sg n b then 1 else 0)

section
variable {w : Int} (h1 : 1 ≤ w) (h2 : w ≤ 64) {a b : Int} (ha0 : 0 ≤ a) (ha : a < 2 ^ nn w) (hb0 : 0 ≤ b) (hb : b < 2 ^ nn w)
include h1 h2 ha0 ha hb0 hb
theorem sg_eq_zero {n : Nat} {x : Int} (hn : 1 ≤ n) (hx0 : 0 ≤ x) (hx : x < 2 ^ n) : sg n x = 0 ↔ x = 0 := by
  have := pow_succ' hn
  unfold sg; rw [mod_small hx0 hx]; split <;> omega
theorem ssigned_eq : bits_signed.f w a b = some (bin 7 (nn w) a b, bin 8 (nn w) a b) := by
  have hn := nn_of (w := w) (by omega) h2
  have hp := pow_pos (nn w)
  have hp3 := pow_le (nn_le w)
  unfold bits_signed.f
  rw [signed_eq w (x := a) ⟨ha0, by omega⟩, Option.bind_some, signed_eq w (x := b) ⟨hb0, by omega⟩, Option.bind_some]
  have hz := sg_eq_zero h1 h2 ha0 ha hb0 hb (n := nn w) (x := b) (by omega) hb0 hb
  by_cases c0 : sg (nn w) b = 0
  · have hb1 := hz.1 c0
    rw [if_pos c0, mask_eq, Option.bind_some]
    simp [bin, hb1]
  · have hb1 : ¬ b = 0 := fun h => c0 (hz.2 h)
    rw [if_neg c0]
    by_cases c1 : sg (nn w) b = -1
    · rw [if_pos c1, fit_eq w (by rw [wrap_u64]; omega), Option.bind_some, wrap_mod (nn_le w)]
      simp only [bin, c1, hb1]
      simp
      have : -a % 2 ^ nn w = - sg (nn w) a % 2 ^ nn w := by
        have e := sg_mod (n := nn w) a
        rw [← Int.zero_sub, ← Int.zero_sub (sg (nn w) a), Int.sub_emod, ← e, ← Int.sub_emod]
      exact this
    · rw [if_neg c1, from_eq, Option.bind_some, from_eq, Option.bind_some]
      have hr := sg_I (nn_le w) a
      have hr2 := sg_I (nn_le w) b
      have hq : wrap64 (Int.tdiv (sg (nn w) a) (sg (nn w) b)) = Int.tdiv (sg (nn w) a) (sg (nn w) b) := by
        by_cases cb : sg (nn w) b = 1
        · rw [cb, Int.tdiv_one]; exact wrap64_id hr.1 hr.2
        have h3 : (Int.tdiv (sg (nn w) a) (sg (nn w) b)).natAbs ≤ (sg (nn w) a).natAbs / 2 := by
          rw [Int.natAbs_tdiv]
          exact Nat.div_le_div_left (by omega) (by decide)
        apply wrap64_id <;> omega
      rw [hq]
      simp [bin, hb1]
theorem divide_eq {op : Int} (ho : op = 5 ∨ op = 6 ∨ op = 7 ∨ op = 8) : bits_divide.f op w a b = some (bin op (nn w) a b) := by
  have hp3 := pow_le (nn_le w)
  unfold bits_divide.f
  rcases ho with rfl | rfl | rfl | rfl
  · simp only [if_true]
    by_cases h : b = 0
    · rw [if_pos h, mask_eq]; simp [bin, h]
    · rw [if_neg h]
      have e : IntKind.u64.wrap (Int.tdiv a b) = a / b := by
        rw [Int.tdiv_eq_ediv_of_nonneg ha0, wrap_u64]
        have := Int.ediv_le_self b ha0
        have := Int.ediv_nonneg ha0 hb0
        omega
      rw [e]; simp [bin, h]
  · rw [if_neg (by decide), if_pos rfl]
    by_cases h : b = 0
    · rw [if_pos h]; simp [bin, h]
    · rw [if_neg h, Int.tmod_eq_emod_of_nonneg ha0]; simp [bin, h]
  · rw [if_neg (by decide), if_neg (by decide), ssigned_eq h1 h2 ha0 ha hb0 hb, Option.bind_some, if_pos rfl]
  · rw [if_neg (by decide), if_neg (by decide), ssigned_eq h1 h2 ha0 ha hb0 hb, Option.bind_some, if_neg (by decide)]
theorem shift_eq {op : Int} (ho : op = 12 ∨ op = 13 ∨ op = 14) : bits_shift.f op w a b = some (bin op (nn w) a b) := by
  have hn := nn_of (w := w) (by omega) h2
  have hp3 := pow_le (nn_le w)
  have hw : IntKind.u64.wrap w = (nn w : Int) := by rw [wrap_u64]; omega
  have hpm := pow_succ' (n := nn w) (by omega)
  have hpp := pow_pos (nn w - 1)
  unfold bits_shift.f
  rw [hw]
  by_cases hc : b ≥ (nn w : Int)
  · rw [if_pos hc]
    have hc' : (nn w : Int) ≤ b := hc
    rcases ho with rfl | rfl | rfl
    · simp [bin, hc']
    · simp [bin, hc']
    · rw [if_pos rfl, negative_eq w ha0 ha, Option.bind_some]
      by_cases h : 2 ^ (nn w - 1) ≤ a
      · rw [if_pos (decide_eq_true h), mask_eq]; simp [bin, hc', h]
      · rw [if_neg (by simpa using h)]; simp [bin, hc', h]
  · rw [if_neg hc]
    have hc' : ¬ (nn w : Int) ≤ b := hc
    have hm : min b.toNat (IntKind.bits .u64) = b.toNat := by show min _ 64 = _; omega
    have hm' : min b.toNat (IntKind.bits .i64) = b.toNat := by show min _ 64 = _; omega
    rcases ho with rfl | rfl | rfl
    · rw [if_pos rfl, if_pos hb0]
      unfold shl
      rw [hm, fit_eq w (by rw [wrap_u64]; omega), Option.bind_some, wrap_mod (nn_le w)]
      simp [bin, hc']
    · rw [if_neg (by decide), if_pos rfl, if_pos hb0]
      unfold shr
      rw [hm]; simp [bin, hc']
    · rw [if_neg (by decide), if_neg (by decide), signed_eq w (x := a) ⟨ha0, by omega⟩, Option.bind_some, if_pos hb0]
      unfold shr
      rw [hm', from_eq, Option.bind_some]; simp [bin, hc']
theorem compare_eq {op : Int} (ho : 15 ≤ op ∧ op ≤ 20) : bits_compare.f op w a b = some (bin op (nn w) a b) := by
  have hp3 := pow_le (nn_le w)
  have sa := signed_eq w (x := a) ⟨ha0, by omega⟩
  have sb := signed_eq w (x := b) ⟨hb0, by omega⟩
  unfold bits_compare.f
  obtain rfl | rfl | rfl | rfl | rfl | rfl : op = 15 ∨ op = 16 ∨ op = 17 ∨ op = 18 ∨ op = 19 ∨ op = 20 := by omega
  all_goals simp [one_eq, bin, sa, sb]
  all_goals (split <;> simp_all)
end
/-- Which result Binary has: the value and OK, or 0 and ErrArg. -/
theorem binary_eq (op w a b : Int) (ha : 0 ≤ a ∧ a < 18446744073709551616) (hb : 0 ≤ b ∧ b < 18446744073709551616) :
    bits_Binary.f op w a b = some (if 2 ≤ op ∧ op ≤ 20 ∧ 1 ≤ w ∧ w ≤ 64 then (bin op (nn w) (a % 2 ^ nn w) (b % 2 ^ nn w), 0) else (0, 1)) := by
  unfold bits_Binary.f
  rw [isBinary_eq, Option.bind_some]
  have e0 : ∀ a b, bits_Binary.j0 op w a b true = some (0, 1) := fun a b => by simp only [bits_Binary.j0]; rfl
  by_cases h : 2 ≤ op ∧ op ≤ 20
  · rw [if_pos (decide_eq_true h)]
    by_cases hw : w < 1
    · rw [if_pos hw, e0, if_neg (by omega)]
    · rw [if_neg hw]
      by_cases hw2 : w > 64
      · rw [decide_eq_true hw2, e0, if_neg (by omega)]
      · rw [decide_eq_false hw2, if_pos ⟨h.1, h.2, by omega, by omega⟩]
        have hw3 : w ≤ 64 := by omega
        have hw1 : 1 ≤ w := by omega
        obtain ⟨a0, a1⟩ := mod_lt (nn w) a
        obtain ⟨b0, b1⟩ := mod_lt (nn w) b
        have hp3 := pow_le (nn_le w)
        simp only [bits_Binary.j0]
        rw [if_neg (by decide), fit_eq w ha, Option.bind_some, fit_eq w hb, Option.bind_some]
        generalize a % 2 ^ nn w = a at *
        generalize b % 2 ^ nn w = b at *
        have f3 : ∀ x : Int, bits_Fit.f w (IntKind.u64.wrap x) = some (x % 2 ^ nn w) := fun x => by rw [fit_eq w (by rw [wrap_u64]; omega), wrap_mod (nn_le w)]
        by_cases o2 : op = 2
        · rw [if_pos o2, f3]; simp [bin, o2]
        rw [if_neg o2]
        by_cases o3 : op = 3
        · rw [if_pos o3, f3]; simp [bin, o3]
        rw [if_neg o3]
        by_cases o4 : op = 4
        · rw [if_pos o4, f3]; simp [bin, o4]
        rw [if_neg o4]
        by_cases od : op = 5 ∨ op = 6 ∨ op = 7 ∨ op = 8
        · have hd := divide_eq hw1 hw3 a0 a1 b0 b1 od
          have e1 : bits_Binary.j1 op w a b op true = some (bin op (nn w) a b, 0) := by
            simp only [bits_Binary.j1, if_true, hd, Option.bind_some]
          rcases od with rfl | rfl | rfl | rfl <;> simpa using e1
        · have o5 : ¬ op = 5 := by omega
          have o6 : ¬ op = 6 := by omega
          have o7 : ¬ op = 7 := by omega
          have o8 : ¬ op = 8 := by omega
          rw [if_neg o5, if_neg o6, if_neg o7, show (op == 8) = false by simpa using o8]
          simp only [bits_Binary.j1]
          rw [if_neg (by decide)]
          by_cases o9 : op = 9
          · rw [if_pos o9, band a b (by omega) (by omega)]; simp [bin, o9]
          rw [if_neg o9]
          by_cases o10 : op = 10
          · rw [if_pos o10, bor a b (by omega) (by omega)]; simp [bin, o10]
          rw [if_neg o10]
          by_cases o11 : op = 11
          · rw [if_pos o11, bxor a b (by omega) (by omega)]; simp [bin, o11]
          rw [if_neg o11]
          by_cases os : op = 12 ∨ op = 13 ∨ op = 14
          · have hd := shift_eq hw1 hw3 a0 a1 b0 b1 os
            have e1 : bits_Binary.j2 op w a b true = some (bin op (nn w) a b, 0) := by
              simp only [bits_Binary.j2, if_true, hd, Option.bind_some]
            rcases os with rfl | rfl | rfl <;> simpa using e1
          · have o12 : ¬ op = 12 := by omega
            have o13 : ¬ op = 13 := by omega
            have o14 : ¬ op = 14 := by omega
            rw [if_neg o12, if_neg o13, show (op == 14) = false by simpa using o14]
            simp only [bits_Binary.j2]
            rw [if_neg (by decide), compare_eq hw1 hw3 a0 a1 b0 b1 (by omega)]
            rfl
  · rw [if_neg (by simpa using h), e0, if_neg (fun h' => h ⟨h'.1, h'.2.1⟩)]
end Go.Proofs.YthhhegblccoonaaGreatDoor.Im
/- Intervals: what the small functions of package interval and of its reference come to. -/
namespace Go.Proofs.YthhhegblccoonaaGreatDoor.Iv
set_option linter.unusedVariables false
set_option linter.unusedSimpArgs false
set_option linter.unusedSectionVars false
open Go.RowKit Go.Proofs.YthhhegblccoonaaGreatDoor.P Go.Proofs.YthhhegblccoonaaGreatDoorW.PrintWords Wd Im

theorem good_eq (w : Int) : interval_good.f w = some (decide (1 ≤ w ∧ w ≤ 64)) := by
  unfold interval_good.f
  by_cases h : w ≥ 1
  · rw [if_pos h]; congr 1; simp; omega
  · rw [if_neg h]; congr 1; simp; omega
theorem ends_eq {w : Int} (h : 1 ≤ w ∧ w ≤ 64) : interval_ends.f w = some (-2 ^ (nn w - 1), 2 ^ (nn w - 1) - 1) := by
  have hn := nn_of (w := w) (by omega) h.2
  have hp := pow_le63 (n := nn w - 1) (by omega)
  have hpp := pow_pos (nn w - 1)
  have e : wrap64 (w - 1) = ((nn w - 1 : Nat) : Int) := by rw [wrap64_id (by omega) (by omega)]; omega
  unfold interval_ends.f
  rw [e, if_pos (by omega)]
  have hm : min ((nn w - 1 : Nat) : Int).toNat (IntKind.bits .i64) = nn w - 1 := by show min _ 64 = _; omega
  unfold shl
  rw [hm, IntKind.wrap_i64, IntKind.wrap_i64]
  congr 1
  refine Prod.ext ?_ ?_
  · show _ = _; simp only []; omega
  · show _ = _; simp only []; unfold wrap64; omega
def Valid (w lo hi l m : Int) : Prop := (1 ≤ w ∧ w ≤ 64) ∧ lo ≤ hi ∧ hi ≤ 2 ^ nn w - 1 ∧ -2 ^ (nn w - 1) ≤ l ∧ l ≤ m ∧ m ≤ 2 ^ (nn w - 1) - 1
instance (w lo hi l m : Int) : Decidable (Valid w lo hi l m) := by unfold Valid; infer_instance
theorem valid_eq (w lo hi l m : Int) : interval_Valid.f w lo hi l m = some (decide (Valid w lo hi l m)) := by
  unfold interval_Valid.f
  rw [good_eq, Option.bind_some]
  by_cases h : 1 ≤ w ∧ w ≤ 64
  · rw [if_pos (decide_eq_true h), ends_eq h, Option.bind_some, mask_eq]
    simp only [Option.bind_some]
    by_cases h1 : lo ≤ hi <;> by_cases h2 : hi ≤ 2 ^ nn w - 1 <;> by_cases h3 : -2 ^ (nn w - 1) ≤ l <;> by_cases h4 : l ≤ m <;> simp [Valid, h, h1, h2, h3, h4]
  · rw [if_neg (by simpa using h)]
    rw [decide_eq_false (fun h' => h h'.1)]
def Contains (w lo hi l m x : Int) : Prop := (1 ≤ w ∧ w ≤ 64) ∧ x ≤ 2 ^ nn w - 1 ∧ lo ≤ x ∧ x ≤ hi ∧ l ≤ sg (nn w) x ∧ sg (nn w) x ≤ m
instance (w lo hi l m x : Int) : Decidable (Contains w lo hi l m x) := by unfold Contains; infer_instance
theorem contains_eq (w lo hi l m : Int) {x : Int} (hx : 0 ≤ x ∧ x < 18446744073709551616) : interval_Contains.f w lo hi l m x = some (decide (Contains w lo hi l m x)) := by
  unfold interval_Contains.f
  rw [good_eq, Option.bind_some]
  by_cases h : 1 ≤ w ∧ w ≤ 64
  · rw [if_pos (decide_eq_true h), mask_eq, Option.bind_some, signed_eq w hx]
    simp only [Option.bind_some]
    by_cases h1 : x > 2 ^ nn w - 1
    · rw [if_pos h1, decide_eq_false (fun h' => absurd h'.2.1 (by omega))]
    · rw [if_neg h1]
      have h1' : x ≤ 2 ^ nn w - 1 := by omega
      by_cases h2 : lo ≤ x <;> by_cases h3 : x ≤ hi <;> by_cases h4 : l ≤ sg (nn w) x <;> simp [Contains, h, h1', h2, h3, h4]
  · rw [if_neg (by simpa using h), decide_eq_false (fun h' => h h'.1)]
theorem top_eq (w : Int) : interval_Top.f w = some (if 1 ≤ w ∧ w ≤ 64 then (0, 2 ^ nn w - 1, -2 ^ (nn w - 1), 2 ^ (nn w - 1) - 1) else (0, 0, 0, 0)) := by
  unfold interval_Top.f
  rw [good_eq, Option.bind_some]
  by_cases h : 1 ≤ w ∧ w ≤ 64
  · rw [if_pos (decide_eq_true h), ends_eq h, Option.bind_some, mask_eq, Option.bind_some, if_pos h]
  · rw [if_neg (by simpa using h), if_neg h]
theorem of_eq (w : Int) {x : Int} (hx : 0 ≤ x ∧ x < 18446744073709551616) : interval_Of.f w x = some (if 1 ≤ w ∧ w ≤ 64 then (x % 2 ^ nn w, x % 2 ^ nn w, sg (nn w) x, sg (nn w) x) else (0, 0, 0, 0)) := by
  unfold interval_Of.f
  rw [good_eq, Option.bind_some]
  by_cases h : 1 ≤ w ∧ w ≤ 64
  · rw [if_pos (decide_eq_true h), fit_eq w hx, Option.bind_some, signed_eq w hx, Option.bind_some, if_pos h]
  · rw [if_neg (by simpa using h), if_neg h]

/-! ### The reference -/
theorem mask_loop (w : Int) (h : w ≤ 64) (d : Nat) : ∀ (k i : Nat), (i : Int) + d = w → d < k → jacquardref12_Mask.l0 k w (2 ^ i - 1) i = some (2 ^ (i + d) - 1) := by
  induction d with
  | zero =>
    intro k i hi hk
    obtain ⟨k, rfl⟩ : ∃ m, k = m + 1 := ⟨k - 1, by omega⟩
    rw [jacquardref12_Mask.l0, if_neg (by omega)]; rfl
  | succ d ih =>
    intro k i hi hk
    obtain ⟨k, rfl⟩ : ∃ m, k = m + 1 := ⟨k - 1, by omega⟩
    have h2 := ih k (i + 1) (by omega) (by omega)
    have hp := pow_pos i
    have hp2 := pow_le (n := i + 1) (by omega)
    rw [Int.pow_succ] at hp2
    have e : IntKind.u64.wrap (IntKind.u64.wrap ((2 ^ i - 1) * 2) + 1) = 2 ^ (i + 1) - 1 := by rw [wrap_u64, wrap_u64, Int.pow_succ]; omega
    rw [jacquardref12_Mask.l0, if_pos (by omega), e, wrap64_id (by omega) (by omega)]
    rw [show i + (d + 1) = i + 1 + d by omega]
    simpa using h2
theorem rmask_eq {w : Int} (h : 0 ≤ w ∧ w ≤ 64) (hk : 64 < Q) : jacquardref12_Mask.f w = some (2 ^ nn w - 1) := by
  have hn := nn_of h.1 h.2
  have := mask_loop w h.2 (nn w) Q 0 (by omega) (by have := Q_big; omega)
  unfold jacquardref12_Mask.f
  simpa using this
theorem umax_eq {w : Int} (h : 0 ≤ w ∧ w ≤ 64) (hk : 64 < Q) : jacquardref13_Umax.f w = some (2 ^ nn w - 1) := by unfold jacquardref13_Umax.f; rw [rmask_eq h hk]; rfl
theorem smax_eq {w : Int} (h : 1 ≤ w ∧ w ≤ 64) (hk : 64 < Q) : jacquardref13_Smax.f w = some (2 ^ (nn w - 1) - 1) := by
  have hn := nn_of (w := w) (by omega) h.2
  have hp := pow_succ' (n := nn w) (by omega)
  have hp2 := pow_le63 (n := nn w - 1) (by omega)
  have hpp := pow_pos (nn w - 1)
  unfold jacquardref13_Smax.f
  rw [umax_eq (by omega) hk, Option.bind_some]
  congr 1; unfold wrap64; omega
theorem smin_eq {w : Int} (h : 1 ≤ w ∧ w ≤ 64) (hk : 64 < Q) : jacquardref13_Smin.f w = some (-2 ^ (nn w - 1)) := by
  have hn := nn_of (w := w) (by omega) h.2
  have hp2 := pow_le63 (n := nn w - 1) (by omega)
  have hpp := pow_pos (nn w - 1)
  unfold jacquardref13_Smin.f
  rw [smax_eq h hk, Option.bind_some]
  congr 1; unfold wrap64; omega
theorem rvalid_eq (w lo hi l m : Int) (hk : 64 < Q) : jacquardref13_Valid.f w lo hi l m = some (decide (Valid w lo hi l m)) := by
  unfold jacquardref13_Valid.f
  by_cases h1 : w ≥ 1
  · rw [if_pos h1]
    by_cases h2 : w ≤ 64
    · have h : 1 ≤ w ∧ w ≤ 64 := ⟨h1, h2⟩
      rw [if_pos h2, umax_eq (by omega) hk, smin_eq h hk, smax_eq h hk]
      simp only [Option.bind_some]
      by_cases h1 : lo ≤ hi <;> by_cases h2 : hi ≤ 2 ^ nn w - 1 <;> by_cases h3 : -2 ^ (nn w - 1) ≤ l <;> by_cases h4 : l ≤ m <;> simp [Valid, h, h1, h2, h3, h4]
    · rw [if_neg h2, decide_eq_false (fun h' => h2 h'.1.2)]
  · rw [if_neg h1, decide_eq_false (fun h' => h1 h'.1.1)]
theorem bit_eq {x i : Int} (hx : 0 ≤ x ∧ x < 18446744073709551616) (hi : 0 ≤ i ∧ i ≤ 64) : jacquardref12_Bit.f x i = some (x / 2 ^ i.toNat % 2) := by
  unfold jacquardref12_Bit.f
  have hp := pow_pos i.toNat
  have h0 : 0 ≤ x / 2 ^ i.toNat := Int.ediv_nonneg hx.1 (by omega)
  have h1 : x / 2 ^ i.toNat ≤ x := Int.ediv_le_self _ hx.1
  have hm : min i.toNat (IntKind.bits .u64) = i.toNat := by show min _ 64 = _; omega
  rw [if_pos hi.1]
  unfold shr
  rw [hm, and_one (by omega), wrap64_id (by omega) (by omega)]
theorem rsg_eq {w x : Int} (h : 1 ≤ w ∧ w ≤ 64) (hx0 : 0 ≤ x) (hx1 : x < 2 ^ nn w) (hk : 64 < Q) : jacquardref12_Signed.f w x = some (sg (nn w) x) := by
  have hn := nn_of (w := w) (by omega) h.2
  have hn1 : 1 ≤ nn w := by omega
  have hp := pow_le (nn_le w)
  have hs := pow_succ' hn1
  have hpp := pow_pos (nn w - 1)
  have hp63 := pow_le63 (n := nn w - 1) (by omega)
  unfold jacquardref12_Signed.f
  rw [wrap64_id (by omega) (by omega), bit_eq ⟨hx0, by omega⟩ (by omega), Option.bind_some, show (w - 1).toNat = nn w - 1 by omega]
  unfold sg
  rw [mod_small hx0 hx1]
  have hq : x / 2 ^ (nn w - 1) % 2 = if 2 ^ (nn w - 1) ≤ x then 1 else 0 := by
    have h0 : 0 ≤ x / 2 ^ (nn w - 1) := Int.ediv_nonneg hx0 (by omega)
    have h1 : x / 2 ^ (nn w - 1) < 2 := Int.ediv_lt_of_lt_mul (by omega) (by omega)
    split
    · have : 1 ≤ x / 2 ^ (nn w - 1) := Int.le_ediv_of_mul_le (by omega) (by omega)
      omega
    · have : x / 2 ^ (nn w - 1) < 1 := Int.ediv_lt_of_lt_mul (by omega) (by omega)
      omega
  rw [hq]
  by_cases c : 2 ^ (nn w - 1) ≤ x
  · rw [if_pos c, if_pos rfl, rmask_eq (by omega) hk, Option.bind_some, compl (nn_le w), or_compl (nn_le w) hx0 hx1, if_neg (by omega)]
    congr 1; unfold wrap64; omega
  · rw [if_neg c, if_neg (by decide), if_pos (by omega), wrap64_id (by omega) (by omega)]
end Go.Proofs.YthhhegblccoonaaGreatDoor.Iv
/- Tighten: what it comes to, and its laws. -/
namespace Go.Proofs.YthhhegblccoonaaGreatDoor.Tg
set_option linter.unusedVariables false
set_option linter.unusedSimpArgs false
set_option linter.unusedSectionVars false
open Go.RowKit Go.Proofs.YthhhegblccoonaaGreatDoor.P Go.Proofs.YthhhegblccoonaaGreatDoorW.PrintWords Wd Im Iv

theorem mx_facts (a b : Int) : (mx a b = a ∧ b ≤ a) ∨ (mx a b = b ∧ a ≤ b) := by unfold mx; split <;> omega
theorem mn_facts (a b : Int) : (mn a b = a ∧ a ≤ b) ∨ (mn a b = b ∧ b ≤ a) := by unfold mn; split <;> omega
theorem sg_lo {n : Nat} {y : Int} (h0 : 0 ≤ y) (h : y < 2 ^ (n - 1)) (hn : 1 ≤ n) : sg n y = y := by
  have := pow_succ' hn
  unfold sg; rw [mod_small h0 (by omega), if_pos h]
theorem sg_hi {n : Nat} {y : Int} (h0 : 2 ^ (n - 1) ≤ y) (h : y < 2 ^ n) (hn : 1 ≤ n) : sg n y = y - 2 ^ n := by
  have := pow_succ' hn
  have := pow_pos (n - 1)
  unfold sg; rw [mod_small (by omega) h, if_neg (by omega)]
theorem mod_neg {n : Nat} {y : Int} (h0 : -2 ^ (n - 1) ≤ y) (h : y < 0) (hn : 1 ≤ n) : y % 2 ^ n = y + 2 ^ n := by
  have := pow_succ' hn
  have := pow_pos (n - 1)
  rw [← Int.add_emod_right]; exact mod_small (by omega) (by omega)
def fin (n : Nat) (a b : Int) : Int × Int × Int × Int × Bool := if a > b then (0, 0, 0, 0, false) else (a, b, sg n a, sg n b, true)
def tight (n : Nat) (lo hi l m : Int) : Int × Int × Int × Int × Bool :=
  if hi ≤ 2 ^ (n - 1) - 1 ∨ 0 ≤ l then (if m < 0 then (0, 0, 0, 0, false) else fin n (mx lo (mx l 0)) (mn hi m))
  else if 2 ^ (n - 1) - 1 < lo ∨ m < 0 then fin n (mx (mx lo (l % 2 ^ n)) (2 ^ (n - 1))) (if m < 0 then mn hi (m % 2 ^ n) else hi)
  else (lo, hi, l, m, true)

/-- Bounds of a valid range, in plain numbers. -/
structure Bd (n : Nat) (lo hi l m : Int) : Prop where
  h1 : lo ≤ hi
  h2 : hi ≤ 2 ^ n - 1
  h3 : -2 ^ (n - 1) ≤ l
  h4 : l ≤ m
  h5 : m ≤ 2 ^ (n - 1) - 1
theorem Bd.of {w lo hi l m : Int} (h : Valid w lo hi l m) : Bd (nn w) lo hi l m := ⟨h.2.1, h.2.2.1, h.2.2.2.1, h.2.2.2.2.1, h.2.2.2.2.2⟩
/-- A range contains a word below 2^n. -/
def In (n : Nat) (lo hi l m x : Int) : Prop := lo ≤ x ∧ x ≤ hi ∧ l ≤ sg n x ∧ sg n x ≤ m
theorem sg_cases {n : Nat} (hn : 1 ≤ n) {x : Int} (h0 : 0 ≤ x) (h : x < 2 ^ n) : (x < 2 ^ (n - 1) ∧ sg n x = x) ∨ (2 ^ (n - 1) ≤ x ∧ sg n x = x - 2 ^ n) := by
  rcases Int.lt_or_le x (2 ^ (n - 1)) with c | c
  · exact .inl ⟨c, sg_lo h0 c hn⟩
  · exact .inr ⟨c, sg_hi c h hn⟩
section
variable {n : Nat} (hn : 1 ≤ n) {lo hi l m : Int} (hlo : 0 ≤ lo) (hv : Bd n lo hi l m)
include hn hlo hv
/-- The three forms of a result. -/
theorem tight_form : (tight n lo hi l m = (0, 0, 0, 0, false) ∧ ∀ x, 0 ≤ x → x < 2 ^ n → ¬ In n lo hi l m x) ∨
    (∃ a b c d, tight n lo hi l m = (a, b, c, d, true) ∧ Bd n a b c d ∧ 0 ≤ a ∧ lo ≤ a ∧ b ≤ hi ∧ l ≤ c ∧ d ≤ m ∧ tight n a b c d = (a, b, c, d, true) ∧ ∀ x, 0 ≤ x → x < 2 ^ n → (In n a b c d x ↔ In n lo hi l m x)) := by
  obtain ⟨h1, h2, h3, h4, h5⟩ := hv
  have hs := pow_succ' hn
  have hp := pow_pos (n - 1)
  have key := fun (x : Int) (h0 : 0 ≤ x) (h : x < 2 ^ n) => sg_cases hn h0 h
  by_cases cA : hi ≤ 2 ^ (n - 1) - 1 ∨ 0 ≤ l
  · by_cases cm : m < 0
    · left
      refine ⟨by unfold tight; rw [if_pos cA, if_pos cm], fun x h0 hx hin => ?_⟩
      obtain ⟨i1, i2, i3, i4⟩ := hin
      have := key x h0 hx
      omega
    · have f1 := mx_facts l 0
      have f2 := mx_facts lo (mx l 0)
      have f3 := mn_facts hi m
      have ht : tight n lo hi l m = fin n (mx lo (mx l 0)) (mn hi m) := by unfold tight; rw [if_pos cA, if_neg cm]
      generalize mx l 0 = l0 at *
      generalize mx lo l0 = a at *
      generalize mn hi m = b at *
      rw [ht]
      unfold fin
      by_cases c : a > b
      · left
        refine ⟨by rw [if_pos c], fun x h0 hx hin => ?_⟩
        obtain ⟨i1, i2, i3, i4⟩ := hin
        have := key x h0 hx
        omega
      · right
        have sa : sg n a = a := sg_lo (by omega) (by omega) hn
        have sb : sg n b = b := sg_lo (by omega) (by omega) hn
        refine ⟨a, b, sg n a, sg n b, by rw [if_neg c], ⟨by omega, by omega, by omega, by omega, by omega⟩, by omega, by omega, by omega, by omega, by omega, ?_, fun x h0 hx => ?_⟩
        · rw [sa, sb]
          have g1 := mx_facts a 0
          have g2 := mx_facts a (mx a 0)
          have g3 := mn_facts b b
          have e1 : mx a (mx a 0) = a := by omega
          have e2 : mn b b = b := by omega
          unfold tight fin
          rw [if_pos (by omega), if_neg (by omega), e1, e2, if_neg (by omega), sa, sb]
        · have := key x h0 hx
          unfold In
          rw [sa, sb]
          omega
  · by_cases cB : 2 ^ (n - 1) - 1 < lo ∨ m < 0
    · have ml := mod_neg h3 (show l < 0 by omega) hn
      have mm : m < 0 → m % 2 ^ n = m + 2 ^ n := fun h => mod_neg (by omega) h hn
      have f1 := mx_facts lo (l % 2 ^ n)
      have f2 := mx_facts (mx lo (l % 2 ^ n)) (2 ^ (n - 1))
      have f3 := mn_facts hi (m % 2 ^ n)
      have ht : tight n lo hi l m = fin n (mx (mx lo (l % 2 ^ n)) (2 ^ (n - 1))) (if m < 0 then mn hi (m % 2 ^ n) else hi) := by unfold tight; rw [if_neg cA, if_pos cB]
      have f4 : (m < 0 ∧ (if m < 0 then mn hi (m % 2 ^ n) else hi) = mn hi (m % 2 ^ n)) ∨ (¬ m < 0 ∧ (if m < 0 then mn hi (m % 2 ^ n) else hi) = hi) := by
        by_cases c : m < 0
        · left; exact ⟨c, by rw [if_pos c]⟩
        · right; exact ⟨c, by rw [if_neg c]⟩
      generalize (if m < 0 then mn hi (m % 2 ^ n) else hi) = b at *
      generalize mx (mx lo (l % 2 ^ n)) (2 ^ (n - 1)) = a at *
      generalize mx lo (l % 2 ^ n) = a0 at *
      generalize mn hi (m % 2 ^ n) = b0 at *
      rw [ht]
      unfold fin
      have mm2 : m < 0 → b0 = hi ∧ hi ≤ m + 2 ^ n ∨ b0 = m + 2 ^ n ∧ m + 2 ^ n ≤ hi := fun h => by have := mm h; omega
      rw [ml] at f1
      clear mm ml f3
      by_cases c : a > b
      · left
        refine ⟨by rw [if_pos c], fun x h0 hx hin => ?_⟩
        obtain ⟨i1, i2, i3, i4⟩ := hin
        have := key x h0 hx
        by_cases cm : m < 0
        · have := mm2 cm
          omega
        · omega
      · right
        have hb : b ≤ hi ∧ (m < 0 → b ≤ m + 2 ^ n) ∧ (b = hi ∨ (m < 0 ∧ b = m + 2 ^ n)) := by
          by_cases cm : m < 0
          · have := mm2 cm
            omega
          · omega
        have sa : sg n a = a - 2 ^ n := sg_hi (by omega) (by omega) hn
        have sb : sg n b = b - 2 ^ n := sg_hi (by omega) (by omega) hn
        refine ⟨a, b, sg n a, sg n b, by rw [if_neg c], ⟨by omega, by omega, by omega, by omega, by omega⟩, by omega, by omega, by omega, by omega, by omega, ?_, fun x h0 hx => ?_⟩
        · rw [sa, sb]
          have e0 : (a - 2 ^ n) % 2 ^ n = a := by rw [Int.sub_emod_right]; exact mod_small (by omega) (by omega)
          have e00 : (b - 2 ^ n) % 2 ^ n = b := by rw [Int.sub_emod_right]; exact mod_small (by omega) (by omega)
          have g1 := mx_facts a a
          have g2 := mx_facts (mx a a) (2 ^ (n - 1))
          have g3 := mn_facts b b
          have e1 : mx (mx a a) (2 ^ (n - 1)) = a := by omega
          have e2 : mn b b = b := by omega
          unfold tight fin
          rw [if_neg (by omega), if_pos (by omega), if_pos (show b - 2 ^ n < 0 by omega), e0, e00, e1, e2, if_neg (by omega), sa, sb]
        · have := key x h0 hx
          unfold In
          rw [sa, sb]
          omega
    · right
      have ht : tight n lo hi l m = (lo, hi, l, m, true) := by unfold tight; rw [if_neg cA, if_neg cB]
      exact ⟨lo, hi, l, m, ht, ⟨h1, h2, h3, h4, h5⟩, hlo, by omega, by omega, by omega, by omega, ht, fun x _ _ => Iff.rfl⟩
end

theorem tighten_eq (w lo hi l m : Int) (hlo : 0 ≤ lo) (hI : -9223372036854775808 ≤ l ∧ m < 9223372036854775808) :
    interval_Tighten.f w lo hi l m = some (if Valid w lo hi l m then tight (nn w) lo hi l m else (0, 0, 0, 0, false)) := by
  unfold interval_Tighten.f
  rw [valid_eq, Option.bind_some]
  by_cases hv : Valid w lo hi l m
  · rw [if_pos (decide_eq_true hv), ends_eq hv.1, Option.bind_some, if_pos hv]
    have hn := nn_of (w := w) (by have := hv.1; omega) hv.1.2
    have hn1 : 1 ≤ nn w := by have := hv.1; omega
    have hs := pow_succ' hn1
    have hp := pow_pos (nn w - 1)
    have hp64 := pow_le (nn_le w)
    obtain ⟨h1, h2, h3, h4, h5⟩ := Bd.of hv
    have ht : IntKind.u64.wrap (2 ^ (nn w - 1) - 1) = 2 ^ (nn w - 1) - 1 := by rw [wrap_u64]; omega
    simp only [ht]
    have J2 : ∀ a b, 0 ≤ a → b ≤ 2 ^ nn w - 1 → interval_Tighten.j2 w a b = some (fin (nn w) a b) := by
      intro a b ha hb
      rw [interval_Tighten.j2]
      unfold fin
      by_cases c : a > b
      · rw [if_pos c, if_pos c]
      · rw [if_neg c, if_neg c, signed_eq w (by omega), Option.bind_some, signed_eq w (by omega), Option.bind_some]
    have J0t : hi ≤ 2 ^ (nn w - 1) - 1 ∨ 0 ≤ l → interval_Tighten.j0 w (2 ^ (nn w - 1) - 1) lo hi true lo hi l m = some (tight (nn w) lo hi l m) := by
      intro cA
      rw [interval_Tighten.j0, if_pos rfl]
      unfold tight
      rw [if_pos cA]
      by_cases cm : m < 0
      · rw [if_pos cm, if_pos cm]
      · have f1 := mx_facts l 0
        have f2 := mx_facts lo (mx l 0)
        have f3 := mn_facts hi m
        have e1 : IntKind.u64.wrap (mx l 0) = mx l 0 := by rw [wrap_u64]; omega
        have e2 : IntKind.u64.wrap m = m := by rw [wrap_u64]; omega
        rw [if_neg cm, if_neg cm, e1, e2]
        exact J2 _ _ (by omega) (by omega)
    have J0f : ¬ (hi ≤ 2 ^ (nn w - 1) - 1 ∨ 0 ≤ l) → interval_Tighten.j0 w (2 ^ (nn w - 1) - 1) lo hi false lo hi l m = some (tight (nn w) lo hi l m) := by
      intro cA
      rw [interval_Tighten.j0, if_neg (by decide)]
      unfold tight
      rw [if_neg cA]
      have J1 : ∀ b, b = decide (2 ^ (nn w - 1) - 1 < lo ∨ m < 0) → interval_Tighten.j1 w (2 ^ (nn w - 1) - 1) lo hi b lo hi l m = some (if 2 ^ (nn w - 1) - 1 < lo ∨ m < 0 then fin (nn w) (mx (mx lo (l % 2 ^ nn w)) (2 ^ (nn w - 1))) (if m < 0 then mn hi (m % 2 ^ nn w) else hi) else (lo, hi, l, m, true)) := by
        intro b hb
        rw [interval_Tighten.j1]
        by_cases cB : 2 ^ (nn w - 1) - 1 < lo ∨ m < 0
        · rw [decide_eq_true cB] at hb
          have e1 : IntKind.u64.wrap (2 ^ (nn w - 1) - 1 + 1) = 2 ^ (nn w - 1) := by rw [wrap_u64]; omega
          have r1 := mod_lt (nn w) l
          have r2 := mod_lt (nn w) m
          have f1 := mx_facts lo (l % 2 ^ nn w)
          have f2 := mx_facts (mx lo (l % 2 ^ nn w)) (2 ^ (nn w - 1))
          have f3 := mn_facts hi (m % 2 ^ nn w)
          rw [if_pos hb, if_pos cB, from_eq, Option.bind_some, e1]
          by_cases cm : m < 0
          · rw [if_pos cm, if_pos cm, from_eq, Option.bind_some]
            exact J2 _ _ (by omega) (by omega)
          · rw [if_neg cm, if_neg cm]
            exact J2 _ _ (by omega) (by omega)
        · rw [decide_eq_false cB] at hb
          rw [if_neg (by rw [hb]; decide), if_neg cB]
      by_cases c1 : lo > 2 ^ (nn w - 1) - 1
      · rw [if_pos c1]; exact J1 true (by rw [decide_eq_true (Or.inl c1)])
      · rw [if_neg c1]; exact J1 _ (by rw [Bool.eq_iff_iff]; simp; omega)
    by_cases c1 : hi ≤ 2 ^ (nn w - 1) - 1
    · rw [if_pos c1]; exact J0t (.inl c1)
    · rw [if_neg c1]
      by_cases c2 : 0 ≤ l
      · rw [decide_eq_true (show l ≥ 0 from c2)]; exact J0t (.inr c2)
      · rw [decide_eq_false (show ¬ l ≥ 0 from c2)]; exact J0f (by omega)
  · rw [if_neg (by simpa using hv), if_neg hv]
theorem rtighten_eq (w lo hi l m : Int) (hlo : 0 ≤ lo) (hI : -9223372036854775808 ≤ l ∧ m < 9223372036854775808) (hk : 70 < Q) :
    jacquardref13_Tighten.f w lo hi l m = some (if Valid w lo hi l m then tight (nn w) lo hi l m else (0, 0, 0, 0, false)) := by
  unfold jacquardref13_Tighten.f
  rw [rvalid_eq w lo hi l m (by omega), Option.bind_some]
  by_cases hv : Valid w lo hi l m
  · rw [if_pos (decide_eq_true hv), smax_eq hv.1 (by omega), Option.bind_some, if_pos hv]
    have hn := nn_of (w := w) (by have := hv.1; omega) hv.1.2
    have hn1 : 1 ≤ nn w := by have := hv.1; omega
    have hs := pow_succ' hn1
    have hp := pow_pos (nn w - 1)
    have hp64 := pow_le (nn_le w)
    obtain ⟨h1, h2, h3, h4, h5⟩ := Bd.of hv
    have ht : IntKind.u64.wrap (2 ^ (nn w - 1) - 1) = 2 ^ (nn w - 1) - 1 := by rw [wrap_u64]; omega
    simp only [ht]
    have S : ∀ a b, 0 ≤ a → b ≤ 2 ^ nn w - 1 → jacquardref13_same.f w a b = some (fin (nn w) a b) := by
      intro a b ha hb
      unfold jacquardref13_same.f fin
      by_cases c : a > b
      · rw [if_pos c, if_pos c]
      · rw [if_neg c, if_neg c, rsg_eq hv.1 ha (by omega) (by omega), Option.bind_some, rsg_eq hv.1 (by omega) (by omega) (by omega), Option.bind_some]
    have eta : ∀ t : Int × Int × Int × Int × Bool, (t.1, t.2.1, t.2.2.1, t.2.2.2.1, t.2.2.2.2) = t := fun t => rfl
    have J0t : hi ≤ 2 ^ (nn w - 1) - 1 ∨ 0 ≤ l → jacquardref13_Tighten.j0 w (2 ^ (nn w - 1) - 1) true lo hi l m = some (tight (nn w) lo hi l m) := by
      intro cA
      rw [jacquardref13_Tighten.j0, if_pos rfl]
      unfold tight
      rw [if_pos cA]
      by_cases cm : m < 0
      · rw [if_pos cm, if_pos cm]
      · have f1 := mx_facts l 0
        have f2 := mx_facts lo (mx l 0)
        have f3 := mn_facts hi m
        have f4 := mx_facts lo l
        have e2 : IntKind.u64.wrap m = m := by rw [wrap_u64]; omega
        rw [if_neg cm, if_neg cm, e2]
        by_cases c0 : l > 0
        · have e1 : IntKind.u64.wrap l = l := by rw [wrap_u64]; omega
          have e3 : mx l 0 = l := by omega
          rw [if_pos c0, e1, e3, S _ _ (by omega) (by omega), Option.bind_some]
        · have e3 : mx lo (mx l 0) = lo := by omega
          rw [if_neg c0, e3, S _ _ (by omega) (by omega), Option.bind_some]
    have J0f : ¬ (hi ≤ 2 ^ (nn w - 1) - 1 ∨ 0 ≤ l) → jacquardref13_Tighten.j0 w (2 ^ (nn w - 1) - 1) false lo hi l m = some (tight (nn w) lo hi l m) := by
      intro cA
      rw [jacquardref13_Tighten.j0, if_neg (by decide)]
      unfold tight
      rw [if_neg cA]
      have J1 : ∀ b, b = decide (2 ^ (nn w - 1) - 1 < lo ∨ m < 0) → jacquardref13_Tighten.j1 w (2 ^ (nn w - 1) - 1) b lo hi l m = some (if 2 ^ (nn w - 1) - 1 < lo ∨ m < 0 then fin (nn w) (mx (mx lo (l % 2 ^ nn w)) (2 ^ (nn w - 1))) (if m < 0 then mn hi (m % 2 ^ nn w) else hi) else (lo, hi, l, m, true)) := by
        intro b hb
        rw [jacquardref13_Tighten.j1]
        by_cases cB : 2 ^ (nn w - 1) - 1 < lo ∨ m < 0
        · rw [decide_eq_true cB] at hb
          have e1 : IntKind.u64.wrap (2 ^ (nn w - 1) - 1 + 1) = 2 ^ (nn w - 1) := by rw [wrap_u64]; omega
          have r1 := mod_lt (nn w) l
          have r2 := mod_lt (nn w) m
          have f1 := mx_facts lo (l % 2 ^ nn w)
          have f2 := mx_facts (mx lo (l % 2 ^ nn w)) (2 ^ (nn w - 1))
          have f3 := mn_facts hi (m % 2 ^ nn w)
          have g1 := mx_facts lo (2 ^ (nn w - 1))
          have g2 := mx_facts (mx lo (2 ^ (nn w - 1))) (l % 2 ^ nn w)
          have b1 : Go.bits .and .u64 (IntKind.u64.wrap l) (2 ^ nn w - 1) = l % 2 ^ nn w := by rw [and_mask (nn_le w) (by rw [wrap_u64]; omega), wrap_mod (nn_le w)]
          have b2 : Go.bits .and .u64 (IntKind.u64.wrap m) (2 ^ nn w - 1) = m % 2 ^ nn w := by rw [and_mask (nn_le w) (by rw [wrap_u64]; omega), wrap_mod (nn_le w)]
          have em : mx (mx lo (2 ^ (nn w - 1))) (l % 2 ^ nn w) = mx (mx lo (l % 2 ^ nn w)) (2 ^ (nn w - 1)) := by omega
          rw [if_pos hb, if_pos cB, umax_eq (by have := hv.1; omega) (by omega), Option.bind_some, e1, b1, b2, em]
          by_cases cm : m < 0
          · rw [if_pos cm, if_pos cm, S _ _ (by omega) (by omega), Option.bind_some]
          · rw [if_neg cm, if_neg cm, S _ _ (by omega) (by omega), Option.bind_some]
        · rw [decide_eq_false cB] at hb
          rw [if_neg (by rw [hb]; decide), if_neg cB]
      by_cases c1 : lo > 2 ^ (nn w - 1) - 1
      · rw [if_pos c1]; exact J1 true (by rw [decide_eq_true (Or.inl c1)])
      · rw [if_neg c1]; exact J1 _ (by rw [Bool.eq_iff_iff]; simp; omega)
    by_cases c1 : hi ≤ 2 ^ (nn w - 1) - 1
    · rw [if_pos c1]; exact J0t (.inl c1)
    · rw [if_neg c1]
      by_cases c2 : 0 ≤ l
      · rw [decide_eq_true (show l ≥ 0 from c2)]; exact J0t (.inr c2)
      · rw [decide_eq_false (show ¬ l ≥ 0 from c2)]; exact J0f (by omega)
  · rw [if_neg (by simpa using hv), if_neg hv]
end Go.Proofs.YthhhegblccoonaaGreatDoor.Tg
/- facts.Tighten: the fast form and the plain one come to the same, and keep the words that a fact contains. -/
namespace Go.Proofs.YthhhegblccoonaaGreatDoor.Ft
set_option linter.unusedVariables false
set_option linter.unusedSimpArgs false
set_option linter.unusedSectionVars false
open Go.RowKit Go.Proofs.YthhhegblccoonaaGreatDoor.P Go.Proofs.YthhhegblccoonaaGreatDoorW.PrintWords Wd Im Iv Tg

def ndiff (a b : Nat) : Nat := a ^^^ (a &&& b)
theorem tb_ndiff (a b i : Nat) : (ndiff a b).testBit i = (a.testBit i && !b.testBit i) := by
  unfold ndiff; rw [Nat.testBit_xor, Nat.testBit_and]; cases a.testBit i <;> cases b.testBit i <;> rfl
theorem tb_big {a n i : Nat} (h : a < 2 ^ n) (hi : n ≤ i) : a.testBit i = false := Nat.testBit_lt_two_pow (Nat.lt_of_lt_of_le h (Nat.pow_le_pow_right (by decide) hi))
theorem ndiff_lt {a b n : Nat} (h : a < 2 ^ n) : ndiff a b < 2 ^ n := Nat.lt_pow_two_of_testBit _ fun i hi => by rw [tb_ndiff, tb_big h hi]; rfl
theorem or_lt {a b n : Nat} (h : a < 2 ^ n) (h2 : b < 2 ^ n) : a ||| b < 2 ^ n := Nat.or_lt_two_pow h h2
theorem up {a n : Nat} (hn : n ≤ 64) (h : a < 2 ^ n) : a < 18446744073709551616 := Nat.lt_of_lt_of_le h (Nat.le_trans (Nat.pow_le_pow_right (by decide) hn) (by decide))
section
variable {a b : Nat} (ha : a < 18446744073709551616) (hb : b < 18446744073709551616)
include ha hb
theorem nand : Go.bits .and .u64 (a : Int) (b : Int) = ((a &&& b : Nat) : Int) := by rw [band _ _ (by omega) (by omega)]; rfl
theorem nor : Go.bits .or .u64 (a : Int) (b : Int) = ((a ||| b : Nat) : Int) := by rw [bor _ _ (by omega) (by omega)]; rfl
theorem nxor : Go.bits .xor .u64 (a : Int) (b : Int) = ((a ^^^ b : Nat) : Int) := by rw [bxor _ _ (by omega) (by omega)]; rfl
theorem nandn : Go.bits .andNot .u64 (a : Int) (b : Int) = ((ndiff a b : Nat) : Int) := by
  have e : (BitVec.ofInt 64 (a : Int) &&& ~~~BitVec.ofInt 64 (b : Int)).toNat = ndiff a b := by
    apply Nat.eq_of_testBit_eq
    intro i
    rw [BitVec.testBit_toNat, BitVec.getLsbD_and, BitVec.getLsbD_not, ← BitVec.testBit_toNat, ← BitVec.testBit_toNat, ofInt_toNat _ (by omega) (by omega), ofInt_toNat _ (by omega) (by omega), tb_ndiff, Int.toNat_natCast, Int.toNat_natCast]
    by_cases hi : i < 64
    · simp [hi]
    · rw [tb_big (n := 64) ha (by omega)]; rfl
  show IntKind.u64.wrap ((BitVec.ofInt 64 (a : Int) &&& ~~~BitVec.ofInt 64 (b : Int)).toNat : Int) = _
  rw [e, wrap_u64]
  have : ndiff a b < 2 ^ 64 := ndiff_lt ha
  omega
end
theorem pnat (n : Nat) : (2 : Int) ^ n = ((2 ^ n : Nat) : Int) := by rw [Int.natCast_pow]; rfl
theorem mnat (n : Nat) : (2 : Int) ^ n - 1 = ((2 ^ n - 1 : Nat) : Int) := by have := Nat.two_pow_pos n; rw [pnat]; omega
theorem shl_one {i : Nat} (h : i ≤ 63) : shl .u64 1 (i : Int) = ((2 ^ i : Nat) : Int) := by
  have := pow_le63 h
  have := pow_pos i
  unfold shl
  rw [show min (i : Int).toNat (IntKind.bits .u64) = i by show min _ 64 = _; omega, wrap_u64, Int.one_mul, ← pnat]
  omega
theorem sbit (x i : Nat) : x &&& 2 ^ i = 0 ↔ x.testBit i = false := by
  constructor
  · intro h
    have := congrArg (Nat.testBit · i) h
    simpa [Nat.testBit_two_pow] using this
  · intro h
    apply Nat.eq_of_testBit_eq
    intro j
    rw [Nat.testBit_and, Nat.testBit_two_pow]
    by_cases e : i = j
    · subst e; simp [h]
    · simp [e]
theorem disj {a b : Nat} : a &&& b = 0 ↔ ∀ i, ¬ (a.testBit i = true ∧ b.testBit i = true) := by
  constructor
  · intro h i hh
    have := congrArg (Nat.testBit · i) h
    simp [hh.1, hh.2] at this
  · intro h
    apply Nat.eq_of_testBit_eq
    intro i
    have := h i
    rw [Nat.testBit_and]
    cases e1 : a.testBit i <;> cases e2 : b.testBit i <;> simp_all
theorem subs {x o : Nat} : x &&& o = o ↔ ∀ i, o.testBit i = true → x.testBit i = true := by
  constructor
  · intro h i hh
    have := congrArg (Nat.testBit · i) h
    simpa [hh] using this
  · intro h
    apply Nat.eq_of_testBit_eq
    intro i
    have := h i
    rw [Nat.testBit_and]
    cases e1 : o.testBit i <;> cases e2 : x.testBit i <;> simp_all
theorem diff0 {a b : Nat} : ndiff a b = 0 ↔ ∀ i, a.testBit i = true → b.testBit i = true := by
  constructor
  · intro h i hh
    have := congrArg (Nat.testBit · i) h
    simpa [tb_ndiff, hh] using this
  · intro h
    apply Nat.eq_of_testBit_eq
    intro i
    have := h i
    rw [tb_ndiff]
    cases e1 : a.testBit i <;> cases e2 : b.testBit i <;> simp_all
theorem sub_le {x o : Nat} (h : ∀ i, o.testBit i = true → x.testBit i = true) : o ≤ x := by
  have := subs.2 h
  rw [← this]; exact Nat.and_le_left
theorem within {a n : Nat} : ndiff a (2 ^ n - 1) = 0 ↔ a < 2 ^ n := by
  rw [diff0]
  constructor
  · intro h
    apply Nat.lt_pow_two_of_testBit
    intro i hi
    have := h i
    rw [Nat.testBit_two_pow_sub_one] at this
    cases e : a.testBit i
    · rfl
    · have := this e; simp at this; omega
  · intro h i hi
    rw [Nat.testBit_two_pow_sub_one]
    by_cases c : i < n
    · simp [c]
    · rw [tb_big h (by omega)] at hi; exact absurd hi (by decide)

/-! ### The length of a word -/
theorem tbl_fact : ∀ b : Fin 256, (b.1 = 0 ∧ bt (⟨#[0, 1, 2, 2, 3, 3, 3, 3, 4, 4, 4, 4, 4, 4, 4, 4, 5, 5, 5, 5, 5, 5, 5, 5, 5, 5, 5, 5, 5, 5, 5, 5, 6, 6, 6, 6, 6, 6, 6, 6, 6, 6, 6, 6, 6, 6, 6, 6, 6, 6, 6, 6, 6, 6, 6, 6, 6, 6, 6, 6, 6, 6, 6, 6, 7, 7, 7, 7, 7, 7, 7, 7, 7, 7, 7, 7, 7, 7, 7, 7, 7, 7, 7, 7, 7, 7, 7, 7, 7, 7, 7, 7, 7, 7, 7, 7, 7, 7, 7, 7, 7, 7, 7, 7, 7, 7, 7, 7, 7, 7, 7, 7, 7, 7, 7, 7, 7, 7, 7, 7, 7, 7, 7, 7, 7, 7, 7, 7, 8, 8, 8, 8, 8, 8, 8, 8, 8, 8, 8, 8, 8, 8, 8, 8, 8, 8, 8, 8, 8, 8, 8, 8, 8, 8, 8, 8, 8, 8, 8, 8, 8, 8, 8, 8, 8, 8, 8, 8, 8, 8, 8, 8, 8, 8, 8, 8, 8, 8, 8, 8, 8, 8, 8, 8, 8, 8, 8, 8, 8, 8, 8, 8, 8, 8, 8, 8, 8, 8, 8, 8, 8, 8, 8, 8, 8, 8, 8, 8, 8, 8, 8, 8, 8, 8, 8, 8, 8, 8, 8, 8, 8, 8, 8, 8, 8, 8, 8, 8, 8, 8, 8, 8, 8, 8, 8, 8, 8, 8, 8, 8, 8, 8, 8, 8, 8, 8, 8, 8, 8, 8, 8, 8, 8, 8, 8, 8]⟩ : ByteArray) b.1 = 0) ∨ (∃ t : Fin 8, bt (⟨#[0, 1, 2, 2, 3, 3, 3, 3, 4, 4, 4, 4, 4, 4, 4, 4, 5, 5, 5, 5, 5, 5, 5, 5, 5, 5, 5, 5, 5, 5, 5, 5, 6, 6, 6, 6, 6, 6, 6, 6, 6, 6, 6, 6, 6, 6, 6, 6, 6, 6, 6, 6, 6, 6, 6, 6, 6, 6, 6, 6, 6, 6, 6, 6, 7, 7, 7, 7, 7, 7, 7, 7, 7, 7, 7, 7, 7, 7, 7, 7, 7, 7, 7, 7, 7, 7, 7, 7, 7, 7, 7, 7, 7, 7, 7, 7, 7, 7, 7, 7, 7, 7, 7, 7, 7, 7, 7, 7, 7, 7, 7, 7, 7, 7, 7, 7, 7, 7, 7, 7, 7, 7, 7, 7, 7, 7, 7, 7, 8, 8, 8, 8, 8, 8, 8, 8, 8, 8, 8, 8, 8, 8, 8, 8, 8, 8, 8, 8, 8, 8, 8, 8, 8, 8, 8, 8, 8, 8, 8, 8, 8, 8, 8, 8, 8, 8, 8, 8, 8, 8, 8, 8, 8, 8, 8, 8, 8, 8, 8, 8, 8, 8, 8, 8, 8, 8, 8, 8, 8, 8, 8, 8, 8, 8, 8, 8, 8, 8, 8, 8, 8, 8, 8, 8, 8, 8, 8, 8, 8, 8, 8, 8, 8, 8, 8, 8, 8, 8, 8, 8, 8, 8, 8, 8, 8, 8, 8, 8, 8, 8, 8, 8, 8, 8, 8, 8, 8, 8, 8, 8, 8, 8, 8, 8, 8, 8, 8, 8, 8, 8, 8, 8, 8, 8, 8, 8]⟩ : ByteArray) b.1 = (t.1 : Int) + 1 ∧ 2 ^ t.1 ≤ b.1 ∧ b.1 < 2 ^ (t.1 + 1)) := by decide +kernel
theorem tbl_at {y : Int} (h0 : 0 ≤ y) (h1 : y < 256) : ∃ t : Nat, t ≤ 8 ∧ bt (⟨#[0, 1, 2, 2, 3, 3, 3, 3, 4, 4, 4, 4, 4, 4, 4, 4, 5, 5, 5, 5, 5, 5, 5, 5, 5, 5, 5, 5, 5, 5, 5, 5, 6, 6, 6, 6, 6, 6, 6, 6, 6, 6, 6, 6, 6, 6, 6, 6, 6, 6, 6, 6, 6, 6, 6, 6, 6, 6, 6, 6, 6, 6, 6, 6, 7, 7, 7, 7, 7, 7, 7, 7, 7, 7, 7, 7, 7, 7, 7, 7, 7, 7, 7, 7, 7, 7, 7, 7, 7, 7, 7, 7, 7, 7, 7, 7, 7, 7, 7, 7, 7, 7, 7, 7, 7, 7, 7, 7, 7, 7, 7, 7, 7, 7, 7, 7, 7, 7, 7, 7, 7, 7, 7, 7, 7, 7, 7, 7, 8, 8, 8, 8, 8, 8, 8, 8, 8, 8, 8, 8, 8, 8, 8, 8, 8, 8, 8, 8, 8, 8, 8, 8, 8, 8, 8, 8, 8, 8, 8, 8, 8, 8, 8, 8, 8, 8, 8, 8, 8, 8, 8, 8, 8, 8, 8, 8, 8, 8, 8, 8, 8, 8, 8, 8, 8, 8, 8, 8, 8, 8, 8, 8, 8, 8, 8, 8, 8, 8, 8, 8, 8, 8, 8, 8, 8, 8, 8, 8, 8, 8, 8, 8, 8, 8, 8, 8, 8, 8, 8, 8, 8, 8, 8, 8, 8, 8, 8, 8, 8, 8, 8, 8, 8, 8, 8, 8, 8, 8, 8, 8, 8, 8, 8, 8, 8, 8, 8, 8, 8, 8, 8, 8, 8, 8, 8, 8]⟩ : ByteArray) y = (t : Int) ∧ y < 2 ^ t ∧ (t = 0 ∧ y = 0 ∨ 1 ≤ t ∧ 2 ^ (t - 1) ≤ y) := by
  have e : y = ((⟨y.toNat, by omega⟩ : Fin 256).1 : Int) := by show y = (y.toNat : Int); omega
  rw [e]
  generalize (⟨y.toNat, by omega⟩ : Fin 256) = b
  rcases tbl_fact b with ⟨h2, h3⟩ | ⟨t, h2, h3, h4⟩
  · exact ⟨0, by omega, h3, by rw [h2]; decide, .inl ⟨rfl, by rw [h2]; rfl⟩⟩
  · have ht := t.2
    refine ⟨t.1 + 1, by omega, by rw [h2]; omega, ?_, .inr ⟨by omega, ?_⟩⟩
    · rw [pnat]; omega
    · rw [Nat.add_sub_cancel, pnat]; omega
theorem scale (s t : Nat) {x : Int} (h1 : x / 2 ^ s < 2 ^ t) : x < 2 ^ (s + t) := by
  have hp := pow_pos s
  rw [Int.ediv_lt_iff_lt_mul (by omega)] at h1
  rw [Int.pow_add, Int.mul_comm]; exact h1
theorem scale2 (s t : Nat) {x : Int} (ht : 1 ≤ t) (h1 : 2 ^ (t - 1) ≤ x / 2 ^ s) : 2 ^ (s + t - 1) ≤ x := by
  have hp := pow_pos s
  rw [Int.le_ediv_iff_mul_le (by omega)] at h1
  rw [show s + t - 1 = s + (t - 1) by omega, Int.pow_add, Int.mul_comm]; exact h1
theorem len_br (s : Nat) {x y : Int} (hs : y = x / 2 ^ s) (h0 : 0 ≤ y) (h1 : y < 256) (hp : s = 0 ∨ 1 ≤ y) : ∃ t : Nat, t ≤ 8 ∧ bt (⟨#[0, 1, 2, 2, 3, 3, 3, 3, 4, 4, 4, 4, 4, 4, 4, 4, 5, 5, 5, 5, 5, 5, 5, 5, 5, 5, 5, 5, 5, 5, 5, 5, 6, 6, 6, 6, 6, 6, 6, 6, 6, 6, 6, 6, 6, 6, 6, 6, 6, 6, 6, 6, 6, 6, 6, 6, 6, 6, 6, 6, 6, 6, 6, 6, 7, 7, 7, 7, 7, 7, 7, 7, 7, 7, 7, 7, 7, 7, 7, 7, 7, 7, 7, 7, 7, 7, 7, 7, 7, 7, 7, 7, 7, 7, 7, 7, 7, 7, 7, 7, 7, 7, 7, 7, 7, 7, 7, 7, 7, 7, 7, 7, 7, 7, 7, 7, 7, 7, 7, 7, 7, 7, 7, 7, 7, 7, 7, 7, 8, 8, 8, 8, 8, 8, 8, 8, 8, 8, 8, 8, 8, 8, 8, 8, 8, 8, 8, 8, 8, 8, 8, 8, 8, 8, 8, 8, 8, 8, 8, 8, 8, 8, 8, 8, 8, 8, 8, 8, 8, 8, 8, 8, 8, 8, 8, 8, 8, 8, 8, 8, 8, 8, 8, 8, 8, 8, 8, 8, 8, 8, 8, 8, 8, 8, 8, 8, 8, 8, 8, 8, 8, 8, 8, 8, 8, 8, 8, 8, 8, 8, 8, 8, 8, 8, 8, 8, 8, 8, 8, 8, 8, 8, 8, 8, 8, 8, 8, 8, 8, 8, 8, 8, 8, 8, 8, 8, 8, 8, 8, 8, 8, 8, 8, 8, 8, 8, 8, 8, 8, 8, 8, 8, 8, 8, 8, 8]⟩ : ByteArray) (y % 256) = (t : Int) ∧ x < 2 ^ (s + t) ∧ (s + t = 0 ∧ x = 0 ∨ 1 ≤ s + t ∧ 2 ^ (s + t - 1) ≤ x) := by
  obtain ⟨t, h2, h3, h4, h5⟩ := tbl_at h0 h1
  refine ⟨t, h2, by rw [show y % 256 = y by omega]; exact h3, scale s t (by rw [← hs]; exact h4), ?_⟩
  rcases h5 with ⟨h5, h6⟩ | ⟨h5, h6⟩
  · rcases hp with hp | hp
    · subst hp
      left; refine ⟨by omega, ?_⟩
      simp at hs; omega
    · omega
  · right; exact ⟨by omega, scale2 s t h5 (by rw [← hs]; exact h6)⟩
theorem len_j0 {x n : Int} (h0 : 0 ≤ x) (h1 : x < 4294967296) (hn : n = 0 ∨ n = 32) : ∃ t : Nat, t ≤ 32 ∧ bits_Len64.j0 x n = some (n + t) ∧ x < 2 ^ t ∧ (t = 0 ∧ x = 0 ∨ 1 ≤ t ∧ 2 ^ (t - 1) ≤ x) := by
  rw [bits_Len64.j0]
  have w : ∀ a : Int, 0 ≤ a → a < 200 → wrap64 a = a := fun a h h' => wrap64_id (by omega) (by omega)
  by_cases c1 : x ≥ 65536
  · rw [if_pos c1]
    by_cases c2 : x / 65536 ≥ 256
    · obtain ⟨t, h2, h3, h4⟩ := len_br 24 (x := x) (y := x / 65536 / 256) (by rw [show (2 : Int) ^ 24 = 16777216 from rfl]; omega) (by omega) (by omega) (.inr (by omega))
      rw [if_pos c2, if_pos (by omega), if_pos (by omega), h3, w t (by omega) (by omega), w (n + 16) (by omega) (by omega), w (n + 16 + 8) (by omega) (by omega), w _ (by omega) (by omega)]
      exact ⟨24 + t, by omega, congrArg some (by omega), h4⟩
    · obtain ⟨t, h2, h3, h4⟩ := len_br 16 (x := x) (y := x / 65536) rfl (by omega) (by omega) (.inr (by omega))
      rw [if_neg c2, if_pos (by omega), if_pos (by omega), h3, w t (by omega) (by omega), w (n + 16) (by omega) (by omega), w _ (by omega) (by omega)]
      exact ⟨16 + t, by omega, congrArg some (by omega), h4⟩
  · rw [if_neg c1]
    by_cases c2 : x ≥ 256
    · obtain ⟨t, h2, h3, h4⟩ := len_br 8 (x := x) (y := x / 256) rfl (by omega) (by omega) (.inr (by omega))
      rw [if_pos c2, if_pos (by omega), if_pos (by omega), h3, w t (by omega) (by omega), w (n + 8) (by omega) (by omega), w _ (by omega) (by omega)]
      exact ⟨8 + t, by omega, congrArg some (by omega), h4⟩
    · obtain ⟨t, h2, h3, h4⟩ := len_br 0 (x := x) (y := x) (by simp) (by omega) (by omega) (.inl rfl)
      rw [Nat.zero_add] at h4
      rw [if_neg c2, if_pos (by omega), if_pos (by omega), h3, w t (by omega) (by omega), w _ (by omega) (by omega)]
      exact ⟨t, by omega, rfl, h4⟩
theorem len_eq {x : Int} (h0 : 0 ≤ x) (h1 : x < 18446744073709551616) : ∃ t : Nat, t ≤ 64 ∧ bits_Len64.f x = some (t : Int) ∧ x < 2 ^ t ∧ (t = 0 ∧ x = 0 ∨ 1 ≤ t ∧ 2 ^ (t - 1) ≤ x) := by
  unfold bits_Len64.f
  by_cases c : x ≥ 4294967296
  · obtain ⟨t, h2, h3, h4, h5⟩ := len_j0 (x := x / 4294967296) (n := 32) (by omega) (by omega) (.inr rfl)
    rw [if_pos c, h3]
    have e : x / 4294967296 = x / 2 ^ 32 := rfl
    rw [e] at h4 h5
    refine ⟨32 + t, by omega, by congr 1, scale 32 t h4, .inr ⟨by omega, ?_⟩⟩
    rcases h5 with ⟨h5, h6⟩ | ⟨h5, h6⟩
    · rw [show (2 : Int) ^ 32 = 4294967296 from rfl] at h6; omega
    · exact scale2 32 t h5 h6
  · obtain ⟨t, h2, h3, h4, h5⟩ := len_j0 (x := x) (n := 0) (by omega) (by omega) (.inl rfl)
    rw [if_neg c, h3]
    exact ⟨t, by omega, by rw [Int.zero_add], h4, h5⟩

/-! ### The limits that the bits set -/
theorem tb_top {n y : Nat} (hn : 1 ≤ n) (h : y < 2 ^ n) : y.testBit (n - 1) = true ↔ 2 ^ (n - 1) ≤ y := by
  constructor
  · exact Nat.ge_two_pow_of_testBit
  · intro h2
    cases e : y.testBit (n - 1) with
    | true => rfl
    | false =>
      have : y < 2 ^ (n - 1) := Nat.lt_pow_two_of_testBit _ fun i hi => by
        rcases Nat.eq_or_lt_of_le hi with h3 | h3
        · rw [← h3]; exact e
        · exact tb_big h (by omega)
      omega
def lowS (n z o : Nat) : Nat := if z &&& 2 ^ (n - 1) = 0 then o ||| 2 ^ (n - 1) else o
def top (n z : Nat) : Nat := ndiff (2 ^ n - 1) z
def highS (n z o : Nat) : Nat := if o &&& 2 ^ (n - 1) = 0 then ndiff (top n z) (2 ^ (n - 1)) else top n z
theorem pow_lt {n : Nat} (hn : 1 ≤ n) : 2 ^ (n - 1) < 2 ^ n := Nat.pow_lt_pow_right (by decide) (by omega)
theorem top_lt (n z : Nat) : top n z < 2 ^ n := ndiff_lt (by have := Nat.two_pow_pos n; omega)
theorem lowS_lt {n z o : Nat} (hn : 1 ≤ n) (ho : o < 2 ^ n) : lowS n z o < 2 ^ n := by
  unfold lowS; split
  · exact or_lt ho (pow_lt hn)
  · exact ho
theorem highS_lt {n z o : Nat} : highS n z o < 2 ^ n := by
  unfold highS; split
  · exact ndiff_lt (top_lt n z)
  · exact top_lt n z
theorem tb_F {n j : Nat} : (2 ^ n - 1).testBit j = decide (j < n) := Nat.testBit_two_pow_sub_one n j
theorem tb_lt {n x j : Nat} (h : x < 2 ^ n) (hj : x.testBit j = true) : j < n := by
  rcases Nat.lt_or_ge j n with c | c
  · exact c
  · rw [tb_big h c] at hj; exact absurd hj (by decide)
theorem sgl {n y : Nat} (hn : 1 ≤ n) (h : y < 2 ^ (n - 1)) : sg n (y : Int) = y := sg_lo (by omega) (by rw [pnat]; omega) hn
theorem sgh {n y : Nat} (hn : 1 ≤ n) (h0 : 2 ^ (n - 1) ≤ y) (h : y < 2 ^ n) : sg n (y : Int) = y - ((2 ^ n : Nat) : Int) := by
  rw [sg_hi (by rw [pnat]; omega) (by rw [pnat]; omega) hn, pnat]
theorem lims {n z o x : Nat} (hn : 1 ≤ n) (hz : z < 2 ^ n) (ho : o < 2 ^ n) (hx : x < 2 ^ n) (h1 : x &&& z = 0) (h2 : x &&& o = o) :
    o ≤ x ∧ x ≤ top n z ∧ sg n (lowS n z o : Int) ≤ sg n (x : Int) ∧ sg n (x : Int) ≤ sg n (highS n z o : Int) := by
  rw [disj] at h1
  rw [subs] at h2
  have hp := pow_lt hn
  have t1 := lowS_lt (z := z) hn ho
  have t2 : highS n z o < 2 ^ n := highS_lt
  have hxt : ∀ i, x.testBit i = true → (top n z).testBit i = true := fun i hi => by
    have := h1 i
    unfold top; rw [tb_ndiff, tb_F, decide_eq_true (tb_lt hx hi)]
    cases e : z.testBit i
    · rfl
    · exact absurd ⟨hi, e⟩ this
  have hT := sub_le hxt
  have hO := sub_le h2
  have tx := tb_top hn hx
  have tt := top_lt n z
  refine ⟨hO, hT, ?_, ?_⟩
  · unfold lowS
    by_cases c : z &&& 2 ^ (n - 1) = 0
    · rw [if_pos c]
      have hA : 2 ^ (n - 1) ≤ o ||| 2 ^ (n - 1) := Nat.right_le_or
      have hA2 := or_lt ho hp
      rw [sgh hn hA hA2]
      by_cases cx : 2 ^ (n - 1) ≤ x
      · have : o ||| 2 ^ (n - 1) ≤ x := sub_le fun i hi => by
          rw [Nat.testBit_or, Nat.testBit_two_pow] at hi
          by_cases e : n - 1 = i
          · subst e; exact tx.2 cx
          · simp [e] at hi; exact h2 i hi
        rw [sgh hn cx hx]; omega
      · rw [sgl hn (by omega)]; omega
    · rw [if_neg c]
      rw [sbit] at c
      have cx : x < 2 ^ (n - 1) := by
        rcases Nat.lt_or_ge x (2 ^ (n - 1)) with d | d
        · exact d
        · exact absurd ⟨tx.2 d, by simpa using c⟩ (h1 (n - 1))
      rw [sgl hn cx, sgl hn (by omega)]; omega
  · unfold highS
    by_cases c : o &&& 2 ^ (n - 1) = 0
    · rw [if_pos c]
      have hB : ndiff (top n z) (2 ^ (n - 1)) < 2 ^ (n - 1) := by
        apply Nat.lt_pow_two_of_testBit
        intro i hi
        rw [tb_ndiff, Nat.testBit_two_pow]
        by_cases e : n - 1 = i
        · simp [e]
        · rw [tb_big tt (by omega)]; rfl
      rw [sgl (y := ndiff (top n z) (2 ^ (n - 1))) hn hB]
      by_cases cx : 2 ^ (n - 1) ≤ x
      · rw [sgh hn cx hx]; omega
      · have : x ≤ ndiff (top n z) (2 ^ (n - 1)) := sub_le fun i hi => by
          rw [tb_ndiff, Nat.testBit_two_pow, hxt i hi]
          by_cases e : n - 1 = i
          · subst e; exact absurd (tx.1 hi) cx
          · simp [e]
        rw [sgl hn (by omega)]; omega
    · rw [if_neg c]
      rw [sbit] at c
      have cx : 2 ^ (n - 1) ≤ x := tx.1 (h2 _ (by simpa using c))
      rw [sgh hn cx hx, sgh hn (by omega) tt]; omega

/-! ### The bits that a range sets -/
def free (n L : Nat) : Nat := ndiff (2 ^ n - 1) (2 ^ L - 1)
def zf (n L z lo : Nat) : Nat := z ||| ndiff (free n L) lo
def of (n L o lo : Nat) : Nat := o ||| (lo &&& free n L)
theorem tb_free (n L j : Nat) : (free n L).testBit j = (decide (L ≤ j) && decide (j < n)) := by
  unfold free; rw [tb_ndiff, tb_F, tb_F]
  by_cases h1 : j < n <;> by_cases h2 : j < L <;> simp [h1, h2] <;> omega
theorem tb_zf (n L z lo j : Nat) : (zf n L z lo).testBit j = (z.testBit j || (decide (L ≤ j) && decide (j < n) && !lo.testBit j)) := by unfold zf; rw [Nat.testBit_or, tb_ndiff, tb_free]
theorem tb_of (n L o lo j : Nat) : (of n L o lo).testBit j = (o.testBit j || (decide (L ≤ j) && decide (j < n) && lo.testBit j)) := by
  unfold of; rw [Nat.testBit_or, Nat.testBit_and, tb_free, Bool.and_comm (lo.testBit j)]
theorem free_lt (n L : Nat) : free n L < 2 ^ n := ndiff_lt (by have := Nat.two_pow_pos n; omega)
theorem zf_lt {n L z lo : Nat} (hz : z < 2 ^ n) : zf n L z lo < 2 ^ n := or_lt hz (ndiff_lt (free_lt n L))
theorem of_lt {n L o lo : Nat} (ho : o < 2 ^ n) : of n L o lo < 2 ^ n := or_lt ho (Nat.lt_of_le_of_lt Nat.and_le_right (free_lt n L))
theorem pre {lo hi x L : Nat} (h : lo ^^^ hi < 2 ^ L) (h1 : lo ≤ x) (h2 : x ≤ hi) {j : Nat} (hj : L ≤ j) : x.testBit j = lo.testBit j := by
  have e : lo / 2 ^ L = hi / 2 ^ L := by
    apply Nat.eq_of_testBit_eq
    intro i
    rw [Nat.testBit_div_two_pow, Nat.testBit_div_two_pow]
    have := tb_big (i := i + L) h (by omega)
    rw [Nat.testBit_xor] at this
    cases a : lo.testBit (i + L) <;> cases b : hi.testBit (i + L) <;> simp_all
  have a1 : lo / 2 ^ L ≤ x / 2 ^ L := Nat.div_le_div_right h1
  have a2 : x / 2 ^ L ≤ hi / 2 ^ L := Nat.div_le_div_right h2
  have e2 : x / 2 ^ L = lo / 2 ^ L := by omega
  have := congrArg (Nat.testBit · (j - L)) e2
  simp only [Nat.testBit_div_two_pow] at this
  rwa [show j - L + L = j by omega] at this
theorem keep {n L z o lo hi x : Nat} (h : lo ^^^ hi < 2 ^ L) (h1 : lo ≤ x) (h2 : x ≤ hi) : (x &&& zf n L z lo = 0 ↔ x &&& z = 0) ∧ (x &&& of n L o lo = of n L o lo ↔ x &&& o = o) := by
  have p := fun j (hj : L ≤ j) => pre h h1 h2 hj
  constructor
  · rw [disj, disj]
    constructor
    · intro a i hi; exact a i ⟨hi.1, by rw [tb_zf, hi.2]; rfl⟩
    · intro a i hi
      rw [tb_zf] at hi
      by_cases c : L ≤ i
      · have := p i c
        have := a i
        cases e : lo.testBit i <;> simp_all
      · simp [c] at hi; exact a i hi
  · rw [subs, subs]
    constructor
    · intro a i hi; exact a i (by rw [tb_of, hi]; rfl)
    · intro a i hi
      rw [tb_of] at hi
      by_cases c : L ≤ i
      · have := p i c
        have := a i
        cases e : lo.testBit i <;> simp_all
      · simp [c] at hi; exact a i hi
end Go.Proofs.YthhhegblccoonaaGreatDoor.Ft
/- facts.Tighten, joined with the program's functions. -/
namespace Go.Proofs.YthhhegblccoonaaGreatDoor.Ft
set_option linter.unusedVariables false
set_option linter.unusedSimpArgs false
set_option linter.unusedSectionVars false
open Go.RowKit Go.Proofs.YthhhegblccoonaaGreatDoor.P Go.Proofs.YthhhegblccoonaaGreatDoorW.PrintWords Wd Im Iv Tg

theorem kgood_eq (w : Int) : knownbits_good.f w = some (decide (1 ≤ w ∧ w ≤ 64)) := by
  unfold knownbits_good.f
  by_cases h : w ≥ 1
  · rw [if_pos h]; congr 1; simp; omega
  · rw [if_neg h]; congr 1; simp; omega
theorem kmask_eq {w : Int} (h : 1 ≤ w ∧ w ≤ 64) : knownbits_mask.f w = some ((2 ^ nn w - 1 : Nat) : Int) := by
  have hn := nn_of (w := w) (by omega) h.2
  unfold knownbits_mask.f
  by_cases c : w ≥ 64
  · rw [if_pos c, show nn w = 64 by omega]; rfl
  · have e : mx w 0 = (nn w : Int) := by unfold mx; rw [if_neg (by omega)]; omega
    have := pow_le63 (n := nn w) (by omega)
    have := Nat.two_pow_pos (nn w)
    have := pnat (nn w)
    rw [if_neg c, e, shl_one (by omega), wrap_u64]
    exact congrArg some (by omega)
theorem or_lt_iff {a b n : Nat} : a ||| b < 2 ^ n ↔ a < 2 ^ n ∧ b < 2 ^ n :=
  ⟨fun h => ⟨Nat.lt_of_le_of_lt Nat.left_le_or h, Nat.lt_of_le_of_lt Nat.right_le_or h⟩, fun h => or_lt h.1 h.2⟩
def KV (w : Int) (z o : Nat) : Prop := (1 ≤ w ∧ w ≤ 64) ∧ z < 2 ^ nn w ∧ o < 2 ^ nn w ∧ z &&& o = 0
instance (w : Int) (z o : Nat) : Decidable (KV w z o) := by unfold KV; infer_instance
def FV (w : Int) (z o : Nat) (lo hi l m : Int) : Prop := KV w z o ∧ Valid w lo hi l m
instance (w : Int) (z o : Nat) (lo hi l m : Int) : Decidable (FV w z o lo hi l m) := by unfold FV; infer_instance
def FC (w : Int) (z o : Nat) (lo hi l m : Int) (x : Nat) : Prop := x &&& z = 0 ∧ x &&& o = o ∧ Contains w lo hi l m x
instance (w : Int) (z o : Nat) (lo hi l m : Int) (x : Nat) : Decidable (FC w z o lo hi l m x) := by unfold FC; infer_instance
theorem fmask_lt (w : Int) : 2 ^ nn w - 1 < 18446744073709551616 := up (nn_le w) (by have := Nat.two_pow_pos (nn w); omega)
theorem izero {n : Nat} : ((n : Int) = 0) ↔ n = 0 := by omega
theorem topI {z : Nat} (hz : z < 18446744073709551616) (w : Int) : Go.bits .andNot .u64 ((2 ^ nn w - 1 : Nat) : Int) (z : Int) = ((top (nn w) z : Nat) : Int) := nandn (fmask_lt w) hz
section
variable {z o : Nat} (hz : z < 18446744073709551616) (ho : o < 18446744073709551616)
include hz ho
theorem kv_core {w : Int} (h : 1 ≤ w ∧ w ≤ 64) : (if Go.bits .andNot .u64 (Go.bits .or .u64 (z : Int) o) ((2 ^ nn w - 1 : Nat) : Int) = 0 then some (Go.bits .and .u64 (z : Int) o == 0) else some false) = some (decide (KV w z o)) := by
  have hzo : z ||| o < 18446744073709551616 := or_lt (n := 64) hz ho
  rw [nor hz ho, nandn hzo (fmask_lt w), nand hz ho]
  by_cases c : z < 2 ^ nn w ∧ o < 2 ^ nn w
  · rw [if_pos (izero.2 (within.2 (or_lt_iff.2 c)))]
    congr 1
    by_cases d : z &&& o = 0
    · rw [decide_eq_true (show KV w z o from ⟨h, c.1, c.2, d⟩), d]; rfl
    · rw [decide_eq_false (fun h' : KV w z o => d h'.2.2.2)]
      simpa using d
  · rw [if_neg (fun h' => c (or_lt_iff.1 (within.1 (izero.1 h')))), decide_eq_false (fun h' : KV w z o => c ⟨h'.2.1, h'.2.2.1⟩)]
theorem kvalid_eq (w : Int) : knownbits_Valid.f w z o = some (decide (KV w z o)) := by
  unfold knownbits_Valid.f
  rw [kgood_eq, Option.bind_some]
  by_cases h : 1 ≤ w ∧ w ≤ 64
  · rw [if_pos (decide_eq_true h), kmask_eq h, Option.bind_some]
    exact kv_core hz ho h
  · rw [if_neg (by simpa using h), decide_eq_false (fun h' : KV w z o => h h'.1)]
theorem rkvalid_eq (w : Int) (hk : 64 < Q) : jacquardref12_Valid.f w z o = some (decide (KV w z o)) := by
  unfold jacquardref12_Valid.f
  by_cases h1 : w ≥ 1
  · rw [if_pos h1]
    by_cases h2 : w ≤ 64
    · rw [if_pos h2, rmask_eq (by omega) hk, Option.bind_some, mnat]
      exact kv_core hz ho ⟨h1, h2⟩
    · rw [if_neg h2, decide_eq_false (fun h' : KV w z o => h2 h'.1.2)]
  · rw [if_neg h1, decide_eq_false (fun h' : KV w z o => h1 h'.1.1)]
theorem fvalid_eq (w lo hi l m : Int) : facts_Valid.f w z o lo hi l m = some (decide (FV w z o lo hi l m)) := by
  unfold facts_Valid.f
  simp only [facts_known.f, facts_span.f, Option.bind_some, kvalid_eq hz ho, valid_eq]
  by_cases h : KV w z o
  · rw [if_pos (decide_eq_true h)]
    by_cases h2 : Valid w lo hi l m <;> simp [FV, h, h2]
  · rw [if_neg (by simpa using h), decide_eq_false (fun h' : FV w z o lo hi l m => h h'.1)]
theorem rfvalid_eq (w lo hi l m : Int) (hk : 64 < Q) : jacquardref14_Valid.f w z o lo hi l m = some (decide (FV w z o lo hi l m)) := by
  unfold jacquardref14_Valid.f
  simp only [jacquardref14_bits.f, jacquardref14_span.f, Option.bind_some, rkvalid_eq hz ho w hk, rvalid_eq w lo hi l m hk]
  by_cases h : KV w z o
  · rw [if_pos (decide_eq_true h)]
    by_cases h2 : Valid w lo hi l m <;> simp [FV, h, h2]
  · rw [if_neg (by simpa using h), decide_eq_false (fun h' : FV w z o lo hi l m => h h'.1)]
theorem fcontains_eq (w lo hi l m : Int) {x : Nat} (hx : x < 18446744073709551616) : facts_Contains.f w z o lo hi l m x = some (decide (FC w z o lo hi l m x)) := by
  unfold facts_Contains.f
  simp only [facts_known.f, facts_span.f, Option.bind_some, contains_eq w lo hi l m (show 0 ≤ (x : Int) ∧ (x : Int) < 18446744073709551616 by omega), knownbits_Contains.f, nand hx hz, nand hx ho]
  by_cases h1 : x &&& z = 0
  · rw [if_pos (izero.2 h1)]
    by_cases h2 : x &&& o = o
    · rw [Option.bind_some, if_pos (by rw [h2]; simp)]
      by_cases h3 : Contains w lo hi l m x <;> simp [FC, h1, h2, h3]
    · rw [Option.bind_some, if_neg (by simp; omega), decide_eq_false (fun h' : FC w z o lo hi l m x => h2 h'.2.1)]
  · rw [if_neg (fun h => h1 (izero.1 h)), Option.bind_some, if_neg (by decide), decide_eq_false (fun h' : FC w z o lo hi l m x => h1 h'.1)]
/-! ### Tighten -/
theorem impl_pre {w lo hi l m : Int} (hv : FV w z o lo hi l m) :
    facts_Tighten.f w z o lo hi l m = facts_Tighten.j2 w ((2 ^ nn w - 1 : Nat) : Int) (decide (mx lo o > mn hi (top (nn w) z) ∨ mx l (sg (nn w) (lowS (nn w) z o)) > mn m (sg (nn w) (highS (nn w) z o)))) z o (mx lo o) (mn hi (top (nn w) z)) (mx l (sg (nn w) (lowS (nn w) z o))) (mn m (sg (nn w) (highS (nn w) z o))) := by
  have hk := hv.1
  have hn := nn_of (w := w) (by have := hk.1; omega) hk.1.2
  have hn1 : 1 ≤ nn w := by have := hk.1; omega
  have hn64 := nn_le w
  have hS := up hn64 (pow_lt hn1)
  have hT := up hn64 (top_lt (nn w) z)
  have e : wrap64 (w - 1) = ((nn w - 1 : Nat) : Int) := by rw [wrap64_id (by have := hk.1; omega) (by have := hk.1; omega)]; omega
  have J1 : ∀ (lw hg : Nat), lw < 2 ^ nn w → hg < 2 ^ nn w → facts_Tighten.j1 w ((2 ^ nn w - 1 : Nat) : Int) lw hg z o (mx lo o) (mn hi (top (nn w) z)) l m = facts_Tighten.j2 w ((2 ^ nn w - 1 : Nat) : Int) (decide (mx lo o > mn hi (top (nn w) z) ∨ mx l (sg (nn w) lw) > mn m (sg (nn w) hg))) z o (mx lo o) (mn hi (top (nn w) z)) (mx l (sg (nn w) lw)) (mn m (sg (nn w) hg)) := by
    intro lw hg h1 h2
    have := up hn64 h1
    have := up hn64 h2
    rw [facts_Tighten.j1, signed_eq w (by omega), Option.bind_some, signed_eq w (by omega), Option.bind_some]
    by_cases c : mx lo o > mn hi (top (nn w) z)
    · rw [if_pos c, decide_eq_true (Or.inl c)]
    · rw [if_neg c]
      congr 1
      rw [Bool.eq_iff_iff]; simp [c]
  unfold facts_Tighten.f
  rw [fvalid_eq hz ho, Option.bind_some, if_pos (decide_eq_true hv), mask_eq, Option.bind_some, mnat, e, if_pos (by omega), shl_one (by omega), nand hz hS, nor ho hS, topI hz w]
  have J0 : ∀ lw : Nat, lw < 2 ^ nn w → facts_Tighten.j0 w ((2 ^ nn w - 1 : Nat) : Int) ((2 ^ (nn w - 1) : Nat) : Int) lw (top (nn w) z : Nat) z o (mx lo o) (mn hi (top (nn w) z : Nat)) l m = facts_Tighten.j1 w ((2 ^ nn w - 1 : Nat) : Int) lw (highS (nn w) z o : Nat) z o (mx lo o) (mn hi (top (nn w) z : Nat)) l m := by
    intro lw h1
    rw [facts_Tighten.j0, nand ho hS, nandn hT hS]
    unfold highS
    by_cases c : o &&& 2 ^ (nn w - 1) = 0
    · rw [if_pos (izero.2 c), if_pos c]
    · rw [if_neg (fun h => c (izero.1 h)), if_neg c]
  by_cases c : z &&& 2 ^ (nn w - 1) = 0
  · have e2 : lowS (nn w) z o = o ||| 2 ^ (nn w - 1) := by unfold lowS; rw [if_pos c]
    have := or_lt hk.2.2.1 (pow_lt hn1)
    rw [if_pos (izero.2 c), J0 _ this, J1 _ _ this highS_lt, e2]
  · have e2 : lowS (nn w) z o = o := by unfold lowS; rw [if_neg c]
    rw [if_neg (fun h => c (izero.1 h)), J0 _ hk.2.2.1, J1 _ _ hk.2.2.1 highS_lt, e2]
end
theorem bitI (a i : Nat) : (a : Int) / 2 ^ i % 2 = if a.testBit i = true then 1 else 0 := by
  rw [pnat]
  have e : ((a : Int) / ((2 ^ i : Nat) : Int)) % 2 = ((a / 2 ^ i % 2 : Nat) : Int) := by norm_cast
  rw [e, Nat.testBit_eq_decide_div_mod_eq]
  by_cases c : a / 2 ^ i % 2 = 1
  · rw [c]; simp
  · rw [show a / 2 ^ i % 2 = 0 by omega]; simp
theorem nbit {a i : Nat} (ha : a < 18446744073709551616) (hi : i ≤ 64) : jacquardref12_Bit.f (a : Int) (i : Int) = some (if a.testBit i = true then 1 else 0) := by
  rw [bit_eq (by omega) (by omega), Int.toNat_natCast, bitI]
section
variable {z o : Nat} (hz : z < 18446744073709551616) (ho : o < 18446744073709551616)
include hz ho
theorem rsl_eq {w : Int} (hv : KV w z o) (hk : 64 < Q) : jacquardref12_SignedLimits.f w z o = some (sg (nn w) (lowS (nn w) z o), sg (nn w) (highS (nn w) z o)) := by
  have hw := hv.1
  have hn := nn_of (w := w) (by omega) hw.2
  have hn1 : 1 ≤ nn w := by omega
  have hn64 := nn_le w
  have hS := up hn64 (pow_lt hn1)
  have hT := up hn64 (top_lt (nn w) z)
  have e : wrap64 (w - 1) = ((nn w - 1 : Nat) : Int) := by rw [wrap64_id (by omega) (by omega)]; omega
  have R : ∀ y : Nat, y < 2 ^ nn w → jacquardref12_Signed.f w (y : Int) = some (sg (nn w) y) := fun y hy => rsg_eq hw (by omega) (by rw [pnat]; omega) hk
  unfold jacquardref12_SignedLimits.f jacquardref12_Known.f
  rw [rmask_eq (by omega) hk, Option.bind_some, mnat, e, nbit ho (by omega), Option.bind_some, nbit hz (by omega)]
  have dz := (disj.1 hv.2.2.2) (nn w - 1)
  by_cases c1 : o.testBit (nn w - 1) = true
  · have cz : z.testBit (nn w - 1) = false := by simpa [c1] using dz
    have eA : lowS (nn w) z o = o := by
      unfold lowS; rw [if_pos ((sbit _ _).2 cz)]
      apply Nat.eq_of_testBit_eq; intro i
      rw [Nat.testBit_or, Nat.testBit_two_pow]
      by_cases ei : nn w - 1 = i
      · subst ei; simp [c1]
      · simp [ei]
    have eB : highS (nn w) z o = top (nn w) z := by unfold highS; rw [if_neg (by rw [sbit, c1]; decide)]
    rw [if_pos c1, if_pos rfl, Option.bind_some, if_neg (by decide), R o hv.2.2.1, Option.bind_some, topI hz w, R _ (top_lt (nn w) z), Option.bind_some, eA, eB]
  · have c1' : o.testBit (nn w - 1) = false := by simpa using c1
    rw [if_neg c1, if_neg (by decide)]
    by_cases c2 : z.testBit (nn w - 1) = true
    · have eA : lowS (nn w) z o = o := by unfold lowS; rw [if_neg (by rw [sbit, c2]; decide)]
      have eB : highS (nn w) z o = top (nn w) z := by
        unfold highS; rw [if_pos ((sbit _ _).2 c1')]
        apply Nat.eq_of_testBit_eq; intro i
        rw [tb_ndiff, Nat.testBit_two_pow]
        by_cases ei : nn w - 1 = i
        · subst ei; unfold top; rw [tb_ndiff, c2]; simp
        · simp [ei]
      rw [if_pos c2]
      simp only [Option.bind_some, if_true]
      rw [if_neg (by decide), R o hv.2.2.1, Option.bind_some, topI hz w, R _ (top_lt (nn w) z), Option.bind_some, eA, eB]
    · have c2' : z.testBit (nn w - 1) = false := by simpa using c2
      have eA : lowS (nn w) z o = o ||| 2 ^ (nn w - 1) := by unfold lowS; rw [if_pos ((sbit _ _).2 c2')]
      have eB : highS (nn w) z o = ndiff (top (nn w) z) (2 ^ (nn w - 1)) := by unfold highS; rw [if_pos ((sbit _ _).2 c1')]
      rw [if_neg c2, Option.bind_some, if_neg (by decide), Option.bind_some, if_pos (by decide), if_pos (by omega), shl_one (by omega), nor ho hS, topI hz w, R _ (or_lt hv.2.2.1 (pow_lt hn1)), Option.bind_some]
      rw [nandn hT hS, R _ (ndiff_lt (top_lt (nn w) z)), Option.bind_some, eA, eB]
theorem ref_pre {w lo hi l m : Int} (hv : FV w z o lo hi l m) (hk : 64 < Q) :
    jacquardref14_Tighten.f w z o lo hi l m = (jacquardref13_Tighten.f w (mx o lo) (mn (top (nn w) z) hi) (mx (sg (nn w) (lowS (nn w) z o)) l) (mn (sg (nn w) (highS (nn w) z o)) m)).bind fun t => (if t.2.2.2.2 = true then (jacquardref14_Tighten.l0 Q ((nn w - 1 : Nat) : Int) 0 0 0 0 0 0 t.1 t.2.1 t.2.2.1 t.2.2.2.1 z o) else (some (0, 0, 0, 0, 0, 0, false))) := by
  have hQb := Q_big
  have hw := hv.1.1
  have hn := nn_of (w := w) (by omega) hw.2
  have e : wrap64 (w - 1) = ((nn w - 1 : Nat) : Int) := by rw [wrap64_id (by omega) (by omega)]; omega
  unfold jacquardref14_Tighten.f
  rw [rfvalid_eq hz ho w lo hi l m hk, Option.bind_some, if_pos (decide_eq_true hv), jacquardref14_bits.f, Option.bind_some, rsl_eq hz ho hv.1 hk, jacquardref12_Limits.f, rmask_eq (by omega) hk, Option.bind_some, Option.bind_some, Option.bind_some, mnat, topI hz w, e]
end
def fin (z o : Nat) (a b c d : Int) : Int × Int × Int × Int × Int × Int × Bool := if z &&& o = 0 then ((z : Int), (o : Int), a, b, c, d, true) else (0, 0, 0, 0, 0, 0, false)
theorem impl_post {w : Int} {z o a b : Nat} {l1 m1 : Int} (hz : z < 2 ^ nn w) (ho : o < 2 ^ nn w) (L1 H1 : Int) {c d : Int} {k : Nat} (ha : a < 18446744073709551616) (hb : b < 18446744073709551616)
    (ht : interval_Tighten.f w L1 H1 l1 m1 = some ((a : Int), (b : Int), c, d, true)) {L : Nat} (hL : bits_Len64.f ((a ^^^ b : Nat) : Int) = some (L : Int)) (hL64 : L ≤ 64) :
    facts_Tighten.j2 w ((2 ^ nn w - 1 : Nat) : Int) false z o L1 H1 l1 m1 = some (fin (zf (nn w) L z a) (of (nn w) L o a) a b c d) := by
  have hQb := Q_big
  have hn64 := nn_le w
  have hz' := up hn64 hz
  have ho' := up hn64 ho
  have hnL : nn (L : Int) = L := by have := nn_of (w := (L : Int)) (by omega) (by omega); omega
  have eZ : Go.bits .or .u64 (z : Int) (Go.bits .and .u64 (Go.bits .xor .u64 18446744073709551615 (a : Int)) (Go.bits .andNot .u64 ((2 ^ nn w - 1 : Nat) : Int) ((2 ^ L - 1 : Nat) : Int))) = ((zf (nn w) L z a : Nat) : Int) := by
    have h1 : 18446744073709551615 ^^^ a < 18446744073709551616 := Nat.xor_lt_two_pow (n := 64) (by omega) ha
    have h2 := up hn64 (free_lt (nn w) L)
    have h3 : (2 ^ L - 1) < 18446744073709551616 := up hL64 (by have := Nat.two_pow_pos L; omega)
    have e1 := nxor (a := 18446744073709551615) (b := a) (by omega) ha
    have e2 : Go.bits .andNot .u64 ((2 ^ nn w - 1 : Nat) : Int) ((2 ^ L - 1 : Nat) : Int) = ((free (nn w) L : Nat) : Int) := nandn (fmask_lt w) h3
    rw [show (18446744073709551615 : Int) = ((18446744073709551615 : Nat) : Int) from rfl, e1, e2, nand h1 h2, nor hz' (Nat.lt_of_le_of_lt Nat.and_le_right h2)]
    congr 1
    apply Nat.eq_of_testBit_eq
    intro j
    rw [tb_zf, Nat.testBit_or, Nat.testBit_and, Nat.testBit_xor, tb_free, show (18446744073709551615 : Nat) = 2 ^ 64 - 1 from rfl, tb_F]
    by_cases h4 : j < nn w
    · rw [decide_eq_true (show j < 64 by omega)]
      cases z.testBit j <;> cases a.testBit j <;> simp [h4]
    · simp [h4]
  have eO : Go.bits .or .u64 (o : Int) (Go.bits .and .u64 (a : Int) (Go.bits .andNot .u64 ((2 ^ nn w - 1 : Nat) : Int) ((2 ^ L - 1 : Nat) : Int))) = ((of (nn w) L o a : Nat) : Int) := by
    have h2 := up hn64 (free_lt (nn w) L)
    have h3 : (2 ^ L - 1) < 18446744073709551616 := up hL64 (by have := Nat.two_pow_pos L; omega)
    have e2 : Go.bits .andNot .u64 ((2 ^ nn w - 1 : Nat) : Int) ((2 ^ L - 1 : Nat) : Int) = ((free (nn w) L : Nat) : Int) := nandn (fmask_lt w) h3
    rw [e2, nand ha h2, nor ho' (Nat.lt_of_le_of_lt Nat.and_le_right h2)]; rfl
  have hZ := up hn64 (zf_lt (L := L) (lo := a) hz)
  have hO := up hn64 (of_lt (L := L) (lo := a) ho)
  rw [facts_Tighten.j2, if_neg (by decide), facts_span.f, Option.bind_some, ht, Option.bind_some]
  dsimp only
  rw [if_pos rfl, nxor ha hb, hL, Option.bind_some, mask_eq, hnL, mnat, Option.bind_some, eZ, eO, nand hZ hO]
  unfold fin
  by_cases c : zf (nn w) L z a &&& of (nn w) L o a = 0
  · rw [if_pos (izero.2 c), if_pos c]; rfl
  · rw [if_neg (fun h => c (izero.1 h)), if_neg c]
theorem ref_loop {n : Nat} (hn : n ≤ 64) {a b L : Nat} (ha : a < 2 ^ n) (hb : b < 2 ^ n) (hx : a ^^^ b < 2 ^ L) (hx2 : L = 0 ∨ 1 ≤ L ∧ 2 ^ (L - 1) ≤ a ^^^ b) (Z O : Nat) (c d : Int) :
    ∀ (e i z o : Nat), i = L + e → i ≤ n → z < 2 ^ n → o < 2 ^ n → (∀ j, z.testBit j = (Z.testBit j || (decide (i ≤ j) && decide (j < n) && !a.testBit j))) → (∀ j, o.testBit j = (O.testBit j || (decide (i ≤ j) && decide (j < n) && a.testBit j))) →
    ∀ (k : Nat), jacquardref14_Tighten.l0 (k + 2 * e + 2) ((i : Int) - 1) 0 0 0 0 0 0 a b c d z o = some (fin (zf n L Z a) (of n L O a) a b c d) := by
  have hQb := Q_big
  have ha64 := up hn ha
  have hb64 := up hn hb
  have xb : ∀ j, (a ^^^ b).testBit j = (a.testBit j ^^ b.testBit j) := fun j => Nat.testBit_xor ..
  intro e
  induction e with
  | zero =>
    intro i z o hi hin hz ho hzj hoj k
    have hiL : i = L := by omega
    subst hiL
    have ez : z = zf n i Z a := Nat.eq_of_testBit_eq fun j => by rw [hzj, tb_zf]
    have eo : o = of n i O a := Nat.eq_of_testBit_eq fun j => by rw [hoj, tb_of]
    have fj : jacquardref14_Tighten.j1 (k + 1) ((i : Int) - 1) false 0 0 0 0 0 0 a b c d z o = some (fin z o a b c d) := by
      rw [jacquardref14_Tighten.j1, if_neg (by decide), nand (up hn hz) (up hn ho)]
      unfold fin
      by_cases h : z &&& o = 0
      · rw [if_pos (izero.2 h), if_pos h]; rfl
      · rw [if_neg (fun h' => h (izero.1 h')), if_neg h]
    rw [← ez, ← eo, ← fj, show k + 2 * 0 + 2 = (k + 1) + 1 by omega, jacquardref14_Tighten.l0]
    rcases hx2 with h0 | ⟨h0, h1⟩
    · rw [if_neg (by omega)]
    · rw [if_pos (by omega), show (i : Int) - 1 = ((i - 1 : Nat) : Int) by omega, nbit ha64 (by omega), Option.bind_some, nbit hb64 (by omega), Option.bind_some]
      have ht := (tb_top h0 hx).2 h1
      rw [xb] at ht
      have hne : ((if a.testBit (i - 1) = true then (1 : Int) else 0) == (if b.testBit (i - 1) = true then (1 : Int) else 0)) = false := by
        revert ht
        cases a.testBit (i - 1) <;> cases b.testBit (i - 1) <;> simp
      rw [hne]
  | succ e ih =>
    intro i z o hi hin hz ho hzj hoj k
    have hs : shl .u64 1 ((i - 1 : Nat) : Int) = ((2 ^ (i - 1) : Nat) : Int) := shl_one (by omega)
    have hp : 2 ^ (i - 1) < 2 ^ n := Nat.pow_lt_pow_right (by decide) (by omega)
    have same : a.testBit (i - 1) = b.testBit (i - 1) := by
      have := tb_big (i := i - 1) hx (by omega)
      rw [xb] at this
      cases p : a.testBit (i - 1) <;> cases q : b.testBit (i - 1) <;> simp_all
    have ih' := fun z o h1 h2 h3 h4 => ih (i - 1) z o (by omega) (by omega) h1 h2 h3 h4 k
    rw [show k + 2 * (e + 1) + 2 = ((k + 2 * e + 2) + 1) + 1 by omega, jacquardref14_Tighten.l0, if_pos (by omega), show (i : Int) - 1 = ((i - 1 : Nat) : Int) by omega, nbit ha64 (by omega), Option.bind_some, nbit hb64 (by omega), Option.bind_some, same, beq_self_eq_true, jacquardref14_Tighten.j1, if_pos rfl, nbit ha64 (by omega), Option.bind_some, same, wrap64_id (by omega) (by omega), hs, nor (up hn ho) (up hn hp), nor (up hn hz) (up hn hp)]
    cases q : b.testBit (i - 1) with
    | true =>
      rw [if_pos rfl, if_pos rfl, if_pos (by omega)]
      apply ih' _ _ hz (or_lt ho hp)
      · intro j
        rw [hzj]
        by_cases e1 : j = i - 1
        · subst e1; rw [same, q]; simp
        · by_cases h1 : i ≤ j
          · simp [h1, show i - 1 ≤ j by omega]
          · simp [h1, show ¬ i - 1 ≤ j by omega]
      · intro j
        rw [Nat.testBit_or, hoj, Nat.testBit_two_pow]
        by_cases e1 : i - 1 = j
        · subst e1; rw [same, q]; simp; right; omega
        · by_cases h1 : i ≤ j
          · simp [h1, e1, show i - 1 ≤ j by omega]
          · simp [h1, e1, show ¬ i - 1 ≤ j by omega]
    | false =>
      rw [if_neg (show ¬ (false = true) by decide), if_neg (show ¬ ((0 : Int) = 1) by decide), if_pos (show (0 : Int) ≤ ((i - 1 : Nat) : Int) by omega)]
      apply ih' _ _ (or_lt hz hp) ho
      · intro j
        rw [Nat.testBit_or, hzj, Nat.testBit_two_pow]
        by_cases e1 : i - 1 = j
        · subst e1; rw [same, q]; simp; right; omega
        · by_cases h1 : i ≤ j
          · simp [h1, e1, show i - 1 ≤ j by omega]
          · simp [h1, e1, show ¬ i - 1 ≤ j by omega]
      · intro j
        rw [hoj]
        by_cases e1 : j = i - 1
        · subst e1; rw [same, q]; simp
        · by_cases h1 : i ≤ j
          · simp [h1, show i - 1 ≤ j by omega]
          · simp [h1, show ¬ i - 1 ≤ j by omega]
/-- What is known of a result of Tighten. -/
def Post (w : Int) (z o : Nat) (lo hi l m : Int) (r : Int × Int × Int × Int × Int × Int × Bool) : Prop :=
  (¬ FV w z o lo hi l m → r = (0, 0, 0, 0, 0, 0, false)) ∧
  (FV w z o lo hi l m → (r = (0, 0, 0, 0, 0, 0, false) ∧ ∀ x : Nat, x < 18446744073709551616 → ¬ FC w z o lo hi l m x) ∨
    ∃ (z' o' : Nat) (a b c d : Int), r = ((z' : Int), (o' : Int), a, b, c, d, true) ∧ z' < 2 ^ nn w ∧ o' < 2 ^ nn w ∧ ndiff z z' = 0 ∧ ndiff o o' = 0 ∧ lo ≤ a ∧ b ≤ hi ∧ l ≤ c ∧ d ≤ m ∧
      ∀ x : Nat, x < 18446744073709551616 → (FC w z' o' a b c d x ↔ FC w z o lo hi l m x))
theorem fc_iff {w : Int} {z o x : Nat} {lo hi l m : Int} (hw : 1 ≤ w ∧ w ≤ 64) : FC w z o lo hi l m x ↔ x < 2 ^ nn w ∧ x &&& z = 0 ∧ x &&& o = o ∧ In (nn w) lo hi l m x := by
  have hp := pnat (nn w)
  have := Nat.two_pow_pos (nn w)
  unfold FC Contains In
  constructor
  · rintro ⟨h1, h2, _, h4, h5⟩; exact ⟨by omega, h1, h2, h5⟩
  · rintro ⟨h1, h2, h3, h4⟩; exact ⟨h2, h3, hw, by omega, h4⟩
theorem mx_comm (a b : Int) : mx a b = mx b a := by unfold mx; split <;> split <;> omega
theorem mn_comm (a b : Int) : mn a b = mn b a := by unfold mn; split <;> split <;> omega
/-- A fact whose limits were drawn in by its bits contains the same words. -/
theorem drawn {w : Int} {z o : Nat} {lo hi l m : Int} (hv : FV w z o lo hi l m) {x : Nat} : FC w z o lo hi l m x ↔ FC w z o (mx lo o) (mn hi (top (nn w) z)) (mx l (sg (nn w) (lowS (nn w) z o))) (mn m (sg (nn w) (highS (nn w) z o))) x := by
  have hw := hv.1.1
  have hn := nn_of (w := w) (by omega) hw.2
  rw [fc_iff hw, fc_iff hw]
  have f1 := mx_facts lo o
  have f2 := mn_facts hi (top (nn w) z)
  have f3 := mx_facts l (sg (nn w) (lowS (nn w) z o))
  have f4 := mn_facts m (sg (nn w) (highS (nn w) z o))
  unfold In
  constructor
  · rintro ⟨h1, h2, h3, h4, h5, h6, h7⟩
    have := lims (n := nn w) (by omega) hv.1.2.1 hv.1.2.2.1 h1 h2 h3
    exact ⟨h1, h2, h3, by omega, by omega, by omega, by omega⟩
  · rintro ⟨h1, h2, h3, h4, h5, h6, h7⟩
    exact ⟨h1, h2, h3, by omega, by omega, by omega, by omega⟩
theorem tighten_main (w : Int) {z o : Nat} {lo hi l m : Int} (hz : z < 18446744073709551616) (ho : o < 18446744073709551616) (hlo : 0 ≤ lo) :
    ∃ r, facts_Tighten.f w z o lo hi l m = some r ∧ jacquardref14_Tighten.f w z o lo hi l m = some r ∧ Post w z o lo hi l m r := by
  have hQb := Q_big
  obtain ⟨k, hQ⟩ := Q_ex 300
  by_cases hv : FV w z o lo hi l m
  · have hw := hv.1.1
    have hn := nn_of (w := w) (by omega) hw.2
    have hn1 : 1 ≤ nn w := by omega
    have hn64 := nn_le w
    have hz' := hv.1.2.1
    have ho' := hv.1.2.2.1
    have hp := pnat (nn w)
    have hp1 := pnat (nn w - 1)
    have hpl := pow_lt hn1
    have hps := pow_succ' hn1
    obtain ⟨_, v1, v2, v3, v4, v5⟩ := hv.2
    have e1 := impl_pre hz ho hv
    have e2 := ref_pre hz ho hv (by omega)
    rw [mx_comm o lo, mn_comm _ hi, mx_comm _ l, mn_comm _ m] at e2
    have hd : ∀ x : Nat, _ := fun x => drawn hv (x := x)
    have f1 := mx_facts lo o
    have f2 := mn_facts hi (top (nn w) z)
    have f3 := mx_facts l (sg (nn w) (lowS (nn w) z o))
    have f4 := mn_facts m (sg (nn w) (highS (nn w) z o))
    have g1 := sg_range hn1 (lowS (nn w) z o)
    have g2 := sg_range hn1 (highS (nn w) z o)
    have g3 := top_lt (nn w) z
    have g4 := pow_le63 (n := nn w - 1) (by omega)
    generalize mx lo o = L1 at *
    generalize mn hi (top (nn w) z) = H1 at *
    generalize mx l (sg (nn w) (lowS (nn w) z o)) = l1 at *
    generalize mn m (sg (nn w) (highS (nn w) z o)) = m1 at *
    rw [rtighten_eq w L1 H1 l1 m1 (by omega) ⟨by omega, by omega⟩ (by omega), Option.bind_some] at e2
    have e3 := tighten_eq w L1 H1 l1 m1 (by omega) ⟨by omega, by omega⟩
    by_cases c : L1 > H1 ∨ l1 > m1
    · refine ⟨(0, 0, 0, 0, 0, 0, false), ?_, ?_, fun h => absurd hv h, fun _ => .inl ⟨rfl, fun x _ hx => ?_⟩⟩
      · rw [e1, decide_eq_true c, facts_Tighten.j2, if_pos rfl]
      · rw [e2, if_neg (fun h : Valid w L1 H1 l1 m1 => by have a := h.2.1; have b := h.2.2.2.2.1; omega)]; rfl
      · rw [hd, fc_iff hw] at hx
        obtain ⟨_, _, _, h4, h5, h6, h7⟩ := hx
        omega
    · have hV : Valid w L1 H1 l1 m1 := ⟨hw, by omega, by omega, by omega, by omega, by omega⟩
      rw [if_pos hV] at e2 e3
      rw [decide_eq_false c] at e1
      rcases tight_form hn1 (show 0 ≤ L1 by omega) (Bd.of hV) with ⟨h1, h2⟩ | ⟨a, b, c, d, h1, h2, h3, h4, h5, h6, h7, h8, h9⟩
      · rw [h1] at e2 e3
        refine ⟨(0, 0, 0, 0, 0, 0, false), ?_, ?_, fun h => absurd hv h, fun _ => .inl ⟨rfl, fun x _ hx => ?_⟩⟩
        · rw [e1, facts_Tighten.j2, if_neg (by decide), facts_span.f, Option.bind_some, e3, Option.bind_some]; rfl
        · rw [e2]; rfl
        · rw [hd, fc_iff hw] at hx
          obtain ⟨q1, _, _, q4⟩ := hx
          exact h2 x (by omega) (by omega) q4
      · obtain ⟨b1, b2, b3, b4, b5⟩ := h2
        obtain ⟨A, rfl⟩ := Int.eq_ofNat_of_zero_le h3
        obtain ⟨B, rfl⟩ := Int.eq_ofNat_of_zero_le (show 0 ≤ b by omega)
        rw [h1] at e2 e3
        have hA : A < 2 ^ nn w := by omega
        have hB : B < 2 ^ nn w := by omega
        have hA64 := up hn64 hA
        have hB64 := up hn64 hB
        have hX : A ^^^ B < 2 ^ nn w := Nat.xor_lt_two_pow hA hB
        have hX64 := up hn64 hX
        obtain ⟨L, l1', l2, l3, l4⟩ := len_eq (x := ((A ^^^ B : Nat) : Int)) (by omega) (by omega)
        have hLp := pnat L
        have hxL : A ^^^ B < 2 ^ L := by omega
        have hxL2 : L = 0 ∨ 1 ≤ L ∧ 2 ^ (L - 1) ≤ A ^^^ B := by
          have := pnat (L - 1)
          rcases l4 with ⟨h, _⟩ | ⟨h, h'⟩
          · exact .inl h
          · exact .inr ⟨h, by omega⟩
        have hLn : L ≤ nn w := by
          rcases hxL2 with h | ⟨h, h'⟩
          · omega
          · have : 2 ^ (L - 1) < 2 ^ nn w := by omega
            have := (Nat.pow_lt_pow_iff_right (a := 2) (by decide)).1 this
            omega
        have p1 := impl_post (k := k + 296) hz' ho' L1 H1 (l1 := l1) (m1 := m1) hA64 hB64 e3 l2 l1'
        obtain ⟨E, hE⟩ : ∃ E, nn w = L + E := ⟨nn w - L, by omega⟩
        have p2 := ref_loop hn64 hA hB hxL hxL2 z o c d E (nn w) z o hE (Nat.le_refl _) hz' ho' (fun j => by simp; omega) (fun j => by simp; omega) (k + 298 - 2 * E)
        rw [show k + 298 - 2 * E + 2 * E + 2 = k + 300 by omega] at p2
        refine ⟨fin (zf (nn w) L z A) (of (nn w) L o A) A B c d, ?_, ?_, fun h => absurd hv h, fun _ => ?_⟩
        · rw [e1]; exact p1
        · rw [e2, if_pos rfl, hQ, show ((nn w - 1 : Nat) : Int) = (nn w : Int) - 1 by omega]; exact p2
        · have hK : ∀ x : Nat, x < 18446744073709551616 → (FC w (zf (nn w) L z A) (of (nn w) L o A) A B c d x ↔ FC w z o lo hi l m x) := by
            intro x hx
            rw [hd, fc_iff hw, fc_iff hw]
            have h9' := fun hx : x < 2 ^ nn w => h9 x (by omega) (by omega)
            constructor
            · rintro ⟨q1, q2, q3, q4⟩
              have kk := keep (n := nn w) (z := z) (o := o) hxL (show A ≤ x by have := q4.1; omega) (show x ≤ B by have := q4.2.1; omega)
              exact ⟨q1, kk.1.1 q2, kk.2.1 q3, (h9' q1).1 q4⟩
            · rintro ⟨q1, q2, q3, q4⟩
              have q5 := (h9' q1).2 q4
              have kk := keep (n := nn w) (z := z) (o := o) hxL (show A ≤ x by have := q5.1; omega) (show x ≤ B by have := q5.2.1; omega)
              exact ⟨q1, kk.1.2 q2, kk.2.2 q3, q5⟩
          unfold fin
          by_cases cz : zf (nn w) L z A &&& of (nn w) L o A = 0
          · rw [if_pos cz]
            right
            exact ⟨_, _, _, _, _, _, rfl, zf_lt hz', of_lt ho', diff0.2 fun i hi => by rw [tb_zf, hi]; rfl, diff0.2 fun i hi => by rw [tb_of, hi]; rfl, by omega, by omega, by omega, by omega, hK⟩
          · rw [if_neg cz]
            left
            refine ⟨rfl, fun x hx hc => ?_⟩
            rw [← hK x hx, fc_iff hw] at hc
            obtain ⟨_, q2, q3, _⟩ := hc
            apply cz
            rw [disj]
            rintro i ⟨i1, i2⟩
            exact (disj.1 q2) i ⟨(subs.1 q3) i i2, i1⟩
  · refine ⟨(0, 0, 0, 0, 0, 0, false), ?_, ?_, fun _ => rfl, fun h => absurd h hv⟩
    · unfold facts_Tighten.f
      rw [fvalid_eq hz ho, Option.bind_some, if_neg (by simpa using hv)]
    · unfold jacquardref14_Tighten.f
      rw [rfvalid_eq hz ho w lo hi l m (by omega), Option.bind_some, if_neg (by simpa using hv)]
end Go.Proofs.YthhhegblccoonaaGreatDoor.Ft
/- Known bits: packed bits, masks, single steps. -/
namespace Go.Proofs.YthhhegblccoonaaGreatDoor.Kb
set_option linter.unusedVariables false
set_option linter.unusedSimpArgs false
set_option linter.unusedSectionVars false
open Go.RowKit Go.Proofs.YthhhegblccoonaaGreatDoor.P Go.Proofs.YthhhegblccoonaaGreatDoorW.PrintWords Wd Im Iv Tg Ft

/-- What is known of a bit, as a number. -/
def ki : Option Bool → Int
  | some true => 1
  | some false => 0
  | none => -1
def kn (z o i : Nat) : Option Bool := if o.testBit i = true then some true else if z.testBit i = true then some false else none
def pack (p : Nat → Bool) : Nat → Nat
  | 0 => 0
  | i + 1 => pack p i ||| (if p i = true then 2 ^ i else 0)
theorem tb_pack (p : Nat → Bool) (n i : Nat) : (pack p n).testBit i = (decide (i < n) && p i) := by
  induction n with
  | zero => simp [pack]
  | succ n ih =>
    rw [pack, Nat.testBit_or, ih]
    by_cases c : i = n
    · subst c
      cases p i <;> simp [Nat.testBit_two_pow]
    · have e : (if p n = true then 2 ^ n else 0).testBit i = false := by
        split
        · rw [Nat.testBit_two_pow]; simpa using fun h => c h.symm
        · simp
      rw [e, Bool.or_false]
      congr 1
      rw [decide_eq_decide]; omega
theorem pack_lt (p : Nat → Bool) (n : Nat) : pack p n < 2 ^ n := Nat.lt_pow_two_of_testBit _ fun i hi => by rw [tb_pack, decide_eq_false (by omega)]; rfl
def kz (f : Nat → Option Bool) (n : Nat) : Nat := pack (fun i => f i == some false) n
def ko (f : Nat → Option Bool) (n : Nat) : Nat := pack (fun i => f i == some true) n
theorem tb_kz (f : Nat → Option Bool) (n i : Nat) : (kz f n).testBit i = (decide (i < n) && f i == some false) := tb_pack _ _ _
theorem tb_ko (f : Nat → Option Bool) (n i : Nat) : (ko f n).testBit i = (decide (i < n) && f i == some true) := tb_pack _ _ _
theorem kz_lt (f : Nat → Option Bool) (n : Nat) : kz f n < 2 ^ n := pack_lt _ _
theorem ko_lt (f : Nat → Option Bool) (n : Nat) : ko f n < 2 ^ n := pack_lt _ _
theorem kzo (f : Nat → Option Bool) (n : Nat) : kz f n &&& ko f n = 0 := by
  rw [disj]; intro i
  rw [tb_kz, tb_ko]
  cases f i with
  | none => simp
  | some b => cases b <;> simp
theorem kz_none {f : Nat → Option Bool} {n : Nat} (h : ∀ i, i < n → f i = none) : kz f n = 0 ∧ ko f n = 0 := by
  constructor <;> (apply Nat.eq_of_testBit_eq; intro i; first | rw [tb_kz] | rw [tb_ko]) <;> (by_cases c : i < n <;> simp [c]; rw [h i c]; exact nofun)
theorem kn_pack {f : Nat → Option Bool} {n i : Nat} (h : i < n) : kn (kz f n) (ko f n) i = f i := by
  unfold kn; rw [tb_kz, tb_ko, decide_eq_true h]
  cases f i with
  | none => simp
  | some b => cases b <;> simp
/-- What a valid element's bits are. -/
theorem kn_z {z o i : Nat} (h : z &&& o = 0) : (kn z o i == some false) = z.testBit i := by
  have := disj.1 h i
  unfold kn
  cases e1 : z.testBit i <;> cases e2 : o.testBit i <;> simp_all
theorem kn_o (z o i : Nat) : (kn z o i == some true) = o.testBit i := by
  unfold kn
  cases e1 : z.testBit i <;> cases e2 : o.testBit i <;> simp
theorem kn_hi {z o n i : Nat} (hz : z < 2 ^ n) (ho : o < 2 ^ n) (h : n ≤ i) : kn z o i = none := by unfold kn; rw [tb_big hz h, tb_big ho h]; simp
theorem up64 {n a : Nat} (hn : n ≤ 64) (h : a < 2 ^ n) : a < 18446744073709551616 := up hn h
theorem wr {i n : Nat} (h : i < n) (hn : n ≤ 64) : wrap64 ((i : Int) + 1) = ((i + 1 : Nat) : Int) := by rw [wrap64_id (by omega) (by omega)]; omega
theorem known_eq {z o i : Nat} (hz : z < 18446744073709551616) (ho : o < 18446744073709551616) (hi : i ≤ 64) : jacquardref12_Known.f z o (i : Int) = some (ki (kn z o i)) := by
  unfold jacquardref12_Known.f kn
  rw [nbit ho hi, Option.bind_some, nbit hz hi, Option.bind_some]
  by_cases c : o.testBit i = true
  · rw [if_pos c, if_pos c]; rfl
  · rw [if_neg c, if_neg c, if_neg (by decide)]
    by_cases d : z.testBit i = true
    · rw [if_pos d, if_pos d]; rfl
    · rw [if_neg d, if_neg d]; rfl
theorem put_gen {z o i : Nat} (hz : z < 18446744073709551616) (ho : o < 18446744073709551616) (hi : i < 64) (v : Option Bool) :
    jacquardref12_put.f z o (i : Int) (ki v) = some (((z ||| (if v == some false then 2 ^ i else 0) : Nat) : Int), ((o ||| (if v == some true then 2 ^ i else 0) : Nat) : Int)) := by
  have hp : 2 ^ i < 18446744073709551616 := Nat.lt_of_lt_of_le (Nat.pow_lt_pow_right (by decide) hi) (by decide)
  unfold jacquardref12_put.f
  have h0 : (0 : Int) ≤ (i : Int) := by omega
  cases v with
  | none => simp [ki]
  | some b =>
    cases b
    · rw [show ki (some false) = 0 from rfl]
      rw [if_neg (by decide), if_pos rfl, if_pos h0, shl_one (by omega), nor hz hp]; simp
    · rw [show ki (some true) = 1 from rfl]
      rw [if_pos rfl, if_pos h0, if_neg (by decide), shl_one (by omega), nor ho hp]; simp
/-- A loop's step. -/
theorem put_eq {Z O n i : Nat} (hn : n ≤ 64) (hZ : Z < 2 ^ n) (hO : O < 2 ^ n) (hi : i < n) (f : Nat → Option Bool) :
    jacquardref12_put.f ((Z ||| kz f i : Nat) : Int) ((O ||| ko f i : Nat) : Int) (i : Int) (ki (f i)) = some (((Z ||| kz f (i + 1) : Nat) : Int), ((O ||| ko f (i + 1) : Nat) : Int)) := by
  have l : ∀ {a : Nat}, a < 2 ^ i → a < 2 ^ n := fun h => Nat.lt_of_lt_of_le h (Nat.pow_le_pow_right (by decide) (by omega))
  rw [put_gen (up64 hn (or_lt hZ (l (kz_lt f i)))) (up64 hn (or_lt hO (l (ko_lt f i)))) (by omega), Nat.or_assoc, Nat.or_assoc]
  rfl
theorem put0 {n i : Nat} (hn : n ≤ 64) (hi : i < n) (f : Nat → Option Bool) :
    jacquardref12_put.f (kz f i : Int) (ko f i : Int) (i : Int) (ki (f i)) = some ((kz f (i + 1) : Int), (ko f (i + 1) : Int)) := by
  have := put_eq (Z := 0) (O := 0) hn (Nat.two_pow_pos n) (Nat.two_pow_pos n) hi f
  simpa only [Nat.zero_or] using this
theorem kstep_none {f : Nat → Option Bool} {i : Nat} (h : f i = none) : kz f (i + 1) = kz f i ∧ ko f (i + 1) = ko f i := by
  unfold kz ko; constructor <;> (rw [pack, h]; simp)

theorem kmask (w : Int) : knownbits_mask.f w = some ((2 ^ nn w - 1 : Nat) : Int) := by
  by_cases h1 : 1 ≤ w
  · by_cases h2 : w ≤ 64
    · exact kmask_eq ⟨h1, h2⟩
    · unfold knownbits_mask.f
      rw [if_pos (by omega), nn_high (by omega)]; rfl
  · unfold knownbits_mask.f
    rw [if_neg (by omega), nn_low (by omega), show mx w 0 = 0 by unfold mx; split <;> omega]; rfl
theorem kmaskN {m : Nat} (h : m ≤ 64) : knownbits_mask.f (m : Int) = some ((2 ^ m - 1 : Nat) : Int) := by
  rw [kmask]; have := nn_of (w := (m : Int)) (by omega) (by omega); rw [show nn (m : Int) = m by omega]
theorem not_eq {a : Nat} (ha : a < 18446744073709551616) : Go.bits .xor .u64 18446744073709551615 (a : Int) = ((18446744073709551615 ^^^ a : Nat) : Int) := nxor (a := 18446744073709551615) (by decide) ha
theorem tb_not (a i : Nat) : (18446744073709551615 ^^^ a).testBit i = (decide (i < 64) ^^ a.testBit i) := by
  rw [Nat.testBit_xor, show (18446744073709551615 : Nat) = 2 ^ 64 - 1 from rfl, tb_F]
theorem not_lt {a : Nat} (ha : a < 18446744073709551616) : 18446744073709551615 ^^^ a < 18446744073709551616 := Nat.xor_lt_two_pow (n := 64) (by decide) ha

/-! ### The lowest bit -/
theorem odd_part : ∀ (x : Nat), 0 < x → ∃ t m, x = 2 ^ t * (2 * m + 1) := by
  intro x
  induction x using Nat.strongRecOn with
  | _ x ih =>
    intro h
    by_cases c : x % 2 = 1
    · exact ⟨0, x / 2, by omega⟩
    · obtain ⟨t, m, e⟩ := ih (x / 2) (by omega) (by omega)
      refine ⟨t + 1, m, ?_⟩
      rw [Nat.pow_succ, Nat.mul_comm (2 ^ t) 2, Nat.mul_assoc, ← e]; omega
theorem tab_fact : ∀ t : Fin 64, bits_TrailingZeros64.T.getD (shr .u64 (IntKind.u64.wrap (((2 ^ t.1 : Nat) : Int) * 285870213051353865)) 58).toNat 0 = t.1 := by decide +kernel
theorem tb_low {t m : Nat} : (2 ^ t * (2 * m + 1)).testBit t = true ∧ (∀ j, j < t → (2 ^ t * (2 * m + 1)).testBit j = false) := by
  constructor
  · rw [Nat.testBit_two_pow_mul]; simp
  · intro j hj; rw [Nat.testBit_two_pow_mul]; simp; omega
theorem low_and {x t m : Nat} (h : x = 2 ^ t * (2 * m + 1)) (hx : x < 18446744073709551616) : x &&& (18446744073709551616 - x) = 2 ^ t := by
  have hp := Nat.two_pow_pos t
  have h0 : 0 < x := by rw [h]; exact Nat.mul_pos hp (by omega)
  have e : 18446744073709551616 - x = 2 ^ 64 - ((x - 1) + 1) := by omega
  have e2 : x - 1 = 2 ^ t * (2 * m) + (2 ^ t - 1) := by rw [h, Nat.mul_add]; omega
  apply Nat.eq_of_testBit_eq
  intro i
  rw [Nat.testBit_and, e, Nat.testBit_two_pow_sub_succ (by omega), Nat.testBit_two_pow, e2, Nat.testBit_two_pow_mul_add _ (by omega), h]
  rcases Nat.lt_trichotomy i t with c | c | c
  · rw [(tb_low).2 i c, decide_eq_false (show ¬ t = i by omega)]; rfl
  · subst c
    have : i < 64 := by
      have := Nat.pow_lt_pow_iff_right (a := 2) (n := i) (m := 64) (by decide)
      rw [← this]
      have : 2 ^ i * 1 ≤ 2 ^ i * (2 * m + 1) := Nat.mul_le_mul_left _ (by omega)
      omega
    rw [(tb_low).1, if_neg (by omega)]
    simp [this]
  · rw [Nat.testBit_two_pow_mul, if_neg (by omega), decide_eq_false (show ¬ t = i by omega)]
    obtain ⟨d, rfl⟩ : ∃ d, i = t + 1 + d := ⟨i - t - 1, by omega⟩
    rw [show t + 1 + d - t = d + 1 by omega, Nat.testBit_succ, Nat.testBit_succ, show (2 * m + 1) / 2 = m by omega, show 2 * m / 2 = m by omega]
    cases m.testBit d <;> simp
/-- The number of lowest zeros. -/
theorem tz_eq {x : Nat} (hx : x < 18446744073709551616) : ∃ t : Nat, t ≤ 64 ∧ bits_TrailingZeros64.f (x : Int) = some (t : Int) ∧ (∀ j, j < t → x.testBit j = false) ∧ (t < 64 → x.testBit t = true) := by
  by_cases c : x = 0
  · subst c
    exact ⟨64, by omega, rfl, fun j _ => by simp, fun h => by omega⟩
  · obtain ⟨t, m, h⟩ := odd_part x (by omega)
    have ht : t < 64 := by
      have := Nat.pow_lt_pow_iff_right (a := 2) (n := t) (m := 64) (by decide)
      rw [← this]
      have : 2 ^ t * 1 ≤ 2 ^ t * (2 * m + 1) := Nat.mul_le_mul_left _ (by omega)
      omega
    refine ⟨t, by omega, ?_, fun j hj => by rw [h]; exact tb_low.2 j hj, fun _ => by rw [h]; exact tb_low.1⟩
    unfold bits_TrailingZeros64.f
    rw [if_neg (by omega), show IntKind.u64.wrap (0 - (x : Int)) = ((18446744073709551616 - x : Nat) : Int) by rw [wrap_u64]; omega, nand hx (by omega), low_and h hx]
    exact congrArg some (tab_fact ⟨t, ht⟩)
end Go.Proofs.YthhhegblccoonaaGreatDoor.Kb
/- Known bits: runs of known bits, low and high. -/
namespace Go.Proofs.YthhhegblccoonaaGreatDoor.Kb
set_option linter.unusedVariables false
set_option linter.unusedSimpArgs false
set_option linter.unusedSectionVars false
open Go.RowKit Go.Proofs.YthhhegblccoonaaGreatDoor.P Go.Proofs.YthhhegblccoonaaGreatDoorW.PrintWords Wd Im Iv Tg Ft

/-- t is the length of the first run of p below n. -/
def Run (p : Nat → Bool) (n t : Nat) : Prop := t ≤ n ∧ (∀ j, j < t → p j = true) ∧ (t < n → p t = false)
theorem Run.congr {p q : Nat → Bool} {n t : Nat} (h : Run p n t) (e : ∀ j, j < n → p j = q j) : Run q n t := ⟨h.1, fun j hj => by rw [← e j (by have := h.1; omega)]; exact h.2.1 j hj, fun hn => by rw [← e t hn]; exact h.2.2 hn⟩
theorem lowones {a n : Nat} (hn : n ≤ 64) (ha : a < 2 ^ n) : ∃ t : Nat, bits_TrailingZeros64.f (Go.bits .xor .u64 18446744073709551615 (a : Int)) = some (t : Int) ∧ Run a.testBit n t := by
  have h64 := up64 hn ha
  obtain ⟨t, h1, h2, h3, h4⟩ := tz_eq (not_lt h64)
  have hb : ∀ j, j < t → a.testBit j = true := fun j hj => by
    have := h3 j hj
    rw [tb_not, decide_eq_true (by omega)] at this
    simpa using this
  have hle : t ≤ n := by
    rcases Nat.lt_or_ge n t with c | c
    · have := hb n c
      rw [tb_big ha (Nat.le_refl _)] at this; exact absurd this (by decide)
    · exact c
  refine ⟨t, by rw [not_eq h64]; exact h2, hle, hb, fun hlt => ?_⟩
  have := h4 (by omega)
  rw [tb_not, decide_eq_true (by omega)] at this
  simpa using this
theorem ktail {z n : Nat} (o : Int) (hn : n ≤ 64) (hz : z < 2 ^ n) : ∃ t : Nat, knownbits_tail.f (z : Int) o = some (t : Int) ∧ Run z.testBit n t := by
  obtain ⟨t, h1, h2⟩ := lowones hn hz
  exact ⟨t, by unfold knownbits_tail.f; rw [h1]; rfl, h2⟩
theorem shl_n {a s : Nat} (hs : s ≤ 64) (h : a * 2 ^ s < 18446744073709551616) : shl .u64 (a : Int) (s : Int) = ((a * 2 ^ s : Nat) : Int) := by
  unfold shl
  rw [show min (s : Int).toNat (IntKind.bits .u64) = s by show min _ 64 = _; omega, wrap_u64, pnat, ← Int.natCast_mul]
  omega
theorem mul_lt {a n : Nat} (hn : n ≤ 64) (ha : a < 2 ^ n) : a * 2 ^ (64 - n) < 18446744073709551616 := by
  have e : 2 ^ n * 2 ^ (64 - n) = 18446744073709551616 := by rw [← Nat.pow_add, show n + (64 - n) = 64 by omega]
  rw [← e]
  exact Nat.mul_lt_mul_of_pos_right ha (Nat.two_pow_pos _)
theorem klead {a n : Nat} {w : Int} (hw : w = n) (h1 : 1 ≤ n) (hn : n ≤ 64) (ha : a < 2 ^ n) : ∃ t : Nat, knownbits_lead.f w (a : Int) = some (t : Int) ∧ Run (fun j => a.testBit (n - 1 - j)) n t := by
  have hm := mul_lt hn ha
  have hsh := shl_n (a := a) (s := 64 - n) (by omega) hm
  have hwr : wrap64 (64 - w) = ((64 - n : Nat) : Int) := by rw [wrap64_id (by omega) (by omega)]; omega
  unfold knownbits_lead.f bits_LeadingZeros64.f
  rw [hwr, if_pos (by omega), hsh, not_eq hm]
  obtain ⟨t, h2, h3, h4, h5⟩ := len_eq (x := ((18446744073709551615 ^^^ (a * 2 ^ (64 - n)) : Nat) : Int)) (by omega) (by have := not_lt hm; omega)
  rw [h3, Option.bind_some, Option.bind_some]
  have h4' : 18446744073709551615 ^^^ (a * 2 ^ (64 - n)) < 2 ^ t := by rw [pnat] at h4; exact Int.ofNat_lt.1 h4
  have hbit : ∀ i, i < 64 → (18446744073709551615 ^^^ (a * 2 ^ (64 - n))).testBit i = (true ^^ (decide (64 - n ≤ i) && a.testBit (i - (64 - n)))) := fun i hi => by
    rw [tb_not, decide_eq_true hi, Nat.testBit_mul_two_pow]
  have hb : ∀ j, j < 64 - t → (64 - n ≤ 63 - j) ∧ a.testBit (n - 1 - j) = true := fun j hj => by
    have := hbit (63 - j) (by omega)
    rw [tb_big h4' (by omega)] at this
    have h6 : (decide (64 - n ≤ 63 - j) && a.testBit (63 - j - (64 - n))) = true := by simpa using this
    simp only [Bool.and_eq_true, decide_eq_true_eq] at h6
    exact ⟨h6.1, by rw [show n - 1 - j = 63 - j - (64 - n) by omega]; exact h6.2⟩
  have hle : 64 - t ≤ n := by
    rcases Nat.lt_or_ge n (64 - t) with c | c
    · have := (hb n c).1; omega
    · exact c
  refine ⟨64 - t, by rw [wrap64_id (by omega) (by omega)]; congr 1; omega, hle, fun j hj => (hb j hj).2, fun hlt => ?_⟩
  have ht : 1 ≤ t := by omega
  rcases h5 with ⟨h6, _⟩ | ⟨_, h6⟩
  · omega
  have h7 : 2 ^ (t - 1) ≤ 18446744073709551615 ^^^ (a * 2 ^ (64 - n)) := by rw [pnat] at h6; exact Int.ofNat_le.1 h6
  have h8 := (tb_top ht h4').2 h7
  rw [hbit _ (by omega), decide_eq_true (by omega)] at h8
  show a.testBit (n - 1 - (64 - t)) = false
  rw [show n - 1 - (64 - t) = t - 1 - (64 - n) by omega]
  simpa using h8
def hi (n t : Nat) : Nat := ndiff (2 ^ n - 1) (2 ^ (n - t) - 1)
theorem tb_hi (n t i : Nat) : (hi n t).testBit i = (decide (i < n) && decide (n - t ≤ i)) := by
  unfold hi; rw [tb_ndiff, tb_F, tb_F]
  congr 1
  rw [← decide_not, decide_eq_decide]; omega
theorem hi_lt (n t : Nat) : hi n t < 2 ^ n := ndiff_lt (by have := Nat.two_pow_pos n; omega)
theorem F_lt {n : Nat} (hn : n ≤ 64) : 2 ^ n - 1 < 18446744073709551616 := up64 hn (by have := Nat.two_pow_pos n; omega)
theorem khigh {n t : Nat} {w : Int} (hw : w = n) (hn : n ≤ 64) (ht : t ≤ n) : knownbits_high.f w (t : Int) = some ((hi n t : Nat) : Int) := by
  subst hw
  unfold knownbits_high.f
  rw [kmaskN hn, Option.bind_some, show wrap64 ((n : Int) - (t : Int)) = ((n - t : Nat) : Int) by rw [wrap64_id (by omega) (by omega)]; omega, kmaskN (by omega), Option.bind_some, nandn (F_lt hn) (F_lt (by omega))]; rfl

/-! ### The reference's loops that count -/
section
variable {z o n : Nat} {w : Int} (hw : w = n) (hn : n ≤ 64) (hz : z < 2 ^ n) (ho : o < 2 ^ n)
include hw hn hz ho
theorem rtail_loop {t : Nat} (hr : Run (fun j => kn z o j == some false) n t) (d : Nat) : ∀ k i : Nat, i + d = t → d < k → jacquardref12_tail.l0 k w (i : Int) z o = some (t : Int) := by
  have hQb := Q_big
  have h64 := up64 hn hz; have h64' := up64 hn ho
  induction d with
  | zero =>
    intro k i hi hk
    obtain ⟨k, rfl⟩ : ∃ m, k = m + 1 := ⟨k - 1, by omega⟩
    obtain rfl : i = t := by omega
    rw [jacquardref12_tail.l0]
    by_cases c : i < n
    · have := hr.2.2 c
      rw [if_pos (by omega), known_eq h64 h64' (by omega), Option.bind_some, if_neg]
      intro h
      cases e : kn z o i with
      | none => rw [e] at h; exact absurd h (by decide)
      | some b => cases b <;> simp_all [ki]
    · rw [if_neg (by omega)]
  | succ d ih =>
    intro k i hi hk
    obtain ⟨k, rfl⟩ : ∃ m, k = m + 1 := ⟨k - 1, by omega⟩
    have hlt : i < n := by have := hr.1; omega
    have hb := hr.2.1 i (by omega)
    have e : kn z o i = some false := by simpa using hb
    rw [jacquardref12_tail.l0, if_pos (by omega), known_eq h64 h64' (by omega), Option.bind_some, e, if_pos (show ki (some false) = 0 from rfl), wr hlt hn]
    exact ih k (i + 1) (by omega) (by omega)
theorem rlow_loop {t : Nat} (hr : Run (fun j => (kn z o j).isSome) n t) (d : Nat) : ∀ k i : Nat, i + d = t → d < k → jacquardref12_low.l0 k w (i : Int) z o = some (t : Int) := by
  have hQb := Q_big
  have h64 := up64 hn hz; have h64' := up64 hn ho
  induction d with
  | zero =>
    intro k i hi hk
    obtain ⟨k, rfl⟩ : ∃ m, k = m + 1 := ⟨k - 1, by omega⟩
    obtain rfl : i = t := by omega
    rw [jacquardref12_low.l0]
    by_cases c : i < n
    · have := hr.2.2 c
      have e : kn z o i = none := by simpa using this
      rw [if_pos (by omega), known_eq h64 h64' (by omega), Option.bind_some, e, if_neg (by decide)]
    · rw [if_neg (by omega)]
  | succ d ih =>
    intro k i hi hk
    obtain ⟨k, rfl⟩ : ∃ m, k = m + 1 := ⟨k - 1, by omega⟩
    have hlt : i < n := by have := hr.1; omega
    have hb := hr.2.1 i (by omega)
    have e : ki (kn z o i) ≥ 0 := by
      cases e : kn z o i with
      | none => simp [e] at hb
      | some b => cases b <;> simp [ki]
    rw [jacquardref12_low.l0, if_pos (by omega), known_eq h64 h64' (by omega), Option.bind_some, if_pos e, wr hlt hn]
    exact ih k (i + 1) (by omega) (by omega)
theorem rlead_loop {t : Nat} {v : Option Bool} (hr : Run (fun j => kn z o (n - 1 - j) == v) n t) (d : Nat) : ∀ k i : Nat, i + d = t → d < k → jacquardref12_lead.l0 k w (ki v) (i : Int) z o = some (t : Int) := by
  have hQb := Q_big
  have h64 := up64 hn hz; have h64' := up64 hn ho
  have idx : ∀ i : Nat, i < n → wrap64 (wrap64 (w - 1) - (i : Int)) = ((n - 1 - i : Nat) : Int) := fun i hi => by
    rw [wrap64_id (n := w - 1) (by omega) (by omega), wrap64_id (by omega) (by omega)]; omega
  have inj : ∀ a b : Option Bool, ki a = ki b → a = b := by
    intro a b; rcases a with _ | _ | _ <;> rcases b with _ | _ | _ <;> simp [ki]
  induction d with
  | zero =>
    intro k i hi hk
    obtain ⟨k, rfl⟩ : ∃ m, k = m + 1 := ⟨k - 1, by omega⟩
    obtain rfl : i = t := by omega
    rw [jacquardref12_lead.l0]
    by_cases c : i < n
    · have := hr.2.2 c
      rw [if_pos (by omega), idx i c, known_eq h64 h64' (by omega), Option.bind_some, if_neg]
      intro h
      simp only [inj _ _ h] at this
      simp at this
    · rw [if_neg (by omega)]
  | succ d ih =>
    intro k i hi hk
    obtain ⟨k, rfl⟩ : ∃ m, k = m + 1 := ⟨k - 1, by omega⟩
    have hlt : i < n := by have := hr.1; omega
    have hb := hr.2.1 i (by omega)
    have e : kn z o (n - 1 - i) = v := by simpa using hb
    rw [jacquardref12_lead.l0, if_pos (by omega), idx i hlt, known_eq h64 h64' (by omega), Option.bind_some, e, if_pos rfl, wr hlt hn]
    exact ih k (i + 1) (by omega) (by omega)
end
/-- Lowest or highest zeros. -/
def zf' (n lo up : Nat) (i : Nat) : Option Bool := if i < lo ∨ n - up ≤ i then some false else none
theorem rzeros_loop {n lo up : Nat} {w : Int} (hw : w = n) (hn : n ≤ 64) (hl : lo ≤ n) (hu : up ≤ n) (d : Nat) : ∀ k i : Nat, i + d = n → d < k →
    jacquardref12_zeros.l0 k w (lo : Int) (up : Int) (i : Int) (kz (zf' n lo up) i : Int) (ko (zf' n lo up) i : Int) = some ((kz (zf' n lo up) n : Int), (ko (zf' n lo up) n : Int)) := by
  have hQb := Q_big
  induction d with
  | zero =>
    intro k i hi hk
    obtain ⟨k, rfl⟩ : ∃ m, k = m + 1 := ⟨k - 1, by omega⟩
    obtain rfl : i = n := by omega
    rw [jacquardref12_zeros.l0, if_neg (by omega)]
  | succ d ih =>
    intro k i hi hk
    obtain ⟨k, rfl⟩ : ∃ m, k = m + 1 := ⟨k - 1, by omega⟩
    have hlt : i < n := by omega
    have h2 := ih k (i + 1) (by omega) (by omega)
    have hput := put0 hn hlt (zf' n lo up)
    have hwr : wrap64 (w - (up : Int)) = ((n - up : Nat) : Int) := by rw [wrap64_id (by omega) (by omega)]; omega
    rw [jacquardref12_zeros.l0, if_pos (by omega), hwr, wr hlt hn]
    by_cases c1 : i < lo
    · have e : zf' n lo up i = some false := if_pos (.inl c1)
      rw [e] at hput
      rw [if_pos (by omega), show (0 : Int) = ki (some false) from rfl, hput, Option.bind_some]; exact h2
    · rw [if_neg (by omega)]
      by_cases c2 : n - up ≤ i
      · have e : zf' n lo up i = some false := if_pos (.inr c2)
        rw [e] at hput
        rw [if_pos (by omega), show (0 : Int) = ki (some false) from rfl, hput, Option.bind_some]; exact h2
      · have e : zf' n lo up i = none := if_neg (by omega)
        have := kstep_none e
        rw [if_neg (by omega), ← this.1, ← this.2]; exact h2
theorem rzeros {n lo up : Nat} {w : Int} (hw : w = n) (hn : n ≤ 64) (hl : lo ≤ n) (hu : up ≤ n) (hk : 64 < Q) :
    jacquardref12_zeros.f w (lo : Int) (up : Int) = some ((kz (zf' n lo up) n : Int), (ko (zf' n lo up) n : Int)) := rzeros_loop hw hn hl hu n Q 0 (by omega) (by omega)
theorem zf_z (n lo up i : Nat) (h : lo ≤ n) : (kz (zf' n lo up) n).testBit i = (decide (i < n) && (decide (i < lo) || decide (n - up ≤ i))) := by
  rw [tb_kz]; unfold zf'
  by_cases c : i < lo ∨ n - up ≤ i
  · rw [if_pos c]; rcases c with c | c <;> simp [c]
  · rw [if_neg c]; simp; omega
theorem zf_o (n lo up : Nat) : ko (zf' n lo up) n = 0 := by
  apply Nat.eq_of_testBit_eq; intro i
  rw [tb_ko]; unfold zf'; split <;> simp
theorem zf_lo {n lo : Nat} (h : lo ≤ n) : kz (zf' n lo 0) n = 2 ^ lo - 1 := by
  apply Nat.eq_of_testBit_eq; intro i
  rw [zf_z _ _ _ _ h, tb_F]
  by_cases c : i < lo
  · simp [c]; omega
  · simp [c]
theorem zf_hi (n up : Nat) : kz (zf' n 0 up) n = hi n up := by
  apply Nat.eq_of_testBit_eq; intro i
  rw [zf_z _ _ _ _ (Nat.zero_le _), tb_hi]; simp
end Go.Proofs.YthhhegblccoonaaGreatDoor.Kb
/- Known bits: sums with a carry. -/
namespace Go.Proofs.YthhhegblccoonaaGreatDoor.Kb
set_option linter.unusedVariables false
set_option linter.unusedSimpArgs false
set_option linter.unusedSectionVars false
open Go.RowKit Go.Proofs.YthhhegblccoonaaGreatDoor.P Go.Proofs.YthhhegblccoonaaGreatDoorW.PrintWords Wd Im Iv Tg Ft

def maj (x y c : Option Bool) : Option Bool := if x = y ∨ x = c then x else if y = c then y else none
def sum3 : Option Bool → Option Bool → Option Bool → Option Bool
  | some a, some b, some c => some (a ^^ b ^^ c)
  | _, _, _ => none
def cr (a b : Nat → Option Bool) (c : Option Bool) : Nat → Option Bool
  | 0 => c
  | i + 1 => maj (a i) (b i) (cr a b c i)
def sm (a b : Nat → Option Bool) (c : Option Bool) (i : Nat) : Option Bool := sum3 (a i) (b i) (cr a b c i)
def all3 : Option Bool → Option Bool → Option Bool → Bool
  | some _, some _, some _ => true
  | _, _, _ => false
def c0 (x : Option Bool) : Int := if x == some false then 1 else 0
def c1 (x : Option Bool) : Int := if x == some true then 1 else 0
theorem shr_n {a s : Nat} (hs : s ≤ 64) : shr .u64 (a : Int) (s : Int) = ((a / 2 ^ s : Nat) : Int) := by
  unfold shr
  rw [show min (s : Int).toNat (IntKind.bits .u64) = s by show min _ 64 = _; omega, pnat]; norm_cast
theorem bit_at {a i : Nat} (ha : a < 18446744073709551616) (hi : i < 64) : Go.bits .and .u64 (shr .u64 (a : Int) (i : Int)) 1 = if a.testBit i = true then 1 else 0 := by
  have hb := bitI a i
  have hd := Nat.div_le_self a (2 ^ i)
  rw [pnat, show (a : Int) / ((2 ^ i : Nat) : Int) = ((a / 2 ^ i : Nat) : Int) by norm_cast] at hb
  rw [shr_n (by omega)]
  generalize a / 2 ^ i = q at *
  rw [and_one (by omega)]; exact hb
section
variable {az ao bz bo n : Nat} {w : Int} (hw : w = n) (hn : n ≤ 64) (haz : az < 2 ^ n) (hao : ao < 2 ^ n) (hbz : bz < 2 ^ n) (hbo : bo < 2 ^ n)
include hw hn haz hao hbz hbo
theorem radd_loop (c : Option Bool) (d : Nat) : ∀ k i : Nat, i + d = n → 4 * d < k →
    jacquardref12_add.l0 k w (ki (cr (kn az ao) (kn bz bo) c i)) (i : Int) az ao bz bo (kz (sm (kn az ao) (kn bz bo) c) i : Int) (ko (sm (kn az ao) (kn bz bo) c) i : Int) =
      some ((kz (sm (kn az ao) (kn bz bo) c) n : Int), (ko (sm (kn az ao) (kn bz bo) c) n : Int)) := by
  have hQb := Q_big
  induction d with
  | zero =>
    intro k i hi hk
    obtain ⟨k, rfl⟩ : ∃ m, k = m + 1 := ⟨k - 1, by omega⟩
    obtain rfl : i = n := by omega
    rw [jacquardref12_add.l0, if_neg (by omega)]
  | succ d ih =>
    intro k i hi hk
    obtain ⟨k, rfl⟩ : ∃ m, k = m + 4 := ⟨k - 4, by omega⟩
    have hlt : i < n := by omega
    have h2 := ih k (i + 1) (by omega) (by omega)
    have hput := put0 hn hlt (sm (kn az ao) (kn bz bo) c)
    have hnone := kstep_none (f := sm (kn az ao) (kn bz bo) c) (i := i)
    rw [jacquardref12_add.l0, if_pos (by omega), known_eq (up64 hn haz) (up64 hn hao) (by omega), Option.bind_some, known_eq (up64 hn hbz) (up64 hn hbo) (by omega), Option.bind_some]
    rw [show cr (kn az ao) (kn bz bo) c (i + 1) = maj (kn az ao i) (kn bz bo i) (cr (kn az ao) (kn bz bo) c i) from rfl] at h2
    have es : sm (kn az ao) (kn bz bo) c i = sum3 (kn az ao i) (kn bz bo i) (cr (kn az ao) (kn bz bo) c i) := rfl
    rw [es] at hput hnone
    rw [← wr hlt hn] at h2
    generalize kz (sm (kn az ao) (kn bz bo) c) i = Z at *
    generalize ko (sm (kn az ao) (kn bz bo) c) i = O at *
    generalize kz (sm (kn az ao) (kn bz bo) c) (i + 1) = Z1 at *
    generalize ko (sm (kn az ao) (kn bz bo) c) (i + 1) = O1 at *
    generalize cr (kn az ao) (kn bz bo) c i = q at *
    generalize kn az ao i = x at *
    generalize kn bz bo i = y at *
    have e1 : ∀ T : Option (Int × Int), jacquardref12_add.j1 (k + 3) w (ki q) (i : Int) (ki x) (ki y) (all3 x y q) az ao bz bo Z O = T →
        (if ki x ≥ 0 then (if ki y ≥ 0 then (jacquardref12_add.j1 (k + 3) w (ki q) (i : Int) (ki x) (ki y) (decide (ki q ≥ 0)) az ao bz bo Z O) else (jacquardref12_add.j1 (k + 3) w (ki q) (i : Int) (ki x) (ki y) false az ao bz bo Z O)) else (jacquardref12_add.j1 (k + 3) w (ki q) (i : Int) (ki x) (ki y) false az ao bz bo Z O)) = T := by
      intro T h
      rcases x with _ | _ | _ <;> rcases y with _ | _ | _ <;> rcases q with _ | _ | _ <;> exact h
    refine e1 _ ?_
    have e2 : jacquardref12_add.j1 (k + 3) w (ki q) (i : Int) (ki x) (ki y) (all3 x y q) az ao bz bo Z O = jacquardref12_add.j2 (k + 2) w (ki q) (i : Int) (ki x) (ki y) az ao bz bo Z1 O1 := by
      have ev : all3 x y q = true → Int.tmod (wrap64 (wrap64 (ki x + ki y) + ki q)) 2 = ki (sum3 x y q) := by
        clear hput hnone h2 e1 ih es
        rcases x with _ | _ | _ <;> rcases y with _ | _ | _ <;> rcases q with _ | _ | _ <;> first
          | (intro h; exact absurd h (by decide))
          | (intro _; decide +kernel)
      have en : all3 x y q = false → sum3 x y q = none := by
        clear hput hnone h2 e1 ih es ev
        rcases x with _ | _ | _ <;> rcases y with _ | _ | _ <;> rcases q with _ | _ | _ <;> simp [all3, sum3]
      rw [jacquardref12_add.j1]
      cases h : all3 x y q
      · rw [if_neg (by decide), (hnone (en h)).1, (hnone (en h)).2]
      · rw [if_pos rfl, ev h, hput, Option.bind_some]
    rw [e2, jacquardref12_add.j2]
    refine Eq.trans ?_ h2
    rcases x with _ | _ | _ <;> rcases y with _ | _ | _ <;> rcases q with _ | _ | _ <;> simp [jacquardref12_add.j3, maj, ki]
theorem radd (c : Option Bool) (hk : 256 < Q) : jacquardref12_add.f w az ao bz bo (ki c) = some ((kz (sm (kn az ao) (kn bz bo) c) n : Int), (ko (sm (kn az ao) (kn bz bo) c) n : Int)) :=
  radd_loop hw hn haz hao hbz hbo c n Q 0 (by omega) (by omega)
theorem kadd_loop (da : az &&& ao = 0) (db : bz &&& bo = 0) (c : Option Bool) (d : Nat) : ∀ k i : Nat, i + d = n → 3 * d < k →
    knownbits_add.l0 k (ki (cr (kn az ao) (kn bz bo) c i)) w (i : Int) az ao bz bo (kz (sm (kn az ao) (kn bz bo) c) i : Int) (ko (sm (kn az ao) (kn bz bo) c) i : Int) =
      some ((kz (sm (kn az ao) (kn bz bo) c) n : Int), (ko (sm (kn az ao) (kn bz bo) c) n : Int)) := by
  have hQb := Q_big
  induction d with
  | zero =>
    intro k i hi hk
    obtain ⟨k, rfl⟩ : ∃ m, k = m + 1 := ⟨k - 1, by omega⟩
    obtain rfl : i = n := by omega
    rw [knownbits_add.l0, if_neg (by omega)]
  | succ d ih =>
    intro k i hi hk
    obtain ⟨k, rfl⟩ : ∃ m, k = m + 3 := ⟨k - 3, by omega⟩
    have hlt : i < n := by omega
    have h2 := ih k (i + 1) (by omega) (by omega)
    have hZ : kz (sm (kn az ao) (kn bz bo) c) (i + 1) = kz (sm (kn az ao) (kn bz bo) c) i ||| (if sm (kn az ao) (kn bz bo) c i == some false then 2 ^ i else 0) := rfl
    have hO : ko (sm (kn az ao) (kn bz bo) c) (i + 1) = ko (sm (kn az ao) (kn bz bo) c) i ||| (if sm (kn az ao) (kn bz bo) c i == some true then 2 ^ i else 0) := rfl
    have hp : 2 ^ i < 18446744073709551616 := Nat.lt_of_lt_of_le (Nat.pow_lt_pow_right (by decide) (show i < 64 by omega)) (by decide)
    have hz6 : kz (sm (kn az ao) (kn bz bo) c) i < 18446744073709551616 := up64 (n := i) (by omega) (kz_lt _ _)
    have ho6 : ko (sm (kn az ao) (kn bz bo) c) i < 18446744073709551616 := up64 (n := i) (by omega) (ko_lt _ _)
    rw [knownbits_add.l0, if_pos (by omega), if_pos (by omega), bit_at (up64 hn haz) (by omega), bit_at (up64 hn hao) (by omega), bit_at (up64 hn hbz) (by omega), bit_at (up64 hn hbo) (by omega), ← kn_z (i := i) da, ← kn_z (i := i) db, ← kn_o az ao i, ← kn_o bz bo i, shl_one (by omega)]
    rw [show cr (kn az ao) (kn bz bo) c (i + 1) = maj (kn az ao i) (kn bz bo i) (cr (kn az ao) (kn bz bo) c i) from rfl] at h2
    have es : sm (kn az ao) (kn bz bo) c i = sum3 (kn az ao i) (kn bz bo i) (cr (kn az ao) (kn bz bo) c i) := rfl
    rw [es] at hZ hO
    rw [← wr hlt hn] at h2
    generalize kz (sm (kn az ao) (kn bz bo) c) i = Z at *
    generalize ko (sm (kn az ao) (kn bz bo) c) i = O at *
    generalize kz (sm (kn az ao) (kn bz bo) c) (i + 1) = Z1 at *
    generalize ko (sm (kn az ao) (kn bz bo) c) (i + 1) = O1 at *
    generalize cr (kn az ao) (kn bz bo) c i = q at *
    generalize kn az ao i = x at *
    generalize kn bz bo i = y at *
    have orz := nor hz6 hp
    have oro := nor ho6 hp
    refine Eq.trans (b := knownbits_add.j1 (k + 2) ((2 ^ i : Nat) : Int) (c0 x + c0 y + c0 q) (c1 x + c1 y + c1 q) w (i : Int) az ao bz bo Z O) ?_ ?_
    · clear orz oro h2 ih
      rcases x with _ | _ | _ <;> rcases y with _ | _ | _ <;> rcases q with _ | _ | _ <;> simp [ki, c0, c1, wrap64, wrap_u64]
    have e2 : knownbits_add.j1 (k + 2) ((2 ^ i : Nat) : Int) (c0 x + c0 y + c0 q) (c1 x + c1 y + c1 q) w (i : Int) az ao bz bo Z O = knownbits_add.j2 (k + 1) (c0 x + c0 y + c0 q) (c1 x + c1 y + c1 q) w (i : Int) az ao bz bo Z1 O1 := by
      rw [knownbits_add.j1, orz, oro, hZ, hO]
      clear orz oro h2 ih hZ hO
      rcases x with _ | _ | _ <;> rcases y with _ | _ | _ <;> rcases q with _ | _ | _ <;> simp [c0, c1, sum3, wrap64]
    rw [e2, knownbits_add.j2]
    refine Eq.trans ?_ h2
    clear orz oro h2 ih hZ hO e2
    rcases x with _ | _ | _ <;> rcases y with _ | _ | _ <;> rcases q with _ | _ | _ <;> simp [maj, ki, c0, c1]
theorem kadd (da : az &&& ao = 0) (db : bz &&& bo = 0) (c : Option Bool) (hk : 256 < Q) : knownbits_add.f w az ao bz bo (ki c) = some ((kz (sm (kn az ao) (kn bz bo) c) n : Int), (ko (sm (kn az ao) (kn bz bo) c) n : Int)) :=
  kadd_loop hw hn haz hao hbz hbo da db c n Q 0 (by omega) (by omega)
end
end Go.Proofs.YthhhegblccoonaaGreatDoor.Kb
/- Known bits: shifts. -/
namespace Go.Proofs.YthhhegblccoonaaGreatDoor.Kb
set_option linter.unusedVariables false
set_option linter.unusedSimpArgs false
set_option linter.unusedSectionVars false
open Go.RowKit Go.Proofs.YthhhegblccoonaaGreatDoor.P Go.Proofs.YthhhegblccoonaaGreatDoorW.PrintWords Wd Im Iv Tg Ft

theorem kexact {w : Int} {z o n : Nat} (hw : w = n) (h1 : 1 ≤ n) (hn : n ≤ 64) (hz : z < 2 ^ n) (ho : o < 2 ^ n) (d : z &&& o = 0) : knownbits_Exact.f w z o = some (if z ||| o = 2 ^ n - 1 then ((o : Int), true) else (0, false)) := by
  have hnn : nn w = n := by have := nn_of (w := w) (by omega) (by omega); omega
  unfold knownbits_Exact.f
  rw [kvalid_eq (up64 hn hz) (up64 hn ho), decide_eq_true (by rw [KV, hnn]; exact ⟨by omega, hz, ho, d⟩), Option.bind_some, if_pos rfl, hw, kmaskN hn, Option.bind_some, nor (up64 hn hz) (up64 hn ho)]
  by_cases c : z ||| o = 2 ^ n - 1
  · rw [if_pos (by rw [c]), if_pos c]
  · rw [if_neg (by omega), if_neg c]
theorem rexact {w : Int} {z o n : Nat} (hw : w = n) (h1 : 1 ≤ n) (hn : n ≤ 64) (hz : z < 2 ^ n) (ho : o < 2 ^ n) (d : z &&& o = 0) (hk : 64 < Q) : jacquardref12_Exact.f w z o = some (decide (z ||| o = 2 ^ n - 1)) := by
  have hnn : nn w = n := by have := nn_of (w := w) (by omega) (by omega); omega
  unfold jacquardref12_Exact.f
  rw [rkvalid_eq (up64 hn hz) (up64 hn ho) w hk, decide_eq_true (by rw [KV, hnn]; exact ⟨by omega, hz, ho, d⟩), Option.bind_some, if_pos rfl, rmask_eq (by omega) hk, Option.bind_some, nor (up64 hn hz) (up64 hn ho), hnn, mnat]
  congr 1
  rw [Bool.eq_iff_iff]
  simp only [beq_iff_eq, decide_eq_true_eq]
  omega
/-- The bits of a, moved. -/
def mvf (z o n : Nat) (s : Int) (v : Option Bool) (i : Nat) : Option Bool := if 0 ≤ (i : Int) + s ∧ (i : Int) + s < n then kn z o ((i : Int) + s).toNat else v
theorem rshifted {z o n : Nat} {w : Int} (hw : w = n) (hn : n ≤ 64) (hz : z < 2 ^ n) (ho : o < 2 ^ n) {s : Int} (hs : -64 ≤ s ∧ s ≤ 64) (v : Option Bool) (hk : 200 < Q) :
    jacquardref12_shifted.f w z o s (ki v) = some ((kz (mvf z o n s v) n : Int), (ko (mvf z o n s v) n : Int)) := by
  have loop : ∀ (d k i : Nat), i + d = n → 2 * d < k → jacquardref12_shifted.l0 k w s (ki v) (i : Int) z o (kz (mvf z o n s v) i : Int) (ko (mvf z o n s v) i : Int) = some ((kz (mvf z o n s v) n : Int), (ko (mvf z o n s v) n : Int)) := by
    intro d
    induction d with
    | zero =>
      intro k i hi hk
      obtain ⟨k, rfl⟩ : ∃ m, k = m + 1 := ⟨k - 1, by omega⟩
      obtain rfl : i = n := by omega
      rw [jacquardref12_shifted.l0, if_neg (by omega)]
    | succ d ih =>
      intro k i hi hk
      obtain ⟨k, rfl⟩ : ∃ m, k = m + 2 := ⟨k - 2, by omega⟩
      have hlt : i < n := by omega
      have h2 := ih k (i + 1) (by omega) (by omega)
      have hput := put0 hn hlt (mvf z o n s v)
      have e : wrap64 ((i : Int) + s) = (i : Int) + s := wrap64_id (by omega) (by omega)
      rw [jacquardref12_shifted.l0, if_pos (by omega), e]
      by_cases c : 0 ≤ (i : Int) + s ∧ (i : Int) + s < n
      · have em : mvf z o n s v i = kn z o ((i : Int) + s).toNat := if_pos c
        have et : (((i : Int) + s).toNat : Int) = (i : Int) + s := by omega
        rw [em] at hput
        have hk1 := known_eq (i := ((i : Int) + s).toNat) (up64 hn hz) (up64 hn ho) (by omega)
        rw [et] at hk1
        rw [if_pos c.1, decide_eq_true (by omega), jacquardref12_shifted.j1, if_pos rfl, e, hk1, Option.bind_some, hput, Option.bind_some, wr hlt hn]
        exact h2
      · have em : mvf z o n s v i = v := if_neg c
        rw [em] at hput
        have hj : jacquardref12_shifted.j1 (k + 1) w s (ki v) (i : Int) (ki v) false z o (kz (mvf z o n s v) i : Int) (ko (mvf z o n s v) i : Int) = some ((kz (mvf z o n s v) n : Int), (ko (mvf z o n s v) n : Int)) := by
          rw [jacquardref12_shifted.j1, if_neg (by decide), hput, Option.bind_some, wr hlt hn]; exact h2
        by_cases c2 : (i : Int) + s ≥ 0
        · rw [if_pos c2, decide_eq_false (by omega)]; exact hj
        · rw [if_neg c2]; exact hj
  exact loop n Q 0 (by omega) (by omega)
/-- What is known of a shift by s. -/
def fsh (op : Int) (n s z o i : Nat) : Option Bool :=
  if op = 12 then (if s ≤ i then kn z o (i - s) else some false)
  else if i + s < n then kn z o (i + s) else if op = 13 then some false else kn z o (n - 1)
theorem kz_congr {f g : Nat → Option Bool} {n : Nat} (h : ∀ i, i < n → f i = g i) : kz f n = kz g n ∧ ko f n = ko g n := by
  constructor <;> (apply Nat.eq_of_testBit_eq; intro i; first | rw [tb_kz, tb_kz] | rw [tb_ko, tb_ko]) <;> (by_cases c : i < n <;> simp [c]; rw [h i c])
/-- Two words are the packed bits. -/
theorem is_kz {f : Nat → Option Bool} {n x : Nat} (h : ∀ i, x.testBit i = (decide (i < n) && f i == some false)) : x = kz f n := by
  apply Nat.eq_of_testBit_eq; intro i; rw [h, tb_kz]
theorem is_ko {f : Nat → Option Bool} {n x : Nat} (h : ∀ i, x.testBit i = (decide (i < n) && f i == some true)) : x = ko f n := by
  apply Nat.eq_of_testBit_eq; intro i; rw [h, tb_ko]
theorem shl_m {a s : Nat} (hs : s ≤ 64) : shl .u64 (a : Int) (s : Int) = ((a * 2 ^ s % 2 ^ 64 : Nat) : Int) := by
  unfold shl
  rw [show min (s : Int).toNat (IntKind.bits .u64) = s by show min _ 64 = _; omega, wrap_u64, pnat, ← Int.natCast_mul]
  omega
theorem tb_shl {a s i : Nat} : (a * 2 ^ s % 2 ^ 64).testBit i = (decide (i < 64) && (decide (s ≤ i) && a.testBit (i - s))) := by
  rw [Nat.testBit_mod_two_pow, Nat.testBit_mul_two_pow]
theorem tb_shr {a s i : Nat} : (a / 2 ^ s).testBit i = a.testBit (i + s) := by
  rw [Nat.testBit_div_two_pow, Nat.add_comm]
theorem m_lt (a : Nat) : a % 2 ^ 64 < 18446744073709551616 := Nat.mod_lt _ (by decide)
theorem d_lt {a s : Nat} (h : a < 18446744073709551616) : a / 2 ^ s < 18446744073709551616 := Nat.lt_of_le_of_lt (Nat.div_le_self _ _) h
theorem wr_n {w : Int} {n : Nat} (hw : w = n) (hn : n ≤ 64) : IntKind.u64.wrap w = n := by rw [wrap_u64]; omega
section
variable {z o n : Nat} {w : Int} (hw : w = n) (h1 : 1 ≤ n) (hn : n ≤ 64) (hz : z < 2 ^ n) (ho : o < 2 ^ n) (d : z &&& o = 0)
include hw h1 hn hz ho d
theorem kshifted {op : Int} (hop : op = 12 ∨ op = 13 ∨ op = 14) (b : Nat) (hb : b < 18446744073709551616) :
    knownbits_shifted.f op w z o (b : Int) = some ((kz (fsh op n (min b n) z o) n : Int), (ko (fsh op n (min b n) z o) n : Int)) := by
  have hz6 := up64 hn hz
  have ho6 := up64 hn ho
  have hF := F_lt hn
  unfold knownbits_shifted.f
  rw [hw, kmaskN hn, Option.bind_some, wr_n rfl hn]
  rcases hop with rfl | rfl | rfl
  · rw [if_neg (by decide)]
    by_cases c : n ≤ b
    · rw [if_pos (by omega), Nat.min_eq_right c]
      have e1 : 2 ^ n - 1 = kz (fsh 12 n n z o) n := is_kz fun i => by
        rw [tb_F]; unfold fsh
        by_cases hi : i < n
        · simp [hi, show ¬ n ≤ i by omega]
        · simp [hi]
      have e2 : 0 = ko (fsh 12 n n z o) n := is_ko fun i => by
        unfold fsh
        by_cases hi : i < n
        · simp [show ¬ n ≤ i by omega]
        · simp [hi]
      rw [← e1, ← e2]; rfl
    · rw [if_neg (by omega), if_pos rfl, if_pos (by omega), Nat.min_eq_left (by omega), wrap64_id (by omega) (by omega), kmaskN (by omega), Option.bind_some, shl_m (by omega), shl_m (by omega), nor (m_lt _) (F_lt (by omega)), nand (or_lt (n := 64) (m_lt _) (F_lt (by omega))) hF, nand (m_lt _) hF]
      have e1 : ((z * 2 ^ b % 2 ^ 64) ||| (2 ^ b - 1)) &&& (2 ^ n - 1) = kz (fsh 12 n b z o) n := is_kz fun i => by
        rw [Nat.testBit_and, Nat.testBit_or, tb_shl, tb_F, tb_F]; unfold fsh
        rw [if_pos rfl]
        by_cases hi : i < n
        · by_cases hb : b ≤ i
          · rw [if_pos hb, kn_z d]; simp [hi, hb, show i < 64 by omega, show ¬ i < b by omega]
          · rw [if_neg hb]; simp [hi, hb]; omega
        · simp [hi]
      have e2 : (o * 2 ^ b % 2 ^ 64) &&& (2 ^ n - 1) = ko (fsh 12 n b z o) n := is_ko fun i => by
        rw [Nat.testBit_and, tb_shl, tb_F]; unfold fsh
        rw [if_pos rfl]
        by_cases hi : i < n
        · by_cases hb : b ≤ i
          · rw [if_pos hb, kn_o]; simp [hi, hb, show i < 64 by omega]
          · rw [if_neg hb]; simp [hi, hb]
        · simp [hi]
      rw [e1, e2]
  · rw [if_neg (by decide)]
    by_cases c : n ≤ b
    · rw [if_pos (by omega), Nat.min_eq_right c]
      have e1 : 2 ^ n - 1 = kz (fsh 13 n n z o) n := is_kz fun i => by
        rw [tb_F]; unfold fsh
        simp [show ¬ i + n < n by omega]
      have e2 : 0 = ko (fsh 13 n n z o) n := is_ko fun i => by
        unfold fsh
        simp [show ¬ i + n < n by omega]
      rw [← e1, ← e2]; rfl
    · rw [if_neg (by omega), if_neg (by decide), if_pos (by omega), Nat.min_eq_left (by omega), wrap64_id (by omega) (by omega), khigh rfl hn (by omega), Option.bind_some, shr_n (by omega), shr_n (by omega), nor (d_lt hz6) (up64 hn (hi_lt _ _))]
      have e1 : (z / 2 ^ b) ||| hi n b = kz (fsh 13 n b z o) n := is_kz fun i => by
        rw [Nat.testBit_or, tb_shr, tb_hi]; unfold fsh
        rw [if_neg (by decide)]
        by_cases hi : i + b < n
        · rw [if_pos hi, kn_z d]; simp [show i < n by omega, show ¬ n - b ≤ i by omega]
        · rw [if_neg hi, tb_big hz (by omega)]; simp; omega
      have e2 : o / 2 ^ b = ko (fsh 13 n b z o) n := is_ko fun i => by
        rw [tb_shr]; unfold fsh
        rw [if_neg (by decide)]
        by_cases hi : i + b < n
        · rw [if_pos hi, kn_o]; simp [show i < n by omega]
        · rw [if_neg hi, tb_big ho (by omega)]; simp
      rw [e1, e2]
  · have hm : mn (b : Int) (IntKind.u64.wrap (wrap64 ((n : Int) - 1))) = ((min b (n - 1) : Nat) : Int) := by
      rw [wrap64_id (by omega) (by omega), wrap_u64]
      unfold mn; split <;> omega
    have hwm : wrap64 ((n : Int) - 1) = ((n - 1 : Nat) : Int) := by rw [wrap64_id (by omega) (by omega)]; omega
    rw [if_pos rfl, hm, hwm, if_pos (by omega), if_pos (by omega), shl_one (by omega)]
    have hp : 2 ^ (n - 1) < 18446744073709551616 := Nat.lt_of_lt_of_le (Nat.pow_lt_pow_right (by decide) (show n - 1 < 64 by omega)) (by decide)
    rw [nand hz6 hp, nand ho6 hp, wrap64_id (by omega) (by omega), khigh rfl hn (by omega), Option.bind_some, Option.bind_some, Option.bind_some, shr_n (by omega), shr_n (by omega), nor (d_lt hz6) (up64 hn (hi_lt _ _)), nor (d_lt ho6) (up64 hn (hi_lt _ _))]
    generalize hs : min b (n - 1) = s
    have ef : kz (fsh 14 n (min b n) z o) n = kz (fsh 14 n s z o) n ∧ ko (fsh 14 n (min b n) z o) n = ko (fsh 14 n s z o) n := by
      apply kz_congr
      intro i hi
      unfold fsh
      by_cases c : n ≤ b
      · simp only [show ¬ (14 : Int) = 12 by decide, show ¬ (14 : Int) = 13 by decide, show ¬ i + min b n < n by omega, if_false]
        by_cases c2 : i + s < n
        · rw [if_pos c2, show i + s = n - 1 by omega]
        · rw [if_neg c2]
      · rw [show min b n = s by omega]
    rw [ef.1, ef.2]
    have fz : ∀ x, (x = if z.testBit (n - 1) = true then z / 2 ^ s ||| hi n s else z / 2 ^ s) → x = kz (fsh 14 n s z o) n := fun x hx => is_kz fun i => by
      have : x.testBit i = (z.testBit (i + s) || (z.testBit (n - 1) && (decide (i < n) && decide (n - s ≤ i)))) := by
        rw [hx]; split
        · rename_i h; rw [Nat.testBit_or, tb_shr, tb_hi, h]; simp
        · rename_i h; rw [tb_shr]; simp [h]
      rw [this]; unfold fsh
      rw [if_neg (by decide)]
      by_cases hi : i + s < n
      · rw [if_pos hi, kn_z d]; simp [show i < n by omega, show ¬ n - s ≤ i by omega]
      · rw [if_neg hi, if_neg (by decide), kn_z d, tb_big hz (by omega)]
        cases z.testBit (n - 1) <;> simp; omega
    have fo : ∀ x, (x = if o.testBit (n - 1) = true then o / 2 ^ s ||| hi n s else o / 2 ^ s) → x = ko (fsh 14 n s z o) n := fun x hx => is_ko fun i => by
      have : x.testBit i = (o.testBit (i + s) || (o.testBit (n - 1) && (decide (i < n) && decide (n - s ≤ i)))) := by
        rw [hx]; split
        · rename_i h; rw [Nat.testBit_or, tb_shr, tb_hi, h]; simp
        · rename_i h; rw [tb_shr]; simp [h]
      rw [this]; unfold fsh
      rw [if_neg (by decide)]
      by_cases hi : i + s < n
      · rw [if_pos hi, kn_o]; simp [show i < n by omega, show ¬ n - s ≤ i by omega]
      · rw [if_neg hi, if_neg (by decide), kn_o, tb_big ho (by omega)]
        cases o.testBit (n - 1) <;> simp; omega
    have sz := sbit z (n - 1)
    have so := sbit o (n - 1)
    have cast0 : ∀ a : Nat, ((a : Int) = 0) = (a = 0) := fun a => by simp
    simp only [cast0, sz, so]
    cases ez : z.testBit (n - 1) <;> cases eo : o.testBit (n - 1) <;> simp only [ez, eo, if_true, if_false, Bool.true_eq_false, Bool.false_eq_true] at fz fo ⊢ <;> rw [← fz _ rfl, ← fo _ rfl]
theorem rright_exact {op : Int} (hop : op = 12 ∨ op = 13 ∨ op = 14) {bz bo : Nat} (hbz : bz < 2 ^ n) (hbo : bo < 2 ^ n) (db : bz &&& bo = 0) (hx : bz ||| bo = 2 ^ n - 1) (hk : 202 < Q) :
    jacquardref12_right.f op w z o bz bo = some ((kz (fsh op n (min bo n) z o) n : Int), (ko (fsh op n (min bo n) z o) n : Int)) := by
  have hbo6 := up64 hn hbo
  have hwm : wrap64 (w - 1) = ((n - 1 : Nat) : Int) := by rw [wrap64_id (by omega) (by omega)]; omega
  unfold jacquardref12_right.f
  rw [hwm, known_eq (up64 hn hz) (up64 hn ho) (by omega), Option.bind_some, rexact hw h1 hn hbz hbo db (by omega), Option.bind_some, if_pos (decide_eq_true hx), wr_n hw hn]
  have hj : jacquardref12_right.j1 Q op w (ki (kn z o (n - 1))) ((min bo n : Nat) : Int) z o = some ((kz (fsh op n (min bo n) z o) n : Int), (ko (fsh op n (min bo n) z o) n : Int)) := by
    have hs : min bo n ≤ n := Nat.min_le_right _ _
    generalize min bo n = s at *
    obtain ⟨k, hQ⟩ := Q_ex 1
    rw [hQ, jacquardref12_right.j1]
    rcases hop with rfl | rfl | rfl
    · have h := rshifted hw hn hz ho (s := -(s : Int)) (by omega) (some false) (by omega)
      rw [if_pos rfl, wrap64_id (by omega) (by omega), show (0 : Int) = ki (some false) from rfl, h, Option.bind_some]
      have := kz_congr (f := mvf z o n (-(s : Int)) (some false)) (g := fsh 12 n s z o) (n := n) (fun i hi => by
        unfold mvf fsh
        rw [if_pos rfl]
        by_cases c : s ≤ i
        · rw [if_pos (by omega), if_pos c]; congr 1; omega
        · rw [if_neg (by omega), if_neg c])
      rw [this.1, this.2]
    · have h := rshifted hw hn hz ho (s := (s : Int)) (by omega) (some false) (by omega)
      rw [if_neg (by decide), if_pos rfl, show (0 : Int) = ki (some false) from rfl, h, Option.bind_some]
      have := kz_congr (f := mvf z o n (s : Int) (some false)) (g := fsh 13 n s z o) (n := n) (fun i hi => by
        unfold mvf fsh
        rw [if_neg (show ¬ (13 : Int) = 12 by decide)]
        by_cases c : i + s < n
        · rw [if_pos (by omega), if_pos c]; congr 1
        · rw [if_neg (by omega), if_neg c, if_pos rfl])
      rw [this.1, this.2]
    · have h := rshifted hw hn hz ho (s := (s : Int)) (by omega) (kn z o (n - 1)) (by omega)
      rw [if_neg (by decide), if_neg (by decide), h, Option.bind_some]
      have := kz_congr (f := mvf z o n (s : Int) (kn z o (n - 1))) (g := fsh 14 n s z o) (n := n) (fun i hi => by
        unfold mvf fsh
        rw [if_neg (show ¬ (14 : Int) = 12 by decide)]
        by_cases c : i + s < n
        · rw [if_pos (by omega), if_pos c]; congr 1
        · rw [if_neg (by omega), if_neg c, if_neg (by decide)])
      rw [this.1, this.2]
  by_cases c : bo < n
  · rw [if_pos (by omega), wrap64_id (by omega) (by omega), show ((bo : Nat) : Int) = ((min bo n : Nat) : Int) by rw [Nat.min_eq_left (by omega)]]; exact hj
  · rw [if_neg (by omega)]
    have e : w = ((min bo n : Nat) : Int) := by rw [Nat.min_eq_right (by omega)]; exact hw
    conv => lhs; arg 5; rw [e]
    exact hj
end
end Go.Proofs.YthhhegblccoonaaGreatDoor.Kb
/- Known bits: shifts by an unknown amount, products. -/
namespace Go.Proofs.YthhhegblccoonaaGreatDoor.Kb
set_option linter.unusedVariables false
set_option linter.unusedSimpArgs false
set_option linter.unusedSectionVars false
open Go.RowKit Go.Proofs.YthhhegblccoonaaGreatDoor.P Go.Proofs.YthhhegblccoonaaGreatDoorW.PrintWords Wd Im Iv Tg Ft

theorem Run.zero {p : Nat → Bool} {n : Nat} (h : 1 ≤ n → p 0 = false) : Run p n 0 := ⟨Nat.zero_le _, fun j hj => absurd hj (Nat.not_lt_zero j), fun hn => h hn⟩
theorem Run.uniq {p : Nat → Bool} {n s t : Nat} (hs : Run p n s) (ht : Run p n t) : s = t := by
  rcases Nat.lt_trichotomy s t with h | h | h
  · have := hs.2.2 (by have := ht.1; omega); rw [ht.2.1 s h] at this; exact absurd this (by decide)
  · exact h
  · have := ht.2.2 (by have := hs.1; omega); rw [hs.2.1 t h] at this; exact absurd this (by decide)
section
variable {z o n : Nat} {w : Int} (hw : w = n) (h1 : 1 ≤ n) (hn : n ≤ 64) (hz : z < 2 ^ n) (ho : o < 2 ^ n) (d : z &&& o = 0)
include hw hn hz ho d
theorem rtail {t : Nat} (hr : Run z.testBit n t) (hk : 64 < Q) : jacquardref12_tail.f w z o = some (t : Int) :=
  rtail_loop hw hn hz ho (hr.congr fun j _ => (kn_z d).symm) t Q 0 (by omega) (by have := hr.1; omega)
theorem rlead0 {t : Nat} (hr : Run (fun j => z.testBit (n - 1 - j)) n t) (hk : 64 < Q) : jacquardref12_lead.f w z o 0 = some (t : Int) :=
  rlead_loop hw hn hz ho (v := some false) (hr.congr fun j _ => (kn_z d).symm) t Q 0 (by omega) (by have := hr.1; omega)
omit d in
theorem rlead1 {t : Nat} (hr : Run (fun j => o.testBit (n - 1 - j)) n t) (hk : 64 < Q) : jacquardref12_lead.f w z o 1 = some (t : Int) :=
  rlead_loop hw hn hz ho (v := some true) (hr.congr fun j _ => (kn_o z o _).symm) t Q 0 (by omega) (by have := hr.1; omega)
/-- The reference's loop that fills the highest bits. -/
theorem rfill {t : Nat} (ht : t ≤ n) (v : Bool) (e : Nat) : ∀ k i : Nat, i + e = n → e < k → n - t ≤ i →
    jacquardref12_right.l0 k w (ki (some v)) (i : Int) (kz (fun j => if n - t ≤ j then some v else none) i : Int) (ko (fun j => if n - t ≤ j then some v else none) i : Int) =
      some ((kz (fun j => if n - t ≤ j then some v else none) n : Int), (ko (fun j => if n - t ≤ j then some v else none) n : Int)) := by
  have hQb := Q_big
  induction e with
  | zero =>
    intro k i hi hk _
    obtain ⟨k, rfl⟩ : ∃ m, k = m + 1 := ⟨k - 1, by omega⟩
    obtain rfl : i = n := by omega
    rw [jacquardref12_right.l0, if_neg (by omega)]
  | succ e ih =>
    intro k i hi hk hti
    obtain ⟨k, rfl⟩ : ∃ m, k = m + 1 := ⟨k - 1, by omega⟩
    have hlt : i < n := by omega
    have h2 := ih k (i + 1) (by omega) (by omega) (by omega)
    have hput := put0 hn hlt (fun j => if n - t ≤ j then some v else none)
    rw [if_pos hti] at hput
    rw [jacquardref12_right.l0, if_pos (by omega), hput, Option.bind_some, wr hlt hn]
    exact h2
include h1
/-- Shifts by an amount that is not known: the same result, and what it says. -/
theorem vague_ok {op : Int} (hop : op = 12 ∨ op = 13 ∨ op = 14) {bz bo : Nat} (hbz : bz < 2 ^ n) (hbo : bo < 2 ^ n) (db : bz &&& bo = 0) (hx : ¬ bz ||| bo = 2 ^ n - 1) (hk : 202 < Q) :
    ∃ Z O : Nat, Z < 2 ^ n ∧ O < 2 ^ n ∧ knownbits_vague.f op w z o = some ((Z : Int), (O : Int)) ∧ jacquardref12_right.f op w z o bz bo = some ((Z : Int), (O : Int)) ∧
      ((op = 12 ∧ O = 0 ∧ ∃ t, Run z.testBit n t ∧ Z = 2 ^ t - 1) ∨ (op = 13 ∧ O = 0 ∧ ∃ t, Run (fun j => z.testBit (n - 1 - j)) n t ∧ Z = hi n t) ∨
       (op = 14 ∧ ∃ t s, Run (fun j => z.testBit (n - 1 - j)) n t ∧ Z = hi n t ∧ Run (fun j => o.testBit (n - 1 - j)) n s ∧ O = hi n s)) := by
  have hwm : wrap64 (w - 1) = ((n - 1 : Nat) : Int) := by rw [wrap64_id (by omega) (by omega)]; omega
  unfold knownbits_vague.f jacquardref12_right.f
  rw [hwm, known_eq (up64 hn hz) (up64 hn ho) (by omega), Option.bind_some, rexact hw h1 hn hbz hbo db (by omega), Option.bind_some, if_neg (show ¬ decide (bz ||| bo = 2 ^ n - 1) = true by simpa using hx)]
  obtain ⟨t, hl, hr⟩ := klead hw h1 hn hz
  rcases hop with rfl | rfl | rfl
  · obtain ⟨t, hl, hr⟩ := ktail (o : Int) hn hz
    have htn := hr.1
    refine ⟨2 ^ t - 1, 0, ?_, Nat.two_pow_pos n, ?_, ?_, .inl ⟨rfl, rfl, t, hr, rfl⟩⟩
    · have := Nat.two_pow_pos t; have := Nat.pow_le_pow_right (show 0 < 2 by decide) htn; omega
    · rw [if_pos rfl, hl, Option.bind_some, show mn (t : Int) w = (t : Int) by unfold mn; split <;> omega, kmaskN (by omega), Option.bind_some]; rfl
    · rw [if_pos rfl, rtail hw hn hz ho d hr (by omega), Option.bind_some, show (0 : Int) = ((0 : Nat) : Int) from rfl, rzeros hw hn htn (Nat.zero_le _) (by omega), Option.bind_some, zf_lo htn, zf_o]
  · have htn := hr.1
    refine ⟨hi n t, 0, hi_lt _ _, Nat.two_pow_pos n, ?_, ?_, .inr (.inl ⟨rfl, rfl, t, hr, rfl⟩)⟩
    · rw [if_neg (by decide), if_pos rfl, hl, Option.bind_some, khigh hw hn htn, Option.bind_some]; rfl
    · rw [if_neg (by decide), if_pos rfl, rlead0 hw hn hz ho d hr (by omega), Option.bind_some, show (0 : Int) = ((0 : Nat) : Int) from rfl, rzeros hw hn (Nat.zero_le _) htn (by omega), Option.bind_some, zf_hi, zf_o]
  · have htn := hr.1
    obtain ⟨s, hl2, hr2⟩ := klead hw h1 hn ho
    have hsn := hr2.1
    refine ⟨hi n t, hi n s, hi_lt _ _, hi_lt _ _, ?_, ?_, .inr (.inr ⟨rfl, t, s, hr, rfl, hr2, rfl⟩)⟩
    · rw [if_neg (by decide), if_neg (by decide), hl, Option.bind_some, khigh hw hn htn, Option.bind_some, hl2, Option.bind_some, khigh hw hn hsn, Option.bind_some]
    · rw [if_neg (by decide), if_neg (by decide)]
      have hi0 : hi n 0 = 0 := by
        apply Nat.eq_of_testBit_eq; intro i; rw [tb_hi]
        by_cases c : i < n
        · simp [c]
        · simp [c]
      have z0 : z.testBit (n - 1) = false → t = 0 := fun h => hr.uniq (Run.zero fun _ => h)
      have o0 : o.testBit (n - 1) = false → s = 0 := fun h => hr2.uniq (Run.zero fun _ => h)
      have e1 := kn_z (i := n - 1) d
      have e2 := kn_o z o (n - 1)
      have fillz : ∀ (r : Nat), kz (fun j => if n - r ≤ j then some false else none) n = hi n r ∧ ko (fun j => if n - r ≤ j then some false else none) n = 0 := fun r => by
        constructor
        · refine (is_kz fun i => ?_).symm
          rw [tb_hi]; by_cases c : n - r ≤ i <;> simp [c]
        · refine (is_ko fun i => ?_).symm
          by_cases c : n - r ≤ i <;> simp [c]
      have fillo : ∀ (r : Nat), kz (fun j => if n - r ≤ j then some true else none) n = 0 ∧ ko (fun j => if n - r ≤ j then some true else none) n = hi n r := fun r => by
        constructor
        · refine (is_kz fun i => ?_).symm
          by_cases c : n - r ≤ i <;> simp [c]
        · refine (is_ko fun i => ?_).symm
          rw [tb_hi]; by_cases c : n - r ≤ i <;> simp [c]
      have start : ∀ (r : Nat) (v : Bool), kz (fun j => if n - r ≤ j then some v else none) (n - r) = 0 ∧ ko (fun j => if n - r ≤ j then some v else none) (n - r) = 0 := fun r v => kz_none fun i hi => if_neg (by omega)
      cases hk0 : kn z o (n - 1) with
      | none =>
        rw [hk0] at e1 e2
        have ez : t = 0 := z0 (by rw [← e1]; rfl)
        have eo : s = 0 := o0 (by rw [← e2]; rfl)
        rw [if_pos (by decide), ez, eo, hi0]; rfl
      | some v =>
        cases v
        · rw [hk0] at e1 e2
          have eo : s = 0 := o0 (by rw [← e2]; rfl)
          rw [if_neg (by decide), show ki (some false) = 0 from rfl, rlead0 hw hn hz ho d hr (by omega), Option.bind_some, show wrap64 (w - (t : Int)) = ((n - t : Nat) : Int) by rw [wrap64_id (by omega) (by omega)]; omega]
          have := rfill hw hn hz ho d htn false t Q (n - t) (by omega) (by omega) (Nat.le_refl _)
          rw [(start t false).1, (start t false).2, (fillz t).1, (fillz t).2] at this
          rw [eo, hi0]; exact this
        · rw [hk0] at e1 e2
          have ez : t = 0 := z0 (by rw [← e1]; rfl)
          rw [if_neg (by decide), show ki (some true) = 1 from rfl, rlead1 hw hn hz ho hr2 (by omega), Option.bind_some, show wrap64 (w - (s : Int)) = ((n - s : Nat) : Int) by rw [wrap64_id (by omega) (by omega)]; omega]
          have := rfill hw hn hz ho d hsn true s Q (n - s) (by omega) (by omega) (Nat.le_refl _)
          rw [(start s true).1, (start s true).2, (fillo s).1, (fillo s).2] at this
          rw [ez, hi0]; exact this
end
/-! ### Products -/
theorem rprod_loop {p Z O kk n : Nat} (hn : n ≤ 64) (hkk : kk ≤ n) (hp : p < 18446744073709551616) (hZ : Z < 2 ^ n) (hO : O < 2 ^ n) (d : Nat) : ∀ k i : Nat, i + d = kk → d < k →
    jacquardref12_product.l0 k (kk : Int) (p : Int) (i : Int) ((Z ||| kz (fun j => some (p.testBit j)) i : Nat) : Int) ((O ||| ko (fun j => some (p.testBit j)) i : Nat) : Int) =
      some (((Z ||| kz (fun j => some (p.testBit j)) kk : Nat) : Int), ((O ||| ko (fun j => some (p.testBit j)) kk : Nat) : Int)) := by
  have hQb := Q_big
  induction d with
  | zero =>
    intro k i hi hk
    obtain ⟨k, rfl⟩ : ∃ m, k = m + 1 := ⟨k - 1, by omega⟩
    obtain rfl : i = kk := by omega
    rw [jacquardref12_product.l0, if_neg (by omega)]
  | succ d ih =>
    intro k i hi hk
    obtain ⟨k, rfl⟩ : ∃ m, k = m + 1 := ⟨k - 1, by omega⟩
    have hlt : i < n := by omega
    have h2 := ih k (i + 1) (by omega) (by omega)
    have hput := put_gen (z := 0) (o := 0) (i := i) (by decide) (by decide) (by omega) (some (p.testBit i))
    have hz : ∀ i, kz (fun j => some (p.testBit j)) (i + 1) = kz (fun j => some (p.testBit j)) i ||| (if some (p.testBit i) == some false then 2 ^ i else 0) := fun _ => rfl
    have ho : ∀ i, ko (fun j => some (p.testBit j)) (i + 1) = ko (fun j => some (p.testBit j)) i ||| (if some (p.testBit i) == some true then 2 ^ i else 0) := fun _ => rfl
    rw [hz, ho, ← Nat.or_assoc, ← Nat.or_assoc] at h2
    have hl : ∀ {a : Nat}, a < 2 ^ i → a < 2 ^ n := fun h => Nat.lt_of_lt_of_le h (Nat.pow_le_pow_right (by decide) (by omega))
    have hb : ∀ b : Bool, (if b = true then 2 ^ i else 0) < 2 ^ n := fun b => by
      cases b
      · exact Nat.two_pow_pos n
      · exact Nat.pow_lt_pow_right (by decide) hlt
    rw [jacquardref12_product.l0, if_pos (by omega), nbit hp (by omega), Option.bind_some, show (if p.testBit i = true then (1 : Int) else 0) = ki (some (p.testBit i)) by cases p.testBit i <;> rfl, show ((0 : Int)) = ((0 : Nat) : Int) from rfl, hput, Option.bind_some]
    unfold jacquardref12_both.f
    rw [Option.bind_some, Nat.zero_or, Nat.zero_or, nor (up64 hn (or_lt hZ (hl (kz_lt _ _)))) (up64 hn (hb _)), nor (up64 hn (or_lt hO (hl (ko_lt _ _)))) (up64 hn (hb _)), wr hlt hn]
    exact h2
theorem dvd_bits {a t : Nat} (h : ∀ j, j < t → a.testBit j = false) : 2 ^ t ∣ a := by
  refine Nat.dvd_of_mod_eq_zero ?_
  apply Nat.eq_of_testBit_eq; intro i
  rw [Nat.testBit_mod_two_pow]
  by_cases c : i < t
  · simp [h i c]
  · simp [c]
theorem bits_dvd {a t i : Nat} (h : 2 ^ t ∣ a) (hi : i < t) : a.testBit i = false := by
  obtain ⟨b, rfl⟩ := h
  rw [Nat.testBit_two_pow_mul]; simp; omega
/-- What is known of a product. -/
def prodF (p T kk i : Nat) : Option Bool := if i < T then some false else if i < kk then some (p.testBit i) else none
theorem prod_ok {az ao bz bo n : Nat} {w : Int} (hw : w = n) (h1 : 1 ≤ n) (hn : n ≤ 64) (haz : az < 2 ^ n) (hao : ao < 2 ^ n) (hbz : bz < 2 ^ n) (hbo : bo < 2 ^ n) (da : az &&& ao = 0) (db : bz &&& bo = 0) (hk : 70 < Q) :
    ∃ la lb ta tb : Nat, Run (az ||| ao).testBit n la ∧ Run (bz ||| bo).testBit n lb ∧ Run az.testBit n ta ∧ Run bz.testBit n tb ∧
      ∀ F, F = prodF (((ao &&& (2 ^ min la lb - 1)) * (bo &&& (2 ^ min la lb - 1))) % 2 ^ 64) (min (ta + tb) n) (min la lb) →
      knownbits_product.f w az ao bz bo = some ((kz F n : Int), (ko F n : Int)) ∧ jacquardref12_product.f w az ao bz bo = some ((kz F n : Int), (ko F n : Int)) := by
  obtain ⟨la, ea, ra⟩ := lowones hn (or_lt haz hao)
  obtain ⟨lb, eb, rb⟩ := lowones hn (or_lt hbz hbo)
  obtain ⟨ta, eta, rta⟩ := ktail (ao : Int) hn haz
  obtain ⟨tb, etb, rtb⟩ := ktail (bo : Int) hn hbz
  refine ⟨la, lb, ta, tb, ra, rb, rta, rtb, fun F hF => ?_⟩
  have haz6 := up64 hn haz
  have hao6 := up64 hn hao
  have hbz6 := up64 hn hbz
  have hbo6 := up64 hn hbo
  have q1 := ra.1
  have q2 := rb.1
  have q3 := rta.1
  have q4 := rtb.1
  have hm64 : min la lb ≤ 64 := by omega
  have hMk : 2 ^ min la lb - 1 < 18446744073709551616 := F_lt hm64
  have hTk : 2 ^ min (ta + tb) n - 1 < 18446744073709551616 := F_lt (by omega)
  have hp6 : (ao &&& (2 ^ min la lb - 1)) * (bo &&& (2 ^ min la lb - 1)) % 2 ^ 64 < 18446744073709551616 := Nat.mod_lt _ (by decide)
  have hwp : IntKind.u64.wrap (((ao &&& (2 ^ min la lb - 1) : Nat) : Int) * ((bo &&& (2 ^ min la lb - 1) : Nat) : Int)) = ((((ao &&& (2 ^ min la lb - 1)) * (bo &&& (2 ^ min la lb - 1))) % 2 ^ 64 : Nat) : Int) := by
    rw [wrap_u64, ← Int.natCast_mul]; omega
  have low0 : ∀ i, i < min (ta + tb) n → ((ao &&& (2 ^ min la lb - 1)) * (bo &&& (2 ^ min la lb - 1)) % 2 ^ 64).testBit i = false := fun i hi => by
    have zero : ∀ {z o t : Nat}, z &&& o = 0 → Run z.testBit n t → ∀ m, 2 ^ t ∣ (o &&& m) := fun hd hr m => dvd_bits fun j hj => by
      rw [Nat.testBit_and]
      have e1 := hr.2.1 j hj
      have := disj.1 hd j
      cases e2 : Nat.testBit _ j
      · simp
      · exact absurd ⟨e1, e2⟩ this
    have hd : 2 ^ (ta + tb) ∣ (ao &&& (2 ^ min la lb - 1)) * (bo &&& (2 ^ min la lb - 1)) := by
      rw [Nat.pow_add]; exact Nat.mul_dvd_mul (zero da rta _) (zero db rtb _)
    rw [Nat.testBit_mod_two_pow, bits_dvd hd (by omega)]; simp
  generalize hP : (ao &&& (2 ^ min la lb - 1)) * (bo &&& (2 ^ min la lb - 1)) % 2 ^ 64 = p at *
  constructor
  · unfold knownbits_product.f
    rw [nor haz6 hao6, ea, Option.bind_some, nor hbz6 hbo6, eb, Option.bind_some, show mn (mn (la : Int) (lb : Int)) w = ((min la lb : Nat) : Int) by unfold mn; split <;> split <;> omega, kmaskN hm64, Option.bind_some, eta, Option.bind_some, etb, Option.bind_some,
      show mn (wrap64 ((ta : Int) + (tb : Int))) w = ((min (ta + tb) n : Nat) : Int) by rw [wrap64_id (by omega) (by omega)]; unfold mn; split <;> omega, kmaskN (by omega), Option.bind_some, nand hao6 hMk, nand hbo6 hMk, hwp, not_eq hp6, nand (not_lt hp6) hMk, nor (up64 hm64 (Nat.lt_of_le_of_lt Nat.and_le_right (by have := Nat.two_pow_pos (min la lb); omega))) hTk, nand hp6 hMk, nandn (up64 hm64 (Nat.lt_of_le_of_lt Nat.and_le_right (by have := Nat.two_pow_pos (min la lb); omega))) hTk]
    have e1 : ((18446744073709551615 ^^^ p) &&& (2 ^ min la lb - 1)) ||| (2 ^ min (ta + tb) n - 1) = kz F n := is_kz fun i => by
      rw [Nat.testBit_or, Nat.testBit_and, tb_not, tb_F, tb_F, hF]; unfold prodF
      by_cases c1 : i < min (ta + tb) n
      · rw [if_pos c1]; simp [c1]; omega
      · rw [if_neg c1]
        by_cases c2 : i < min la lb
        · rw [if_pos c2]; simp [c1, c2, show i < 64 by omega, show i < n by omega]
        · rw [if_neg c2]; simp [c1, c2]
    have e2 : ndiff (p &&& (2 ^ min la lb - 1)) (2 ^ min (ta + tb) n - 1) = ko F n := is_ko fun i => by
      rw [tb_ndiff, Nat.testBit_and, tb_F, tb_F, hF]; unfold prodF
      by_cases c1 : i < min (ta + tb) n
      · rw [if_pos c1]; simp [c1]
      · rw [if_neg c1]
        by_cases c2 : i < min la lb
        · rw [if_pos c2]; simp [c1, c2, show i < n by omega]
        · rw [if_neg c2]; simp [c1, c2]
    rw [e1, e2]
  · unfold jacquardref12_product.f
    have la12 : jacquardref12_low.f w az ao = some (la : Int) := rlow_loop hw hn haz hao (ra.congr fun j _ => by
      rw [Nat.testBit_or]; unfold kn; cases az.testBit j <;> cases ao.testBit j <;> rfl) la Q 0 (by omega) (by omega)
    have lb12 : jacquardref12_low.f w bz bo = some (lb : Int) := rlow_loop hw hn hbz hbo (rb.congr fun j _ => by
      rw [Nat.testBit_or]; unfold kn; cases bz.testBit j <;> cases bo.testBit j <;> rfl) lb Q 0 (by omega) (by omega)
    have hmk : jacquardref12_Mask.f ((min la lb : Nat) : Int) = some ((2 ^ min la lb - 1 : Nat) : Int) := by
      rw [rmask_eq (by omega) (by omega), mnat]
      have := nn_of (w := ((min la lb : Nat) : Int)) (by omega) (by omega)
      rw [show nn ((min la lb : Nat) : Int) = min la lb by omega]
    rw [rtail hw hn haz hao da rta (by omega), Option.bind_some, rtail hw hn hbz hbo db rtb (by omega), Option.bind_some,
      show mn w (wrap64 ((ta : Int) + (tb : Int))) = ((min (ta + tb) n : Nat) : Int) by rw [wrap64_id (by omega) (by omega)]; unfold mn; split <;> omega, show (0 : Int) = ((0 : Nat) : Int) from rfl, rzeros hw hn (Nat.min_le_right _ _) (Nat.zero_le _) (by omega), Option.bind_some, la12, Option.bind_some, lb12, Option.bind_some,
      show mn (la : Int) (lb : Int) = ((min la lb : Nat) : Int) by unfold mn; split <;> omega, hmk, Option.bind_some, Option.bind_some, nand hao6 hMk, nand hbo6 hMk, hwp, zf_lo (Nat.min_le_right _ _), zf_o]
    have hZ : 2 ^ min (ta + tb) n - 1 < 2 ^ n := by
      have := Nat.two_pow_pos (min (ta + tb) n); have := Nat.pow_le_pow_right (show 0 < 2 by decide) (Nat.min_le_right (ta + tb) n); omega
    have hl := rprod_loop (p := p) (Z := 2 ^ min (ta + tb) n - 1) (O := 0) (kk := min la lb) (n := n) hn (by omega) hp6 hZ (Nat.two_pow_pos n) (min la lb) Q 0 (by omega) (by omega)
    have z0 : kz (fun j => some (p.testBit j)) 0 = 0 := rfl
    have o0 : ko (fun j => some (p.testBit j)) 0 = 0 := rfl
    rw [z0, o0, Nat.or_zero, Nat.or_zero, Nat.zero_or] at hl
    have e1 : 2 ^ min (ta + tb) n - 1 ||| kz (fun j => some (p.testBit j)) (min la lb) = kz F n := is_kz fun i => by
      rw [Nat.testBit_or, tb_F, tb_kz, hF]; unfold prodF
      by_cases c1 : i < min (ta + tb) n
      · rw [if_pos c1]; simp [c1]; omega
      · rw [if_neg c1]
        by_cases c2 : i < min la lb
        · rw [if_pos c2]; simp [c1, c2, show i < n by omega]
        · rw [if_neg c2]; simp [c1, c2]
    have e2 : ko (fun j => some (p.testBit j)) (min la lb) = ko F n := is_ko fun i => by
      rw [tb_ko, hF]; unfold prodF
      by_cases c1 : i < min (ta + tb) n
      · rw [if_pos c1, low0 i c1]; simp
      · rw [if_neg c1]
        by_cases c2 : i < min la lb
        · rw [if_pos c2]; simp [c2, show i < n by omega]
        · rw [if_neg c2]; simp [c2]
    rw [e1, e2] at hl
    exact hl
end Go.Proofs.YthhhegblccoonaaGreatDoor.Kb
/- Known bits: the count of ones; remainders. -/
namespace Go.Proofs.YthhhegblccoonaaGreatDoor.Kb
set_option linter.unusedVariables false
set_option linter.unusedSimpArgs false
set_option linter.unusedSectionVars false
open Go.RowKit Go.Proofs.YthhhegblccoonaaGreatDoor.P Go.Proofs.YthhhegblccoonaaGreatDoorW.PrintWords Wd Im Iv Tg Ft

/-! ### The count of ones, byte by byte -/
def VL : List Nat → Nat
  | [] => 0
  | y :: l => y + 256 * VL l
theorem and_split (X Y x y : Nat) (hx : x < 256) (hy : y < 256) : (x + 256 * X) &&& (y + 256 * Y) = (x &&& y) + 256 * (X &&& Y) := by
  have e : ∀ a b c d : Nat, a % 256 = b % 256 → a / 256 = b / 256 → a = b := by omega
  have hxy : x &&& y < 2 ^ 8 := Nat.and_lt_two_pow _ hy
  apply e _ _ 0 0
  · have := Nat.and_mod_two_pow (a := x + 256 * X) (b := y + 256 * Y) (n := 8)
    rw [show (256 : Nat) = 2 ^ 8 from rfl, this, show (x + 2 ^ 8 * X) % 2 ^ 8 = x by omega, show (y + 2 ^ 8 * Y) % 2 ^ 8 = y by omega]; omega
  · have := Nat.and_div_two_pow (a := x + 256 * X) (b := y + 256 * Y) (n := 8)
    rw [show (256 : Nat) = 2 ^ 8 from rfl, this, show (x + 2 ^ 8 * X) / 2 ^ 8 = X by omega, show (y + 2 ^ 8 * Y) / 2 ^ 8 = Y by omega]; omega
def A8 (y : Nat) : Nat := (y / 2 &&& 0x55) + (y &&& 0x55)
def B8 (y : Nat) : Nat := (y / 4 &&& 0x33) + (y &&& 0x33)
def C8 (y : Nat) : Nat := (y / 16 + y) % 16
theorem a_fact : ∀ y : Fin 256, (128 + y.1 / 2) &&& 0x55 = (y.1 / 2) &&& 0x55 ∧ A8 y.1 < 256 := by decide +kernel
theorem b_fact : ∀ y : Fin 256, ((64 + y.1 / 4) &&& 0x33 = (y.1 / 4) &&& 0x33 ∧ (128 + y.1 / 4) &&& 0x33 = (y.1 / 4) &&& 0x33 ∧ (192 + y.1 / 4) &&& 0x33 = (y.1 / 4) &&& 0x33) ∧ B8 y.1 < 256 := by decide +kernel
theorem c_fact : ∀ y : Fin 256, (B8 (A8 y.1) % 16 ≤ 4 ∧ B8 (A8 y.1) / 16 ≤ 4) ∧ C8 (B8 (A8 y.1)) ≤ 8 ∧ (C8 (B8 (A8 y.1)) = 0 → y.1 = 0) ∧ (C8 (B8 (A8 y.1)) = 1 → ∃ m : Fin 8, y.1 = 2 ^ m.1) := by decide +kernel
theorem p_fact : ∀ m : Fin 8, C8 (B8 (A8 (2 ^ m.1))) = 1 := by decide +kernel
theorem a_step : ∀ l : List Nat, (∀ y ∈ l, y < 256) → (VL l / 2 &&& VL (l.map fun _ => 0x55)) + (VL l &&& VL (l.map fun _ => 0x55)) = VL (l.map A8)
  | [], _ => by decide
  | y :: l, h => by
    have hy := h y (by simp)
    have ih := a_step l (fun z hz => h z (by simp [hz]))
    obtain ⟨f1, _⟩ := a_fact ⟨y, hy⟩
    simp only [List.map_cons, VL] at ih ⊢
    generalize VL l = X at *
    generalize VL (l.map fun _ => 0x55) = M at *
    rw [and_split X M y 0x55 hy (by decide)]
    have e : (y + 256 * X) / 2 = (128 * (X % 2) + y / 2) + 256 * (X / 2) := by omega
    rw [e, and_split (X / 2) M _ 0x55 (by omega) (by decide)]
    have e2 : (128 * (X % 2) + y / 2) &&& 0x55 = (y / 2) &&& 0x55 := by
      rcases Nat.mod_two_eq_zero_or_one X with c | c <;> rw [c]
      · rw [Nat.mul_zero, Nat.zero_add]
      · exact f1
    rw [e2, ← ih]; unfold A8; omega
theorem b_step : ∀ l : List Nat, (∀ y ∈ l, y < 256) → (VL l / 4 &&& VL (l.map fun _ => 0x33)) + (VL l &&& VL (l.map fun _ => 0x33)) = VL (l.map B8)
  | [], _ => by decide
  | y :: l, h => by
    have hy := h y (by simp)
    have ih := b_step l (fun z hz => h z (by simp [hz]))
    obtain ⟨⟨f1, f2, f3⟩, _⟩ := b_fact ⟨y, hy⟩
    simp only [List.map_cons, VL] at ih ⊢
    generalize VL l = X at *
    generalize VL (l.map fun _ => 0x33) = M at *
    rw [and_split X M y 0x33 hy (by decide)]
    have e : (y + 256 * X) / 4 = (64 * (X % 4) + y / 4) + 256 * (X / 4) := by omega
    rw [e, and_split (X / 4) M _ 0x33 (by omega) (by decide)]
    have e2 : (64 * (X % 4) + y / 4) &&& 0x33 = (y / 4) &&& 0x33 := by
      have : X % 4 = 0 ∨ X % 4 = 1 ∨ X % 4 = 2 ∨ X % 4 = 3 := by omega
      rcases this with c | c | c | c <;> rw [c]
      · rw [Nat.mul_zero, Nat.zero_add]
      · exact f1
      · exact f2
      · exact f3
    rw [e2, ← ih]; unfold B8; omega
theorem vl_mod {l : List Nat} (h : ∀ y ∈ l, y % 16 ≤ 4 ∧ y / 16 ≤ 4) : VL l % 16 ≤ 4 := by
  cases l with
  | nil => decide
  | cons y l => have := h y (by simp); simp only [VL]; omega
theorem c_step : ∀ l : List Nat, (∀ y ∈ l, y % 16 ≤ 4 ∧ y / 16 ≤ 4) → (VL l / 16 + VL l) &&& VL (l.map fun _ => 0x0f) = VL (l.map C8)
  | [], _ => by decide
  | y :: l, h => by
    have hy := h y (by simp)
    have hl := vl_mod (l := l) (fun z hz => h z (by simp [hz]))
    have ih := c_step l (fun z hz => h z (by simp [hz]))
    simp only [List.map_cons, VL] at ih ⊢
    generalize VL l = X at *
    generalize VL (l.map fun _ => 0x0f) = M at *
    have e : (y + 256 * X) / 16 + (y + 256 * X) = (16 * (X % 16) + y / 16 + y) + 256 * (X / 16 + X) := by omega
    rw [e, and_split (X / 16 + X) M _ 0x0f (by omega) (by decide), ih]
    have e2 : (16 * (X % 16) + y / 16 + y) &&& 0x0f = C8 y := by
      rw [show (0x0f : Nat) = 2 ^ 4 - 1 from rfl, Nat.and_two_pow_sub_one_eq_mod]; unfold C8; omega
    rw [e2]
theorem vl_lt : ∀ l : List Nat, (∀ y ∈ l, y < 256) → VL l < 256 ^ l.length
  | [], _ => by decide
  | y :: l, h => by
    have hy := h y (by simp)
    have := vl_lt l (fun z hz => h z (by simp [hz]))
    simp only [VL, List.length_cons, Nat.pow_succ]; omega
theorem vl_le : ∀ l : List Nat, (∀ y ∈ l, y ≤ 68) → 255 * VL l + 68 ≤ 68 * 256 ^ l.length
  | [], _ => by decide
  | y :: l, h => by
    have hy := h y (by simp)
    have := vl_le l (fun z hz => h z (by simp [hz]))
    simp only [VL, List.length_cons, Nat.pow_succ]; omega
theorem bytes {x : Nat} (hx : x < 18446744073709551616) : ∃ l : List Nat, l.length = 8 ∧ (∀ y ∈ l, y < 256) ∧ x = VL l := by
  refine ⟨[x % 256, x / 256 % 256, x / 65536 % 256, x / 16777216 % 256, x / 4294967296 % 256, x / 1099511627776 % 256, x / 281474976710656 % 256, x / 72057594037927936], rfl, ?_, ?_⟩
  · simp only [List.mem_cons, List.not_mem_nil, or_false, forall_eq_or_imp, forall_eq]
    omega
  · simp only [VL]; omega
theorem vl_const {l : List Nat} (h : l.length = 8) (c : Nat) : VL (l.map fun _ => c) = VL [c, c, c, c, c, c, c, c] := by
  rw [List.map_const', h]; rfl
def pc (y : Nat) : Nat := C8 (B8 (A8 y))
def su : List Nat → Nat
  | [] => 0
  | y :: l => pc y + su l
theorem pc_fact (y : Nat) (h : y < 256) : pc y ≤ 8 ∧ (pc y = 0 → y = 0) ∧ (pc y = 1 → ∃ m, m < 8 ∧ y = 2 ^ m) := by
  obtain ⟨_, h1, h2, h3⟩ := c_fact ⟨y, h⟩
  exact ⟨h1, h2, fun e => by obtain ⟨m, hm⟩ := h3 e; exact ⟨m.1, m.2, hm⟩⟩
theorem su_zero : ∀ l : List Nat, (∀ y ∈ l, y < 256) → (su l = 0 ↔ VL l = 0)
  | [], _ => by simp [su, VL]
  | y :: l, h => by
    have ih := su_zero l (fun z hz => h z (by simp [hz]))
    have hp := (pc_fact y (h y (by simp))).2.1
    simp only [su, VL]
    constructor
    · intro e
      have h1 := hp (by omega)
      have h2 := ih.1 (by omega)
      omega
    · intro e
      have h2 := ih.2 (by omega)
      have h1 : y = 0 := by omega
      rw [h1, h2]; decide
theorem su_one : ∀ l : List Nat, (∀ y ∈ l, y < 256) → su l = 1 → ∃ m j, m < 8 ∧ j < l.length ∧ VL l = 2 ^ m * 256 ^ j
  | [], _ => by simp [su]
  | y :: l, h => by
    have h0 := su_zero l (fun z hz => h z (by simp [hz]))
    have ih := su_one l (fun z hz => h z (by simp [hz]))
    have hp := pc_fact y (h y (by simp))
    simp only [su, VL, List.length_cons]
    intro e
    by_cases c : su l = 0
    · obtain ⟨m, hm, hy⟩ := hp.2.2 (by omega)
      refine ⟨m, 0, hm, by omega, ?_⟩
      rw [h0.1 c, hy]; omega
    · obtain ⟨m, j, hm, hj, e2⟩ := ih (by omega)
      refine ⟨m, j + 1, hm, by omega, ?_⟩
      rw [hp.2.1 (by omega), e2, Nat.pow_succ, Nat.zero_add, Nat.mul_comm 256, Nat.mul_assoc]
theorem su_pow : ∀ (l : List Nat) (m j : Nat), (∀ y ∈ l, y < 256) → m < 8 → VL l = 2 ^ m * 256 ^ j → su l = 1
  | [], m, j, _, _, e => by
    have := Nat.mul_pos (Nat.two_pow_pos m) (Nat.pow_pos (n := j) (show 0 < 256 by decide))
    simp only [VL] at e; omega
  | y :: l, m, j, h, hm, e => by
    have hl : ∀ z ∈ l, z < 256 := fun z hz => h z (by simp [hz])
    have hy := h y (by simp)
    have h8 : 2 ^ m < 256 := (Nat.pow_lt_pow_right (by decide) hm : 2 ^ m < 2 ^ 8)
    simp only [su, VL] at e ⊢
    cases j with
    | zero =>
      have h1 : VL l = 0 := by omega
      have h2 : y = 2 ^ m := by omega
      have h3 : pc (2 ^ m) = 1 := p_fact ⟨m, hm⟩
      rw [(su_zero l hl).2 h1, h2, h3]
    | succ j =>
      rw [Nat.pow_succ, ← Nat.mul_assoc] at e
      have h1 : y = 0 := by omega
      have ih := su_pow l m j hl hm (by omega)
      have h0 : pc 0 = 0 := by decide
      rw [h1, ih, h0]
theorem two (V : Nat) : ((V : Int) / 2 = ((V / 2 : Nat) : Int)) ∧ ((V : Int) / 4 = ((V / 4 : Nat) : Int)) ∧ ((V : Int) / 16 = ((V / 16 : Nat) : Int)) := ⟨by norm_cast, by norm_cast, by norm_cast⟩
theorem wr_eq {X : Nat} (h : X < 18446744073709551616) : IntKind.u64.wrap (X : Int) = (X : Int) := by rw [wrap_u64]; omega
section
variable {l : List Nat} (h8 : l.length = 8)
include h8
theorem vl8 (h : ∀ y ∈ l, y < 256) : VL l < 18446744073709551616 := by have := vl_lt l h; rw [h8] at this; exact this
theorem a_int (h : ∀ y ∈ l, y < 256) : bits_OnesCount64.a (VL l : Int) = (VL (l.map A8) : Int) := by
  have hx := vl8 h8 h
  have hy := vl8 (l := l.map A8) (by simpa using h8) (fun y hy => by obtain ⟨z, hz, rfl⟩ := List.mem_map.1 hy; exact (a_fact ⟨z, h z hz⟩).2)
  have sa := a_step l h
  rw [vl_const h8] at sa
  have m : (6148914691236517205 : Int) = ((VL [0x55, 0x55, 0x55, 0x55, 0x55, 0x55, 0x55, 0x55] : Nat) : Int) := rfl
  have hm : VL [0x55, 0x55, 0x55, 0x55, 0x55, 0x55, 0x55, 0x55] < 18446744073709551616 := by decide
  unfold bits_OnesCount64.a
  rw [(two _).1, m, nand (Nat.lt_of_le_of_lt (Nat.div_le_self _ _) hx) hm, nand hx hm, ← Int.natCast_add, sa, wr_eq hy]
theorem b_int (h : ∀ y ∈ l, y < 256) : bits_OnesCount64.b (VL l : Int) = (VL (l.map B8) : Int) := by
  have hx := vl8 h8 h
  have hy := vl8 (l := l.map B8) (by simpa using h8) (fun y hy => by obtain ⟨z, hz, rfl⟩ := List.mem_map.1 hy; exact (b_fact ⟨z, h z hz⟩).2)
  have sa := b_step l h
  rw [vl_const h8] at sa
  have m : (3689348814741910323 : Int) = ((VL [0x33, 0x33, 0x33, 0x33, 0x33, 0x33, 0x33, 0x33] : Nat) : Int) := rfl
  have hm : VL [0x33, 0x33, 0x33, 0x33, 0x33, 0x33, 0x33, 0x33] < 18446744073709551616 := by decide
  unfold bits_OnesCount64.b
  rw [(two _).2.1, m, nand (Nat.lt_of_le_of_lt (Nat.div_le_self _ _) hx) hm, nand hx hm, ← Int.natCast_add, sa, wr_eq hy]
theorem c_int (h : ∀ y ∈ l, y % 16 ≤ 4 ∧ y / 16 ≤ 4) : bits_OnesCount64.c (VL l : Int) = (VL (l.map C8) : Int) := by
  have q := vl_le l (fun y hy => by have := h y hy; omega)
  rw [h8, show (256 : Nat) ^ 8 = 18446744073709551616 by decide] at q
  have hx : VL l / 16 + VL l < 18446744073709551616 := by omega
  have sa := c_step l h
  rw [vl_const h8] at sa
  have m : (1085102592571150095 : Int) = ((VL [0x0f, 0x0f, 0x0f, 0x0f, 0x0f, 0x0f, 0x0f, 0x0f] : Nat) : Int) := rfl
  have hm : VL [0x0f, 0x0f, 0x0f, 0x0f, 0x0f, 0x0f, 0x0f, 0x0f] < 18446744073709551616 := by decide
  unfold bits_OnesCount64.c
  rw [(two _).2.2, ← Int.natCast_add, wr_eq hx, m, nand hx hm, sa]
end
theorem dstep {X q : Nat} (h : X + X / q < 18446744073709551616) (Q : Int) (hQ : Q = (q : Int)) : IntKind.u64.wrap ((X : Int) + (X : Int) / Q) = ((X + X / q : Nat) : Int) := by
  rw [hQ, show (X : Int) / (q : Int) = ((X / q : Nat) : Int) by norm_cast, ← Int.natCast_add, wr_eq h]
theorem dsum {ca cb cc cd ce cf cg ch V : Nat} (h1 : ca ≤ 8) (hV : V = ca + 256 * (cb + 256 * (cc + 256 * (cd + 256 * (ce + 256 * (cf + 256 * (cg + 256 * ch))))))) :
    V + V / 256 = (ca + cb) + 256 * ((cb + cc) + 256 * ((cc + cd) + 256 * ((cd + ce) + 256 * ((ce + cf) + 256 * ((cf + cg) + 256 * ((cg + ch) + 256 * ch)))))) := by
  generalize hW : cb + 256 * (cc + 256 * (cd + 256 * (ce + 256 * (cf + 256 * (cg + 256 * ch))))) = W at hV
  have e : V / 256 = W := by omega
  rw [e, hV, ← hW]; clear e hV hW h1; omega
theorem esum {ca cb cc cd ce cf cg ch V : Nat} (h1 : ca ≤ 16 ∧ cb ≤ 16) (hV : V = ca + 256 * (cb + 256 * (cc + 256 * (cd + 256 * (ce + 256 * (cf + 256 * (cg + 256 * ch))))))) :
    V + V / 65536 = (ca + cc) + 256 * ((cb + cd) + 256 * ((cc + ce) + 256 * ((cd + cf) + 256 * ((ce + cg) + 256 * ((cf + ch) + 256 * (cg + 256 * ch)))))) := by
  generalize hW : cc + 256 * (cd + 256 * (ce + 256 * (cf + 256 * (cg + 256 * ch)))) = W at hV
  have e : V / 65536 = W := by omega
  rw [e, hV, ← hW]; clear e hV hW h1; omega
theorem gsum {ca cb cc cd ce cf cg ch V : Nat} (h1 : ca ≤ 32 ∧ cb ≤ 32 ∧ cc ≤ 32 ∧ cd ≤ 32) (hV : V = ca + 256 * (cb + 256 * (cc + 256 * (cd + 256 * (ce + 256 * (cf + 256 * (cg + 256 * ch))))))) :
    V + V / 4294967296 = (ca + ce) + 256 * ((cb + cf) + 256 * ((cc + cg) + 256 * ((cd + ch) + 256 * (ce + 256 * (cf + 256 * (cg + 256 * ch)))))) := by
  generalize hW : ce + 256 * (cf + 256 * (cg + 256 * ch)) = W at hV
  have e : V / 4294967296 = W := by omega
  rw [e, hV, ← hW]; clear e hV hW h1; omega
theorem small1 {ca X B : Nat} (h1 : ca ≤ 64) (h2 : X < B) : ca + 256 * X < 256 * B := by omega
theorem small {ca cb cc cd ce cf cg ch V : Nat} (h1 : ca ≤ 64 ∧ cb ≤ 64 ∧ cc ≤ 64 ∧ cd ≤ 64) (h2 : ce ≤ 64 ∧ cf ≤ 64 ∧ cg ≤ 64 ∧ ch ≤ 64) (hV : V = ca + 256 * (cb + 256 * (cc + 256 * (cd + 256 * (ce + 256 * (cf + 256 * (cg + 256 * ch))))))) : V < 9223372036854775808 ∧ V % 128 = ca % 128 := by
  have b := small1 h1.1 (small1 h1.2.1 (small1 h1.2.2.1 (small1 h1.2.2.2 (small1 h2.1 (small1 h2.2.1 (small1 h2.2.2.1 (show ch < 65 by omega)))))))
  rw [← hV] at b
  generalize cb + 256 * (cc + 256 * (cd + 256 * (ce + 256 * (cf + 256 * (cg + 256 * ch))))) = W at hV
  clear h1 h2
  constructor <;> omega
/-- The last steps: the bytes' sum. -/
theorem fin_sum : ∀ l : List Nat, l.length = 8 → (∀ y ∈ l, y ≤ 8) → Go.bits .and .i64 (wrap64 (bits_OnesCount64.g (bits_OnesCount64.e (bits_OnesCount64.d (VL l : Int))))) 127 = ((l.foldr (· + ·) 0 : Nat) : Int)
  | [ca, cb, cc, cd, ce, cf, cg, ch], _, h => by
    simp only [List.mem_cons, List.not_mem_nil, or_false, forall_eq_or_imp, forall_eq] at h
    obtain ⟨a1, a2, a3, a4, a5, a6, a7, a8⟩ := h
    have e0 : VL [ca, cb, cc, cd, ce, cf, cg, ch] = ca + 256 * (cb + 256 * (cc + 256 * (cd + 256 * (ce + 256 * (cf + 256 * (cg + 256 * ch)))))) := by simp only [VL]; omega
    generalize VL [ca, cb, cc, cd, ce, cf, cg, ch] = V at *
    have e1 := dsum a1 e0
    have e2 := esum (by clear e0 e1; omega) e1
    have e3 := gsum (by clear e0 e1 e2; omega) e2
    have s1 := (small (by clear e0 e1 e2 e3; omega) (by clear e0 e1 e2 e3; omega) e1).1
    have s2 := (small (by clear e0 e1 e2 e3; omega) (by clear e0 e1 e2 e3; omega) e2).1
    have s3 := small (by clear e0 e1 e2 e3; omega) (by clear e0 e1 e2 e3; omega) e3
    clear e0 e1 e2 e3
    unfold bits_OnesCount64.d
    rw [dstep (q := 256) (by omega) 256 rfl]
    unfold bits_OnesCount64.e
    rw [dstep (q := 65536) (by omega) 65536 rfl]
    unfold bits_OnesCount64.g
    rw [dstep (q := 4294967296) (by omega) 4294967296 rfl]
    generalize V + V / 256 + (V + V / 256) / 65536 + (V + V / 256 + (V + V / 256) / 65536) / 4294967296 = G at *
    clear s1 s2
    rw [wrap64_id (by omega) (by omega), show (127 : Int) = 2 ^ 7 - 1 by decide, bits_mask .i64 63 (by decide) (fun n h0 h1 => by simp only [IntKind.wrap, IntKind.bits, IntKind.signed]; simp; omega) 7 (by decide) (G : Int) (by omega) (by omega)]
    simp only [List.foldr_cons, List.foldr_nil]
    omega
theorem su_sum : ∀ l : List Nat, su l = (((l.map A8).map B8).map C8).foldr (· + ·) 0
  | [] => rfl
  | y :: l => by rw [su, su_sum l]; rfl
/-- The count is 1 at a power of 2 alone. -/
theorem ones_eq {x : Nat} (hx : x < 18446744073709551616) : ∃ c : Nat, bits_OnesCount64.f (x : Int) = some (c : Int) ∧ (c = 1 ↔ ∃ m, m < 64 ∧ x = 2 ^ m) := by
  obtain ⟨l, h8, h, rfl⟩ := bytes hx
  have hA : ∀ y ∈ l.map A8, y < 256 := fun y hy => by obtain ⟨z, hz, rfl⟩ := List.mem_map.1 hy; exact (a_fact ⟨z, h z hz⟩).2
  have hB : ∀ y ∈ (l.map A8).map B8, y % 16 ≤ 4 ∧ y / 16 ≤ 4 := fun y hy => by
    rw [List.map_map] at hy
    obtain ⟨z, hz, rfl⟩ := List.mem_map.1 hy; exact (c_fact ⟨z, h z hz⟩).1
  have hC : ∀ y ∈ ((l.map A8).map B8).map C8, y ≤ 8 := fun y hy => by
    rw [List.map_map, List.map_map] at hy
    obtain ⟨z, hz, rfl⟩ := List.mem_map.1 hy; exact (c_fact ⟨z, h z hz⟩).2.1
  refine ⟨su l, ?_, ?_⟩
  · unfold bits_OnesCount64.f
    rw [a_int h8 h, b_int (by simpa using h8) hA, c_int (by simpa using h8) hB, fin_sum _ (by simpa using h8) hC, su_sum]
  · constructor
    · intro e
      obtain ⟨m, j, hm, hj, e2⟩ := su_one l h e
      exact ⟨m + 8 * j, by omega, by rw [e2, show (256 : Nat) = 2 ^ 8 from rfl, ← Nat.pow_mul, ← Nat.pow_add]⟩
    · rintro ⟨m, hm, e⟩
      refine su_pow l (m % 8) (m / 8) h (by omega) ?_
      rw [e, show (256 : Nat) = 2 ^ 8 from rfl, ← Nat.pow_mul, ← Nat.pow_add]; congr 1; omega
end Go.Proofs.YthhhegblccoonaaGreatDoor.Kb
/- Known bits: remainders, comparisons. -/
namespace Go.Proofs.YthhhegblccoonaaGreatDoor.Kb
set_option linter.unusedVariables false
set_option linter.unusedSimpArgs false
set_option linter.unusedSectionVars false
open Go.RowKit Go.Proofs.YthhhegblccoonaaGreatDoor.P Go.Proofs.YthhhegblccoonaaGreatDoorW.PrintWords Wd Im Iv Tg Ft

section
variable {az ao bz bo n : Nat} {w : Int} (hw : w = n) (h1 : 1 ≤ n) (hn : n ≤ 64) (haz : az < 2 ^ n) (hao : ao < 2 ^ n) (hbz : bz < 2 ^ n) (hbo : bo < 2 ^ n) (da : az &&& ao = 0) (db : bz &&& bo = 0)
include hw h1 hn hbz hbo db
/-- Rounds without a match. -/
theorem rskip (k : Nat) (hk : 64 < k) (d : Nat) : ∀ (i Z O : Nat), i + d ≤ n → (∀ q, i ≤ q → q < i + d → ¬ (bz ||| bo = 2 ^ n - 1 ∧ bo = 2 ^ q)) →
    jacquardref12_remainder.l0 (k + 2 * d) w (i : Int) az ao bz bo Z O = jacquardref12_remainder.l0 k w ((i + d : Nat) : Int) az ao bz bo Z O := by
  have hQb := Q_big
  induction d with
  | zero => intro i Z O _ _; rfl
  | succ d ih =>
    intro i Z O hi hq
    have hlt : i < n := by omega
    have h2 := ih (i + 1) Z O (by omega) (fun q h1 h2 => hq q (by omega) (by omega))
    have hno := hq i (Nat.le_refl _) (by omega)
    have hj : jacquardref12_remainder.j1 (k + 2 * d + 1) w (i : Int) false az ao bz bo Z O = jacquardref12_remainder.l0 k w ((i + (d + 1) : Nat) : Int) az ao bz bo Z O := by
      rw [jacquardref12_remainder.j1, if_neg (by decide), wr hlt hn, h2, show i + 1 + d = i + (d + 1) by omega]
    rw [show k + 2 * (d + 1) = (k + 2 * d + 1) + 1 by omega, jacquardref12_remainder.l0, if_pos (by omega), rexact hw h1 hn hbz hbo db (by omega), Option.bind_some]
    by_cases c : bz ||| bo = 2 ^ n - 1
    · rw [if_pos (decide_eq_true c), if_pos (by omega), shl_one (by omega), show ((bo : Int) == ((2 ^ i : Nat) : Int)) = false by
        rw [Bool.eq_false_iff]; simp only [ne_eq, beq_iff_eq]; intro h; exact hno ⟨c, by omega⟩]
      exact hj
    · rw [if_neg (show ¬ decide (bz ||| bo = 2 ^ n - 1) = true by simpa using c)]; exact hj
include haz hao
omit h1 hbz hbo db in
/-- The low bits are those of a. -/
theorem rlow1 (k m : Nat) (hm : m < n) (Z O : Nat) (hZ : Z < 2 ^ n) (hO : O < 2 ^ n) (d : Nat) : ∀ i : Nat, i + d = m →
    jacquardref12_remainder.l1 (k + d + 1) w (m : Int) (i : Int) az ao bz bo ((Z ||| kz (kn az ao) i : Nat) : Int) ((O ||| ko (kn az ao) i : Nat) : Int) =
      jacquardref12_remainder.l0 k w ((m + 1 : Nat) : Int) az ao bz bo ((Z ||| kz (kn az ao) m : Nat) : Int) ((O ||| ko (kn az ao) m : Nat) : Int) := by
  have hQb := Q_big
  induction d with
  | zero =>
    intro i hi
    obtain rfl : i = m := by omega
    rw [jacquardref12_remainder.l1, if_neg (by omega), wr hm hn]
  | succ d ih =>
    intro i hi
    have hlt : i < n := by omega
    rw [show k + (d + 1) + 1 = (k + d + 1) + 1 by omega, jacquardref12_remainder.l1, if_pos (by omega), known_eq (up64 hn haz) (up64 hn hao) (by omega), Option.bind_some, put_eq hn hZ hO hlt, Option.bind_some, wr hlt hn]
    exact ih (i + 1) (by omega)
include da
/-- Remainders: the same result, and what it says. -/
theorem rem_ok (hk : 400 < Q) : ∃ F, knownbits_remainder.f w az ao bz bo = some ((kz F n : Int), (ko F n : Int)) ∧ jacquardref12_remainder.f w az ao bz bo = some ((kz F n : Int), (ko F n : Int)) ∧
    ∃ t, Run (fun j => az.testBit (n - 1 - j)) n t ∧ ((∃ m, m < n ∧ bz ||| bo = 2 ^ n - 1 ∧ bo = 2 ^ m ∧ F = fun i => if i < m then kn az ao i else some false) ∨ F = zf' n 0 t) := by
  obtain ⟨k, hQ⟩ : ∃ m, Q = m + 1 := ⟨Q - 1, by omega⟩
  obtain ⟨t, hl, hr⟩ := klead hw h1 hn haz
  have htn := hr.1
  have hbo6 := up64 hn hbo
  unfold knownbits_remainder.f jacquardref12_remainder.f
  rw [hl, Option.bind_some, khigh hw hn htn, Option.bind_some, kexact hw h1 hn hbz hbo db, Option.bind_some, rlead0 hw hn haz hao da hr (by omega), Option.bind_some, show (0 : Int) = ((0 : Nat) : Int) from rfl, rzeros hw hn (Nat.zero_le _) htn (by omega), Option.bind_some, zf_hi, zf_o]
  by_cases c : ∃ m, m < n ∧ bz ||| bo = 2 ^ n - 1 ∧ bo = 2 ^ m
  · obtain ⟨m, hm, c1, c2⟩ := c
    refine ⟨fun i => if i < m then kn az ao i else some false, ?_, ?_, t, hr, .inl ⟨m, hm, c1, c2, rfl⟩⟩
    · obtain ⟨q, e1, e2⟩ := ones_eq hbo6
      have hq : q = 1 := e2.2 ⟨m, by omega, c2⟩
      have hp := Nat.two_pow_pos m
      have hmk : 2 ^ m - 1 < 18446744073709551616 := F_lt (by omega)
      rw [if_pos c1, if_pos rfl]
      show (bits_OnesCount64.f (bo : Int)).bind _ = _
      rw [e1, Option.bind_some, if_pos (by omega), hw, kmaskN hn, Option.bind_some, show IntKind.u64.wrap ((bo : Int) - 1) = ((2 ^ m - 1 : Nat) : Int) by rw [wrap_u64]; omega, nandn (F_lt hn) hmk, nand (up64 hn haz) hmk, nand (up64 hn hao) hmk,
        nor (up64 hn (ndiff_lt (by have := Nat.two_pow_pos n; omega))) (Nat.lt_of_le_of_lt Nat.and_le_left (up64 hn haz)), nor (up64 hn (hi_lt _ _)) (or_lt (n := 64) (up64 hn (ndiff_lt (by have := Nat.two_pow_pos n; omega))) (Nat.lt_of_le_of_lt Nat.and_le_left (up64 hn haz)))]
      have z1 : hi n t ||| (ndiff (2 ^ n - 1) (2 ^ m - 1) ||| az &&& (2 ^ m - 1)) = kz (fun i => if i < m then kn az ao i else some false) n := is_kz fun i => by
        rw [Nat.testBit_or, Nat.testBit_or, tb_hi, tb_ndiff, tb_F, Nat.testBit_and, tb_F]
        by_cases c3 : i < m
        · rw [if_pos c3, kn_z da]
          by_cases c4 : n - t ≤ i ∧ i < n
          · have := hr.2.1 (n - 1 - i) (by omega)
            simp only at this
            rw [show n - 1 - (n - 1 - i) = i by omega] at this
            simp [c3, c4, this]
          · simp [c3, show i < n by omega]; omega
        · rw [if_neg c3]; simp [c3]; intro h _; exact h
      have z2 : ao &&& (2 ^ m - 1) = ko (fun i => if i < m then kn az ao i else some false) n := is_ko fun i => by
        rw [Nat.testBit_and, tb_F]
        by_cases c3 : i < m
        · rw [if_pos c3, kn_o]; simp [c3, show i < n by omega]
        · rw [if_neg c3]; simp [c3]
      rw [z1, z2]
    · have e0 : k + 1 = ((((k - 4 * n - 70) + 70 + (n - m - 1)) + 2 * (n - m - 1) + m + 1) + 2) + 2 * m + (k + 1 - ((((k - 4 * n - 70) + 70 + (n - m - 1)) + 2 * (n - m - 1) + m + 1) + 2 + 2 * m)) := by omega
      obtain ⟨k', hk'⟩ : ∃ k', k + 1 = ((k' + 2 * (n - m - 1) + m + 1) + 2) + 2 * m := ⟨k + 1 - (2 * (n - m - 1) + m + 1 + 2 + 2 * m), by omega⟩
      clear e0
      have s1 := rskip (az := az) (ao := ao) hw h1 hn hbz hbo db ((k' + 2 * (n - m - 1) + m + 1) + 2) (by omega) m 0 (hi n t) 0 (by omega) (fun q _ hq => fun h => by
        have := c2.symm.trans h.2
        have := (Nat.pow_right_inj (by decide)).1 this
        omega)
      rw [← hk', Nat.zero_add] at s1
      rw [hQ, s1, show (k' + 2 * (n - m - 1) + m + 1) + 2 = ((k' + 2 * (n - m - 1) + m + 1) + 1) + 1 by omega, jacquardref12_remainder.l0, if_pos (by omega), rexact hw h1 hn hbz hbo db (by omega), Option.bind_some, if_pos (decide_eq_true c1), if_pos (by omega), shl_one (by omega),
        show ((bo : Int) == ((2 ^ m : Nat) : Int)) = true by rw [c2]; simp, jacquardref12_remainder.j1, if_pos rfl, show wrap64 (w - (m : Int)) = ((n - m : Nat) : Int) by rw [wrap64_id (by omega) (by omega)]; omega, show (0 : Int) = ((0 : Nat) : Int) from rfl, rzeros hw hn (Nat.zero_le _) (by omega) (by omega), Option.bind_some, zf_hi, zf_o]
      have s2 := rlow1 (az := az) (ao := ao) (bz := bz) (bo := bo) hw hn haz hao (k' + 2 * (n - m - 1)) m hm (hi n (n - m)) 0 (hi_lt _ _) (Nat.two_pow_pos n) m 0 (by omega)
      have z0 : kz (kn az ao) 0 = 0 := rfl
      have o0 : ko (kn az ao) 0 = 0 := rfl
      rw [z0, o0, Nat.or_zero, Nat.or_zero] at s2
      have s3 := rskip (az := az) (ao := ao) hw h1 hn hbz hbo db k' (by omega) (n - m - 1) (m + 1) (hi n (n - m) ||| kz (kn az ao) m) (0 ||| ko (kn az ao) m) (by omega) (fun q hq _ => fun h => by
        have := c2.symm.trans h.2
        have := (Nat.pow_right_inj (by decide)).1 this
        omega)
      refine s2.trans (s3.trans ?_)
      obtain ⟨k'', rfl⟩ : ∃ q, k' = q + 1 := ⟨k' - 1, by omega⟩
      rw [show m + 1 + (n - m - 1) = n by omega, jacquardref12_remainder.l0, if_neg (by omega)]
      have z1 : hi n (n - m) ||| kz (kn az ao) m = kz (fun i => if i < m then kn az ao i else some false) n := is_kz fun i => by
        rw [Nat.testBit_or, tb_hi, tb_kz]
        by_cases c3 : i < m
        · rw [if_pos c3]; simp [c3, show i < n by omega, show ¬ n - (n - m) ≤ i by omega]
        · rw [if_neg c3]; simp [c3]; omega
      have z2 : 0 ||| ko (kn az ao) m = ko (fun i => if i < m then kn az ao i else some false) n := is_ko fun i => by
        rw [Nat.zero_or, tb_ko]
        by_cases c3 : i < m
        · rw [if_pos c3]; simp [c3, show i < n by omega]
        · rw [if_neg c3]; simp [c3]
      rw [z1, z2]
  · refine ⟨zf' n 0 t, ?_, ?_, t, hr, .inr rfl⟩
    · rw [zf_hi, zf_o]
      by_cases c1 : bz ||| bo = 2 ^ n - 1
      · obtain ⟨q, e1, e2⟩ := ones_eq hbo6
        have hq : q ≠ 1 := fun h => by
          obtain ⟨m, hm, e⟩ := e2.1 h
          have hmn : m < n := (Nat.pow_lt_pow_iff_right (a := 2) (by decide)).1 (by rw [← e]; exact hbo)
          exact c ⟨m, hmn, c1, e⟩
        rw [if_pos c1, if_pos rfl]
        show (bits_OnesCount64.f (bo : Int)).bind _ = _
        rw [e1, Option.bind_some, if_neg (by omega)]
      · rw [if_neg c1, if_neg (by decide)]
    · rw [zf_hi, zf_o]
      obtain ⟨k', hk'⟩ : ∃ k', k + 1 = (k' + 1) + 2 * n := ⟨k - 2 * n, by omega⟩
      have s1 := rskip (az := az) (ao := ao) hw h1 hn hbz hbo db (k' + 1) (by omega) n 0 (hi n t) 0 (by omega) (fun q _ hq => fun h => c ⟨q, by omega, h.1, h.2⟩)
      rw [← hk', Nat.zero_add] at s1
      rw [hQ, s1, jacquardref12_remainder.l0, if_neg (by omega)]
end
end Go.Proofs.YthhhegblccoonaaGreatDoor.Kb
/- Known bits: comparisons. -/
namespace Go.Proofs.YthhhegblccoonaaGreatDoor.Kb
set_option linter.unusedVariables false
set_option linter.unusedSimpArgs false
set_option linter.unusedSectionVars false
open Go.RowKit Go.Proofs.YthhhegblccoonaaGreatDoor.P Go.Proofs.YthhhegblccoonaaGreatDoorW.PrintWords Wd Im Iv Tg Ft

theorem kone (b : Bool) : knownbits_one.f b = some (if b = true then 1 else 0) := by unfold knownbits_one.f; cases b <;> rfl
def bz' (b : Bool) : Nat := if b = true then 1 else 0
theorem kone' (b : Bool) : knownbits_one.f b = some ((bz' b : Nat) : Int) := by unfold knownbits_one.f bz'; cases b <;> rfl
theorem rof1 {v : Nat} (hv : v = 0 ∨ v = 1) (hk : 64 < Q) : jacquardref12_Of.f 1 (v : Int) = some (((1 - v : Nat) : Int), (v : Int)) := by
  unfold jacquardref12_Of.f
  rw [rmask_eq (by omega) hk, Option.bind_some]
  rcases hv with rfl | rfl <;> decide +kernel
theorem kof1 {v : Nat} (hv : v = 0 ∨ v = 1) : knownbits_Of.f 1 (v : Int) = some (((1 - v : Nat) : Int), (v : Int)) := by
  unfold knownbits_Of.f
  rw [kgood_eq, Option.bind_some, if_pos (by decide), show (1 : Int) = ((1 : Nat) : Int) from rfl, kmaskN (by decide), Option.bind_some]
  rcases hv with rfl | rfl <;> decide +kernel
theorem rdec (yes no : Bool) (hk : 64 < Q) : jacquardref12_decided.f yes no = some (if yes = true then (0, 1) else if no = true then (1, 0) else (0, 0)) := by
  unfold jacquardref12_decided.f
  have e1 := rof1 (v := 1) (.inr rfl) hk
  have e0 := rof1 (v := 0) (.inl rfl) hk
  cases yes
  · cases no
    · rfl
    · show (jacquardref12_Of.f 1 ((0 : Nat) : Int)).bind _ = _
      rw [e0]; rfl
  · show (jacquardref12_Of.f 1 ((1 : Nat) : Int)).bind _ = _
    rw [e1]; rfl
section
variable {az ao bz bo n : Nat} {w : Int} (hw : w = n) (h1 : 1 ≤ n) (hn : n ≤ 64) (haz : az < 2 ^ n) (hao : ao < 2 ^ n) (hbz : bz < 2 ^ n) (hbo : bo < 2 ^ n)
include hw hn haz hbz
theorem kmost : knownbits_most.f w az ao = some ((top n az : Nat) : Int) := by
  unfold knownbits_most.f
  rw [hw, kmaskN hn, Option.bind_some, nandn (F_lt hn) (up64 hn haz)]; rfl
theorem kless (hk : 0 < Q) (eq : Bool) (hne : ao ≤ top n az ∧ bo ≤ top n bz) : knownbits_less.f w az ao bz bo eq =
    some (((bz' (if eq then decide (ao > top n bz) else decide (ao ≥ top n bz)) : Nat) : Int), ((bz' (if eq then decide (top n az ≤ bo) else decide (top n az < bo)) : Nat) : Int)) := by
  have m1 := kmost (ao := (ao : Nat)) hw hn haz hbz
  have m2 := kmost (ao := (bo : Nat)) hw hn hbz haz
  have hj : ∀ y : Bool, knownbits_less.j0 w eq y az ao bz bo = some (((bz' (if eq then decide (ao > top n bz) else decide (ao ≥ top n bz)) : Nat) : Int), ((bz' y : Nat) : Int)) := by
    intro y
    rw [knownbits_less.j0]
    unfold knownbits_least.f
    rw [Option.bind_some, m2, Option.bind_some, kone', kone', kone', Option.bind_some, Option.bind_some, Option.bind_some, Option.bind_some, Option.bind_some, Option.bind_some, kone', Option.bind_some]
    by_cases c : ao > top n bz
    · rw [if_pos (by omega)]
      cases eq
      · rw [if_neg (by decide), decide_eq_true (by omega)]
      · rw [if_pos rfl, decide_eq_true c]
    · rw [if_neg (by omega)]
      cases eq
      · have e : ((ao : Int) == ((top n bz : Nat) : Int)) = decide (ao ≥ top n bz) := by rw [Bool.eq_iff_iff]; simp; omega
        rw [if_neg (by decide), if_neg (by decide), e]; rfl
      · rw [if_pos rfl, if_pos rfl, decide_eq_false c]
  unfold knownbits_less.f knownbits_least.f
  rw [m1]
  simp only [Option.bind_some, hj]
  by_cases c : top n az < bo
  · rw [if_pos (by omega)]
    cases eq
    · rw [if_neg (by decide), if_neg (by decide), decide_eq_true c]
    · rw [if_pos rfl, if_pos rfl, decide_eq_true (by omega : top n az ≤ bo)]
  · rw [if_neg (by omega)]
    cases eq
    · rw [if_neg (by decide), if_neg (by decide), if_neg (by decide), decide_eq_false c]
    · have e : (((top n az : Nat) : Int) == (bo : Int)) = decide (top n az ≤ bo) := by rw [Bool.eq_iff_iff]; simp; omega
      rw [if_pos rfl, if_pos rfl, if_pos rfl, e]
end
/-- A word with its highest bit turned: the order of signed numbers. -/
theorem sgx {n y : Nat} (hn : 1 ≤ n) (hy : y < 2 ^ n) : sg n (y : Int) + (2 ^ (n - 1) : Nat) = ((y ^^^ 2 ^ (n - 1) : Nat) : Int) := by
  have hp : 2 ^ n = 2 * 2 ^ (n - 1) := by
    obtain ⟨m, rfl⟩ : ∃ m, n = m + 1 := ⟨n - 1, by omega⟩
    rw [Nat.pow_succ]; simp; omega
  by_cases c : 2 ^ (n - 1) ≤ y
  · rw [sgh hn c hy]
    have e : y ^^^ 2 ^ (n - 1) = y - 2 ^ (n - 1) := by
      obtain ⟨q, rfl⟩ : ∃ q, y = 2 ^ (n - 1) + q := ⟨y - 2 ^ (n - 1), by omega⟩
      have hq : q < 2 ^ (n - 1) := by omega
      have : 2 ^ (n - 1) + q = 2 ^ (n - 1) ^^^ q := by
        have := Nat.two_pow_add_eq_or_of_lt hq 1
        rw [Nat.mul_one] at this
        rw [this]
        apply Nat.eq_of_testBit_eq; intro i
        rw [Nat.testBit_or, Nat.testBit_xor, Nat.testBit_two_pow]
        by_cases e : n - 1 = i
        · subst e; rw [tb_big hq (Nat.le_refl _)]; simp
        · simp [e]
      rw [this, Nat.xor_comm (2 ^ (n - 1)) q, Nat.xor_assoc, Nat.xor_self, Nat.xor_zero, Nat.xor_comm q, ← this]; omega
    rw [e]; omega
  · rw [sgl hn (by omega)]
    have e : y ^^^ 2 ^ (n - 1) = y + 2 ^ (n - 1) := by
      have hq : y < 2 ^ (n - 1) := by omega
      have := Nat.two_pow_add_eq_or_of_lt hq 1
      rw [Nat.mul_one] at this
      rw [Nat.add_comm, this]
      apply Nat.eq_of_testBit_eq; intro i
      rw [Nat.testBit_or, Nat.testBit_xor, Nat.testBit_two_pow]
      by_cases e : n - 1 = i
      · subst e; rw [tb_big hq (Nat.le_refl _)]; simp
      · simp [e]
    rw [e]; omega
section
variable {z o n : Nat} {w : Int} (hw : w = n) (h1 : 1 ≤ n) (hn : n ≤ 64) (hz : z < 2 ^ n) (ho : o < 2 ^ n) (d : z &&& o = 0)
include hw h1 hn hz ho
def fz (n z o : Nat) : Nat := ndiff z (2 ^ (n - 1)) ||| (o &&& 2 ^ (n - 1))
theorem kflip : knownbits_flip.f w z o = some ((fz n z o : Int), (fz n o z : Int)) := by
  have hp : 2 ^ (n - 1) < 18446744073709551616 := Nat.lt_of_lt_of_le (Nat.pow_lt_pow_right (by decide) (show n - 1 < 64 by omega)) (by decide)
  have hwm : wrap64 (w - 1) = ((n - 1 : Nat) : Int) := by rw [wrap64_id (by omega) (by omega)]; omega
  unfold knownbits_flip.f
  rw [hwm, if_pos (by omega), shl_one (by omega), nandn (up64 hn hz) hp, nandn (up64 hn ho) hp, nand (up64 hn hz) hp, nand (up64 hn ho) hp, nor (up64 hn (ndiff_lt hz)) (up64 hn (Nat.lt_of_le_of_lt Nat.and_le_left ho)), nor (up64 hn (ndiff_lt ho)) (up64 hn (Nat.lt_of_le_of_lt Nat.and_le_left hz))]
  rfl
omit hw ho hn in
theorem fz_lt (ho : o < 2 ^ n) : fz n z o < 2 ^ n := or_lt (ndiff_lt hz) (Nat.lt_of_le_of_lt Nat.and_le_left ho)
theorem tb_fz (z o i : Nat) : (fz n z o).testBit i = if i = n - 1 then o.testBit i else z.testBit i := by
  unfold fz
  rw [Nat.testBit_or, tb_ndiff, Nat.testBit_and, Nat.testBit_two_pow]
  by_cases c : n - 1 = i
  · subst c; simp
  · rw [if_neg (fun h => c h.symm)]; simp [c]
include d
/-- The limits, turned. -/
theorem least_x : fz n o z = lowS n z o ^^^ 2 ^ (n - 1) := by
  apply Nat.eq_of_testBit_eq; intro i
  rw [tb_fz hw h1 hn hz ho, Nat.testBit_xor, Nat.testBit_two_pow]
  unfold lowS
  have hd := disj.1 d i
  by_cases c : i = n - 1
  · subst c
    rw [if_pos rfl]
    by_cases c2 : z &&& 2 ^ (n - 1) = 0
    · have := (sbit _ _).1 c2
      rw [if_pos c2, Nat.testBit_or, Nat.testBit_two_pow, this]; simp
    · have hzb : z.testBit (n - 1) = true := by
        cases e : z.testBit (n - 1)
        · exact absurd ((sbit _ _).2 e) c2
        · rfl
      rw [if_neg c2, hzb]
      cases e : o.testBit (n - 1)
      · simp
      · exact absurd ⟨hzb, e⟩ hd
  · rw [if_neg c, decide_eq_false (show ¬ n - 1 = i by omega)]
    split
    · rw [Nat.testBit_or, Nat.testBit_two_pow, decide_eq_false (show ¬ n - 1 = i by omega)]; simp
    · simp
theorem most_x : top n (fz n z o) = highS n z o ^^^ 2 ^ (n - 1) := by
  apply Nat.eq_of_testBit_eq; intro i
  rw [Nat.testBit_xor, Nat.testBit_two_pow]
  unfold highS top
  have hd := disj.1 d i
  rw [tb_ndiff, tb_F, tb_fz hw h1 hn hz ho]
  by_cases c : i = n - 1
  · subst c
    rw [if_pos rfl]
    by_cases c2 : o &&& 2 ^ (n - 1) = 0
    · have := (sbit _ _).1 c2
      rw [if_pos c2, tb_ndiff, Nat.testBit_two_pow, this]; simp; omega
    · have hob : o.testBit (n - 1) = true := by
        cases e : o.testBit (n - 1)
        · exact absurd ((sbit _ _).2 e) c2
        · rfl
      rw [if_neg c2, tb_ndiff, tb_F, hob]
      cases e : z.testBit (n - 1)
      · simp; omega
      · exact absurd ⟨e, hob⟩ hd
  · rw [if_neg c, decide_eq_false (show ¬ n - 1 = i by omega)]
    split
    · rw [tb_ndiff, tb_ndiff, tb_F, Nat.testBit_two_pow, decide_eq_false (show ¬ n - 1 = i by omega)]; simp
    · rw [tb_ndiff, tb_F]; simp
omit hw h1 hn ho in
theorem least_most (ho : o < 2 ^ n) : o ≤ top n z := sub_le fun i hi => by
  unfold top; rw [tb_ndiff, tb_F]
  have := disj.1 d i
  cases e : z.testBit i
  · simp [tb_lt ho hi]
  · exact absurd ⟨e, hi⟩ this
theorem fz_disj : fz n z o &&& fz n o z = 0 := disj.2 fun i => by
  rw [tb_fz hw h1 hn hz ho, tb_fz hw h1 hn hz ho]
  have := disj.1 d i
  split
  · exact fun h => this ⟨h.2, h.1⟩
  · exact this
end
/-- What a comparison comes to. -/
def cmpk (op : Int) (n az ao bz bo : Nat) : Nat × Nat :=
  if op = 15 then (if az &&& bo = 0 ∧ ao &&& bz = 0 then (0, 0) else (1, 0))
  else if op = 16 then (if az &&& bo = 0 ∧ ao &&& bz = 0 then (0, 0) else (0, 1))
  else if op = 17 then (bz' (decide (ao ≥ top n bz)), bz' (decide (top n az < bo)))
  else if op = 18 then (bz' (decide (ao > top n bz)), bz' (decide (top n az ≤ bo)))
  else if op = 19 then (bz' (decide (fz n ao az ≥ top n (fz n bz bo))), bz' (decide (top n (fz n az ao) < fz n bo bz)))
  else (bz' (decide (fz n ao az > top n (fz n bz bo))), bz' (decide (top n (fz n az ao) ≤ fz n bo bz)))
theorem dq {p q : Prop} [Decidable p] [Decidable q] (h : p ↔ q) : ((bz' (decide p) : Nat) : Int) = ((bz' (decide q) : Nat) : Int) := by rw [decide_eq_decide.2 h]
theorem dec2 {yes no : Prop} [Decidable yes] [Decidable no] (h : ¬ (yes ∧ no)) : (if decide yes = true then ((0 : Int), (1 : Int)) else if decide no = true then (1, 0) else (0, 0)) = (((bz' (decide no) : Nat) : Int), ((bz' (decide yes) : Nat) : Int)) := by
  by_cases c : yes
  · have c2 : ¬ no := fun h2 => h ⟨c, h2⟩
    simp [c, c2, bz']
  · by_cases c2 : no <;> simp [c, c2, bz']
section
variable {az ao bz bo n : Nat} {w : Int} (hw : w = n) (h1 : 1 ≤ n) (hn : n ≤ 64) (haz : az < 2 ^ n) (hao : ao < 2 ^ n) (hbz : bz < 2 ^ n) (hbo : bo < 2 ^ n) (da : az &&& ao = 0) (db : bz &&& bo = 0)
include hw h1 hn haz hao hbz hbo da db
theorem rcmp {op : Int} (hop : 15 ≤ op ∧ op ≤ 20) (hk : 70 < Q) : jacquardref12_compare.f op w az ao bz bo = some (((cmpk op n az ao bz bo).1 : Int), ((cmpk op n az ao bz bo).2 : Int)) := by
  have hnn : nn w = n := by have := nn_of (w := w) (by omega) (by omega); omega
  have haz6 := up64 hn haz
  have hao6 := up64 hn hao
  have hbz6 := up64 hn hbz
  have hbo6 := up64 hn hbo
  have lim : ∀ {z o : Nat}, z < 2 ^ n → jacquardref12_Limits.f w z o = some ((o : Int), ((top n z : Nat) : Int)) := by
    intro z o hz
    unfold jacquardref12_Limits.f
    rw [rmask_eq (by omega) (by omega), hnn, mnat, Option.bind_some, nandn (F_lt hn) (up64 hn hz)]; rfl
  have sl : ∀ {z o : Nat}, z < 2 ^ n → o < 2 ^ n → z &&& o = 0 → jacquardref12_SignedLimits.f w z o = some (sg n (lowS n z o), sg n (highS n z o)) := by
    intro z o hz ho d
    have := rsl_eq (w := w) (up64 hn hz) (up64 hn ho) (by rw [KV, hnn]; exact ⟨by omega, hz, ho, d⟩) (by omega)
    rw [hnn] at this; exact this
  have oa := least_most haz da hao
  have ob := least_most hbz db hbo
  have fa := least_most (z := fz n az ao) (o := fz n ao az) (n := n) (fz_lt h1 haz hao) (fz_disj hw h1 hn haz hao da) (fz_lt h1 hao haz)
  have fb := least_most (z := fz n bz bo) (o := fz n bo bz) (n := n) (fz_lt h1 hbz hbo) (fz_disj hw h1 hn hbz hbo db) (fz_lt h1 hbo hbz)
  have xa := sgx h1 (lowS_lt (z := az) h1 hao)
  have xb := sgx h1 (highS_lt (n := n) (z := az) (o := ao))
  have xc := sgx h1 (lowS_lt (z := bz) h1 hbo)
  have xd := sgx h1 (highS_lt (n := n) (z := bz) (o := bo))
  rw [← least_x hw h1 hn haz hao da] at xa
  rw [← most_x hw h1 hn haz hao da] at xb
  rw [← least_x hw h1 hn hbz hbo db] at xc
  rw [← most_x hw h1 hn hbz hbo db] at xd
  have hj : ∀ df : Bool, (df = true ↔ ¬ (az &&& bo = 0 ∧ ao &&& bz = 0)) → jacquardref12_compare.j0 op w df az ao bz bo = some (((cmpk op n az ao bz bo).1 : Int), ((cmpk op n az ao bz bo).2 : Int)) := by
    intro df hdf
    rw [jacquardref12_compare.j0, lim haz, Option.bind_some, lim hbz, Option.bind_some, sl haz hao da, Option.bind_some, sl hbz hbo db, Option.bind_some, rdec _ _ (by omega), rdec _ _ (by omega), rdec _ _ (by omega), rdec _ _ (by omega), rdec _ _ (by omega), rdec _ _ (by omega)]
    simp only [Option.bind_some]
    unfold cmpk
    have hop' : op = 15 ∨ op = 16 ∨ op = 17 ∨ op = 18 ∨ op = 19 ∨ op = 20 := by omega
    rcases hop' with rfl | rfl | rfl | rfl | rfl | rfl
    · rw [if_pos rfl, if_pos rfl]
      by_cases c : az &&& bo = 0 ∧ ao &&& bz = 0
      · have : df = false := by cases df <;> simp_all
        rw [if_pos c, this]; rfl
      · rw [if_neg c, hdf.2 c]; rfl
    · simp only [show ¬ (16 : Int) = 15 by decide, if_false, if_true]
      by_cases c : az &&& bo = 0 ∧ ao &&& bz = 0
      · have : df = false := by cases df <;> simp_all
        rw [if_pos c, this]; rfl
      · rw [if_neg c, hdf.2 c]; rfl
    · simp only [show ¬ (17 : Int) = 15 by decide, show ¬ (17 : Int) = 16 by decide, if_false, if_true]
      rw [dec2 (by omega)]
      refine congrArg some (Prod.ext ?_ ?_) <;> (apply dq; constructor <;> intro _ <;> omega)
    · simp only [show ¬ (18 : Int) = 15 by decide, show ¬ (18 : Int) = 16 by decide, show ¬ (18 : Int) = 17 by decide, if_false, if_true]
      rw [dec2 (by omega)]
      refine congrArg some (Prod.ext ?_ ?_) <;> (apply dq; constructor <;> intro _ <;> omega)
    · simp only [show ¬ (19 : Int) = 15 by decide, show ¬ (19 : Int) = 16 by decide, show ¬ (19 : Int) = 17 by decide, show ¬ (19 : Int) = 18 by decide, if_false, if_true]
      rw [dec2 (by omega)]
      refine congrArg some (Prod.ext ?_ ?_) <;> (apply dq; constructor <;> intro _ <;> omega)
    · simp only [show ¬ (20 : Int) = 15 by decide, show ¬ (20 : Int) = 16 by decide, show ¬ (20 : Int) = 17 by decide, show ¬ (20 : Int) = 18 by decide, show ¬ (20 : Int) = 19 by decide, if_false]
      rw [dec2 (by omega)]
      refine congrArg some (Prod.ext ?_ ?_) <;> (apply dq; constructor <;> intro _ <;> omega)
  unfold jacquardref12_compare.f
  rw [nand hao6 hbz6, nand haz6 hbo6]
  by_cases c : ao &&& bz = 0
  · rw [if_pos (by rw [c]; rfl)]
    apply hj
    simp only [bne_iff_ne, ne_eq]
    constructor
    · intro h h2; exact h (by rw [h2.1]; rfl)
    · intro h h2; exact h ⟨by omega, c⟩
  · rw [if_neg (by omega)]
    exact hj true ⟨fun _ h => c h.2, fun _ => rfl⟩
end
end Go.Proofs.YthhhegblccoonaaGreatDoor.Kb
/- The values of binary operators are words. -/
namespace Go.Proofs.YthhhegblccoonaaGreatDoor.Lw0
set_option linter.unusedVariables false
set_option linter.unusedSimpArgs false
set_option linter.unusedSectionVars false
open Go.RowKit Go.Proofs.YthhhegblccoonaaGreatDoorW.PrintWords Wd Im
theorem ite_rng {P : Int → Prop} {c : Prop} [Decidable c] {x y : Int} (h1 : c → P x) (h2 : ¬ c → P y) : P (if c then x else y) := by
  split
  · exact h1 ‹_›
  · exact h2 ‹_›
theorem bin_range {op : Int} {n : Nat} (hn : 1 ≤ n) {a b : Int} (ha0 : 0 ≤ a) (ha : a < 2 ^ n) (hb0 : 0 ≤ b) (hb : b < 2 ^ n) : 0 ≤ bin op n a b ∧ bin op n a b < 2 ^ n := by
  have hp := pow_pos n
  have hp1 := pow_succ' hn
  have hp2 := pow_pos (n - 1)
  have m := mod_lt n
  have nat : ∀ f : Nat → Nat → Nat, (∀ x y, x < 2 ^ n → y < 2 ^ n → f x y < 2 ^ n) → 0 ≤ ((f a.toNat b.toNat : Nat) : Int) ∧ ((f a.toNat b.toNat : Nat) : Int) < 2 ^ n := by
    intro f hf
    have h1 := pow_toNat n
    have := hf a.toNat b.toNat (by omega) (by omega)
    omega
  show (fun r : Int => 0 ≤ r ∧ r < 2 ^ n) (bin op n a b)
  unfold bin
  generalize hP : (fun r : Int => 0 ≤ r ∧ r < 2 ^ n) = P
  repeat' (refine ite_rng (fun _ => ?_) (fun _ => ?_))
  all_goals subst hP
  · exact m _
  · exact m _
  · exact m _
  · show 0 ≤ _ ∧ _; omega
  · have h1 := Int.ediv_nonneg ha0 hb0
    have h2 := Int.ediv_le_self b ha0
    show 0 ≤ _ ∧ _
    omega
  · show 0 ≤ _ ∧ _; omega
  · rename_i hb1
    have h1 := Int.emod_nonneg a (b := b) hb1
    have h2 := Int.emod_lt_of_pos a (b := b) (by omega)
    show 0 ≤ _ ∧ _
    omega
  · show 0 ≤ _ ∧ _; omega
  · exact m _
  · show 0 ≤ _ ∧ _; omega
  · exact m _
  · exact nat (· &&& ·) (fun x y hx hy => Nat.and_lt_two_pow x hy)
  · exact nat (· ||| ·) (fun x y hx hy => Nat.or_lt_two_pow hx hy)
  · exact nat (· ^^^ ·) (fun x y hx hy => Nat.xor_lt_two_pow hx hy)
  · show 0 ≤ _ ∧ _; omega
  · exact m _
  · show 0 ≤ _ ∧ _; omega
  · have h2 : (0 : Int) ≤ 2 ^ b.toNat := by have := pow_pos b.toNat; omega
    have h3 := Int.ediv_nonneg ha0 h2
    have h4 := Int.ediv_le_self (2 ^ b.toNat) ha0
    show 0 ≤ _ ∧ _
    omega
  · show 0 ≤ _ ∧ _; omega
  · show 0 ≤ _ ∧ _; omega
  · exact m _
  all_goals (show 0 ≤ _ ∧ _; omega)
end Go.Proofs.YthhhegblccoonaaGreatDoor.Lw0
