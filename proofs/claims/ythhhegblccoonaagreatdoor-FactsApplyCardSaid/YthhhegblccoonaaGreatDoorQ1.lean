import Derived.Test.YthhhegblccoonaaGreatDoorQ0
import Derived.Test.YthhhegblccoonaaGreatDoorEx
import Derived.Test.YthhhegblccoonaaGreatDoorDg
/- The bounds that Apply computes, in plain numbers, and that they hold the value of the operator. -/
namespace Go.Proofs.YthhhegblccoonaaGreatDoor.Ap
set_option linter.unusedVariables false
set_option linter.unusedSimpArgs false
set_option linter.unusedSectionVars false
open Go.RowKit Go.Proofs.YthhhegblccoonaaGreatDoorW.PrintWords Wd Im Iv Tg Lw0
theorem wrap64_rng (n : Int) : -9223372036854775808 ≤ wrap64 n ∧ wrap64 n < 9223372036854775808 := by unfold wrap64; omega
theorem wrap64_ex (n : Int) : ∃ q, n = wrap64 n + 18446744073709551616 * q := ⟨(n + 9223372036854775808) / 18446744073709551616, by unfold wrap64; omega⟩
def I64 (x : Int) : Prop := -9223372036854775808 ≤ x ∧ x < 9223372036854775808
theorem tdiv_bound (x a : Int) (h : 2 ≤ a.natAbs) : (Int.tdiv x a).natAbs ≤ x.natAbs / 2 := by
  rw [Int.natAbs_tdiv]
  exact Nat.div_le_div_left h (by decide)
theorem times_ok {a b : Int} (ha : I64 a) (hb : I64 b) : (a = 0 ∨ (wrap64 (Int.tdiv (wrap64 (a * b)) a) = b ∧ ¬ (a = -1 ∧ b = -9223372036854775808))) ↔ I64 (a * b) := by
  unfold I64 at *
  constructor
  · rintro (rfl | ⟨h, hn⟩)
    · simp
    · by_cases a0 : a = 0
      · subst a0; simp
      by_cases a1 : a = 1
      · subst a1; simp; omega
      by_cases a2 : a = -1
      · subst a2
        have : b ≠ -9223372036854775808 := fun h => hn ⟨rfl, h⟩
        simp; omega
      · have hr := wrap64_rng (a * b)
        obtain ⟨q, hq⟩ := wrap64_ex (a * b)
        have hd := tdiv_bound (wrap64 (a * b)) a (by omega)
        rw [wrap64_id (by omega) (by omega)] at h
        have e := Int.mul_tdiv_add_tmod (wrap64 (a * b)) a
        rw [h] at e
        have hm : (Int.tmod (wrap64 (a * b)) a).natAbs < a.natAbs := by
          rw [Int.natAbs_tmod]; exact Nat.mod_lt _ (by omega)
        generalize a * b = p at *
        generalize wrap64 p = x at *
        omega
  · intro h
    by_cases a0 : a = 0
    · exact .inl a0
    · right
      rw [wrap64_id h.1 h.2, Int.mul_tdiv_cancel_left _ a0, wrap64_id hb.1 hb.2]
      refine ⟨rfl, ?_⟩
      rintro ⟨rfl, rfl⟩
      simp at h

theorem tdiv_I {x a : Int} (hx : I64 x) (ha : I64 a) (h : ¬ (x = -9223372036854775808 ∧ a = -1)) : I64 (Int.tdiv x a) := by
  unfold I64 at *
  by_cases a2 : 2 ≤ a.natAbs
  · have := tdiv_bound x a a2
    omega
  · obtain rfl | rfl | rfl : a = 0 ∨ a = 1 ∨ a = -1 := by omega
    · simp
    · simpa using hx
    · simp; omega
/-- The magnitude of a product against a limit. -/
theorem le_div_nat {a b l : Int} (ha : 0 < a) (hb : 0 ≤ b) (hl : 0 ≤ l) : b ≤ Int.tdiv l a ↔ a * b ≤ l := by
  rw [Int.tdiv_eq_ediv_of_nonneg hl, Int.le_ediv_iff_mul_le ha, Int.mul_comm]
theorem abs_mul (a b : Int) : ((a.natAbs : Int) * (b.natAbs : Int) = if (a < 0) = (b < 0) then a * b else -(a * b)) := by
  rcases Int.lt_or_le a 0 with h | h <;> rcases Int.lt_or_le b 0 with k | k
  · rw [Int.ofNat_natAbs_of_nonpos (by omega), Int.ofNat_natAbs_of_nonpos (by omega), if_pos (by simp [h, k])]; grind
  · rw [Int.ofNat_natAbs_of_nonpos (by omega), Int.natAbs_of_nonneg (by omega), if_neg (by simp [h]; omega)]; grind
  · rw [Int.natAbs_of_nonneg (by omega), Int.ofNat_natAbs_of_nonpos (by omega), if_neg (by simp [k]; omega)]; grind
  · rw [Int.natAbs_of_nonneg (by omega), Int.natAbs_of_nonneg (by omega), if_pos (by simp; omega)]
def Bt (p q r : Int) : Prop := (p ≤ r ∧ r ≤ q) ∨ (q ≤ r ∧ r ≤ p)
theorem corners {p q r s L H u v t : Int} (h1 : Bt u v t) (h2 : Bt p q u) (h3 : Bt r s v) (hp : L ≤ p ∧ p ≤ H) (hq : L ≤ q ∧ q ≤ H) (hr : L ≤ r ∧ r ≤ H) (hs : L ≤ s ∧ s ≤ H) : L ≤ t ∧ t ≤ H := by
  unfold Bt at *; omega
theorem bt_mul {a b x : Int} (c : Int) (h : a ≤ x ∧ x ≤ b) : Bt (a * c) (b * c) (x * c) := by
  unfold Bt
  rcases Int.lt_or_le c 0 with k | k
  · exact .inr ⟨Int.mul_le_mul_of_nonpos_right h.2 (by omega), Int.mul_le_mul_of_nonpos_right h.1 (by omega)⟩
  · exact .inl ⟨Int.mul_le_mul_of_nonneg_right h.1 k, Int.mul_le_mul_of_nonneg_right h.2 k⟩
theorem bt_mul' {a b x : Int} (c : Int) (h : a ≤ x ∧ x ≤ b) : Bt (c * a) (c * b) (c * x) := by
  rw [Int.mul_comm c a, Int.mul_comm c b, Int.mul_comm c x]; exact bt_mul c h
theorem Bt.neg {p q r : Int} (h : Bt p q r) : Bt (-p) (-q) (-r) := by unfold Bt at *; omega
theorem bt_tdiv {a b x c : Int} (hc : c ≠ 0) (h : a ≤ x ∧ x ≤ b) : Bt (Int.tdiv a c) (Int.tdiv b c) (Int.tdiv x c) := by
  rcases Int.lt_or_le c 0 with k | k
  · have e : ∀ z, Int.tdiv z c = -Int.tdiv z (-c) := fun z => by rw [Int.tdiv_neg]; omega
    rw [e a, e b, e x]
    exact Bt.neg (.inl ⟨Int.tdiv_le_tdiv (by omega) h.1, Int.tdiv_le_tdiv (by omega) h.2⟩)
  · exact .inl ⟨Int.tdiv_le_tdiv (by omega) h.1, Int.tdiv_le_tdiv (by omega) h.2⟩
theorem div_anti {x y z : Int} (hx : 0 ≤ x) (hy : 0 < y) (h : y ≤ z) : x / z ≤ x / y := by
  apply Int.le_ediv_of_mul_le hy
  have h1 : x / z * y ≤ x / z * z := Int.mul_le_mul_of_nonneg_left h (Int.ediv_nonneg hx (by omega))
  have h2 := Int.ediv_mul_le x (b := z) (by omega)
  omega
theorem bt_tdiv' {a b y x : Int} (hc : 0 < a ∨ b < 0) (h : a ≤ y ∧ y ≤ b) : Bt (Int.tdiv x a) (Int.tdiv x b) (Int.tdiv x y) := by
  have pos : ∀ {a b y x : Int}, 0 < a → a ≤ y ∧ y ≤ b → 0 ≤ x → Bt (Int.tdiv x a) (Int.tdiv x b) (Int.tdiv x y) := by
    intro a b y x ha h hx
    rw [Int.tdiv_eq_ediv_of_nonneg hx, Int.tdiv_eq_ediv_of_nonneg hx, Int.tdiv_eq_ediv_of_nonneg hx]
    exact .inr ⟨div_anti hx (by omega) h.2, div_anti hx ha h.1⟩
  have pos2 : ∀ {a b y x : Int}, 0 < a → a ≤ y ∧ y ≤ b → Bt (Int.tdiv x a) (Int.tdiv x b) (Int.tdiv x y) := by
    intro a b y x ha h
    rcases Int.lt_or_le x 0 with k | k
    · have e : ∀ z, Int.tdiv x z = -Int.tdiv (-x) z := fun z => by rw [Int.neg_tdiv]; omega
      rw [e a, e b, e y]; exact Bt.neg (pos ha h (by omega))
    · exact pos ha h k
  rcases hc with k | k
  · exact pos2 k h
  · have e : ∀ z, Int.tdiv x z = -Int.tdiv x (-z) := fun z => by rw [Int.tdiv_neg]; omega
    have := pos2 (a := -b) (b := -a) (y := -y) (x := x) (by omega) (by omega)
    rw [e a, e b, e y]
    have := this.neg
    unfold Bt at *; omega
theorem pow_pos' (n : Nat) : (0 : Int) < 2 ^ n := by have := Nat.two_pow_pos n; exact_mod_cast this
theorem bt_shr {a b x : Int} (c : Nat) (h : a ≤ x ∧ x ≤ b) : Bt (a / 2 ^ c) (b / 2 ^ c) (x / 2 ^ c) :=
  .inl ⟨Int.ediv_le_ediv (pow_pos' c) h.1, Int.ediv_le_ediv (pow_pos' c) h.2⟩
theorem div_step (x : Int) (p d : Nat) : x / 2 ^ (p + d) = x / 2 ^ p / 2 ^ d := by
  rw [Int.pow_add, Int.ediv_ediv_of_nonneg (by have := pow_pos' p; omega)]
theorem div_nn {z : Int} (d : Nat) (h : 0 ≤ z) : 0 ≤ z / 2 ^ d ∧ z / 2 ^ d ≤ z := ⟨Int.ediv_nonneg h (by have := pow_pos' d; omega), Int.ediv_le_self _ h⟩
theorem div_neg' {z : Int} (d : Nat) (h : z < 0) : z / 2 ^ d < 0 ∧ z ≤ z / 2 ^ d := by
  have := pow_pos' d
  refine ⟨Int.ediv_neg_of_neg_of_pos h this, Int.le_ediv_of_mul_le this ?_⟩
  have := Int.mul_le_mul_of_nonpos_left (a := z) (b := 2 ^ d) (c := 1) (by omega) (by omega)
  omega
theorem bt_shr' {p q y : Nat} (x : Int) (h : p ≤ y ∧ y ≤ q) : Bt (x / 2 ^ p) (x / 2 ^ q) (x / 2 ^ y) := by
  obtain ⟨d, rfl⟩ : ∃ d, y = p + d := ⟨y - p, by omega⟩
  obtain ⟨e, rfl⟩ : ∃ e, q = p + d + e := ⟨q - (p + d), by omega⟩
  rw [div_step x (p + d) e, div_step x p d]
  rcases Int.lt_or_le x 0 with k | k
  · have h1 := div_neg' p k
    have h2 := div_neg' d h1.1
    have h3 := div_neg' e h2.1
    exact .inl ⟨h2.2, h3.2⟩
  · have h1 := div_nn p k
    have h2 := div_nn d h1.1
    have h3 := div_nn e h2.1
    exact .inr ⟨h3.2, h2.2⟩
def len (z : Nat) : Nat := if z = 0 then 0 else Nat.log2 z + 1
theorem len_lt (z k : Nat) : z < 2 ^ k ↔ len z ≤ k := by
  unfold len
  split
  · subst z; simp [Nat.two_pow_pos]
  · rename_i h
    rw [← Nat.log2_lt h]; omega
theorem len_uniq {z k : Nat} (h1 : z < 2 ^ k) (h2 : ∀ j, z < 2 ^ j → k ≤ j) : len z = k := Nat.le_antisymm ((len_lt z k).1 h1) (h2 _ ((len_lt z _).2 (Nat.le_refl _)))
theorem len_or (x y : Nat) : len (x ||| y) = len (max x y) := by
  apply len_uniq
  · have h := (len_lt (max x y) _).2 (Nat.le_refl _)
    exact Nat.or_lt_two_pow (by omega) (by omega)
  · intro j h
    apply (len_lt _ _).1
    have := @Nat.left_le_or x y
    have := @Nat.right_le_or x y
    omega
theorem len_le {z k : Nat} (h : z < 2 ^ k) : len z ≤ k := (len_lt z k).1 h
theorem lt_len (z : Nat) : z < 2 ^ len z := (len_lt z _).2 (Nat.le_refl _)
/-! ### The closed form of Apply's bounds -/
def inr (n : Nat) (x : Int) : Prop := -2 ^ (n - 1) ≤ x ∧ x ≤ 2 ^ (n - 1) - 1
instance (n : Nat) (x : Int) : Decidable (inr n x) := by unfold inr; infer_instance
def mn4 (a b c d : Int) : Int := mn (mn (mn a b) c) d
def mx4 (a b c d : Int) : Int := mx (mx (mx a b) c) d
theorem four_facts (a b c d : Int) : (mn4 a b c d ≤ a ∧ a ≤ mx4 a b c d) ∧ (mn4 a b c d ≤ b ∧ b ≤ mx4 a b c d) ∧ (mn4 a b c d ≤ c ∧ c ≤ mx4 a b c d) ∧ (mn4 a b c d ≤ d ∧ d ≤ mx4 a b c d) := by
  unfold mn4 mx4
  have h1 := mn_facts a b
  have h2 := mn_facts (mn a b) c
  have h3 := mn_facts (mn (mn a b) c) d
  have g1 := mx_facts a b
  have g2 := mx_facts (mx a b) c
  have g3 := mx_facts (mx (mx a b) c) d
  omega
/-- The unsigned bounds of a result. -/
def U (op : Int) (n : Nat) (alo ahi blo bhi : Int) : Int × Int :=
  if op = 2 then (if ahi + bhi ≤ 2 ^ n - 1 then (alo + blo, ahi + bhi) else if 2 ^ n - 1 < alo + blo then ((alo + blo) % 2 ^ n, (ahi + bhi) % 2 ^ n) else (0, 2 ^ n - 1))
  else if op = 3 then (if bhi ≤ alo ∨ ahi < blo then ((alo - bhi) % 2 ^ n, (ahi - blo) % 2 ^ n) else (0, 2 ^ n - 1))
  else if op = 4 then (if ahi * bhi ≤ 2 ^ n - 1 then (alo * blo, ahi * bhi) else (0, 2 ^ n - 1))
  else if op = 5 then (if 1 ≤ blo then (alo / bhi, ahi / blo) else (0, 2 ^ n - 1))
  else if op = 6 then (if 1 ≤ blo then (if ahi < blo then (alo, ahi) else (0, mn ahi (bhi - 1))) else (0, ahi))
  else if op = 9 then (0, mn ahi bhi)
  else if op = 10 then (mx alo blo, 2 ^ len (mx ahi bhi).toNat - 1)
  else if op = 11 then (0, 2 ^ len (mx ahi bhi).toNat - 1)
  else if op = 12 then (if blo = bhi then (if (n : Int) ≤ blo then (0, 0) else if ahi ≤ (2 ^ n - 1) / 2 ^ blo.toNat then (alo * 2 ^ blo.toNat, ahi * 2 ^ blo.toNat) else (0, 2 ^ n - 1)) else (0, 2 ^ n - 1))
  else if op = 13 then (alo / 2 ^ bhi.toNat, ahi / 2 ^ blo.toNat)
  else (0, 2 ^ n - 1)
/-- The signed bounds of a result. -/
def S (op : Int) (n : Nat) (al am bl bm blo bhi : Int) : Int × Int :=
  if op = 2 then (if inr n (al + bl) ∧ inr n (am + bm) then (al + bl, am + bm) else (-2 ^ (n - 1), 2 ^ (n - 1) - 1))
  else if op = 3 then (if inr n (al - bm) ∧ inr n (am - bl) then (al - bm, am - bl) else (-2 ^ (n - 1), 2 ^ (n - 1) - 1))
  else if op = 4 then (if inr n (al * bl) ∧ inr n (al * bm) ∧ inr n (am * bl) ∧ inr n (am * bm) then (mn4 (al * bl) (al * bm) (am * bl) (am * bm), mx4 (al * bl) (al * bm) (am * bl) (am * bm)) else (-2 ^ (n - 1), 2 ^ (n - 1) - 1))
  else if op = 7 then (if (0 < bl ∨ bm < 0) ∧ (-2 ^ (n - 1) < al ∨ -1 < bl ∨ bm < -1) then (mn4 (Int.tdiv al bl) (Int.tdiv al bm) (Int.tdiv am bl) (Int.tdiv am bm), mx4 (Int.tdiv al bl) (Int.tdiv al bm) (Int.tdiv am bl) (Int.tdiv am bm)) else (-2 ^ (n - 1), 2 ^ (n - 1) - 1))
  else if op = 8 then (if 1 ≤ bl then (mx (mn al 0) (1 - bm), mn (mx am 0) (bm - 1)) else (mn al 0, mx am 0))
  else if op = 12 then (if blo = bhi ∧ blo < n ∧ (-2 ^ (n - 1)) / 2 ^ blo.toNat ≤ al ∧ am ≤ (2 ^ (n - 1) - 1) / 2 ^ blo.toNat then (al * 2 ^ blo.toNat, am * 2 ^ blo.toNat) else (-2 ^ (n - 1), 2 ^ (n - 1) - 1))
  else if op = 14 then (mn4 (al / 2 ^ (mn blo (n - 1)).toNat) (al / 2 ^ (mn bhi (n - 1)).toNat) (am / 2 ^ (mn blo (n - 1)).toNat) (am / 2 ^ (mn bhi (n - 1)).toNat), mx4 (al / 2 ^ (mn blo (n - 1)).toNat) (al / 2 ^ (mn bhi (n - 1)).toNat) (am / 2 ^ (mn blo (n - 1)).toNat) (am / 2 ^ (mn bhi (n - 1)).toNat))
  else (-2 ^ (n - 1), 2 ^ (n - 1) - 1)

/-! ### Soundness -/
theorem sg_val {n : Nat} (hn : 1 ≤ n) {v : Int} (h : inr n v) : sg n (v % 2 ^ n) = v := by
  obtain ⟨h1, h2⟩ := h
  have hs := pow_succ' hn
  have hp := pow_pos (n - 1)
  rw [sg_fit]
  rcases Int.lt_or_le v 0 with k | k
  · unfold sg
    rw [mod_neg h1 k hn, if_neg (by omega)]; omega
  · exact sg_lo k (by omega) hn
theorem sg_mul {n : Nat} (hn : 1 ≤ n) {x y : Int} (h : inr n (sg n x * sg n y)) : sg n (x * y % 2 ^ n) = sg n x * sg n y := by
  rw [← sg_val hn h]
  apply sg_of_mod
  rw [Int.emod_emod_of_dvd _ (Int.dvd_refl _), Int.emod_emod_of_dvd _ (Int.dvd_refl _), Int.mul_emod, ← sg_mod x, ← sg_mod y, ← Int.mul_emod]
theorem sg_add {n : Nat} (hn : 1 ≤ n) {x y : Int} (h : inr n (sg n x + sg n y)) : sg n ((x + y) % 2 ^ n) = sg n x + sg n y := by
  rw [← sg_val hn h]
  apply sg_of_mod
  rw [Int.emod_emod_of_dvd _ (Int.dvd_refl _), Int.emod_emod_of_dvd _ (Int.dvd_refl _), Int.add_emod, ← sg_mod x, ← sg_mod y, ← Int.add_emod]
theorem sg_sub {n : Nat} (hn : 1 ≤ n) {x y : Int} (h : inr n (sg n x - sg n y)) : sg n ((x - y) % 2 ^ n) = sg n x - sg n y := by
  rw [← sg_val hn h]
  apply sg_of_mod
  rw [Int.emod_emod_of_dvd _ (Int.dvd_refl _), Int.emod_emod_of_dvd _ (Int.dvd_refl _), Int.sub_emod, ← sg_mod x, ← sg_mod y, ← Int.sub_emod]
theorem sg_inr {n : Nat} (hn : 1 ≤ n) (x : Int) : -2 ^ (n - 1) ≤ sg n x ∧ sg n x ≤ 2 ^ (n - 1) - 1 := by
  have := sg_range hn x
  omega
theorem mod_minus {n : Nat} {x : Int} (h0 : 2 ^ n ≤ x) (h : x < 2 ^ n + 2 ^ n) : x % 2 ^ n = x - 2 ^ n := by
  rw [← Int.sub_emod_right]; exact mod_small (by omega) (by omega)
theorem mod_plus {n : Nat} {x : Int} (h0 : x < 0) (h : -2 ^ n ≤ x) : x % 2 ^ n = x + 2 ^ n := by
  rw [← Int.add_emod_right]; exact mod_small (by omega) (by omega)

section
variable {n : Nat} (hn : 1 ≤ n) {alo ahi al am blo bhi bl bm x y : Int} (ha0 : 0 ≤ alo) (hb0 : 0 ≤ blo) (va : Bd n alo ahi al am) (vb : Bd n blo bhi bl bm) (hx : In n alo ahi al am x) (hy : In n blo bhi bl bm y)
include hn ha0 hb0 va vb hx hy
theorem sound_add : ((U 2 n alo ahi blo bhi).1 ≤ bin 2 n x y ∧ bin 2 n x y ≤ (U 2 n alo ahi blo bhi).2) ∧ (S 2 n al am bl bm blo bhi).1 ≤ sg n (bin 2 n x y) ∧ sg n (bin 2 n x y) ≤ (S 2 n al am bl bm blo bhi).2 := by
  obtain ⟨a1, a2, a3, a4, a5⟩ := va
  obtain ⟨b1, b2, b3, b4, b5⟩ := vb
  obtain ⟨x1, x2, x3, x4⟩ := hx
  obtain ⟨y1, y2, y3, y4⟩ := hy
  have e : bin 2 n x y = (x + y) % 2 ^ n := by simp [bin]
  have hm := mod_lt n (x + y)
  rw [e]
  refine ⟨?_, ?_⟩
  · simp only [U, if_pos]
    by_cases c : ahi + bhi ≤ 2 ^ n - 1
    · rw [if_pos c, mod_small (by omega) (by omega)]; constructor <;> simp only [] <;> omega
    · rw [if_neg c]
      by_cases c2 : 2 ^ n - 1 < alo + blo
      · rw [if_pos c2, mod_minus (x := x + y) (by omega) (by omega), mod_minus (x := alo + blo) (by omega) (by omega), mod_minus (x := ahi + bhi) (by omega) (by omega)]; constructor <;> simp only [] <;> omega
      · rw [if_neg c2]; constructor <;> simp only [] <;> omega
  · simp only [S, if_pos]
    by_cases c : inr n (al + bl) ∧ inr n (am + bm)
    · rw [if_pos c]
      obtain ⟨⟨c1, c2⟩, c3, c4⟩ := c
      rw [sg_add hn ⟨by omega, by omega⟩]; constructor <;> simp only [] <;> omega
    · rw [if_neg c]; exact sg_inr hn _
theorem sound_sub : ((U 3 n alo ahi blo bhi).1 ≤ bin 3 n x y ∧ bin 3 n x y ≤ (U 3 n alo ahi blo bhi).2) ∧ (S 3 n al am bl bm blo bhi).1 ≤ sg n (bin 3 n x y) ∧ sg n (bin 3 n x y) ≤ (S 3 n al am bl bm blo bhi).2 := by
  obtain ⟨a1, a2, a3, a4, a5⟩ := va
  obtain ⟨b1, b2, b3, b4, b5⟩ := vb
  obtain ⟨x1, x2, x3, x4⟩ := hx
  obtain ⟨y1, y2, y3, y4⟩ := hy
  have e : bin 3 n x y = (x - y) % 2 ^ n := by simp [bin]
  have hm := mod_lt n (x - y)
  rw [e]
  refine ⟨?_, ?_⟩
  · simp only [U, if_pos, if_neg (show ¬ (3 : Int) = 2 by decide)]
    by_cases c : bhi ≤ alo ∨ ahi < blo
    · rw [if_pos c]
      rcases c with c | c
      · rw [mod_small (x := x - y) (by omega) (by omega), mod_small (x := alo - bhi) (by omega) (by omega), mod_small (x := ahi - blo) (by omega) (by omega)]; constructor <;> simp only [] <;> omega
      · rw [mod_plus (x := x - y) (by omega) (by omega), mod_plus (x := alo - bhi) (by omega) (by omega), mod_plus (x := ahi - blo) (by omega) (by omega)]; constructor <;> simp only [] <;> omega
    · rw [if_neg c]; constructor <;> simp only [] <;> omega
  · simp only [S, if_pos, if_neg (show ¬ (3 : Int) = 2 by decide)]
    by_cases c : inr n (al - bm) ∧ inr n (am - bl)
    · rw [if_pos c]
      obtain ⟨⟨c1, c2⟩, c3, c4⟩ := c
      rw [sg_sub hn ⟨by omega, by omega⟩]; constructor <;> simp only [] <;> omega
    · rw [if_neg c]; exact sg_inr hn _
theorem sound_mul : ((U 4 n alo ahi blo bhi).1 ≤ bin 4 n x y ∧ bin 4 n x y ≤ (U 4 n alo ahi blo bhi).2) ∧ (S 4 n al am bl bm blo bhi).1 ≤ sg n (bin 4 n x y) ∧ sg n (bin 4 n x y) ≤ (S 4 n al am bl bm blo bhi).2 := by
  obtain ⟨a1, a2, a3, a4, a5⟩ := va
  obtain ⟨b1, b2, b3, b4, b5⟩ := vb
  obtain ⟨x1, x2, x3, x4⟩ := hx
  obtain ⟨y1, y2, y3, y4⟩ := hy
  have e : bin 4 n x y = (x * y) % 2 ^ n := by simp [bin]
  have hm := mod_lt n (x * y)
  rw [e]
  refine ⟨?_, ?_⟩
  · simp only [U, if_pos, if_neg (show ¬ (4 : Int) = 2 by decide), if_neg (show ¬ (4 : Int) = 3 by decide)]
    have h1 : alo * blo ≤ x * y := Int.mul_le_mul x1 y1 hb0 (by omega)
    have h2 : x * y ≤ ahi * bhi := Int.mul_le_mul x2 y2 (by omega) (by omega)
    have h3 : 0 ≤ alo * blo := Int.mul_nonneg ha0 hb0
    by_cases c : ahi * bhi ≤ 2 ^ n - 1
    · rw [if_pos c, mod_small (by omega) (by omega)]; exact ⟨h1, h2⟩
    · rw [if_neg c]; constructor <;> simp only [] <;> omega
  · simp only [S, if_pos, if_neg (show ¬ (4 : Int) = 2 by decide), if_neg (show ¬ (4 : Int) = 3 by decide)]
    by_cases c : inr n (al * bl) ∧ inr n (al * bm) ∧ inr n (am * bl) ∧ inr n (am * bm)
    · rw [if_pos c]
      obtain ⟨c1, c2, c3, c4⟩ := c
      have k1 := bt_mul (sg n y) ⟨x3, x4⟩
      have k2 := bt_mul' al ⟨y3, y4⟩
      have k3 := bt_mul' am ⟨y3, y4⟩
      have hb := corners k1 k2 k3 c1 c2 c3 c4
      rw [sg_mul hn hb]
      have f := four_facts (al * bl) (al * bm) (am * bl) (am * bm)
      exact corners k1 k2 k3 f.1 f.2.1 f.2.2.1 f.2.2.2
    · rw [if_neg c]; exact sg_inr hn _
end
theorem nat_lt_of {n : Nat} {x : Int} (h : x < 2 ^ n) : x.toNat < 2 ^ n := by
  have := pow_toNat n
  have := Nat.two_pow_pos n
  omega
theorem cast_pow (n : Nat) : ((2 ^ n : Nat) : Int) = 2 ^ n := by rw [Int.natCast_pow]; rfl
theorem pow_mono {a b : Nat} (h : a ≤ b) : (2 : Int) ^ a ≤ 2 ^ b := by
  rw [← cast_pow, ← cast_pow]; exact Int.ofNat_le.2 (Nat.pow_le_pow_right (by decide) h)
section
variable {n : Nat} (hn : 1 ≤ n) {alo ahi al am blo bhi bl bm x y : Int} (ha0 : 0 ≤ alo) (hb0 : 0 ≤ blo) (va : Bd n alo ahi al am) (vb : Bd n blo bhi bl bm) (hx : In n alo ahi al am x) (hy : In n blo bhi bl bm y)
include hn ha0 hb0 va vb hx hy
theorem sound_udiv : ((U 5 n alo ahi blo bhi).1 ≤ bin 5 n x y ∧ bin 5 n x y ≤ (U 5 n alo ahi blo bhi).2) := by
  obtain ⟨a1, a2, a3, a4, a5⟩ := va
  obtain ⟨b1, b2, b3, b4, b5⟩ := vb
  obtain ⟨x1, x2, x3, x4⟩ := hx
  obtain ⟨y1, y2, y3, y4⟩ := hy
  have e : bin 5 n x y = if y = 0 then 2 ^ n - 1 else x / y := by simp [bin]
  rw [e]
  simp only [U, if_pos, if_neg (show ¬ (5 : Int) = 2 by decide), if_neg (show ¬ (5 : Int) = 3 by decide), if_neg (show ¬ (5 : Int) = 4 by decide)]
  by_cases c : 1 ≤ blo
  · rw [if_pos c, if_neg (by omega)]
    refine ⟨Int.le_trans (div_anti ha0 (by omega) y2) (Int.ediv_le_ediv (by omega) x1), Int.le_trans (Int.ediv_le_ediv (by omega) x2) (div_anti (by omega) (by omega) y1)⟩
  · rw [if_neg c]
    have h1 := Int.ediv_nonneg (a := x) (b := y) (by omega) (by omega)
    have h2 := Int.ediv_le_self y (a := x) (by omega)
    by_cases c0 : y = 0
    · rw [if_pos c0]; constructor <;> simp only [] <;> omega
    · rw [if_neg c0]; constructor <;> simp only [] <;> omega
theorem sound_urem : ((U 6 n alo ahi blo bhi).1 ≤ bin 6 n x y ∧ bin 6 n x y ≤ (U 6 n alo ahi blo bhi).2) := by
  obtain ⟨a1, a2, a3, a4, a5⟩ := va
  obtain ⟨b1, b2, b3, b4, b5⟩ := vb
  obtain ⟨x1, x2, x3, x4⟩ := hx
  obtain ⟨y1, y2, y3, y4⟩ := hy
  have e : bin 6 n x y = if y = 0 then x else x % y := by simp [bin]
  rw [e]
  simp only [U, if_pos, if_neg (show ¬ (6 : Int) = 2 by decide), if_neg (show ¬ (6 : Int) = 3 by decide), if_neg (show ¬ (6 : Int) = 4 by decide), if_neg (show ¬ (6 : Int) = 5 by decide)]
  by_cases c : 1 ≤ blo
  · have h1 := Int.emod_nonneg x (b := y) (by omega)
    have h2 := Int.emod_lt_of_pos x (b := y) (by omega)
    rw [if_pos c, if_neg (show ¬ y = 0 by omega)]
    by_cases c2 : ahi < blo
    · rw [if_pos c2, Int.emod_eq_of_lt (by omega) (by omega)]; exact ⟨x1, x2⟩
    · rw [if_neg c2]
      have f := mn_facts ahi (bhi - 1)
      have h3 : x % y ≤ x := by
        have := Int.mul_ediv_add_emod x y
        have := Int.mul_nonneg (a := y) (b := x / y) (by omega) (Int.ediv_nonneg (by omega) (by omega))
        omega
      constructor <;> simp only [] <;> omega
  · rw [if_neg c]
    by_cases c0 : y = 0
    · rw [if_pos c0]; constructor <;> simp only [] <;> omega
    · rw [if_neg c0]
      have h1 := Int.emod_nonneg x (b := y) c0
      have h3 : x % y ≤ x := by
        have := Int.mul_ediv_add_emod x y
        have := Int.mul_nonneg (a := y) (b := x / y) (by omega) (Int.ediv_nonneg (by omega) (by omega))
        omega
      constructor <;> simp only [] <;> omega
theorem sg0 {z : Int} (h0 : 0 ≤ z) (h1 : z < 2 ^ n) : sg n z = 0 ↔ z = 0 := by
  have := pow_succ' hn
  have := pow_pos (n - 1)
  unfold sg
  rw [mod_small h0 h1]
  split <;> omega
theorem sound_sdiv : ((S 7 n al am bl bm blo bhi).1 ≤ sg n (bin 7 n x y) ∧ sg n (bin 7 n x y) ≤ (S 7 n al am bl bm blo bhi).2) := by
  have z0 := sg0 hn ha0 hb0 va vb hx hy (z := y)
  obtain ⟨a1, a2, a3, a4, a5⟩ := va
  obtain ⟨b1, b2, b3, b4, b5⟩ := vb
  obtain ⟨x1, x2, x3, x4⟩ := hx
  obtain ⟨y1, y2, y3, y4⟩ := hy
  have e : bin 7 n x y = if y = 0 then 2 ^ n - 1 else Int.tdiv (sg n x) (sg n y) % 2 ^ n := by simp [bin]
  rw [e]
  simp only [S, if_pos, if_neg (show ¬ (7 : Int) = 2 by decide), if_neg (show ¬ (7 : Int) = 3 by decide), if_neg (show ¬ (7 : Int) = 4 by decide)]
  by_cases c : (0 < bl ∨ bm < 0) ∧ (-2 ^ (n - 1) < al ∨ -1 < bl ∨ bm < -1)
  · rw [if_pos c]
    obtain ⟨c1, c2⟩ := c
    have hy0 : ¬ y = 0 := fun h => by
      have := (z0 (by omega) (by omega)).2 h
      omega
    rw [if_neg hy0]
    have k1 := bt_tdiv (c := sg n y) (by omega) ⟨x3, x4⟩
    have k2 := bt_tdiv' (x := al) (by omega) ⟨y3, y4⟩
    have k3 := bt_tdiv' (x := am) (by omega) ⟨y3, y4⟩
    have f := four_facts (Int.tdiv al bl) (Int.tdiv al bm) (Int.tdiv am bl) (Int.tdiv am bm)
    have hp := pow_pos (n - 1)
    have hr : inr n (Int.tdiv (sg n x) (sg n y)) := by
      unfold inr
      by_cases a2' : 2 ≤ (sg n y).natAbs
      · have := tdiv_bound (sg n x) (sg n y) a2'
        omega
      · obtain h | h : sg n y = 1 ∨ sg n y = -1 := by omega
        · rw [h, Int.tdiv_one]; omega
        · rw [h, Int.tdiv_neg, Int.tdiv_one]; omega
    rw [sg_val hn hr]
    exact corners k1 k2 k3 f.1 f.2.1 f.2.2.1 f.2.2.2
  · rw [if_neg c]; exact sg_inr hn _
theorem tmod_facts (a b : Int) (hb : 0 < b) : (0 ≤ a → 0 ≤ Int.tmod a b ∧ Int.tmod a b ≤ a ∧ Int.tmod a b ≤ b - 1) ∧ (a ≤ 0 → Int.tmod a b ≤ 0 ∧ a ≤ Int.tmod a b ∧ 1 - b ≤ Int.tmod a b) := by
  clear ha0 hb0 va vb hx hy hn
  have pos : ∀ a : Int, 0 ≤ a → 0 ≤ Int.tmod a b ∧ Int.tmod a b ≤ a ∧ Int.tmod a b ≤ b - 1 := fun a h => by
    rw [Int.tmod_eq_emod_of_nonneg h]
    have h1 := Int.emod_nonneg a (b := b) (by omega)
    have h2 := Int.emod_lt_of_pos a (b := b) hb
    have := Int.mul_ediv_add_emod a b
    have := Int.mul_nonneg (a := b) (b := a / b) (by omega) (Int.ediv_nonneg h (by omega))
    omega
  refine ⟨pos a, fun h => ?_⟩
  have := pos (-a) (by omega)
  rw [Int.neg_tmod] at this
  omega
theorem sound_srem : ((S 8 n al am bl bm blo bhi).1 ≤ sg n (bin 8 n x y) ∧ sg n (bin 8 n x y) ≤ (S 8 n al am bl bm blo bhi).2) := by
  have z0 := sg0 hn ha0 hb0 va vb hx hy (z := y)
  have tm := fun a b h => tmod_facts hn ha0 hb0 va vb hx hy a b h
  obtain ⟨a1, a2, a3, a4, a5⟩ := va
  obtain ⟨b1, b2, b3, b4, b5⟩ := vb
  obtain ⟨x1, x2, x3, x4⟩ := hx
  obtain ⟨y1, y2, y3, y4⟩ := hy
  have e : bin 8 n x y = if y = 0 then x else Int.tmod (sg n x) (sg n y) % 2 ^ n := by simp [bin]
  have hxr := sg_inr hn x
  have hyr := sg_inr hn y
  have k1 := mn_facts al 0
  have k2 := mx_facts am 0
  have k3 := mx_facts (mn al 0) (1 - bm)
  have k4 := mn_facts (mx am 0) (bm - 1)
  rw [e]
  simp only [S, if_pos, if_neg (show ¬ (8 : Int) = 2 by decide), if_neg (show ¬ (8 : Int) = 3 by decide), if_neg (show ¬ (8 : Int) = 4 by decide), if_neg (show ¬ (8 : Int) = 7 by decide)]
  by_cases c0 : y = 0
  · rw [if_pos c0]
    have := (z0 (by omega) (by omega)).2 c0
    by_cases c : 1 ≤ bl
    · omega
    · rw [if_neg c]; constructor <;> simp only [] <;> omega
  · rw [if_neg c0]
    have hs : ¬ sg n y = 0 := fun h => c0 ((z0 (by omega) (by omega)).1 h)
    have hr : (0 ≤ sg n x → 0 ≤ Int.tmod (sg n x) (sg n y) ∧ Int.tmod (sg n x) (sg n y) ≤ sg n x) ∧ (sg n x ≤ 0 → Int.tmod (sg n x) (sg n y) ≤ 0 ∧ sg n x ≤ Int.tmod (sg n x) (sg n y)) := by
      rcases Int.lt_or_le (sg n y) 0 with k | k
      · have := tm (sg n x) (-(sg n y)) (by omega)
        rw [Int.tmod_neg] at this
        omega
      · have := tm (sg n x) (sg n y) (by omega)
        omega
    have hi : inr n (Int.tmod (sg n x) (sg n y)) := by unfold inr; omega
    rw [sg_val hn hi]
    by_cases c : 1 ≤ bl
    · rw [if_pos c]
      have := tm (sg n x) (sg n y) (by omega)
      constructor <;> simp only [] <;> omega
    · rw [if_neg c]; constructor <;> simp only [] <;> omega
theorem sound_and : ((U 9 n alo ahi blo bhi).1 ≤ bin 9 n x y ∧ bin 9 n x y ≤ (U 9 n alo ahi blo bhi).2) := by
  obtain ⟨a1, a2, a3, a4, a5⟩ := va
  obtain ⟨b1, b2, b3, b4, b5⟩ := vb
  obtain ⟨x1, x2, x3, x4⟩ := hx
  obtain ⟨y1, y2, y3, y4⟩ := hy
  have e : bin 9 n x y = ((x.toNat &&& y.toNat : Nat) : Int) := by simp [bin]
  have h1 : x.toNat &&& y.toNat ≤ x.toNat := Nat.and_le_left
  have h2 : x.toNat &&& y.toNat ≤ y.toNat := Nat.and_le_right
  have f := mn_facts ahi bhi
  rw [e]
  simp only [U]
  constructor <;> simp <;> omega
theorem sound_ones {z : Nat} (h : z < 2 ^ len (mx ahi bhi).toNat) : 0 ≤ (z : Int) ∧ (z : Int) ≤ 2 ^ len (mx ahi bhi).toNat - 1 := by
  have := cast_pow (len (mx ahi bhi).toNat)
  omega
theorem lt_ones : x.toNat < 2 ^ len (mx ahi bhi).toNat ∧ y.toNat < 2 ^ len (mx ahi bhi).toNat := by
  have h := lt_len (mx ahi bhi).toNat
  have f := mx_facts ahi bhi
  obtain ⟨x1, x2, x3, x4⟩ := hx
  obtain ⟨y1, y2, y3, y4⟩ := hy
  omega
theorem sound_or : ((U 10 n alo ahi blo bhi).1 ≤ bin 10 n x y ∧ bin 10 n x y ≤ (U 10 n alo ahi blo bhi).2) := by
  have hz := lt_ones hn ha0 hb0 va vb hx hy
  have h := sound_ones hn ha0 hb0 va vb hx hy (Nat.or_lt_two_pow hz.1 hz.2)
  obtain ⟨x1, x2, x3, x4⟩ := hx
  obtain ⟨y1, y2, y3, y4⟩ := hy
  have e : bin 10 n x y = ((x.toNat ||| y.toNat : Nat) : Int) := by simp [bin]
  have h1 := @Nat.left_le_or x.toNat y.toNat
  have h2 := @Nat.right_le_or x.toNat y.toNat
  have f := mx_facts alo blo
  rw [e]
  simp only [U]
  constructor
  · simp; omega
  · simpa using h.2
theorem sound_xor : ((U 11 n alo ahi blo bhi).1 ≤ bin 11 n x y ∧ bin 11 n x y ≤ (U 11 n alo ahi blo bhi).2) := by
  have hz := lt_ones hn ha0 hb0 va vb hx hy
  have h := sound_ones hn ha0 hb0 va vb hx hy (Nat.xor_lt_two_pow hz.1 hz.2)
  have e : bin 11 n x y = ((x.toNat ^^^ y.toNat : Nat) : Int) := by simp [bin]
  rw [e]
  simp only [U]
  constructor
  · simp
  · simpa using h.2
theorem mul_le_of_div {a p m : Int} (hp : 0 < p) (h : a ≤ m / p) : a * p ≤ m := by
  have h1 := Int.mul_le_mul_of_nonneg_right h (show 0 ≤ p by omega)
  have h2 := Int.ediv_mul_le m (b := p) (by omega)
  omega
end

section
variable {n : Nat} (hn : 1 ≤ n) {alo ahi al am blo bhi bl bm x y : Int} (ha0 : 0 ≤ alo) (hb0 : 0 ≤ blo) (va : Bd n alo ahi al am) (vb : Bd n blo bhi bl bm) (hx : In n alo ahi al am x) (hy : In n blo bhi bl bm y)
include hn ha0 hb0 va vb hx hy
theorem sound_shl : ((U 12 n alo ahi blo bhi).1 ≤ bin 12 n x y ∧ bin 12 n x y ≤ (U 12 n alo ahi blo bhi).2) ∧ (S 12 n al am bl bm blo bhi).1 ≤ sg n (bin 12 n x y) ∧ sg n (bin 12 n x y) ≤ (S 12 n al am bl bm blo bhi).2 := by
  obtain ⟨a1, a2, a3, a4, a5⟩ := va
  obtain ⟨b1, b2, b3, b4, b5⟩ := vb
  obtain ⟨x1, x2, x3, x4⟩ := hx
  obtain ⟨y1, y2, y3, y4⟩ := hy
  have e : bin 12 n x y = if (n : Int) ≤ y then 0 else x * 2 ^ y.toNat % 2 ^ n := by simp [bin]
  have hm := mod_lt n (x * 2 ^ y.toNat)
  have hpn := pow_pos n
  have hp := pow_pos' y.toNat
  rw [e]
  refine ⟨?_, ?_⟩
  · simp only [U, if_pos, if_neg (show ¬ (12 : Int) = 2 by decide), if_neg (show ¬ (12 : Int) = 3 by decide), if_neg (show ¬ (12 : Int) = 4 by decide), if_neg (show ¬ (12 : Int) = 5 by decide), if_neg (show ¬ (12 : Int) = 6 by decide), if_neg (show ¬ (12 : Int) = 9 by decide), if_neg (show ¬ (12 : Int) = 10 by decide), if_neg (show ¬ (12 : Int) = 11 by decide)]
    by_cases c : blo = bhi
    · obtain rfl : y = blo := by omega
      rw [if_pos c]
      by_cases c2 : (n : Int) ≤ y
      · rw [if_pos c2, if_pos c2]; simp
      · rw [if_neg c2, if_neg c2]
        by_cases c3 : ahi ≤ (2 ^ n - 1) / 2 ^ y.toNat
        · rw [if_pos c3]
          have h1 := mul_le_of_div hn ha0 hb0 ⟨a1, a2, a3, a4, a5⟩ ⟨b1, b2, b3, b4, b5⟩ ⟨x1, x2, x3, x4⟩ ⟨y1, y2, y3, y4⟩ hp c3
          have h2 : alo * 2 ^ y.toNat ≤ x * 2 ^ y.toNat := Int.mul_le_mul_of_nonneg_right x1 (by omega)
          have h3 : x * 2 ^ y.toNat ≤ ahi * 2 ^ y.toNat := Int.mul_le_mul_of_nonneg_right x2 (by omega)
          have h4 : 0 ≤ alo * 2 ^ y.toNat := Int.mul_nonneg ha0 (by omega)
          rw [mod_small (by omega) (by omega)]; exact ⟨h2, h3⟩
        · rw [if_neg c3]; constructor <;> simp only [] <;> omega
    · rw [if_neg c]
      by_cases c2 : (n : Int) ≤ y
      · rw [if_pos c2]; constructor <;> simp only [] <;> omega
      · rw [if_neg c2]; constructor <;> simp only [] <;> omega
  · simp only [S, if_pos, if_neg (show ¬ (12 : Int) = 2 by decide), if_neg (show ¬ (12 : Int) = 3 by decide), if_neg (show ¬ (12 : Int) = 4 by decide), if_neg (show ¬ (12 : Int) = 7 by decide), if_neg (show ¬ (12 : Int) = 8 by decide)]
    by_cases c : blo = bhi ∧ blo < n ∧ (-2 ^ (n - 1)) / 2 ^ blo.toNat ≤ al ∧ am ≤ (2 ^ (n - 1) - 1) / 2 ^ blo.toNat
    · rw [if_pos c]
      obtain ⟨c1, c2, c3, c4⟩ := c
      obtain rfl : y = blo := by omega
      rw [if_neg (by omega)]
      have h1 := mul_le_of_div hn ha0 hb0 ⟨a1, a2, a3, a4, a5⟩ ⟨b1, b2, b3, b4, b5⟩ ⟨x1, x2, x3, x4⟩ ⟨y1, y2, y3, y4⟩ hp c4
      have h2 : al * 2 ^ y.toNat ≤ sg n x * 2 ^ y.toNat := Int.mul_le_mul_of_nonneg_right x3 (by omega)
      have h3 : sg n x * 2 ^ y.toNat ≤ am * 2 ^ y.toNat := Int.mul_le_mul_of_nonneg_right x4 (by omega)
      have hd : (2 : Int) ^ (n - 1) = 2 ^ (n - 1 - y.toNat) * 2 ^ y.toNat := by rw [← Int.pow_add]; congr 1; omega
      have h4 : -2 ^ (n - 1) ≤ al * 2 ^ y.toNat := by
        rw [hd, ← Int.neg_mul, Int.mul_ediv_cancel _ (by omega)] at c3
        rw [hd, ← Int.neg_mul]
        exact Int.mul_le_mul_of_nonneg_right c3 (by omega)
      have hv : inr n (sg n x * 2 ^ y.toNat) := by unfold inr; omega
      have e2 : x * 2 ^ y.toNat % 2 ^ n = sg n x * 2 ^ y.toNat % 2 ^ n := by
        rw [Int.mul_emod, ← sg_mod x, ← Int.mul_emod]
      rw [e2, sg_val hn hv]; exact ⟨h2, h3⟩
    · rw [if_neg c]; exact sg_inr hn _
theorem sound_lshr : ((U 13 n alo ahi blo bhi).1 ≤ bin 13 n x y ∧ bin 13 n x y ≤ (U 13 n alo ahi blo bhi).2) := by
  obtain ⟨a1, a2, a3, a4, a5⟩ := va
  obtain ⟨b1, b2, b3, b4, b5⟩ := vb
  obtain ⟨x1, x2, x3, x4⟩ := hx
  obtain ⟨y1, y2, y3, y4⟩ := hy
  have e : bin 13 n x y = x / 2 ^ y.toNat := by
    simp only [bin]
    simp
    intro h
    rw [Int.ediv_eq_zero_of_lt (by omega)]
    have := pow_mono (a := n) (b := y.toNat) (by omega)
    omega
  rw [e]
  simp only [U]
  have m1 := pow_mono (a := y.toNat) (b := bhi.toNat) (by omega)
  have m2 := pow_mono (a := blo.toNat) (b := y.toNat) (by omega)
  have p1 := pow_pos' y.toNat
  have p2 := pow_pos' blo.toNat
  have p3 := pow_pos' bhi.toNat
  exact ⟨Int.le_trans (Int.ediv_le_ediv p3 x1) (div_anti (by omega) p1 m1), Int.le_trans (Int.ediv_le_ediv p1 x2) (div_anti (by omega) p2 m2)⟩
theorem sound_ashr : ((S 14 n al am bl bm blo bhi).1 ≤ sg n (bin 14 n x y) ∧ sg n (bin 14 n x y) ≤ (S 14 n al am bl bm blo bhi).2) := by
  obtain ⟨a1, a2, a3, a4, a5⟩ := va
  obtain ⟨b1, b2, b3, b4, b5⟩ := vb
  obtain ⟨x1, x2, x3, x4⟩ := hx
  obtain ⟨y1, y2, y3, y4⟩ := hy
  have hs := pow_succ' hn
  have hpp := pow_pos (n - 1)
  have hr := sg_inr hn x
  have m0 := mn_facts y (n - 1)
  have m1 := mn_facts blo (n - 1)
  have m2 := mn_facts bhi (n - 1)
  have e : sg n (bin 14 n x y) = sg n x / 2 ^ (mn y (n - 1)).toNat := by
    have hin : inr n (sg n x / 2 ^ (mn y (n - 1)).toNat) := by
      unfold inr
      rcases Int.lt_or_le (sg n x) 0 with k | k
      · have := div_neg' (mn y (n - 1)).toNat k
        omega
      · have := div_nn (mn y (n - 1)).toNat k
        omega
    rw [← sg_val hn hin]
    congr 1
    have e1 : bin 14 n x y = if (n : Int) ≤ y then (if 2 ^ (n - 1) ≤ x then 2 ^ n - 1 else 0) else sg n x / 2 ^ y.toNat % 2 ^ n := by simp [bin]
    rw [e1]
    by_cases c : (n : Int) ≤ y
    · rw [if_pos c, show mn y (n - 1) = ((n - 1 : Nat) : Int) by omega, Int.toNat_natCast]
      by_cases c2 : 2 ^ (n - 1) ≤ x
      · have := sg_hi c2 (by omega) hn
        have hq : sg n x / 2 ^ (n - 1) = -1 := by
          apply (Int.ediv_eq_iff_of_pos (by omega)).2
          omega
        rw [if_pos c2, hq, mod_plus (by omega) (by omega)]; omega
      · have := sg_lo (n := n) (y := x) (by omega) (by omega) hn
        rw [if_neg c2, this, Int.ediv_eq_zero_of_lt (by omega) (by omega)]; simp
    · rw [if_neg c, show mn y (n - 1) = y by omega]
  rw [e]
  simp only [S]
  have k1 := bt_shr (mn y (n - 1)).toNat ⟨x3, x4⟩
  have k2 := bt_shr' (p := (mn blo (n - 1)).toNat) (q := (mn bhi (n - 1)).toNat) (y := (mn y (n - 1)).toNat) al (by omega)
  have k3 := bt_shr' (p := (mn blo (n - 1)).toNat) (q := (mn bhi (n - 1)).toNat) (y := (mn y (n - 1)).toNat) am (by omega)
  have f := four_facts (al / 2 ^ (mn blo (n - 1)).toNat) (al / 2 ^ (mn bhi (n - 1)).toNat) (am / 2 ^ (mn blo (n - 1)).toNat) (am / 2 ^ (mn bhi (n - 1)).toNat)
  exact corners k1 k2 k3 f.1 f.2.1 f.2.2.1 f.2.2.2
end
/-! ### Comparisons, extensions, truncations -/
def dec (yes no : Prop) [Decidable yes] [Decidable no] : Int × Int × Int × Int := if yes then (1, 1, -1, -1) else if no then (0, 0, 0, 0) else (0, 1, -1, 0)
def Apart (alo ahi al am blo bhi bl bm : Int) : Prop := ahi < blo ∨ bhi < alo ∨ am < bl ∨ bm < al
instance (alo ahi al am blo bhi bl bm : Int) : Decidable (Apart alo ahi al am blo bhi bl bm) := by unfold Apart; infer_instance
def cmp (op : Int) (alo ahi al am blo bhi bl bm : Int) : Int × Int × Int × Int :=
  if op = 15 then dec False (Apart alo ahi al am blo bhi bl bm)
  else if op = 16 then dec (Apart alo ahi al am blo bhi bl bm) False
  else if op = 17 then dec (ahi < blo) (bhi ≤ alo)
  else if op = 18 then dec (ahi ≤ blo) (bhi < alo)
  else if op = 19 then dec (am < bl) (bm ≤ al)
  else dec (am ≤ bl) (bm < al)
def InR (n : Nat) (r : Int × Int × Int × Int) (x : Int) : Prop := In n r.1 r.2.1 r.2.2.1 r.2.2.2 x
theorem sg1_0 : sg 1 0 = 0 := by decide
theorem sg1_1 : sg 1 1 = -1 := by decide
theorem in_dec (yes no : Prop) [Decidable yes] [Decidable no] {r : Int} (h : r = 0 ∨ r = 1) (hy : yes → r = 1) (hno : no → r = 0) : InR 1 (dec yes no) r := by
  unfold dec InR In
  by_cases c : yes
  · rw [if_pos c, hy c, sg1_1]; decide
  · rw [if_neg c]
    by_cases c2 : no
    · rw [if_pos c2, hno c2, sg1_0]; decide
    · rw [if_neg c2]
      rcases h with rfl | rfl
      · rw [sg1_0]; decide
      · rw [sg1_1]; decide
theorem sound_cmp {op : Int} (ho : 15 ≤ op ∧ op ≤ 20) {n : Nat} {alo ahi al am blo bhi bl bm x y : Int} (hx : In n alo ahi al am x) (hy : In n blo bhi bl bm y) :
    InR 1 (cmp op alo ahi al am blo bhi bl bm) (bin op n x y) := by
  obtain ⟨x1, x2, x3, x4⟩ := hx
  obtain ⟨y1, y2, y3, y4⟩ := hy
  obtain rfl | rfl | rfl | rfl | rfl | rfl : op = 15 ∨ op = 16 ∨ op = 17 ∨ op = 18 ∨ op = 19 ∨ op = 20 := by omega
  · have e : bin 15 n x y = if x = y then 1 else 0 := by simp [bin]
    rw [e, show cmp 15 alo ahi al am blo bhi bl bm = dec False (Apart alo ahi al am blo bhi bl bm) by simp [cmp]]
    refine in_dec _ _ (by split <;> simp) (fun h => h.elim) (fun h => if_neg fun hxy => ?_)
    subst hxy; unfold Apart at h; omega
  · have e : bin 16 n x y = if x = y then 0 else 1 := by simp [bin]
    rw [e, show cmp 16 alo ahi al am blo bhi bl bm = dec (Apart alo ahi al am blo bhi bl bm) False by simp [cmp]]
    refine in_dec _ _ (by split <;> simp) (fun h => if_neg fun hxy => ?_) (fun h => h.elim)
    subst hxy; unfold Apart at h; omega
  · have e : bin 17 n x y = if x < y then 1 else 0 := by simp [bin]
    rw [e, show cmp 17 alo ahi al am blo bhi bl bm = dec (ahi < blo) (bhi ≤ alo) by simp [cmp]]
    exact in_dec _ _ (by split <;> simp) (fun h => if_pos (by omega)) (fun h => if_neg (by omega))
  · have e : bin 18 n x y = if x ≤ y then 1 else 0 := by simp [bin]
    rw [e, show cmp 18 alo ahi al am blo bhi bl bm = dec (ahi ≤ blo) (bhi < alo) by simp [cmp]]
    exact in_dec _ _ (by split <;> simp) (fun h => if_pos (by omega)) (fun h => if_neg (by omega))
  · have e : bin 19 n x y = if sg n x < sg n y then 1 else 0 := by simp [bin]
    rw [e, show cmp 19 alo ahi al am blo bhi bl bm = dec (am < bl) (bm ≤ al) by simp [cmp]]
    exact in_dec _ _ (by split <;> simp) (fun h => if_pos (by omega)) (fun h => if_neg (by omega))
  · have e : bin 20 n x y = if sg n x ≤ sg n y then 1 else 0 := by simp [bin]
    rw [e, show cmp 20 alo ahi al am blo bhi bl bm = dec (am ≤ bl) (bm < al) by simp [cmp]]
    exact in_dec _ _ (by split <;> simp) (fun h => if_pos (by omega)) (fun h => if_neg (by omega))
/-- The bounds of an extension or a truncation from m to n bits. -/
def cast (op : Int) (n m : Nat) (alo ahi al am : Int) : Int × Int × Int × Int :=
  if n = m then (alo, ahi, al, am) else if op = 22 then (alo, ahi, alo, ahi) else if op = 23 then (0, 2 ^ n - 1, al, am)
  else ((if ahi ≤ 2 ^ n - 1 then alo else 0), (if ahi ≤ 2 ^ n - 1 then ahi else 2 ^ n - 1), (if inr n al ∧ inr n am then al else -2 ^ (n - 1)), (if inr n al ∧ inr n am then am else 2 ^ (n - 1) - 1))
/-- The value of an extension or a truncation. -/
def castv (op : Int) (n m : Nat) (x : Int) : Int := if op = 23 then sg m x % 2 ^ n else x % 2 ^ n
theorem pow_dvd' {a b : Nat} (h : a ≤ b) : (2 : Int) ^ a ∣ 2 ^ b := by
  rw [← cast_pow, ← cast_pow]; exact Int.ofNat_dvd.2 (Nat.pow_dvd_pow 2 h)
theorem sound_cast {op : Int} {n m : Nat} (hn : 1 ≤ n) (hm : 1 ≤ m) (ho : (op = 22 ∧ m ≤ n) ∨ (op = 23 ∧ m ≤ n) ∨ (op = 24 ∧ n ≤ m)) {alo ahi al am x : Int} (ha0 : 0 ≤ alo) (va : Bd m alo ahi al am) (hx : In m alo ahi al am x) :
    InR n (cast op n m alo ahi al am) (castv op n m x) := by
  have hx' := hx
  obtain ⟨x1, x2, x3, x4⟩ := hx
  obtain ⟨a1, a2, a3, a4, a5⟩ := va
  have hmod := mod_lt n (castv op n m x)
  unfold cast castv InR
  by_cases c : n = m
  · subst c
    rw [if_pos rfl]
    rcases ho with ⟨rfl, _⟩ | ⟨rfl, _⟩ | ⟨rfl, _⟩
    · rw [if_neg (by decide), mod_small (by omega) (by omega)]; exact hx'
    · rw [if_pos rfl, sg_mod, mod_small (by omega) (by omega)]; exact hx'
    · rw [if_neg (by decide), mod_small (by omega) (by omega)]; exact hx'
  · rw [if_neg c]
    rcases ho with ⟨rfl, h⟩ | ⟨rfl, h⟩ | ⟨rfl, h⟩
    · have hp := pow_mono (a := m) (b := n - 1) (by omega)
      have hp1 := pow_mono (a := n - 1) (b := n) (by omega)
      rw [if_pos rfl, if_neg (by decide), mod_small (by omega) (by omega)]
      have := sg_lo (n := n) (y := x) (by omega) (by omega) hn
      unfold In
      simp only []
      omega
    · have hp := pow_mono (a := m - 1) (b := n - 1) (by omega)
      rw [if_neg (by decide), if_pos rfl, if_pos rfl]
      have hr := sg_inr hm x
      have := sg_val hn (v := sg m x) ⟨by omega, by omega⟩
      have := mod_lt n (sg m x)
      unfold In
      simp only []
      omega
    · rw [if_neg (show ¬ (24 : Int) = 22 by decide), if_neg (show ¬ (24 : Int) = 23 by decide), if_neg (show ¬ (24 : Int) = 23 by decide)]
      have hl := mod_lt n x
      have hsr := sg_inr hn (x % 2 ^ n)
      unfold In
      simp only []
      refine ⟨?_, ?_, ?_, ?_⟩
      · by_cases c2 : ahi ≤ 2 ^ n - 1
        · rw [if_pos c2, mod_small (by omega) (by omega)]; exact x1
        · rw [if_neg c2]; omega
      · by_cases c2 : ahi ≤ 2 ^ n - 1
        · rw [if_pos c2, mod_small (by omega) (by omega)]; exact x2
        · rw [if_neg c2]; omega
      all_goals
        by_cases c2 : inr n al ∧ inr n am
        · have hv : sg n (x % 2 ^ n) = sg m x := by
            obtain ⟨⟨c3, c4⟩, c5, c6⟩ := c2
            rw [← sg_val hn (v := sg m x) ⟨by omega, by omega⟩]
            congr 1
            rw [← Int.emod_emod_of_dvd x (pow_dvd' h), ← sg_mod x, Int.emod_emod_of_dvd _ (pow_dvd' h)]
          rw [if_pos c2, hv]; assumption
        · rw [if_neg c2]; omega
/-! ### The whole -/
abbrev R := Int × Int × Int × Int
def top (n : Nat) : R := (0, 2 ^ n - 1, -2 ^ (n - 1), 2 ^ (n - 1) - 1)
def one (n : Nat) (x : Int) : R := (x % 2 ^ n, x % 2 ^ n, sg n x, sg n x)
def join (b c : R) : R := (mn b.1 c.1, mx b.2.1 c.2.1, mn b.2.2.1 c.2.2.1, mx b.2.2.2 c.2.2.2)
/-- What Tighten gives. -/
def tg (w : Int) (r : R) : Int × Int × Int × Int × Bool := if Valid w r.1 r.2.1 r.2.2.1 r.2.2.2 then Tg.tight (nn w) r.1 r.2.1 r.2.2.1 r.2.2.2 else (0, 0, 0, 0, false)
/-- The result of Tighten, and the range of all words where it has none. -/
def fitr (w : Int) (r : R) : R := if (tg w r).2.2.2.2 = true then ((tg w r).1, (tg w r).2.1, (tg w r).2.2.1, (tg w r).2.2.2.1) else top (nn w)
/-- The bounds of a result, not yet tightened. -/
def core (op : Int) (n m : Nat) (a b c : R) : R :=
  if 15 ≤ op ∧ op ≤ 20 then cmp op a.1 a.2.1 a.2.2.1 a.2.2.2 b.1 b.2.1 b.2.2.1 b.2.2.2
  else if op = 21 then (if a.1 = a.2.1 then (if a.1 = 1 then b else c) else join b c)
  else if 22 ≤ op then cast op n m a.1 a.2.1 a.2.2.1 a.2.2.2
  else ((U op n a.1 a.2.1 b.1 b.2.1).1, (U op n a.1 a.2.1 b.1 b.2.1).2, (S op n a.2.2.1 a.2.2.2 b.2.2.1 b.2.2.2 b.1 b.2.1).1, (S op n a.2.2.1 a.2.2.2 b.2.2.1 b.2.2.2 b.1 b.2.1).2)
/-- The value of an operator. -/
def ev (op : Int) (n m : Nat) (x y z num : Int) : Int :=
  if op = 1 then num % 2 ^ n else if op ≤ 14 then bin op n x y else if op ≤ 20 then bin op m x y else if op = 21 then (if x = 1 then y else z) else castv op n m x
def BdR (n : Nat) (r : R) : Prop := Bd n r.1 r.2.1 r.2.2.1 r.2.2.2 ∧ 0 ≤ r.1
theorem in_top {n : Nat} (hn : 1 ≤ n) {x : Int} (h0 : 0 ≤ x) (h : x < 2 ^ n) : InR n (top n) x := by
  have := sg_inr hn x
  unfold InR In top
  simp only []
  omega
theorem bd_top {n : Nat} (hn : 1 ≤ n) : BdR n (top n) := by
  have := pow_pos (n - 1)
  have := pow_pos n
  unfold BdR top
  exact ⟨⟨by simp only []; omega, by simp only []; omega, by simp only []; omega, by simp only []; omega, by simp only []; omega⟩, by simp only []; omega⟩
theorem tg_sound {w : Int} (hw : 1 ≤ w ∧ w ≤ 64) {r : R} (h0 : 0 ≤ r.1) {x : Int} (hx0 : 0 ≤ x) (hx : x < 2 ^ nn w) (h : InR (nn w) r x) (hok : (tg w r).2.2.2.2 = true) :
    BdR (nn w) ((tg w r).1, (tg w r).2.1, (tg w r).2.2.1, (tg w r).2.2.2.1) ∧ InR (nn w) ((tg w r).1, (tg w r).2.1, (tg w r).2.2.1, (tg w r).2.2.2.1) x := by
  have hn := nn_of (w := w) (by omega) hw.2
  unfold tg at *
  by_cases hv : Valid w r.1 r.2.1 r.2.2.1 r.2.2.2
  · rw [if_pos hv] at hok ⊢
    rcases tight_form (n := nn w) (by omega) h0 (Bd.of hv) with ⟨e, _⟩ | ⟨a, b, c, d, e, hb, ha, _, _, _, _, _, hin⟩
    · rw [e] at hok; cases hok
    · rw [e]
      exact ⟨⟨hb, ha⟩, (hin x hx0 hx).2 h⟩
  · rw [if_neg hv] at hok; cases hok
theorem fitr_sound {w : Int} (hw : 1 ≤ w ∧ w ≤ 64) {r : R} (h0 : 0 ≤ r.1) {x : Int} (hx0 : 0 ≤ x) (hx : x < 2 ^ nn w) (h : InR (nn w) r x) : BdR (nn w) (fitr w r) ∧ InR (nn w) (fitr w r) x := by
  have hn := nn_of (w := w) (by omega) hw.2
  unfold fitr
  by_cases c : (tg w r).2.2.2.2 = true
  · rw [if_pos c]; exact tg_sound hw h0 hx0 hx h c
  · rw [if_neg c]; exact ⟨bd_top (by omega), in_top (by omega) hx0 hx⟩
theorem tg_bd {w : Int} (hw : 1 ≤ w ∧ w ≤ 64) {r : R} (h0 : 0 ≤ r.1) (hok : (tg w r).2.2.2.2 = true) : BdR (nn w) ((tg w r).1, (tg w r).2.1, (tg w r).2.2.1, (tg w r).2.2.2.1) := by
  have hn := nn_of (w := w) (by omega) hw.2
  unfold tg at *
  by_cases hv : Valid w r.1 r.2.1 r.2.2.1 r.2.2.2
  · rw [if_pos hv] at hok ⊢
    rcases tight_form (n := nn w) (by omega) h0 (Bd.of hv) with ⟨e, _⟩ | ⟨a, b, c, d, e, hb, ha, _, _, _, _, _, hin⟩
    · rw [e] at hok; cases hok
    · rw [e]; exact ⟨hb, ha⟩
  · rw [if_neg hv] at hok; cases hok
/-- The shapes of operators: the width of the result and those of the operands. -/
def Sh (op w : Int) (ws : List Int) : Prop := (1 ≤ w ∧ w ≤ 64) ∧ (∀ v ∈ ws, 1 ≤ v ∧ v ≤ 64) ∧
  ((op = 1 ∧ ws = []) ∨ ((2 ≤ op ∧ op ≤ 14) ∧ ws = [w, w]) ∨ ((15 ≤ op ∧ op ≤ 20) ∧ w = 1 ∧ ∃ v, ws = [v, v]) ∨ (op = 21 ∧ ws = [1, w, w]) ∨ ((op = 22 ∨ op = 23) ∧ ∃ v, ws = [v] ∧ v ≤ w) ∨ (op = 24 ∧ ∃ v, ws = [v] ∧ w ≤ v))
theorem sound_core {op : Int} {n m : Nat} (hn : 1 ≤ n) (hm : 1 ≤ m) {a b c : R} {x y z num : Int}
    (ho : ((2 ≤ op ∧ op ≤ 14) ∧ m = n ∧ InR n a x ∧ InR n b y ∧ BdR n a ∧ BdR n b) ∨ ((15 ≤ op ∧ op ≤ 20) ∧ n = 1 ∧ InR m a x ∧ InR m b y) ∨ (op = 21 ∧ m = 1 ∧ InR 1 a x ∧ InR n b y ∧ InR n c z) ∨ (22 ≤ op ∧ ((op = 22 ∧ m ≤ n) ∨ (op = 23 ∧ m ≤ n) ∨ (op = 24 ∧ n ≤ m)) ∧ InR m a x ∧ BdR m a)) :
    InR n (core op n m a b c) (ev op n m x y z num) := by
  rcases ho with ⟨ho, rfl, hx, hy, ⟨va, ha0⟩, vb, hb0⟩ | ⟨ho, rfl, hx, hy⟩ | ⟨rfl, rfl, hx, hy, hz⟩ | ⟨ho, hs, hx, va, ha0⟩
  · have e1 : ev op m m x y z num = bin op m x y := by unfold ev; rw [if_neg (by omega), if_pos ho.2]
    have e2 : core op m m a b c = ((U op m a.1 a.2.1 b.1 b.2.1).1, (U op m a.1 a.2.1 b.1 b.2.1).2, (S op m a.2.2.1 a.2.2.2 b.2.2.1 b.2.2.2 b.1 b.2.1).1, (S op m a.2.2.1 a.2.2.2 b.2.2.1 b.2.2.2 b.1 b.2.1).2) := by
      unfold core; rw [if_neg (by omega), if_neg (by omega), if_neg (by omega)]
    rw [e1, e2]
    have xl := hx
    have yl := hy
    obtain ⟨x1, x2, x3, x4⟩ := xl
    obtain ⟨y1, y2, y3, y4⟩ := yl
    have hr := bin_range (op := op) hn (a := x) (b := y) (by omega) (by have := va.h2; omega) (by omega) (by have := vb.h2; omega)
    have hsr := sg_inr hn (bin op m x y)
    have dU : ∀ p, U op m a.1 a.2.1 b.1 b.2.1 = p → p = (0, 2 ^ m - 1) → (U op m a.1 a.2.1 b.1 b.2.1).1 ≤ bin op m x y ∧ bin op m x y ≤ (U op m a.1 a.2.1 b.1 b.2.1).2 := by
      intro p h1 h2; rw [h1, h2]; constructor <;> simp only [] <;> omega
    have dS : ∀ p, S op m a.2.2.1 a.2.2.2 b.2.2.1 b.2.2.2 b.1 b.2.1 = p → p = (-2 ^ (m - 1), 2 ^ (m - 1) - 1) → (S op m a.2.2.1 a.2.2.2 b.2.2.1 b.2.2.2 b.1 b.2.1).1 ≤ sg m (bin op m x y) ∧ sg m (bin op m x y) ≤ (S op m a.2.2.1 a.2.2.2 b.2.2.1 b.2.2.2 b.1 b.2.1).2 := by
      intro p h1 h2; rw [h1, h2]; exact hsr
    have key : ((U op m a.1 a.2.1 b.1 b.2.1).1 ≤ bin op m x y ∧ bin op m x y ≤ (U op m a.1 a.2.1 b.1 b.2.1).2) ∧ (S op m a.2.2.1 a.2.2.2 b.2.2.1 b.2.2.2 b.1 b.2.1).1 ≤ sg m (bin op m x y) ∧ sg m (bin op m x y) ≤ (S op m a.2.2.1 a.2.2.2 b.2.2.1 b.2.2.2 b.1 b.2.1).2 := by
      obtain rfl | rfl | rfl | rfl | rfl | rfl | rfl | rfl | rfl | rfl | rfl | rfl | rfl : op = 2 ∨ op = 3 ∨ op = 4 ∨ op = 5 ∨ op = 6 ∨ op = 7 ∨ op = 8 ∨ op = 9 ∨ op = 10 ∨ op = 11 ∨ op = 12 ∨ op = 13 ∨ op = 14 := by omega
      · exact sound_add hn ha0 hb0 va vb hx hy
      · exact sound_sub hn ha0 hb0 va vb hx hy
      · exact sound_mul hn ha0 hb0 va vb hx hy
      · exact ⟨sound_udiv hn ha0 hb0 va vb hx hy, dS _ rfl (by simp [S])⟩
      · exact ⟨sound_urem hn ha0 hb0 va vb hx hy, dS _ rfl (by simp [S])⟩
      · exact ⟨dU _ rfl (by simp [U]), sound_sdiv hn ha0 hb0 va vb hx hy⟩
      · exact ⟨dU _ rfl (by simp [U]), sound_srem hn ha0 hb0 va vb hx hy⟩
      · exact ⟨sound_and hn ha0 hb0 va vb hx hy, dS _ rfl (by simp [S])⟩
      · exact ⟨sound_or hn ha0 hb0 va vb hx hy, dS _ rfl (by simp [S])⟩
      · exact ⟨sound_xor hn ha0 hb0 va vb hx hy, dS _ rfl (by simp [S])⟩
      · exact sound_shl hn ha0 hb0 va vb hx hy
      · exact ⟨sound_lshr hn ha0 hb0 va vb hx hy, dS _ rfl (by simp [S])⟩
      · exact ⟨dU _ rfl (by simp [U]), sound_ashr hn ha0 hb0 va vb hx hy⟩
    exact ⟨key.1.1, key.1.2, key.2.1, key.2.2⟩
  · have e1 : ev op 1 m x y z num = bin op m x y := by unfold ev; rw [if_neg (by omega), if_neg (by omega), if_pos ho.2]
    have e2 : core op 1 m a b c = cmp op a.1 a.2.1 a.2.2.1 a.2.2.2 b.1 b.2.1 b.2.2.1 b.2.2.2 := by unfold core; rw [if_pos ho]
    rw [e1, e2]; exact sound_cmp ho hx hy
  · have e1 : ev 21 n 1 x y z num = if x = 1 then y else z := by simp [ev]
    have e2 : core 21 n 1 a b c = if a.1 = a.2.1 then (if a.1 = 1 then b else c) else join b c := by simp [core]
    rw [e1, e2]
    obtain ⟨x1, x2, x3, x4⟩ := hx
    by_cases k : a.1 = a.2.1
    · rw [if_pos k]
      by_cases k1 : a.1 = 1
      · rw [if_pos k1, if_pos (by omega)]; exact hy
      · rw [if_neg k1, if_neg (by omega)]; exact hz
    · rw [if_neg k]
      obtain ⟨y1, y2, y3, y4⟩ := hy
      obtain ⟨z1, z2, z3, z4⟩ := hz
      have f1 := mn_facts b.1 c.1
      have f2 := mx_facts b.2.1 c.2.1
      have f3 := mn_facts b.2.2.1 c.2.2.1
      have f4 := mx_facts b.2.2.2 c.2.2.2
      unfold InR In join
      simp only []
      split <;> omega
  · have e1 : ev op n m x y z num = castv op n m x := by unfold ev; rw [if_neg (by omega), if_neg (by omega), if_neg (by omega), if_neg (by omega)]
    have e2 : core op n m a b c = cast op n m a.1 a.2.1 a.2.2.1 a.2.2.2 := by unfold core; rw [if_neg (by omega), if_neg (by omega), if_pos ho]
    rw [e1, e2]; exact sound_cast hn hm hs ha0 va hx
theorem fit_dec (yes no : Prop) [Decidable yes] [Decidable no] : fitr 1 (dec yes no) = dec yes no := by
  unfold dec
  by_cases c : yes
  · rw [if_pos c]; decide
  · rw [if_neg c]
    by_cases c2 : no
    · rw [if_pos c2]; decide
    · rw [if_neg c2]; decide
end Go.Proofs.YthhhegblccoonaaGreatDoor.Ap
/- What the computer's methods come to: sums, differences, products, quotients. -/
namespace Go.Proofs.YthhhegblccoonaaGreatDoor.Cm
set_option linter.unusedVariables false
set_option linter.unusedSimpArgs false
set_option linter.unusedSectionVars false
open Go.RowKit Go.Proofs.YthhhegblccoonaaGreatDoor.P Go.Proofs.YthhhegblccoonaaGreatDoorW.PrintWords Wd Im Iv Tg Lw0 Ap

def res (w : Int) (n : Nat) (u s : Int × Int) : Option (Int × Int × Int × Int × Int × Int × Int × Int) := some (w, 2 ^ n - 1, -2 ^ (n - 1), 2 ^ (n - 1) - 1, u.1, u.2, s.1, s.2)
theorem i64_inr {n : Nat} (h64 : n ≤ 64) {x : Int} (h : inr n x) : I64 x := by
  have := pow_le63 (n := n - 1) (by omega)
  unfold inr at h; unfold I64; omega
section
variable (w m : Int) {n : Nat} (o0 o1 o2 o3 : Int)
theorem within_eq (x : Int) : interval_computer_within.f w m (-2 ^ (n - 1)) (2 ^ (n - 1) - 1) o0 o1 o2 o3 x = some (decide (inr n x)) := by
  unfold interval_computer_within.f
  by_cases c : x ≥ -2 ^ (n - 1)
  · rw [if_pos c]; congr 1; exact decide_eq_decide.2 ⟨fun h => ⟨c, h⟩, fun h => h.2⟩
  · rw [if_neg c, decide_eq_false (fun h : inr n x => c h.1)]
theorem sum_eq (h64 : n ≤ 64) {a b : Int} (ha : I64 a) (hb : I64 b) : interval_computer_sum.f w m (-2 ^ (n - 1)) (2 ^ (n - 1) - 1) o0 o1 o2 o3 a b = some (wrap64 (a + b), decide (inr n (a + b))) := by
  unfold interval_computer_sum.f
  have key : ((decide (wrap64 (a + b) > a)) == (decide (b > 0))) = true ↔ I64 (a + b) := by
    rw [beq_iff_eq, decide_eq_decide]; unfold I64 wrap64 at *; omega
  by_cases c : I64 (a + b)
  · rw [if_pos (key.2 c), within_eq, Option.bind_some, wrap64_id c.1 c.2]
  · rw [if_neg (fun h => c (key.1 h)), decide_eq_false (fun h => c (i64_inr h64 h))]
theorem less_eq (h64 : n ≤ 64) {a b : Int} (ha : I64 a) (hb : I64 b) : interval_computer_less.f w m (-2 ^ (n - 1)) (2 ^ (n - 1) - 1) o0 o1 o2 o3 a b = some (wrap64 (a - b), decide (inr n (a - b))) := by
  unfold interval_computer_less.f
  have key : ((decide (wrap64 (a - b) < a)) == (decide (b > 0))) = true ↔ I64 (a - b) := by
    rw [beq_iff_eq, decide_eq_decide]; unfold I64 wrap64 at *; omega
  by_cases c : I64 (a - b)
  · rw [if_pos (key.2 c), within_eq, Option.bind_some, wrap64_id c.1 c.2]
  · rw [if_neg (fun h => c (key.1 h)), decide_eq_false (fun h => c (i64_inr h64 h))]
theorem times_eq (h64 : n ≤ 64) {a b : Int} (ha : I64 a) (hb : I64 b) : interval_computer_times.f w m (-2 ^ (n - 1)) (2 ^ (n - 1) - 1) o0 o1 o2 o3 a b = some (wrap64 (a * b), decide (inr n (a * b))) := by
  have key := times_ok ha hb
  unfold interval_computer_times.f
  simp only [within_eq, Option.bind_some]
  have good : I64 (a * b) → some (wrap64 (a * b), decide (inr n (wrap64 (a * b)))) = some (wrap64 (a * b), decide (inr n (a * b))) := fun c => by rw [wrap64_id c.1 c.2]
  have bad : ¬ I64 (a * b) → some (wrap64 (a * b), false) = some (wrap64 (a * b), decide (inr n (a * b))) := fun c => by rw [decide_eq_false (fun h => c (i64_inr h64 h))]
  by_cases a0 : a = 0
  · rw [if_pos a0]; exact good (key.1 (.inl a0))
  · rw [if_neg a0]
    by_cases c1 : wrap64 (Int.tdiv (wrap64 (a * b)) a) = b
    · rw [if_pos c1]
      by_cases c2 : a = -1
      · rw [if_pos c2]
        by_cases c3 : b = -9223372036854775808
        · rw [if_pos c3]; exact bad (fun h => by rcases key.2 h with h | h; exact a0 h; exact h.2 ⟨c2, c3⟩)
        · rw [if_neg c3]; exact good (key.1 (.inr ⟨c1, fun h => c3 h.2⟩))
      · rw [if_neg c2]; exact good (key.1 (.inr ⟨c1, fun h => c2 h.1⟩))
    · rw [if_neg c1]; exact bad (fun h => by rcases key.2 h with h | h; exact a0 h; exact c1 h.1)
theorem corners_eq (mi ma p q r s : Int) : interval_computer_corners.f w m mi ma o0 o1 o2 o3 p [q, r, s] = some (w, m, mi, ma, o0, o1, mn4 p q r s, mx4 p q r s) := by
  have w1 : wrap64 (0 + 1) = 1 := by decide +kernel
  have w2 : wrap64 (1 + 1) = 2 := by decide +kernel
  have w3 : wrap64 (2 + 1) = 3 := by decide +kernel
  obtain ⟨j, hQ⟩ := Q_ex 8
  unfold interval_computer_corners.f
  rw [hQ, interval_computer_corners.l0, if_pos (by simp), if_pos (by decide), if_pos (by simp), w1, interval_computer_corners.l0, if_pos (by simp), if_pos (by decide), if_pos (by simp), w2, interval_computer_corners.l0, if_pos (by simp), if_pos (by decide), if_pos (by simp), w3, interval_computer_corners.l0, if_neg (by simp)]
  rfl
end
theorem bd_i64 {n : Nat} (h64 : n ≤ 64) {lo hi l m : Int} (h : Bd n lo hi l m) : I64 l ∧ I64 m := by
  have := pow_le63 (n := n - 1) (by omega)
  obtain ⟨h1, h2, h3, h4, h5⟩ := h
  unfold I64; omega
section
variable (w : Int) {n : Nat} (hn : 1 ≤ n) (h64 : n ≤ 64) {alo ahi al am blo bhi bl bm : Int} (ha0 : 0 ≤ alo) (hb0 : 0 ≤ blo) (va : Bd n alo ahi al am) (vb : Bd n blo bhi bl bm)
include hn h64 ha0 hb0 va vb
theorem add_eq : interval_computer_add.f w (2 ^ n - 1) (-2 ^ (n - 1)) (2 ^ (n - 1) - 1) 0 (2 ^ n - 1) (-2 ^ (n - 1)) (2 ^ (n - 1) - 1) alo ahi al am blo bhi bl bm = res w n (U 2 n alo ahi blo bhi) (S 2 n al am bl bm blo bhi) := by
  obtain ⟨ia, ia'⟩ := bd_i64 h64 va
  obtain ⟨ib, ib'⟩ := bd_i64 h64 vb
  obtain ⟨a1, a2, a3, a4, a5⟩ := va
  obtain ⟨b1, b2, b3, b4, b5⟩ := vb
  have hp := pow_le h64
  have hpp := pow_pos n
  have J1 : ∀ o0 o1, interval_computer_add.j1 w (2 ^ n - 1) (-2 ^ (n - 1)) (2 ^ (n - 1) - 1) o0 o1 (-2 ^ (n - 1)) (2 ^ (n - 1) - 1) alo ahi al am blo bhi bl bm = res w n (o0, o1) (S 2 n al am bl bm blo bhi) := by
    intro o0 o1
    rw [interval_computer_add.j1, sum_eq _ _ _ _ _ _ h64 ia ib, Option.bind_some, sum_eq _ _ _ _ _ _ h64 ia' ib', Option.bind_some]
    simp only [S, if_pos]
    by_cases c1 : inr n (al + bl)
    · by_cases c2 : inr n (am + bm)
      · have i1 := i64_inr h64 c1
        have i2 := i64_inr h64 c2
        rw [if_pos (decide_eq_true c1), if_pos (decide_eq_true c2), if_pos ⟨c1, c2⟩, wrap64_id i1.1 i1.2, wrap64_id i2.1 i2.2]; rfl
      · rw [if_pos (decide_eq_true c1), if_neg (by simpa using c2), if_neg (fun h => c2 h.2)]; rfl
    · rw [if_neg (by simpa using c1), if_neg (fun h => c1 h.1)]; rfl
  unfold interval_computer_add.f bits_Add64.f
  rw [if_pos rfl, Option.bind_some, if_pos rfl, Option.bind_some]
  have e1 : addlo alo blo = (alo + blo) % 18446744073709551616 := by unfold addlo; omega
  have e2 : addlo ahi bhi = (ahi + bhi) % 18446744073709551616 := by unfold addlo; omega
  have e3 : addhi alo blo = (alo + blo) / 18446744073709551616 := by unfold addhi; omega
  have e4 : addhi ahi bhi = (ahi + bhi) / 18446744073709551616 := by unfold addhi; omega
  simp only [e1, e2, e3, e4, U, if_pos]
  have hm1 : Go.bits .and .u64 ((alo + blo) % 18446744073709551616) (2 ^ n - 1) = (alo + blo) % 2 ^ n := by rw [and_mask h64 (by omega), mod_mod_pow h64]
  have hm2 : Go.bits .and .u64 ((ahi + bhi) % 18446744073709551616) (2 ^ n - 1) = (ahi + bhi) % 2 ^ n := by rw [and_mask h64 (by omega), mod_mod_pow h64]
  by_cases c : ahi + bhi ≤ 2 ^ n - 1
  · rw [if_pos (by omega), if_pos c, decide_eq_true (show (ahi + bhi) % 18446744073709551616 ≤ 2 ^ n - 1 by omega), interval_computer_add.j0, if_pos rfl]
    unfold interval_computer_u.f
    rw [Option.bind_some, show (alo + blo) % 18446744073709551616 = alo + blo by omega, show (ahi + bhi) % 18446744073709551616 = ahi + bhi by omega]
    exact J1 _ _
  · rw [if_neg c]
    have J0 : interval_computer_add.j0 ((alo + blo) % 18446744073709551616) ((alo + blo) / 18446744073709551616) ((ahi + bhi) % 18446744073709551616) false w (2 ^ n - 1) (-2 ^ (n - 1)) (2 ^ (n - 1) - 1) 0 (2 ^ n - 1) (-2 ^ (n - 1)) (2 ^ (n - 1) - 1) alo ahi al am blo bhi bl bm = res w n (if 2 ^ n - 1 < alo + blo then ((alo + blo) % 2 ^ n, (ahi + bhi) % 2 ^ n) else (0, 2 ^ n - 1)) (S 2 n al am bl bm blo bhi) := by
      rw [interval_computer_add.j0, if_neg (by decide)]
      unfold interval_computer_u.f
      simp only [Option.bind_some, hm1, hm2]
      by_cases c3 : 2 ^ n - 1 < alo + blo
      · rw [if_pos c3]
        by_cases c4 : (alo + blo) / 18446744073709551616 = 1
        · rw [if_pos c4]; exact J1 _ _
        · rw [if_neg c4, if_pos (by omega)]; exact J1 _ _
      · rw [if_neg c3, if_neg (by omega), if_neg (by omega)]; exact J1 _ _
    by_cases c2 : (ahi + bhi) / 18446744073709551616 = 0
    · rw [if_pos c2, decide_eq_false (show ¬ (ahi + bhi) % 18446744073709551616 ≤ 2 ^ n - 1 by omega)]; exact J0
    · rw [if_neg c2]; exact J0
theorem sub_eq : interval_computer_sub.f w (2 ^ n - 1) (-2 ^ (n - 1)) (2 ^ (n - 1) - 1) 0 (2 ^ n - 1) (-2 ^ (n - 1)) (2 ^ (n - 1) - 1) alo ahi al am blo bhi bl bm = res w n (U 3 n alo ahi blo bhi) (S 3 n al am bl bm blo bhi) := by
  obtain ⟨ia, ia'⟩ := bd_i64 h64 va
  obtain ⟨ib, ib'⟩ := bd_i64 h64 vb
  obtain ⟨a1, a2, a3, a4, a5⟩ := va
  obtain ⟨b1, b2, b3, b4, b5⟩ := vb
  have hp := pow_le h64
  have J1 : ∀ o0 o1, interval_computer_sub.j1 w (2 ^ n - 1) (-2 ^ (n - 1)) (2 ^ (n - 1) - 1) o0 o1 (-2 ^ (n - 1)) (2 ^ (n - 1) - 1) alo ahi al am blo bhi bl bm = res w n (o0, o1) (S 3 n al am bl bm blo bhi) := by
    intro o0 o1
    rw [interval_computer_sub.j1, less_eq _ _ _ _ _ _ h64 ia ib', Option.bind_some, less_eq _ _ _ _ _ _ h64 ia' ib, Option.bind_some]
    simp only [S, if_pos, if_neg (show ¬ (3 : Int) = 2 by decide)]
    by_cases c1 : inr n (al - bm)
    · by_cases c2 : inr n (am - bl)
      · have i1 := i64_inr h64 c1
        have i2 := i64_inr h64 c2
        rw [if_pos (decide_eq_true c1), if_pos (decide_eq_true c2), if_pos ⟨c1, c2⟩, wrap64_id i1.1 i1.2, wrap64_id i2.1 i2.2]; rfl
      · rw [if_pos (decide_eq_true c1), if_neg (by simpa using c2), if_neg (fun h => c2 h.2)]; rfl
    · rw [if_neg (by simpa using c1), if_neg (fun h => c1 h.1)]; rfl
  have hm : ∀ x, Go.bits .and .u64 (IntKind.u64.wrap x) (2 ^ n - 1) = x % 2 ^ n := fun x => by rw [and_mask h64 (by rw [wrap_u64]; omega), wrap_mod h64]
  unfold interval_computer_sub.f
  simp only [U, if_pos, if_neg (show ¬ (3 : Int) = 2 by decide)]
  have Jt : interval_computer_sub.j0 true w (2 ^ n - 1) (-2 ^ (n - 1)) (2 ^ (n - 1) - 1) 0 (2 ^ n - 1) (-2 ^ (n - 1)) (2 ^ (n - 1) - 1) alo ahi al am blo bhi bl bm = res w n ((alo - bhi) % 2 ^ n, (ahi - blo) % 2 ^ n) (S 3 n al am bl bm blo bhi) := by
    rw [interval_computer_sub.j0, if_pos rfl]
    unfold interval_computer_u.f
    rw [Option.bind_some, hm, hm]; exact J1 _ _
  by_cases c : bhi ≤ alo
  · rw [if_pos c, if_pos (.inl c)]; exact Jt
  · rw [if_neg c]
    by_cases c2 : ahi < blo
    · rw [if_pos (.inr c2), decide_eq_true c2]; exact Jt
    · rw [if_neg (by omega), decide_eq_false c2, interval_computer_sub.j0, if_neg (by decide)]; exact J1 _ _
end
theorem mul64_eq {a b : Int} (ha : 0 ≤ a ∧ a < 18446744073709551616) (hb : 0 ≤ b ∧ b < 18446744073709551616) : bits_Mul64.f a b = some (a * b / 18446744073709551616, a * b % 18446744073709551616) := by
  unfold bits_Mul64.f
  have m32 : ∀ x : Int, 0 ≤ x ∧ x < 18446744073709551616 → Go.bits .and .u64 x 4294967295 = x % 4294967296 := fun x h => and_mask (n := 32) (by decide) h
  have a0 : 0 ≤ a / 4294967296 ∧ a / 4294967296 ≤ 4294967295 := by omega
  have a1 : 0 ≤ a % 4294967296 ∧ a % 4294967296 ≤ 4294967295 := by omega
  have b0 : 0 ≤ b / 4294967296 ∧ b / 4294967296 ≤ 4294967295 := by omega
  have b1 : 0 ≤ b % 4294967296 ∧ b % 4294967296 ≤ 4294967295 := by omega
  have hab : a * b = (a / 4294967296) * (b / 4294967296) * 18446744073709551616 + ((a / 4294967296) * (b % 4294967296) + (a % 4294967296) * (b / 4294967296)) * 4294967296 + (a % 4294967296) * (b % 4294967296) := by
    have e1 := Int.mul_ediv_add_emod a 4294967296
    have e2 := Int.mul_ediv_add_emod b 4294967296
    generalize a / 4294967296 = x at *
    generalize a % 4294967296 = y at *
    generalize b / 4294967296 = z at *
    generalize b % 4294967296 = t at *
    subst e1 e2
    grind
  rw [m32 a ha, m32 b hb]
  have bd : ∀ x y : Int, (0 ≤ x ∧ x ≤ 4294967295) → (0 ≤ y ∧ y ≤ 4294967295) → 0 ≤ x * y ∧ x * y ≤ 18446744065119617025 := fun x y hx hy => ⟨Int.mul_nonneg hx.1 hy.1, Int.le_trans (Int.mul_le_mul hx.2 hy.2 hy.1 (by decide)) (by decide)⟩
  have p := bd _ _ a0 b0
  have q := bd _ _ a0 b1
  have r := bd _ _ a1 b0
  have s := bd _ _ a1 b1
  rw [hab]
  generalize (a / 4294967296) * (b / 4294967296) = P at *
  generalize (a / 4294967296) * (b % 4294967296) = Q at *
  generalize (a % 4294967296) * (b / 4294967296) = R at *
  generalize (a % 4294967296) * (b % 4294967296) = T at *
  clear hab a0 a1 b0 b1 bd
  have w : ∀ x : Int, 0 ≤ x → x < 18446744073709551616 → IntKind.u64.wrap x = x := fun x h h' => by rw [wrap_u64]; omega
  rw [w T (by omega) (by omega), w Q (by omega) (by omega), w R (by omega) (by omega), w P (by omega) (by omega), w (Q + T / 4294967296) (by omega) (by omega), m32 _ (by omega), w ((Q + T / 4294967296) % 4294967296 + R) (by omega) (by omega), w (P + (Q + T / 4294967296) / 4294967296) (by omega) (by omega), w (P + (Q + T / 4294967296) / 4294967296 + ((Q + T / 4294967296) % 4294967296 + R) / 4294967296) (by omega) (by omega), wrap_u64]
  congr 2
  omega
section
variable (w : Int) {n : Nat} (hn : 1 ≤ n) (h64 : n ≤ 64) {alo ahi al am blo bhi bl bm : Int} (ha0 : 0 ≤ alo) (hb0 : 0 ≤ blo) (va : Bd n alo ahi al am) (vb : Bd n blo bhi bl bm)
include hn h64 ha0 hb0 va vb
theorem mul_eq : interval_computer_mul.f w (2 ^ n - 1) (-2 ^ (n - 1)) (2 ^ (n - 1) - 1) 0 (2 ^ n - 1) (-2 ^ (n - 1)) (2 ^ (n - 1) - 1) alo ahi al am blo bhi bl bm = res w n (U 4 n alo ahi blo bhi) (S 4 n al am bl bm blo bhi) := by
  obtain ⟨ia, ia'⟩ := bd_i64 h64 va
  obtain ⟨ib, ib'⟩ := bd_i64 h64 vb
  obtain ⟨a1, a2, a3, a4, a5⟩ := va
  obtain ⟨b1, b2, b3, b4, b5⟩ := vb
  have hp := pow_le h64
  have J1 : ∀ o0 o1, interval_computer_mul.j1 w (2 ^ n - 1) (-2 ^ (n - 1)) (2 ^ (n - 1) - 1) o0 o1 (-2 ^ (n - 1)) (2 ^ (n - 1) - 1) alo ahi al am blo bhi bl bm = res w n (o0, o1) (S 4 n al am bl bm blo bhi) := by
    intro o0 o1
    rw [interval_computer_mul.j1, times_eq _ _ _ _ _ _ h64 ia ib, Option.bind_some, times_eq _ _ _ _ _ _ h64 ia ib', Option.bind_some, times_eq _ _ _ _ _ _ h64 ia' ib, Option.bind_some, times_eq _ _ _ _ _ _ h64 ia' ib', Option.bind_some]
    simp only [S, if_pos, if_neg (show ¬ (4 : Int) = 2 by decide), if_neg (show ¬ (4 : Int) = 3 by decide)]
    by_cases c1 : inr n (al * bl)
    · by_cases c2 : inr n (al * bm)
      · by_cases c3 : inr n (am * bl)
        · by_cases c4 : inr n (am * bm)
          · have i1 := i64_inr h64 c1
            have i2 := i64_inr h64 c2
            have i3 := i64_inr h64 c3
            have i4 := i64_inr h64 c4
            rw [if_pos (decide_eq_true c1), if_pos (decide_eq_true c2), if_pos (decide_eq_true c3), if_pos (decide_eq_true c4), if_pos ⟨c1, c2, c3, c4⟩, wrap64_id i1.1 i1.2, wrap64_id i2.1 i2.2, wrap64_id i3.1 i3.2, wrap64_id i4.1 i4.2, corners_eq]; rfl
          · rw [if_pos (decide_eq_true c1), if_pos (decide_eq_true c2), if_pos (decide_eq_true c3), if_neg (by simpa using c4), if_neg (fun h => c4 h.2.2.2)]; rfl
        · rw [if_pos (decide_eq_true c1), if_pos (decide_eq_true c2), if_neg (by simpa using c3), if_neg (fun h => c3 h.2.2.1)]; rfl
      · rw [if_pos (decide_eq_true c1), if_neg (by simpa using c2), if_neg (fun h => c2 h.2.1)]; rfl
    · rw [if_neg (by simpa using c1), if_neg (fun h => c1 h.1)]; rfl
  unfold interval_computer_mul.f
  rw [mul64_eq (by omega) (by omega), Option.bind_some]
  simp only [U, if_pos, if_neg (show ¬ (4 : Int) = 2 by decide), if_neg (show ¬ (4 : Int) = 3 by decide)]
  have hab : 0 ≤ ahi * bhi := Int.mul_nonneg (by omega) (by omega)
  have hlo : 0 ≤ alo * blo := Int.mul_nonneg ha0 hb0
  have hle : alo * blo ≤ ahi * bhi := Int.mul_le_mul a1 b1 hb0 (by omega)
  have Jf : interval_computer_mul.j0 (ahi * bhi % 18446744073709551616) false w (2 ^ n - 1) (-2 ^ (n - 1)) (2 ^ (n - 1) - 1) 0 (2 ^ n - 1) (-2 ^ (n - 1)) (2 ^ (n - 1) - 1) alo ahi al am blo bhi bl bm = res w n (0, 2 ^ n - 1) (S 4 n al am bl bm blo bhi) := by
    rw [interval_computer_mul.j0, if_neg (by decide)]; exact J1 _ _
  by_cases c : ahi * bhi ≤ 2 ^ n - 1
  · rw [if_pos c, if_pos (by omega), decide_eq_true (show ahi * bhi % 18446744073709551616 ≤ 2 ^ n - 1 by omega), interval_computer_mul.j0, if_pos rfl]
    unfold interval_computer_u.f
    rw [Option.bind_some, wrap_u64, show (alo * blo) % 18446744073709551616 = alo * blo by omega, show (ahi * bhi) % 18446744073709551616 = ahi * bhi by omega]
    exact J1 _ _
  · rw [if_neg c]
    by_cases c2 : ahi * bhi / 18446744073709551616 = 0
    · rw [if_pos c2, decide_eq_false (show ¬ ahi * bhi % 18446744073709551616 ≤ 2 ^ n - 1 by omega)]; exact Jf
    · rw [if_neg c2]; exact Jf
theorem udiv_eq : interval_computer_divide.f w (2 ^ n - 1) (-2 ^ (n - 1)) (2 ^ (n - 1) - 1) 0 (2 ^ n - 1) (-2 ^ (n - 1)) (2 ^ (n - 1) - 1) 5 alo ahi al am blo bhi bl bm = res w n (U 5 n alo ahi blo bhi) (-2 ^ (n - 1), 2 ^ (n - 1) - 1) := by
  obtain ⟨a1, a2, a3, a4, a5⟩ := va
  obtain ⟨b1, b2, b3, b4, b5⟩ := vb
  have hp := pow_le h64
  unfold interval_computer_divide.f
  simp only [U, if_pos, if_neg (show ¬ (5 : Int) = 2 by decide), if_neg (show ¬ (5 : Int) = 3 by decide), if_neg (show ¬ (5 : Int) = 4 by decide)]
  by_cases c : 1 ≤ blo
  · have q : ∀ x y : Int, 0 ≤ x → x < 18446744073709551616 → 0 ≤ y → IntKind.u64.wrap (Int.tdiv x y) = x / y := fun x y h h' h2 => by
      rw [Int.tdiv_eq_ediv_of_nonneg h, wrap_u64]
      have := Int.ediv_le_self y h
      have := Int.ediv_nonneg h h2
      omega
    rw [if_pos c, decide_eq_true (show blo ≥ 1 from c), interval_computer_divide.j0, if_pos rfl, if_neg (by omega), if_neg (by omega), q _ _ (by omega) (by omega) (by omega), q _ _ (by omega) (by omega) (by omega)]
    rfl
  · rw [if_neg c, decide_eq_false (show ¬ blo ≥ 1 from c), interval_computer_divide.j0, if_neg (by decide), if_neg (by decide), interval_computer_divide.j1, if_neg (by decide), if_neg (by decide), interval_computer_divide.j2, if_neg (by decide), if_neg (by decide), if_neg (by decide), interval_computer_divide.j3, if_neg (by decide), if_neg (by decide), interval_computer_divide.j4, if_neg (by decide), if_neg (by decide)]
    rfl
theorem urem_eq : interval_computer_divide.f w (2 ^ n - 1) (-2 ^ (n - 1)) (2 ^ (n - 1) - 1) 0 (2 ^ n - 1) (-2 ^ (n - 1)) (2 ^ (n - 1) - 1) 6 alo ahi al am blo bhi bl bm = res w n (U 6 n alo ahi blo bhi) (-2 ^ (n - 1), 2 ^ (n - 1) - 1) := by
  obtain ⟨a1, a2, a3, a4, a5⟩ := va
  obtain ⟨b1, b2, b3, b4, b5⟩ := vb
  have hp := pow_le h64
  unfold interval_computer_divide.f
  simp only [U, if_pos, if_neg (show ¬ (6 : Int) = 2 by decide), if_neg (show ¬ (6 : Int) = 3 by decide), if_neg (show ¬ (6 : Int) = 4 by decide), if_neg (show ¬ (6 : Int) = 5 by decide)]
  rw [interval_computer_divide.j0, if_neg (by decide), if_pos rfl]
  by_cases c : 1 ≤ blo
  · rw [if_pos (show blo ≥ 1 from c), if_pos c]
    by_cases c2 : ahi < blo
    · rw [decide_eq_true c2, interval_computer_divide.j1, if_pos rfl, if_pos c2]; rfl
    · rw [decide_eq_false c2, interval_computer_divide.j1, if_neg (by decide), if_pos rfl, if_neg c2, decide_eq_true (show blo ≥ 1 from c), interval_computer_divide.j2, if_pos rfl, show IntKind.u64.wrap (bhi - 1) = bhi - 1 by rw [wrap_u64]; omega]; rfl
  · rw [if_neg (show ¬ blo ≥ 1 from c), if_neg c, interval_computer_divide.j1, if_neg (by decide), if_pos rfl, decide_eq_false (show ¬ blo ≥ 1 from c), interval_computer_divide.j2, if_neg (by decide), if_pos rfl]; rfl
theorem sdiv_eq : interval_computer_divide.f w (2 ^ n - 1) (-2 ^ (n - 1)) (2 ^ (n - 1) - 1) 0 (2 ^ n - 1) (-2 ^ (n - 1)) (2 ^ (n - 1) - 1) 7 alo ahi al am blo bhi bl bm = res w n (0, 2 ^ n - 1) (S 7 n al am bl bm blo bhi) := by
  obtain ⟨ia, ia'⟩ := bd_i64 h64 va
  obtain ⟨ib, ib'⟩ := bd_i64 h64 vb
  obtain ⟨a1, a2, a3, a4, a5⟩ := va
  obtain ⟨b1, b2, b3, b4, b5⟩ := vb
  have hp := pow_le63 (n := n - 1) (by omega)
  have J3 : ∀ b : Bool, (b = true ↔ ((0 < bl ∨ bm < 0) ∧ (-2 ^ (n - 1) < al ∨ -1 < bl ∨ bm < -1))) → interval_computer_divide.j3 7 b w (2 ^ n - 1) (-2 ^ (n - 1)) (2 ^ (n - 1) - 1) 0 (2 ^ n - 1) (-2 ^ (n - 1)) (2 ^ (n - 1) - 1) alo ahi al am blo bhi bl bm = res w n (0, 2 ^ n - 1) (S 7 n al am bl bm blo bhi) := by
    intro b hb
    simp only [S, if_pos, if_neg (show ¬ (7 : Int) = 2 by decide), if_neg (show ¬ (7 : Int) = 3 by decide), if_neg (show ¬ (7 : Int) = 4 by decide)]
    rw [interval_computer_divide.j3]
    by_cases c : b = true
    · have hc := hb.1 c
      have t : ∀ x y : Int, I64 x → I64 y → ¬ (x = -9223372036854775808 ∧ y = -1) → wrap64 (Int.tdiv x y) = Int.tdiv x y := fun x y hx hy h => wrap64_id (tdiv_I hx hy h).1 (tdiv_I hx hy h).2
      rw [if_pos c, if_neg (by omega), if_neg (by omega), if_pos hc, t _ _ ia ib (by omega), t _ _ ia ib' (by omega), t _ _ ia' ib (by omega), t _ _ ia' ib' (by omega), corners_eq]; rfl
    · rw [if_neg c, if_neg (by decide), interval_computer_divide.j4, if_neg (by decide), if_neg (by decide), if_neg (fun h => c (hb.2 h))]; rfl
  unfold interval_computer_divide.f
  rw [if_neg (by decide), interval_computer_divide.j0, if_neg (by decide), if_neg (by decide), interval_computer_divide.j1, if_neg (by decide), if_neg (by decide), interval_computer_divide.j2, if_neg (by decide), if_neg (by decide), if_pos rfl]
  by_cases c1 : bl > 0
  · rw [if_pos c1]
    by_cases c2 : al > -2 ^ (n - 1)
    · rw [if_pos c2]; exact J3 _ (by simp; omega)
    · rw [if_neg c2, if_pos (by omega)]; exact J3 _ (by simp; omega)
  · rw [if_neg c1]
    by_cases c0 : bm < 0
    · rw [if_pos c0]
      by_cases c2 : al > -2 ^ (n - 1)
      · rw [if_pos c2]; exact J3 _ (by simp; omega)
      · rw [if_neg c2, if_neg (by omega)]; exact J3 _ (by simp; omega)
    · rw [if_neg c0]; exact J3 _ (by simp; omega)
theorem srem_eq : interval_computer_divide.f w (2 ^ n - 1) (-2 ^ (n - 1)) (2 ^ (n - 1) - 1) 0 (2 ^ n - 1) (-2 ^ (n - 1)) (2 ^ (n - 1) - 1) 8 alo ahi al am blo bhi bl bm = res w n (0, 2 ^ n - 1) (S 8 n al am bl bm blo bhi) := by
  obtain ⟨ia, ia'⟩ := bd_i64 h64 va
  obtain ⟨ib, ib'⟩ := bd_i64 h64 vb
  obtain ⟨a1, a2, a3, a4, a5⟩ := va
  obtain ⟨b1, b2, b3, b4, b5⟩ := vb
  have f1 := mn_facts al 0
  have f2 := mx_facts am 0
  have f3 := mx_facts (mn al 0) (1 - bm)
  have f4 := mn_facts (mx am 0) (bm - 1)
  have f5 := mx_facts al (1 - bm)
  have f6 := mn_facts am (bm - 1)
  unfold I64 at *
  have e1 : 1 ≤ bl → wrap64 (1 - bm) = 1 - bm := fun h => wrap64_id (by omega) (by omega)
  have e2 : 1 ≤ bl → wrap64 (bm - 1) = bm - 1 := fun h => wrap64_id (by omega) (by omega)
  simp only [S, if_pos, if_neg (show ¬ (8 : Int) = 2 by decide), if_neg (show ¬ (8 : Int) = 3 by decide), if_neg (show ¬ (8 : Int) = 4 by decide), if_neg (show ¬ (8 : Int) = 7 by decide)]
  unfold interval_computer_divide.f
  rw [if_neg (by decide), interval_computer_divide.j0, if_neg (by decide), if_neg (by decide), interval_computer_divide.j1, if_neg (by decide), if_neg (by decide), interval_computer_divide.j2, if_neg (by decide), if_neg (by decide), if_neg (by decide), interval_computer_divide.j3, if_neg (by decide), if_pos rfl]
  by_cases c : 1 ≤ bl
  · rw [if_pos c, decide_eq_true (show bl ≥ 1 from c), interval_computer_divide.j4, if_pos rfl, e1 c, e2 c]
    by_cases c1 : al < 0
    · rw [if_pos c1]
      by_cases c2 : am > 0
      · rw [if_pos c2, show mn al 0 = al by omega, show mx am 0 = am by omega]; rfl
      · rw [if_neg c2, show mn al 0 = al by omega, show mn (mx am 0) (bm - 1) = 0 by omega]; rfl
    · rw [if_neg c1]
      by_cases c2 : am > 0
      · rw [if_pos c2, show mx (mn al 0) (1 - bm) = 0 by omega, show mx am 0 = am by omega]; rfl
      · rw [if_neg c2, show mx (mn al 0) (1 - bm) = 0 by omega, show mn (mx am 0) (bm - 1) = 0 by omega]; rfl
  · rw [if_neg c, decide_eq_false (show ¬ bl ≥ 1 from c), interval_computer_divide.j4, if_neg (by decide), if_pos rfl]; rfl
end
end Go.Proofs.YthhhegblccoonaaGreatDoor.Cm
/- What the computer's methods come to: shifts, extensions, comparisons, bitwise operators; and the whole. -/
namespace Go.Proofs.YthhhegblccoonaaGreatDoor.Cn
set_option linter.unusedVariables false
set_option linter.unusedSimpArgs false
set_option linter.unusedSectionVars false
open Go.RowKit Go.Proofs.YthhhegblccoonaaGreatDoor.P Go.Proofs.YthhhegblccoonaaGreatDoorW.PrintWords Wd Im Iv Tg Lw0 Ap Cm

theorem shr_u {x y : Int} (hx : 0 ≤ x ∧ x < 18446744073709551616) (hy : 0 ≤ y) : shr .u64 x y = x / 2 ^ y.toNat := by
  unfold shr
  by_cases c : y.toNat ≤ 64
  · rw [show min y.toNat (IntKind.bits .u64) = y.toNat by show min _ 64 = _; omega]
  · rw [show min y.toNat (IntKind.bits .u64) = 64 by show min _ 64 = _; omega]
    have := pow_mono (a := 64) (b := y.toNat) (by omega)
    have e : (2 : Int) ^ 64 = 18446744073709551616 := by decide
    rw [Int.ediv_eq_zero_of_lt hx.1 (by omega), Int.ediv_eq_zero_of_lt hx.1 (by omega)]
theorem shr_i {x y : Int} (hy : 0 ≤ y ∧ y ≤ 64) : shr .i64 x y = x / 2 ^ y.toNat := by
  unfold shr
  rw [show min y.toNat (IntKind.bits .i64) = y.toNat by show min _ 64 = _; omega]
theorem shl_u {x y : Int} (hy : 0 ≤ y ∧ y ≤ 64) (h0 : 0 ≤ x * 2 ^ y.toNat) (h : x * 2 ^ y.toNat < 18446744073709551616) : shl .u64 x y = x * 2 ^ y.toNat := by
  unfold shl
  rw [show min y.toNat (IntKind.bits .u64) = y.toNat by show min _ 64 = _; omega, wrap_u64]; omega
theorem shl_i {x y : Int} (hy : 0 ≤ y ∧ y ≤ 64) (h : I64 (x * 2 ^ y.toNat)) : shl .i64 x y = x * 2 ^ y.toNat := by
  unfold shl
  rw [show min y.toNat (IntKind.bits .i64) = y.toNat by show min _ 64 = _; omega, IntKind.wrap_i64]; unfold I64 at h; omega
section
variable {w : Int} {n : Nat} (hw : w = n) (hn : 1 ≤ n) (h64 : n ≤ 64) {alo ahi al am blo bhi bl bm : Int} (ha0 : 0 ≤ alo) (hb0 : 0 ≤ blo) (va : Bd n alo ahi al am) (vb : Bd n blo bhi bl bm)
include hw hn h64 ha0 hb0 va vb
theorem lshr_eq : interval_computer_shift.f w (2 ^ n - 1) (-2 ^ (n - 1)) (2 ^ (n - 1) - 1) 0 (2 ^ n - 1) (-2 ^ (n - 1)) (2 ^ (n - 1) - 1) 13 alo ahi al am blo bhi bl bm = res w n (U 13 n alo ahi blo bhi) (-2 ^ (n - 1), 2 ^ (n - 1) - 1) := by
  obtain ⟨a1, a2, a3, a4, a5⟩ := va
  obtain ⟨b1, b2, b3, b4, b5⟩ := vb
  have hp := pow_le h64
  unfold interval_computer_shift.f
  rw [if_pos rfl, if_pos (by omega), if_pos hb0, shr_u (by omega) (by omega), shr_u (by omega) hb0]
  rfl
theorem ashr_eq : interval_computer_shift.f w (2 ^ n - 1) (-2 ^ (n - 1)) (2 ^ (n - 1) - 1) 0 (2 ^ n - 1) (-2 ^ (n - 1)) (2 ^ (n - 1) - 1) 14 alo ahi al am blo bhi bl bm = res w n (0, 2 ^ n - 1) (S 14 n al am bl bm blo bhi) := by
  obtain ⟨b1, b2, b3, b4, b5⟩ := vb
  have e : IntKind.u64.wrap (wrap64 (w - 1)) = (n : Int) - 1 := by rw [wrap64_id (by omega) (by omega), wrap_u64]; omega
  have f1 := mn_facts blo ((n : Int) - 1)
  have f2 := mn_facts bhi ((n : Int) - 1)
  unfold interval_computer_shift.f
  rw [if_neg (by decide), if_pos rfl, e, if_pos (by omega), if_pos (by omega), shr_i (by omega), shr_i (by omega), shr_i (by omega), shr_i (by omega), corners_eq]
  rfl
theorem shl_eq : interval_computer_shift.f w (2 ^ n - 1) (-2 ^ (n - 1)) (2 ^ (n - 1) - 1) 0 (2 ^ n - 1) (-2 ^ (n - 1)) (2 ^ (n - 1) - 1) 12 alo ahi al am blo bhi bl bm = res w n (U 12 n alo ahi blo bhi) (S 12 n al am bl bm blo bhi) := by
  obtain ⟨ia, ia'⟩ := bd_i64 h64 va
  have va' := va
  have vb' := vb
  obtain ⟨a1, a2, a3, a4, a5⟩ := va
  obtain ⟨b1, b2, b3, b4, b5⟩ := vb
  have hp := pow_le h64
  have hp63 := pow_le63 (n := n - 1) (by omega)
  have hpp := pow_pos n
  have hpp1 := pow_pos (n - 1)
  have e : IntKind.u64.wrap (wrap64 (w - 1)) = (n : Int) - 1 := by rw [wrap64_id (by omega) (by omega), wrap_u64]; omega
  unfold interval_computer_shift.f
  rw [if_neg (by decide), if_neg (by decide), e]
  have eU : U 12 n alo ahi blo bhi = if blo = bhi then (if (n : Int) ≤ blo then (0, 0) else if ahi ≤ (2 ^ n - 1) / 2 ^ blo.toNat then (alo * 2 ^ blo.toNat, ahi * 2 ^ blo.toNat) else (0, 2 ^ n - 1)) else (0, 2 ^ n - 1) := by simp [U]
  have eS : S 12 n al am bl bm blo bhi = if blo = bhi ∧ blo < n ∧ (-2 ^ (n - 1)) / 2 ^ blo.toNat ≤ al ∧ am ≤ (2 ^ (n - 1) - 1) / 2 ^ blo.toNat then (al * 2 ^ blo.toNat, am * 2 ^ blo.toNat) else (-2 ^ (n - 1), 2 ^ (n - 1) - 1) := by simp [S]
  rw [eU, eS]
  by_cases c : blo = bhi
  · rw [if_pos c, if_pos c]
    by_cases c2 : blo > (n : Int) - 1
    · rw [if_pos c2, if_pos (show (n : Int) ≤ blo by omega), if_neg (by omega)]; rfl
    · have hps := pow_pos' blo.toNat
      rw [if_neg c2, if_pos hb0, if_neg (show ¬ (n : Int) ≤ blo by omega), shr_u (by omega) hb0]
      have hd : (2 : Int) ^ (n - 1) = 2 ^ (n - 1 - blo.toNat) * 2 ^ blo.toNat := by rw [← Int.pow_add]; congr 1; omega
      have sT : ∀ o0 o1, (if al ≥ shr .i64 (-2 ^ (n - 1)) blo then (if am ≤ shr .i64 (2 ^ (n - 1) - 1) blo then ((interval_computer_s.f w (2 ^ n - 1) (-2 ^ (n - 1)) (2 ^ (n - 1) - 1) o0 o1 (-2 ^ (n - 1)) (2 ^ (n - 1) - 1) (shl .i64 al blo) (shl .i64 am blo)).bind fun bt => (some (bt.1, bt.2.1, bt.2.2.1, bt.2.2.2.1, bt.2.2.2.2.1, bt.2.2.2.2.2.1, bt.2.2.2.2.2.2.1, bt.2.2.2.2.2.2.2))) else (some (w, 2 ^ n - 1, -2 ^ (n - 1), 2 ^ (n - 1) - 1, o0, o1, -2 ^ (n - 1), 2 ^ (n - 1) - 1))) else (some (w, 2 ^ n - 1, -2 ^ (n - 1), 2 ^ (n - 1) - 1, o0, o1, -2 ^ (n - 1), 2 ^ (n - 1) - 1))) = res w n (o0, o1) (if blo = bhi ∧ blo < n ∧ (-2 ^ (n - 1)) / 2 ^ blo.toNat ≤ al ∧ am ≤ (2 ^ (n - 1) - 1) / 2 ^ blo.toNat then (al * 2 ^ blo.toNat, am * 2 ^ blo.toNat) else (-2 ^ (n - 1), 2 ^ (n - 1) - 1)) := by
        intro o0 o1
        rw [shr_i (by omega), shr_i (by omega)]
        by_cases c3 : (-2 ^ (n - 1)) / 2 ^ blo.toNat ≤ al
        · rw [if_pos (show al ≥ _ from c3)]
          by_cases c4 : am ≤ (2 ^ (n - 1) - 1) / 2 ^ blo.toNat
          · rw [if_pos c4, if_pos ⟨c, by omega, c3, c4⟩]
            have h1 : am * 2 ^ blo.toNat ≤ 2 ^ (n - 1) - 1 := by
              have h1 := Int.mul_le_mul_of_nonneg_right c4 (show 0 ≤ (2 : Int) ^ blo.toNat by omega)
              have h2 := Int.ediv_mul_le (2 ^ (n - 1) - 1) (b := 2 ^ blo.toNat) (by omega)
              omega
            have h4 : -2 ^ (n - 1) ≤ al * 2 ^ blo.toNat := by
              rw [hd, ← Int.neg_mul, Int.mul_ediv_cancel _ (by omega)] at c3
              rw [hd, ← Int.neg_mul]
              exact Int.mul_le_mul_of_nonneg_right c3 (by omega)
            have h5 : al * 2 ^ blo.toNat ≤ am * 2 ^ blo.toNat := Int.mul_le_mul_of_nonneg_right a4 (by omega)
            rw [shl_i (by omega) (by unfold I64; omega), shl_i (by omega) (by unfold I64; omega)]; rfl
          · rw [if_neg c4, if_neg (fun h => c4 h.2.2.2)]; rfl
        · rw [if_neg (show ¬ al ≥ _ from c3), if_neg (fun h => c3 h.2.2.1)]; rfl
      by_cases c3 : ahi ≤ (2 ^ n - 1) / 2 ^ blo.toNat
      · rw [if_pos c3, if_pos c3]
        have h1 : ahi * 2 ^ blo.toNat ≤ 2 ^ n - 1 := by
          have h1 := Int.mul_le_mul_of_nonneg_right c3 (show 0 ≤ (2 : Int) ^ blo.toNat by omega)
          have h2 := Int.ediv_mul_le (2 ^ n - 1) (b := 2 ^ blo.toNat) (by omega)
          omega
        have h5 : alo * 2 ^ blo.toNat ≤ ahi * 2 ^ blo.toNat := Int.mul_le_mul_of_nonneg_right a1 (by omega)
        have h6 : 0 ≤ alo * 2 ^ blo.toNat := Int.mul_nonneg ha0 (by omega)
        rw [shl_u (by omega) h6 (by omega), shl_u (by omega) (by omega) (by omega)]
        exact sT _ _
      · rw [if_neg c3, if_neg c3]; exact sT _ _
  · rw [if_neg c, if_neg c, if_neg (fun h => c h.1)]; rfl
end
theorem convert_eq {w v : Int} {n m : Nat} (hw : w = n) (hv : v = m) (hn : 1 ≤ n) (hm : 1 ≤ m) (h64 : n ≤ 64) {op : Int} (ho : (op = 22 ∧ m ≤ n) ∨ (op = 23 ∧ m ≤ n) ∨ (op = 24 ∧ n ≤ m)) {alo ahi al am : Int} (ha0 : 0 ≤ alo) (va : Bd m alo ahi al am) :
    interval_computer_convert.f w (2 ^ n - 1) (-2 ^ (n - 1)) (2 ^ (n - 1) - 1) 0 (2 ^ n - 1) (-2 ^ (n - 1)) (2 ^ (n - 1) - 1) op v alo ahi al am = res w n ((cast op n m alo ahi al am).1, (cast op n m alo ahi al am).2.1) ((cast op n m alo ahi al am).2.2.1, (cast op n m alo ahi al am).2.2.2) := by
  obtain ⟨a1, a2, a3, a4, a5⟩ := va
  unfold interval_computer_convert.f Ap.cast
  by_cases c : n = m
  · subst c
    rcases ho with ⟨rfl, _⟩ | ⟨rfl, _⟩ | ⟨rfl, _⟩
    · rw [if_pos rfl, if_pos rfl]
      unfold interval_computer_u.f
      simp only [Option.bind_some]
      rw [if_neg (by omega)]; rfl
    · rw [if_neg (by decide), if_pos rfl, if_pos (by omega), if_pos rfl]; rfl
    · have i1 : inr n al := ⟨by omega, by omega⟩
      have i2 : inr n am := ⟨by omega, by omega⟩
      rw [if_neg (by decide), if_neg (by decide), if_pos a2, if_pos rfl]
      unfold interval_computer_u.f
      rw [Option.bind_some, interval_computer_convert.j0, within_eq, Option.bind_some, if_pos (decide_eq_true i1), within_eq, Option.bind_some, if_pos (decide_eq_true i2)]; rfl
  · rw [if_neg c]
    rcases ho with ⟨rfl, h⟩ | ⟨rfl, h⟩ | ⟨rfl, h⟩
    · have := pow_le63 (n := m) (by omega)
      rw [if_pos rfl, if_pos rfl]
      unfold interval_computer_u.f
      simp only [Option.bind_some]
      rw [if_pos (by omega), wrap64_id (by omega) (by omega), wrap64_id (by omega) (by omega)]; rfl
    · rw [if_neg (by decide), if_pos rfl, if_neg (by omega), if_neg (by decide), if_pos rfl]; rfl
    · rw [if_neg (by decide), if_neg (by decide), if_neg (show ¬ (24 : Int) = 22 by decide), if_neg (show ¬ (24 : Int) = 23 by decide)]
      have J : ∀ o0 o1, interval_computer_convert.j0 w (2 ^ n - 1) (-2 ^ (n - 1)) (2 ^ (n - 1) - 1) o0 o1 (-2 ^ (n - 1)) (2 ^ (n - 1) - 1) alo ahi al am = res w n (o0, o1) ((if inr n al ∧ inr n am then al else -2 ^ (n - 1)), (if inr n al ∧ inr n am then am else 2 ^ (n - 1) - 1)) := by
        intro o0 o1
        rw [interval_computer_convert.j0, within_eq, Option.bind_some]
        by_cases c1 : inr n al
        · rw [if_pos (decide_eq_true c1), within_eq, Option.bind_some]
          by_cases c2 : inr n am
          · rw [if_pos (decide_eq_true c2), if_pos ⟨c1, c2⟩, if_pos ⟨c1, c2⟩]; rfl
          · rw [if_neg (by simpa using c2), if_neg (fun h => c2 h.2), if_neg (fun h => c2 h.2)]; rfl
        · rw [if_neg (by simpa using c1), if_neg (fun h => c1 h.1), if_neg (fun h => c1 h.1)]; rfl
      by_cases c3 : ahi ≤ 2 ^ n - 1
      · rw [if_pos c3, if_pos c3, if_pos c3]
        unfold interval_computer_u.f
        rw [Option.bind_some]; exact J _ _
      · rw [if_neg c3, if_neg c3, if_neg c3]; exact J _ _
theorem one_one : interval_Of.f 1 1 = some (1, 1, -1, -1) := by rw [of_eq 1 (by decide)]; decide
theorem one_zero : interval_Of.f 1 0 = some (0, 0, 0, 0) := by rw [of_eq 1 (by decide)]; decide
theorem truth_eq (w m mi ma : Int) (yes no : Prop) [Decidable yes] [Decidable no] : interval_computer_truth.f w m mi ma 0 1 (-1) 0 (decide yes) (decide no) = some (w, m, mi, ma, (dec yes no).1, (dec yes no).2.1, (dec yes no).2.2.1, (dec yes no).2.2.2) := by
  unfold interval_computer_truth.f dec
  by_cases c : yes
  · rw [if_pos (decide_eq_true c), if_pos c, interval_computer_truth.j0, if_pos rfl, if_pos (decide_eq_true c), one_one]; rfl
  · rw [if_neg (by simpa using c), if_neg c, interval_computer_truth.j0]
    by_cases c2 : no
    · rw [if_pos (decide_eq_true c2), if_neg (by simpa using c), one_zero, if_pos c2]; rfl
    · rw [if_neg (by simpa using c2), if_neg c2]
theorem compare_eq' {op : Int} (ho : 15 ≤ op ∧ op ≤ 20) (w m mi ma alo ahi al am blo bhi bl bm : Int) :
    interval_computer_compare.f w m mi ma 0 1 (-1) 0 op alo ahi al am blo bhi bl bm = some (w, m, mi, ma, (cmp op alo ahi al am blo bhi bl bm).1, (cmp op alo ahi al am blo bhi bl bm).2.1, (cmp op alo ahi al am blo bhi bl bm).2.2.1, (cmp op alo ahi al am blo bhi bl bm).2.2.2) := by
  have J : ∀ b : Bool, b = decide (Apart alo ahi al am blo bhi bl bm) → interval_computer_compare.j0 op b w m mi ma 0 1 (-1) 0 alo ahi al am blo bhi bl bm = some (w, m, mi, ma, (cmp op alo ahi al am blo bhi bl bm).1, (cmp op alo ahi al am blo bhi bl bm).2.1, (cmp op alo ahi al am blo bhi bl bm).2.2.1, (cmp op alo ahi al am blo bhi bl bm).2.2.2) := by
    intro b hb
    subst hb
    have tf := fun (p : Prop) [Decidable p] => truth_eq w m mi ma p False
    have ft := fun (p : Prop) [Decidable p] => truth_eq w m mi ma False p
    have e : (decide False) = false := rfl
    rw [e] at tf ft
    obtain rfl | rfl | rfl | rfl | rfl | rfl : op = 15 ∨ op = 16 ∨ op = 17 ∨ op = 18 ∨ op = 19 ∨ op = 20 := by omega
    · rw [interval_computer_compare.j0, if_pos rfl, ft]; simp [cmp]
    · rw [interval_computer_compare.j0, if_neg (by decide), if_pos rfl, tf]; simp [cmp]
    · rw [interval_computer_compare.j0, if_neg (by decide), if_neg (by decide), if_pos rfl, truth_eq]; simp [cmp]
    · rw [interval_computer_compare.j0, if_neg (by decide), if_neg (by decide), if_neg (by decide), if_pos rfl, truth_eq]; simp [cmp]
    · rw [interval_computer_compare.j0, if_neg (by decide), if_neg (by decide), if_neg (by decide), if_neg (by decide), if_pos rfl, truth_eq]; simp [cmp]
    · rw [interval_computer_compare.j0, if_neg (by decide), if_neg (by decide), if_neg (by decide), if_neg (by decide), if_neg (by decide), truth_eq]; simp [cmp]
  unfold interval_computer_compare.f
  by_cases c1 : ahi < blo
  · rw [if_pos c1]; exact J _ (decide_eq_true (Or.inl c1)).symm
  · rw [if_neg c1]
    by_cases c2 : bhi < alo
    · rw [if_pos c2]; exact J _ (decide_eq_true (Or.inr (Or.inl c2))).symm
    · rw [if_neg c2]
      by_cases c3 : am < bl
      · rw [if_pos c3]; exact J _ (decide_eq_true (Or.inr (Or.inr (Or.inl c3)))).symm
      · rw [if_neg c3]; exact J _ (by rw [decide_eq_decide]; unfold Apart; omega)
/-! ### Lengths -/
theorem len_div {z s : Nat} (h : 2 ^ s ≤ z) : len z = len (z / 2 ^ s) + s := by
  have hp := Nat.two_pow_pos s
  have h1 : 1 ≤ z / 2 ^ s := (Nat.le_div_iff_mul_le hp).2 (by omega)
  apply len_uniq
  · have := lt_len (z / 2 ^ s)
    rw [Nat.pow_add]
    exact (Nat.div_lt_iff_lt_mul hp).1 this
  · intro j hj
    have hs : s ≤ j := by
      rcases Nat.lt_or_ge j s with c | c
      · have := Nat.pow_le_pow_right (n := 2) (by decide) (show j ≤ s by omega)
        omega
      · exact c
    have : z / 2 ^ s < 2 ^ (j - s) := by
      apply (Nat.div_lt_iff_lt_mul hp).2
      rw [← Nat.pow_add, Nat.sub_add_cancel hs]; exact hj
    have := (len_lt _ _).1 this
    omega
def T8 : ByteArray := ⟨#[0, 1, 2, 2, 3, 3, 3, 3, 4, 4, 4, 4, 4, 4, 4, 4, 5, 5, 5, 5, 5, 5, 5, 5, 5, 5, 5, 5, 5, 5, 5, 5, 6, 6, 6, 6, 6, 6, 6, 6, 6, 6, 6, 6, 6, 6, 6, 6, 6, 6, 6, 6, 6, 6, 6, 6, 6, 6, 6, 6, 6, 6, 6, 6, 7, 7, 7, 7, 7, 7, 7, 7, 7, 7, 7, 7, 7, 7, 7, 7, 7, 7, 7, 7, 7, 7, 7, 7, 7, 7, 7, 7, 7, 7, 7, 7, 7, 7, 7, 7, 7, 7, 7, 7, 7, 7, 7, 7, 7, 7, 7, 7, 7, 7, 7, 7, 7, 7, 7, 7, 7, 7, 7, 7, 7, 7, 7, 7, 8, 8, 8, 8, 8, 8, 8, 8, 8, 8, 8, 8, 8, 8, 8, 8, 8, 8, 8, 8, 8, 8, 8, 8, 8, 8, 8, 8, 8, 8, 8, 8, 8, 8, 8, 8, 8, 8, 8, 8, 8, 8, 8, 8, 8, 8, 8, 8, 8, 8, 8, 8, 8, 8, 8, 8, 8, 8, 8, 8, 8, 8, 8, 8, 8, 8, 8, 8, 8, 8, 8, 8, 8, 8, 8, 8, 8, 8, 8, 8, 8, 8, 8, 8, 8, 8, 8, 8, 8, 8, 8, 8, 8, 8, 8, 8, 8, 8, 8, 8, 8, 8, 8, 8, 8, 8, 8, 8, 8, 8, 8, 8, 8, 8, 8, 8, 8, 8, 8, 8, 8, 8, 8, 8, 8, 8, 8, 8]⟩
theorem T8_len : ∀ i : Fin 256, bt T8 (i.1 : Int) = (len i.1 : Int) := by decide +kernel
theorem T8_at {x : Int} (h0 : 0 ≤ x) (h : x < 256) : bt T8 (x % 256) = (len x.toNat : Int) := by
  have := T8_len ⟨x.toNat, by omega⟩
  simp only at this
  rw [show x % 256 = ((x.toNat : Nat) : Int) by omega]; exact this
theorem len_hi {x : Int} {s : Nat} {p : Int} (hp : p = 2 ^ s) (h : p ≤ x) : (len x.toNat : Int) = (len (x / p).toNat : Int) + s := by
  have hpp := pow_pos' s
  have e1 := pow_toNat s
  have hz : 2 ^ s ≤ x.toNat := by omega
  have e : (x / p).toNat = x.toNat / 2 ^ s := by
    subst hp
    obtain ⟨a, rfl⟩ := Int.eq_ofNat_of_zero_le (show 0 ≤ x by omega)
    rw [← cast_pow]
    simp only [← Int.natCast_ediv, Int.toNat_natCast]
  rw [e, len_div hz]; omega
/-- The three ways that the length is put together. -/
theorem put3 {a L c : Int} {r : Option Int} (h : a = L) (hc : 0 ≤ c ∧ c ≤ 32) (h0 : 0 ≤ L) (h8 : L ≤ 8) (e : some (L + 8 + 16 + c) = r) : some (wrap64 (wrap64 (wrap64 (c + 16) + 8) + wrap64 a)) = r := by
  have w : ∀ y : Int, 0 ≤ y → y ≤ 1000 → wrap64 y = y := fun y h h' => wrap64_id (by omega) (by omega)
  rw [h, w L (by omega) (by omega), w (c + 16) (by omega) (by omega), w (c + 16 + 8) (by omega) (by omega), w (c + 16 + 8 + L) (by omega) (by omega), ← e]; congr 1; omega
theorem put2 {a L c d : Int} {r : Option Int} (h : a = L) (hd : 0 ≤ d ∧ d ≤ 16) (hc : 0 ≤ c ∧ c ≤ 32) (h0 : 0 ≤ L) (h8 : L ≤ 8) (e : some (L + d + c) = r) : some (wrap64 (wrap64 (c + d) + wrap64 a)) = r := by
  have w : ∀ y : Int, 0 ≤ y → y ≤ 1000 → wrap64 y = y := fun y h h' => wrap64_id (by omega) (by omega)
  rw [h, w L (by omega) (by omega), w (c + d) (by omega) (by omega), w (c + d + L) (by omega) (by omega), ← e]; congr 1; omega
theorem put1 {a L c : Int} {r : Option Int} (h : a = L) (hc : 0 ≤ c ∧ c ≤ 32) (h0 : 0 ≤ L) (h8 : L ≤ 8) (e : some (L + c) = r) : some (wrap64 (c + wrap64 a)) = r := by
  have w : ∀ y : Int, 0 ≤ y → y ≤ 1000 → wrap64 y = y := fun y h h' => wrap64_id (by omega) (by omega)
  rw [h, w L (by omega) (by omega), w (c + L) (by omega) (by omega), ← e]; congr 1; omega
theorem len64_j {x : Int} (c : Int) (hc : 0 ≤ c ∧ c ≤ 32) (h0 : 0 ≤ x) (h : x < 4294967296) : bits_Len64.j0 x c = some ((len x.toNat : Int) + c) := by
  have l8 : ∀ y : Int, 0 ≤ y → y < 256 → (len y.toNat : Int) ≤ 8 := fun y h0 h => by
    have := len_le (z := y.toNat) (k := 8) (by omega)
    omega
  have w : ∀ y : Int, 0 ≤ y → y ≤ 1000 → wrap64 y = y := fun y h h' => wrap64_id (by omega) (by omega)
  rw [bits_Len64.j0]
  by_cases c1 : x ≥ 65536
  · rw [if_pos c1]
    have e1 := len_hi (x := x) (s := 16) (p := 65536) (by decide) c1
    by_cases c2 : x / 65536 ≥ 256
    · have e2 := len_hi (x := x / 65536) (s := 8) (p := 256) (by decide) c2
      have a := T8_at (x := x / 65536 / 256) (by omega) (by omega)
      have b := l8 (x / 65536 / 256) (by omega) (by omega)
      rw [if_pos c2, if_pos (by omega), if_pos (by omega)]
      exact put3 a hc (Int.natCast_nonneg _) b (by rw [e1, e2]; rfl)
    · have a := T8_at (x := x / 65536) (by omega) (by omega)
      have b := l8 (x / 65536) (by omega) (by omega)
      rw [if_neg c2, if_pos (by omega), if_pos (by omega)]
      exact put2 a (by decide) hc (Int.natCast_nonneg _) b (by rw [e1]; rfl)
  · rw [if_neg c1]
    by_cases c2 : x ≥ 256
    · have e2 := len_hi (x := x) (s := 8) (p := 256) (by decide) c2
      have a := T8_at (x := x / 256) (by omega) (by omega)
      have b := l8 (x / 256) (by omega) (by omega)
      rw [if_pos c2, if_pos (by omega), if_pos (by omega)]
      exact put2 a (by decide) hc (Int.natCast_nonneg _) b (by rw [e2]; rfl)
    · have a := T8_at (x := x) (by omega) (by omega)
      have b := l8 x (by omega) (by omega)
      rw [if_neg c2, if_pos (by omega), if_pos (by omega)]
      exact put1 a hc (Int.natCast_nonneg _) b rfl
theorem len64_eq {x : Int} (hx : 0 ≤ x ∧ x < 18446744073709551616) : bits_Len64.f x = some (len x.toNat : Int) := by
  unfold bits_Len64.f
  by_cases c : x ≥ 4294967296
  · have e := len_hi (x := x) (s := 32) (p := 4294967296) (by decide) c
    rw [if_pos c, len64_j 32 (by decide) (by omega) (by omega)]; congr 1; omega
  · rw [if_neg c, len64_j 0 (by decide) hx.1 (by omega)]; simp
theorem join_eq (a b : R) : interval_Join.f a.1 a.2.1 a.2.2.1 a.2.2.2 b.1 b.2.1 b.2.2.1 b.2.2.2 = some (join a b) := by unfold interval_Join.f; rfl
/-- Bounds as the program's struct has them. -/
def q (s : S48) : R := (s.f0, s.f1, s.f2, s.f3)
section
variable {w : Int} {n : Nat} (hw : w = n) (hn : 1 ≤ n) (h64 : n ≤ 64)
include hw hn h64
theorem two_eq {op : Int} (ho : 2 ≤ op ∧ op ≤ 14) (ws : List Int) (a b : S48) (va : BdR n (q a)) (vb : BdR n (q b)) :
    interval_computer_compute.f w (2 ^ n - 1) (-2 ^ (n - 1)) (2 ^ (n - 1) - 1) 0 (2 ^ n - 1) (-2 ^ (n - 1)) (2 ^ (n - 1) - 1) op ws [a, b] = res w n (U op n a.f0 a.f1 b.f0 b.f1) (S op n a.f2 a.f3 b.f2 b.f3 b.f0 b.f1) := by
  obtain ⟨va, ha0⟩ := va
  obtain ⟨vb, hb0⟩ := vb
  simp only [q] at va vb ha0 hb0
  have e : mn 1 (wrap64 ((([a, b] : List S48).length : Int) - 1)) = 1 := by show mn 1 (wrap64 (2 - 1)) = 1; decide +kernel
  unfold interval_computer_compute.f
  rw [e, if_pos (by simp), if_pos (by decide), if_pos (by simp), show rd_T48 [a, b] 0 = a from rfl, show rd_T48 [a, b] 1 = b from rfl]
  have rs : ∀ u s, (res w n u s).bind (fun bt => (some (bt.1, bt.2.1, bt.2.2.1, bt.2.2.2.1, bt.2.2.2.2.1, bt.2.2.2.2.2.1, bt.2.2.2.2.2.2.1, bt.2.2.2.2.2.2.2))) = res w n u s := fun u s => rfl
  have hp := pow_le h64
  have hm : ∀ (x y : Int), 0 ≤ x → 0 ≤ y → x ≤ 2 ^ n - 1 → y ≤ 2 ^ n - 1 → 0 ≤ Go.bits .or .u64 x y ∧ Go.bits .or .u64 x y < 18446744073709551616 ∧ len (Go.bits .or .u64 x y).toNat = len (mx x y).toNat ∧ len (mx x y).toNat ≤ 64 := by
    intro x y h1 h2 h3 h4
    have f := mx_facts x y
    rw [bor x y (by omega) (by omega)]
    have h5 := Nat.or_lt_two_pow (n := 64) (x := x.toNat) (y := y.toNat) (by omega) (by omega)
    refine ⟨by omega, by omega, ?_, len_le (by omega)⟩
    rw [Int.toNat_natCast, len_or]; congr 1; omega
  have h1 := va.h1
  have h2 := va.h2
  have h3 := vb.h1
  have h4 := vb.h2
  have mk : ∀ l : Nat, l ≤ 64 → bits_Mask.f (l : Int) = some (2 ^ l - 1) := fun l hl => by
    rw [mask_eq]; have : (nn (l : Int) : Int) = l := nn_of (by omega) (by omega)
    rw [show nn (l : Int) = l by omega]
  obtain ⟨o1, o2, o3, o4⟩ := hm a.f1 b.f1 (by omega) (by omega) h2 h4
  have uS : ∀ op : Int, (op = 5 ∨ op = 6 ∨ op = 9 ∨ op = 10 ∨ op = 11 ∨ op = 13) → S op n a.f2 a.f3 b.f2 b.f3 b.f0 b.f1 = (-2 ^ (n - 1), 2 ^ (n - 1) - 1) := by
    intro op h; rcases h with rfl | rfl | rfl | rfl | rfl | rfl <;> simp [S]
  have uU : ∀ op : Int, (op = 7 ∨ op = 8 ∨ op = 14) → U op n a.f0 a.f1 b.f0 b.f1 = (0, 2 ^ n - 1) := by
    intro op h; rcases h with rfl | rfl | rfl <;> simp [U]
  obtain rfl | rfl | rfl | rfl | rfl | rfl | rfl | rfl | rfl | rfl | rfl | rfl | rfl : op = 2 ∨ op = 3 ∨ op = 4 ∨ op = 5 ∨ op = 6 ∨ op = 7 ∨ op = 8 ∨ op = 9 ∨ op = 10 ∨ op = 11 ∨ op = 12 ∨ op = 13 ∨ op = 14 := by omega
  · rw [if_pos rfl, add_eq w hn h64 ha0 hb0 va vb, rs]
  · rw [if_neg (by decide), if_pos rfl, sub_eq w hn h64 ha0 hb0 va vb, rs]
  · rw [if_neg (by decide), if_neg (by decide), if_pos rfl, mul_eq w hn h64 ha0 hb0 va vb, rs]
  · rw [if_neg (by decide), if_neg (by decide), if_neg (by decide), if_pos rfl, interval_computer_compute.j0, if_pos (by decide), udiv_eq w hn h64 ha0 hb0 va vb, rs, uS 5 (by omega)]
  · rw [if_neg (by decide), if_neg (by decide), if_neg (by decide), if_neg (by decide), if_pos rfl, interval_computer_compute.j0, if_pos (by decide), urem_eq w hn h64 ha0 hb0 va vb, rs, uS 6 (by omega)]
  · rw [if_neg (by decide), if_neg (by decide), if_neg (by decide), if_neg (by decide), if_neg (by decide), if_pos rfl, interval_computer_compute.j0, if_pos (by decide), sdiv_eq w hn h64 ha0 hb0 va vb, rs, uU 7 (by omega)]
  · rw [if_neg (by decide), if_neg (by decide), if_neg (by decide), if_neg (by decide), if_neg (by decide), if_neg (by decide), interval_computer_compute.j0, if_pos (by decide), srem_eq w hn h64 ha0 hb0 va vb, rs, uU 8 (by omega)]
  · rw [if_neg (by decide), if_neg (by decide), if_neg (by decide), if_neg (by decide), if_neg (by decide), if_neg (by decide), interval_computer_compute.j0, if_neg (by decide), if_pos rfl, uS 9 (by omega)]; rfl
  · rw [if_neg (by decide), if_neg (by decide), if_neg (by decide), if_neg (by decide), if_neg (by decide), if_neg (by decide), interval_computer_compute.j0, if_neg (by decide), if_neg (by decide), if_pos rfl, len64_eq ⟨o1, o2⟩, Option.bind_some, o3, mk _ o4, uS 10 (by omega)]; rfl
  · rw [if_neg (by decide), if_neg (by decide), if_neg (by decide), if_neg (by decide), if_neg (by decide), if_neg (by decide), interval_computer_compute.j0, if_neg (by decide), if_neg (by decide), if_neg (by decide), if_pos rfl, len64_eq ⟨o1, o2⟩, Option.bind_some, o3, mk _ o4, uS 11 (by omega)]; rfl
  · rw [if_neg (by decide), if_neg (by decide), if_neg (by decide), if_neg (by decide), if_neg (by decide), if_neg (by decide), interval_computer_compute.j0, if_neg (by decide), if_neg (by decide), if_neg (by decide), if_neg (by decide), if_pos rfl, interval_computer_compute.j1, if_pos (by decide), shl_eq hw hn h64 ha0 hb0 va vb, rs]
  · rw [if_neg (by decide), if_neg (by decide), if_neg (by decide), if_neg (by decide), if_neg (by decide), if_neg (by decide), interval_computer_compute.j0, if_neg (by decide), if_neg (by decide), if_neg (by decide), if_neg (by decide), if_neg (by decide), if_pos rfl, interval_computer_compute.j1, if_pos (by decide), lshr_eq hw hn h64 ha0 hb0 va vb, rs, uS 13 (by omega)]
  · rw [if_neg (by decide), if_neg (by decide), if_neg (by decide), if_neg (by decide), if_neg (by decide), if_neg (by decide), interval_computer_compute.j0, if_neg (by decide), if_neg (by decide), if_neg (by decide), if_neg (by decide), if_neg (by decide), if_neg (by decide), interval_computer_compute.j1, if_pos (by decide), ashr_eq hw hn h64 ha0 hb0 va vb, rs, uU 14 (by omega)]
end
end Go.Proofs.YthhhegblccoonaaGreatDoor.Cn
/- Lists of bits, the lowest first. -/
namespace Go.Proofs.YthhhegblccoonaaGreatDoor.Bl
set_option linter.unusedVariables false
set_option linter.unusedSimpArgs false
set_option linter.unusedSectionVars false
open Go.RowKit Go.Proofs.YthhhegblccoonaaGreatDoorW.PrintWords Wd

/-- The number that a list of bits stands for. -/
def val : List Int → Int
  | [] => 0
  | b :: l => b + 2 * val l
/-- The low m bits of a whole number. -/
def bitsL (m : Nat) (y : Int) : List Int := (List.range m).map fun j => y / 2 ^ j % 2
def Bit (l : List Int) : Prop := ∀ x ∈ l, x = 0 ∨ x = 1
theorem bitsL_length (m : Nat) (y : Int) : (bitsL m y).length = m := by simp [bitsL]
theorem bitsL_bit (m : Nat) (y : Int) : Bit (bitsL m y) := by
  intro x hx
  obtain ⟨j, _, rfl⟩ := List.mem_map.1 hx
  omega
theorem bitsL_succ (m : Nat) (y : Int) : bitsL (m + 1) y = bitsL m y ++ [y / 2 ^ m % 2] := by simp [bitsL, List.range_succ]
theorem rd_bitsL {m : Nat} {y : Int} {i : Int} (h0 : 0 ≤ i) (h : i < m) : rd (bitsL m y) i = y / 2 ^ i.toNat % 2 := by
  unfold rd bitsL
  rw [List.getD_eq_getElem?_getD, List.getElem?_map, List.getElem?_range (by omega)]
  rfl
theorem val_append (l r : List Int) : val (l ++ r) = val l + 2 ^ l.length * val r := by
  induction l with
  | nil => simp [val]
  | cons b l ih => simp only [List.cons_append, val, ih, List.length_cons, Int.pow_succ]; grind
theorem val_range {l : List Int} (h : Bit l) : 0 ≤ val l ∧ val l < 2 ^ l.length := by
  induction l with
  | nil => simp [val]
  | cons b l ih =>
    have h1 := ih (fun x hx => h x (List.mem_cons_of_mem _ hx))
    have h2 := h b (List.mem_cons_self ..)
    simp only [val, List.length_cons, Int.pow_succ]
    omega
theorem mod_succ (m : Nat) (y : Int) : y % 2 ^ (m + 1) = y % 2 ^ m + 2 ^ m * (y / 2 ^ m % 2) := by
  have hp := pow_pos m
  have h1 := Int.mul_ediv_add_emod y (2 ^ m)
  have h2 := Int.mul_ediv_add_emod (y / 2 ^ m) 2
  have h3 := mod_lt m y
  have h4 : (0 : Int) ≤ y / 2 ^ m % 2 ∧ y / 2 ^ m % 2 < 2 := by omega
  generalize y / 2 ^ m % 2 = c at *
  generalize y / 2 ^ m / 2 = d at *
  have e : y = (y % 2 ^ m + 2 ^ m * c) + 2 ^ (m + 1) * d := by
    rw [Int.pow_succ]
    have : 2 ^ m * (y / 2 ^ m) = 2 ^ m * (2 * d + c) := by rw [h2]
    grind
  have hr : 0 ≤ y % 2 ^ m + 2 ^ m * c ∧ y % 2 ^ m + 2 ^ m * c < 2 ^ (m + 1) := by
    rw [Int.pow_succ]
    obtain rfl | rfl : c = 0 ∨ c = 1 := by omega
    · simp; omega
    · simp; omega
  conv => lhs; rw [e]
  rw [Int.add_mul_emod_self_left]
  exact mod_small hr.1 hr.2
theorem val_bitsL (m : Nat) (y : Int) : val (bitsL m y) = y % 2 ^ m := by
  induction m with
  | zero => simp [bitsL, val, Int.emod_one]
  | succ m ih => rw [bitsL_succ, val_append, bitsL_length, ih, mod_succ]; simp [val]
theorem bitsL_ext {l : List Int} {m : Nat} {y : Int} (hl : l.length = m) (h : ∀ i : Nat, i < m → l[i]? = some (y / 2 ^ i % 2)) : l = bitsL m y := by
  apply List.ext_getElem?
  intro i
  by_cases hi : i < m
  · rw [h i hi]; simp [bitsL, List.getElem?_range hi]
  · rw [List.getElem?_eq_none (by omega), List.getElem?_eq_none (by rw [bitsL_length]; omega)]
theorem bit_high {n : Nat} (hn : 1 ≤ n) {x : Int} : x / 2 ^ (n - 1) % 2 = if 2 ^ (n - 1) ≤ x % 2 ^ n then 1 else 0 := by
  obtain ⟨m, rfl⟩ : ∃ m, n = m + 1 := ⟨n - 1, by omega⟩
  have h := mod_succ m x
  have h3 := mod_lt m x
  rw [h]
  simp only [Nat.add_sub_cancel]
  obtain h4 | h4 : x / 2 ^ m % 2 = 0 ∨ x / 2 ^ m % 2 = 1 := by omega
  · rw [h4, if_neg (by simp; omega)]
  · rw [h4, if_pos (by simp; omega)]
theorem div_pow_pow (x : Int) (s j : Nat) : x / 2 ^ s / 2 ^ j = x / 2 ^ (s + j) := by
  rw [Int.ediv_ediv_of_nonneg (by have := pow_pos s; omega), ← Int.pow_add]
theorem shl_bit (x : Int) (s j : Nat) : x * 2 ^ s / 2 ^ j % 2 = if s ≤ j then x / 2 ^ (j - s) % 2 else 0 := by
  have hs := pow_pos s
  split
  · rename_i h
    obtain ⟨d, rfl⟩ : ∃ d, j = s + d := ⟨j - s, by omega⟩
    rw [Nat.add_sub_cancel_left, Int.pow_add, ← Int.ediv_ediv_of_nonneg (by omega), Int.mul_ediv_cancel _ (by omega)]
  · rename_i h
    obtain ⟨d, rfl⟩ : ∃ d, s = j + 1 + d := ⟨s - j - 1, by omega⟩
    have hj := pow_pos j
    rw [Int.pow_add, Int.pow_succ, show x * (2 ^ j * 2 * 2 ^ d) = x * (2 * 2 ^ d) * 2 ^ j by grind, Int.mul_ediv_cancel _ (by omega)]
    rw [show x * (2 * 2 ^ d) = 2 * (x * 2 ^ d) by grind]
    omega
theorem small_bit {n : Nat} {x : Int} (h0 : 0 ≤ x) (h : x < 2 ^ n) {j : Nat} (hj : n ≤ j) : x / 2 ^ j % 2 = 0 := by
  have : (2 : Int) ^ n ≤ 2 ^ j := by
    have := Nat.pow_le_pow_right (n := 2) (by decide) hj
    have h2 : ((2 ^ n : Nat) : Int) ≤ ((2 ^ j : Nat) : Int) := Int.ofNat_le.2 this
    rw [Int.natCast_pow, Int.natCast_pow] at h2
    exact h2
  rw [Int.ediv_eq_zero_of_lt h0 (by omega)]; rfl
theorem neg_bit {n : Nat} {x : Int} (h0 : x < 0) (h : -2 ^ n ≤ x) {j : Nat} (hj : n ≤ j) : x / 2 ^ j % 2 = 1 := by
  have : (2 : Int) ^ n ≤ 2 ^ j := by
    have := Nat.pow_le_pow_right (n := 2) (by decide) hj
    have h2 : ((2 ^ n : Nat) : Int) ≤ ((2 ^ j : Nat) : Int) := Int.ofNat_le.2 this
    rw [Int.natCast_pow, Int.natCast_pow] at h2
    exact h2
  have hp := pow_pos j
  have e : x / 2 ^ j = -1 := by
    apply Int.ediv_eq_iff_of_pos (by omega) |>.2 
    omega
  rw [e]; rfl
theorem sub_pow_bit (x : Int) {n j : Nat} (h : j < n) : (x - 2 ^ n) / 2 ^ j % 2 = x / 2 ^ j % 2 := by
  obtain ⟨d, rfl⟩ : ∃ d, n = j + 1 + d := ⟨n - j - 1, by omega⟩
  have hj := pow_pos j
  rw [Int.pow_add, Int.pow_succ, show x - 2 ^ j * 2 * 2 ^ d = x + (-(2 * 2 ^ d)) * 2 ^ j by grind, Int.add_mul_ediv_right _ _ (by omega)]
  omega
end Go.Proofs.YthhhegblccoonaaGreatDoor.Bl
/- The values of operators, as the reference tells them. -/
namespace Go.Proofs.YthhhegblccoonaaGreatDoor.Ev
set_option linter.unusedVariables false
set_option linter.unusedSimpArgs false
set_option linter.unusedSectionVars false
open Go.RowKit Go.Proofs.YthhhegblccoonaaGreatDoor.P Go.Proofs.YthhhegblccoonaaGreatDoorW.PrintWords Wd Im Iv Tg Lw0 Ap Cm Cn

theorem bit12 {x : Int} (hx : 0 ≤ x ∧ x < 18446744073709551616) {i : Int} (hi : 0 ≤ i ∧ i ≤ 64) : jacquardref12_Bit.f x i = some (x / 2 ^ i.toNat % 2) := bit_eq hx hi
theorem or_bit {i : Nat} (hi : i < 64) {o b : Int} (h0 : 0 ≤ o) (h : o < 2 ^ i) (hb : b = 0 ∨ b = 1) : Go.bits .or .u64 o (shl .u64 (IntKind.u64.wrap b) (i : Int)) = o + 2 ^ i * b := by
  have hp := pow_pos i
  have hp2 := pow_le (n := i + 1) (by omega)
  rw [Int.pow_succ] at hp2
  have hs : shl .u64 (IntKind.u64.wrap b) (i : Int) = 2 ^ i * b := by
    rw [show IntKind.u64.wrap b = b by rw [wrap_u64]; omega, shl_u (by omega) (by rcases hb with rfl | rfl <;> simp <;> omega) (by rcases hb with rfl | rfl <;> simp <;> omega)]
    rw [Int.toNat_natCast, Int.mul_comm]
  rw [hs]
  have hbb : 0 ≤ 2 ^ i * b ∧ 2 ^ i * b < 18446744073709551616 := by rcases hb with rfl | rfl <;> simp <;> omega
  rw [bor _ _ (by omega) hbb]
  obtain ⟨x, rfl⟩ := Int.eq_ofNat_of_zero_le h0
  have hx : x < 2 ^ i := by exact_mod_cast h
  rcases hb with rfl | rfl
  · simp
  · have e : ((2 : Int) ^ i * 1).toNat = 2 ^ i * 1 := by rw [Int.mul_one, Nat.mul_one]; exact pow_toNat i
    rw [Int.toNat_natCast, e, Nat.or_comm, ← Nat.two_pow_add_eq_or_of_lt hx]
    rw [Int.natCast_add, Int.natCast_mul, cast_pow]; omega
theorem wr_i {i n : Nat} (h : i < n) (h64 : n ≤ 64) : wrap64 ((i : Int) + 1) = ((i + 1 : Nat) : Int) := by rw [wrap64_id (by omega) (by omega)]; omega
theorem wr_w {w : Int} {n : Nat} (hw : w = n) (h64 : n ≤ 64) : IntKind.u64.wrap w = n := by rw [wrap_u64]; omega
theorem wr_b {b : Int} {i n : Nat} (hb : 0 ≤ b) (c : b < n) (h : i < n) (h64 : n ≤ 64) : wrap64 ((i : Int) + wrap64 b) = b + i := by
  have e : wrap64 b = b := wrap64_id (by omega) (by omega)
  rw [e, wrap64_id (by omega) (by omega)]; omega
theorem truth12 (p : Prop) [Decidable p] : jacquardref12_truth.f (decide p) = some (if p then 1 else 0) := by
  unfold jacquardref12_truth.f
  by_cases c : p
  · rw [if_pos (decide_eq_true c), if_pos c]
  · rw [if_neg (by simpa using c), if_neg c]
theorem mod2 (x : Int) : x % 2 = 0 ∨ x % 2 = 1 := by omega
section
variable {w : Int} {n : Nat} (hw : w = n) (hn : 1 ≤ n) (h64 : n ≤ 64)
include hw hn h64
/-- The loop: the low i bits are those of y. -/
theorem shift_loop {a b fill y : Int} (ha : 0 ≤ a ∧ a < 2 ^ n) (hb : 0 ≤ b ∧ b < 18446744073709551616) (hf : fill = 0 ∨ fill = 1)
    (hlo : ∀ i : Nat, b + i < n → a / 2 ^ (b.toNat + i) % 2 = y / 2 ^ i % 2) (hhi : ∀ i : Nat, i < n → n ≤ b + i → fill = y / 2 ^ i % 2) (d : Nat) :
    ∀ (k i : Nat), i + d = n → d < k → jacquardref12_shift.l0 k w a b fill (y % 2 ^ i) i = some (y % 2 ^ n) := by
  have hp := pow_le h64
  induction d with
  | zero =>
    intro k i hi hk
    obtain ⟨k, rfl⟩ : ∃ m, k = m + 1 := ⟨k - 1, by omega⟩
    obtain rfl : i = n := by omega
    rw [jacquardref12_shift.l0, if_neg (by omega)]
  | succ d ih =>
    intro k i hi hk
    obtain ⟨k, rfl⟩ : ∃ m, k = m + 1 := ⟨k - 1, by omega⟩
    have h2 := ih k (i + 1) (by omega) (by omega)
    have hin : i < n := by omega
    have hi64 : i < 64 := by omega
    have hiw : (i : Int) < w := by omega
    have hi0 : (0 : Int) ≤ (i : Int) := by omega
    have a64 : 0 ≤ a ∧ a < 18446744073709551616 := by omega
    have bx : b + (i : Int) < w → 0 ≤ b + (i : Int) ∧ b + (i : Int) ≤ 64 := by omega
    have bt : (b + (i : Int)).toNat = b.toNat + i := by omega
    have bn : b + (i : Int) < w → b + i < n := by omega
    have bg : ¬ b + (i : Int) < w → n ≤ b + i := by omega
    have bg2 : ¬ b < n → n ≤ b + i := by omega
    clear ih
    rw [jacquardref12_shift.l0, if_pos hiw, wr_w hw h64, wr_i hin h64]
    have hm := mod_lt i y
    have hs := Bl.mod_succ i y
    have hy := mod2 (y / 2 ^ i)
    have F : n ≤ b + i → jacquardref12_shift.l0 k w a b fill (Go.bits .or .u64 (y % 2 ^ i) (shl .u64 (IntKind.u64.wrap fill) (i : Int))) ((i + 1 : Nat) : Int) = some (y % 2 ^ n) := by
      intro h
      have e : Go.bits .or .u64 (y % 2 ^ i) (shl .u64 (IntKind.u64.wrap fill) (i : Int)) = y % 2 ^ (i + 1) := by rw [or_bit hi64 hm.1 hm.2 hf, hs, ← hhi i hin h]
      rw [e]; exact h2
    by_cases c1 : b < n
    · rw [if_pos c1, wr_b hb.1 c1 hin h64]
      by_cases c2 : b + i < w
      · rw [if_pos c2, bit12 a64 (bx c2), Option.bind_some, if_pos hi0, bt, hlo i (bn c2), or_bit hi64 hm.1 hm.2 hy, ← hs]; exact h2
      · rw [if_neg c2, if_pos hi0]; exact F (bg c2)
    · rw [if_neg c1, if_pos hi0]; exact F (bg2 c1)
theorem lshr12 {a b : Int} (ha : 0 ≤ a ∧ a < 2 ^ n) (hb : 0 ≤ b ∧ b < 18446744073709551616) (hk : 64 < Q) : jacquardref12_shift.f w a b 0 = some (bin 13 n a b) := by
  have hq := div_nn b.toNat ha.1
  have e : bin 13 n a b = a / 2 ^ b.toNat := by
    simp only [bin]; simp; intro h
    rw [Int.ediv_eq_zero_of_lt (by omega)]
    have := pow_mono (a := n) (b := b.toNat) (by omega)
    omega
  have hl := shift_loop hw hn h64 (fill := 0) (y := a / 2 ^ b.toNat) ha hb (.inl rfl) (fun i hi => by rw [← div_step]) (fun i hi h => by
    rw [← div_step, Bl.small_bit ha.1 ha.2 (by omega)]) n Q 0 (by omega) (by omega)
  unfold jacquardref12_shift.f
  rw [e]
  rw [mod_small (n := n) hq.1 (by omega)] at hl
  simpa [Int.emod_one] using hl
theorem ashr12 {a b : Int} (ha : 0 ≤ a ∧ a < 2 ^ n) (hb : 0 ≤ b ∧ b < 18446744073709551616) (hk : 64 < Q) : jacquardref12_shift.f w a b (a / 2 ^ (n - 1) % 2) = some (bin 14 n a b) := by
  have hs := pow_succ' hn
  have hpp := pow_pos (n - 1)
  have hr := sg_inr hn a
  have hbh := Bl.bit_high hn (x := a)
  rw [mod_small ha.1 ha.2] at hbh
  have hf : a / 2 ^ (n - 1) % 2 = 0 ∨ a / 2 ^ (n - 1) % 2 = 1 := by omega
  have hsg := sg_cases hn ha.1 ha.2
  have key : ∀ j : Nat, n - 1 ≤ j → sg n a / 2 ^ j % 2 = a / 2 ^ (n - 1) % 2 := by
    intro j hj
    rw [hbh]
    rcases hsg with ⟨h1, h2⟩ | ⟨h1, h2⟩
    · rw [if_neg (by omega), Bl.small_bit (n := n - 1) (by omega) (by omega) hj]
    · rw [if_pos h1, Bl.neg_bit (n := n - 1) (by omega) (by omega) hj]
  have hl := shift_loop hw hn h64 (fill := a / 2 ^ (n - 1) % 2) (y := sg n a / 2 ^ b.toNat) ha hb hf (fun i hi => by
      rw [← div_step]
      rcases hsg with ⟨h1, h2⟩ | ⟨h1, h2⟩
      · rw [h2]
      · rw [h2, Bl.sub_pow_bit a (by omega)]) (fun i hi h => by
      rw [← div_step, key _ (by omega)]) n Q 0 (by omega) (by omega)
  have e : bin 14 n a b = sg n a / 2 ^ b.toNat % 2 ^ n := by
    have e1 : bin 14 n a b = if (n : Int) ≤ b then (if 2 ^ (n - 1) ≤ a then 2 ^ n - 1 else 0) else sg n a / 2 ^ b.toNat % 2 ^ n := by simp [bin]
    rw [e1]
    by_cases c : (n : Int) ≤ b
    · have hp := pow_mono (a := n - 1) (b := b.toNat) (by omega)
      rw [if_pos c]
      rcases hsg with ⟨h1, h2⟩ | ⟨h1, h2⟩
      · rw [if_neg (by omega), h2, Int.ediv_eq_zero_of_lt ha.1 (by omega)]; simp
      · have hq : sg n a / 2 ^ b.toNat = -1 := by
          apply (Int.ediv_eq_iff_of_pos (by omega)).2
          omega
        rw [if_pos h1, hq, mod_plus (by omega) (by omega)]; omega
    · rw [if_neg c]
  unfold jacquardref12_shift.f
  rw [e]
  simpa [Int.emod_one] using hl
theorem divide12 {a b : Int} (ha : 0 ≤ a ∧ a < 2 ^ n) (hb : 0 ≤ b ∧ b < 2 ^ n) (hk : 64 < Q) : jacquardref12_divide.f w a b = some (bin 7 n a b, bin 8 n a b) := by
  have hp := pow_le h64
  have hnw : nn w = n := by have := nn_of (w := w) (by omega) (by omega); omega
  have hs := pow_succ' hn
  have hpp := pow_pos (n - 1)
  have s1 := rsg_eq (w := w) (by omega) ha.1 (by rw [hnw]; exact ha.2) hk
  have s2 := rsg_eq (w := w) (by omega) hb.1 (by rw [hnw]; exact hb.2) hk
  have mk := rmask_eq (w := w) (by omega) hk
  rw [hnw] at s1 s2 mk
  have hbz : sg n b = 0 ↔ b = 0 := by
    unfold sg; rw [mod_small hb.1 hb.2]; split <;> omega
  unfold jacquardref12_divide.f
  rw [s1, Option.bind_some, s2, Option.bind_some]
  have hm : ∀ x, Go.bits .and .u64 (IntKind.u64.wrap x) (2 ^ n - 1) = x % 2 ^ n := fun x => by rw [and_mask h64 (by rw [wrap_u64]; omega), wrap_mod h64]
  by_cases c0 : sg n b = 0
  · rw [if_pos c0, mk, Option.bind_some]; simp [bin, hbz.1 c0]
  · have hb1 : ¬ b = 0 := fun h => c0 (hbz.2 h)
    rw [if_neg c0]
    by_cases c1 : sg n b = -1
    · rw [if_pos c1, mk, Option.bind_some, hm]
      simp only [bin, c1, hb1]
      simp
      have e := sg_mod (n := n) a
      rw [← Int.zero_sub, ← Int.zero_sub (sg n a), Int.sub_emod, ← e, ← Int.sub_emod]
    · rw [if_neg c1, mk, Option.bind_some, hm, hm]
      have r1 := sg_I h64 a
      have r2 := sg_I h64 b
      have ht := tdiv_I (x := sg n a) (a := sg n b) r1 r2 (by omega)
      rw [wrap64_id ht.1 ht.2]
      simp [bin, hb1]
theorem eval_bin {op : Int} (ho : 2 ≤ op ∧ op ≤ 14) (ws : List Int) {a b : Int} (ha : 0 ≤ a ∧ a < 2 ^ n) (hb : 0 ≤ b ∧ b < 2 ^ n) (num : Int) (hk : 66 < Q) : jacquardref12_Eval.f op w ws [a, b] num = some (bin op n a b) := by
  have hp := pow_le h64
  have hpp := pow_pos n
  have hnw : nn w = n := by have := nn_of (w := w) (by omega) (by omega); omega
  have mk := rmask_eq (w := w) (by omega) (by omega)
  rw [hnw] at mk
  have hm : ∀ x, Go.bits .and .u64 (IntKind.u64.wrap x) (2 ^ n - 1) = x % 2 ^ n := fun x => by rw [and_mask h64 (by rw [wrap_u64]; omega), wrap_mod h64]
  unfold jacquardref12_Eval.f
  rw [if_neg (by omega), if_pos (by simp), if_pos (by simp), if_pos (by simp), show rd [a, b] 0 = a from rfl, show rd [a, b] 1 = b from rfl, jacquardref12_Eval.j0]
  obtain rfl | rfl | rfl | rfl | rfl | rfl | rfl | rfl | rfl | rfl | rfl | rfl | rfl : op = 2 ∨ op = 3 ∨ op = 4 ∨ op = 5 ∨ op = 6 ∨ op = 7 ∨ op = 8 ∨ op = 9 ∨ op = 10 ∨ op = 11 ∨ op = 12 ∨ op = 13 ∨ op = 14 := by omega
  · rw [if_pos rfl, mk, Option.bind_some, hm]; simp [bin]
  · rw [if_neg (by decide), if_pos rfl, mk, Option.bind_some, hm]; simp [bin]
  · rw [if_neg (by decide), if_neg (by decide), if_pos rfl, mk, Option.bind_some, hm]; simp [bin]
  · rw [if_neg (by decide), if_neg (by decide), if_neg (by decide), if_pos rfl]
    by_cases c : b = 0
    · rw [if_pos c, mk, Option.bind_some]; simp [bin, c]
    · have q1 := Int.ediv_le_self b ha.1
      have q2 := Int.ediv_nonneg ha.1 hb.1
      rw [if_neg c, Int.tdiv_eq_ediv_of_nonneg ha.1, show IntKind.u64.wrap (a / b) = a / b by rw [wrap_u64]; omega]; simp [bin, c]
  · rw [if_neg (by decide), if_neg (by decide), if_neg (by decide), if_neg (by decide), if_pos rfl]
    by_cases c : b = 0
    · rw [if_pos c]; simp [bin, c]
    · rw [if_neg c, Int.tmod_eq_emod_of_nonneg ha.1]; simp [bin, c]
  · rw [if_neg (by decide), if_neg (by decide), if_neg (by decide), if_neg (by decide), if_neg (by decide), if_pos rfl, divide12 hw hn h64 ha hb (by omega)]; rfl
  · rw [if_neg (by decide), if_neg (by decide), if_neg (by decide), if_neg (by decide), if_neg (by decide), if_neg (by decide), if_pos rfl, divide12 hw hn h64 ha hb (by omega)]; rfl
  · simp only [show ¬ (9 : Int) = 2 by decide, show ¬ (9 : Int) = 3 by decide, show ¬ (9 : Int) = 4 by decide, show ¬ (9 : Int) = 5 by decide, show ¬ (9 : Int) = 6 by decide, show ¬ (9 : Int) = 7 by decide, show ¬ (9 : Int) = 8 by decide, if_false, if_true]
    rw [band _ _ (by omega) (by omega)]; simp [bin]
  · simp only [show ¬ (10 : Int) = 2 by decide, show ¬ (10 : Int) = 3 by decide, show ¬ (10 : Int) = 4 by decide, show ¬ (10 : Int) = 5 by decide, show ¬ (10 : Int) = 6 by decide, show ¬ (10 : Int) = 7 by decide, show ¬ (10 : Int) = 8 by decide, show ¬ (10 : Int) = 9 by decide, if_false, if_true]
    rw [bor _ _ (by omega) (by omega)]; simp [bin]
  · simp only [show ¬ (11 : Int) = 2 by decide, show ¬ (11 : Int) = 3 by decide, show ¬ (11 : Int) = 4 by decide, show ¬ (11 : Int) = 5 by decide, show ¬ (11 : Int) = 6 by decide, show ¬ (11 : Int) = 7 by decide, show ¬ (11 : Int) = 8 by decide, show ¬ (11 : Int) = 9 by decide, show ¬ (11 : Int) = 10 by decide, if_false, if_true]
    rw [bxor _ _ (by omega) (by omega)]; simp [bin]
  · simp only [show ¬ (12 : Int) = 2 by decide, show ¬ (12 : Int) = 3 by decide, show ¬ (12 : Int) = 4 by decide, show ¬ (12 : Int) = 5 by decide, show ¬ (12 : Int) = 6 by decide, show ¬ (12 : Int) = 7 by decide, show ¬ (12 : Int) = 8 by decide, show ¬ (12 : Int) = 9 by decide, show ¬ (12 : Int) = 10 by decide, show ¬ (12 : Int) = 11 by decide, if_false, if_true]
    rw [show IntKind.u64.wrap w = n by rw [wrap_u64]; omega]
    by_cases c : b ≥ n
    · rw [if_pos c]; simp [bin, show (n : Int) ≤ b from c]
    · rw [if_neg c, if_pos hb.1, mk, Option.bind_some]
      unfold shl
      rw [show min b.toNat (IntKind.bits .u64) = b.toNat by show min _ 64 = _; omega, hm]; simp [bin, show ¬ (n : Int) ≤ b from c]
  · simp only [show ¬ (13 : Int) = 2 by decide, show ¬ (13 : Int) = 3 by decide, show ¬ (13 : Int) = 4 by decide, show ¬ (13 : Int) = 5 by decide, show ¬ (13 : Int) = 6 by decide, show ¬ (13 : Int) = 7 by decide, show ¬ (13 : Int) = 8 by decide, show ¬ (13 : Int) = 9 by decide, show ¬ (13 : Int) = 10 by decide, show ¬ (13 : Int) = 11 by decide, show ¬ (13 : Int) = 12 by decide, if_false, if_true]
    rw [lshr12 hw hn h64 ha (by omega) (by omega)]; rfl
  · simp only [show ¬ (14 : Int) = 2 by decide, show ¬ (14 : Int) = 3 by decide, show ¬ (14 : Int) = 4 by decide, show ¬ (14 : Int) = 5 by decide, show ¬ (14 : Int) = 6 by decide, show ¬ (14 : Int) = 7 by decide, show ¬ (14 : Int) = 8 by decide, show ¬ (14 : Int) = 9 by decide, show ¬ (14 : Int) = 10 by decide, show ¬ (14 : Int) = 11 by decide, show ¬ (14 : Int) = 12 by decide, show ¬ (14 : Int) = 13 by decide, if_false, if_true]
    rw [wrap64_id (by omega) (by omega), bit12 (by omega) (by omega), Option.bind_some, show (w - 1).toNat = n - 1 by omega, ashr12 hw hn h64 ha (by omega) (by omega)]; rfl
end
theorem eval_cmp {op : Int} (ho : 15 ≤ op ∧ op ≤ 20) (w : Int) {v : Int} {m : Nat} (hv : v = m) (hm : 1 ≤ m) (h64 : m ≤ 64) {a b : Int} (ha : 0 ≤ a ∧ a < 2 ^ m) (hb : 0 ≤ b ∧ b < 2 ^ m) (num : Int) (hk : 66 < Q) :
    jacquardref12_Eval.f op w [v, v] [a, b] num = some (bin op m a b) := by
  have hnv : nn v = m := by have := nn_of (w := v) (by omega) (by omega); omega
  have s1 := rsg_eq (w := v) (x := a) (by omega) ha.1 (by rw [hnv]; exact ha.2) (by omega)
  have s2 := rsg_eq (w := v) (x := b) (by omega) hb.1 (by rw [hnv]; exact hb.2) (by omega)
  rw [hnv] at s1 s2
  unfold jacquardref12_Eval.f
  rw [if_neg (by omega), if_pos (by simp), if_pos (by simp), if_pos (by simp), show rd [a, b] 0 = a from rfl, show rd [a, b] 1 = b from rfl, jacquardref12_Eval.j0]
  have e1 : (a == b) = decide (a = b) := by rw [Bool.eq_iff_iff]; simp
  have e2 : (a != b) = decide (¬ a = b) := by rw [Bool.eq_iff_iff]; simp
  obtain rfl | rfl | rfl | rfl | rfl | rfl : op = 15 ∨ op = 16 ∨ op = 17 ∨ op = 18 ∨ op = 19 ∨ op = 20 := by omega
  · simp only [show ¬ (15 : Int) = 2 by decide, show ¬ (15 : Int) = 3 by decide, show ¬ (15 : Int) = 4 by decide, show ¬ (15 : Int) = 5 by decide, show ¬ (15 : Int) = 6 by decide, show ¬ (15 : Int) = 7 by decide, show ¬ (15 : Int) = 8 by decide, show ¬ (15 : Int) = 9 by decide, show ¬ (15 : Int) = 10 by decide, show ¬ (15 : Int) = 11 by decide, show ¬ (15 : Int) = 12 by decide, show ¬ (15 : Int) = 13 by decide, show ¬ (15 : Int) = 14 by decide, if_false, if_true]
    rw [e1, truth12, Option.bind_some]; simp [bin]
  · simp only [show ¬ (16 : Int) = 2 by decide, show ¬ (16 : Int) = 3 by decide, show ¬ (16 : Int) = 4 by decide, show ¬ (16 : Int) = 5 by decide, show ¬ (16 : Int) = 6 by decide, show ¬ (16 : Int) = 7 by decide, show ¬ (16 : Int) = 8 by decide, show ¬ (16 : Int) = 9 by decide, show ¬ (16 : Int) = 10 by decide, show ¬ (16 : Int) = 11 by decide, show ¬ (16 : Int) = 12 by decide, show ¬ (16 : Int) = 13 by decide, show ¬ (16 : Int) = 14 by decide, show ¬ (16 : Int) = 15 by decide, if_false, if_true]
    rw [e2, truth12, Option.bind_some]; simp [bin]
  · simp only [show ¬ (17 : Int) = 2 by decide, show ¬ (17 : Int) = 3 by decide, show ¬ (17 : Int) = 4 by decide, show ¬ (17 : Int) = 5 by decide, show ¬ (17 : Int) = 6 by decide, show ¬ (17 : Int) = 7 by decide, show ¬ (17 : Int) = 8 by decide, show ¬ (17 : Int) = 9 by decide, show ¬ (17 : Int) = 10 by decide, show ¬ (17 : Int) = 11 by decide, show ¬ (17 : Int) = 12 by decide, show ¬ (17 : Int) = 13 by decide, show ¬ (17 : Int) = 14 by decide, show ¬ (17 : Int) = 15 by decide, show ¬ (17 : Int) = 16 by decide, if_false, if_true]
    rw [truth12, Option.bind_some]; simp [bin]
  · simp only [show ¬ (18 : Int) = 2 by decide, show ¬ (18 : Int) = 3 by decide, show ¬ (18 : Int) = 4 by decide, show ¬ (18 : Int) = 5 by decide, show ¬ (18 : Int) = 6 by decide, show ¬ (18 : Int) = 7 by decide, show ¬ (18 : Int) = 8 by decide, show ¬ (18 : Int) = 9 by decide, show ¬ (18 : Int) = 10 by decide, show ¬ (18 : Int) = 11 by decide, show ¬ (18 : Int) = 12 by decide, show ¬ (18 : Int) = 13 by decide, show ¬ (18 : Int) = 14 by decide, show ¬ (18 : Int) = 15 by decide, show ¬ (18 : Int) = 16 by decide, show ¬ (18 : Int) = 17 by decide, if_false, if_true]
    rw [truth12, Option.bind_some]; simp [bin]
  · simp only [show ¬ (19 : Int) = 2 by decide, show ¬ (19 : Int) = 3 by decide, show ¬ (19 : Int) = 4 by decide, show ¬ (19 : Int) = 5 by decide, show ¬ (19 : Int) = 6 by decide, show ¬ (19 : Int) = 7 by decide, show ¬ (19 : Int) = 8 by decide, show ¬ (19 : Int) = 9 by decide, show ¬ (19 : Int) = 10 by decide, show ¬ (19 : Int) = 11 by decide, show ¬ (19 : Int) = 12 by decide, show ¬ (19 : Int) = 13 by decide, show ¬ (19 : Int) = 14 by decide, show ¬ (19 : Int) = 15 by decide, show ¬ (19 : Int) = 16 by decide, show ¬ (19 : Int) = 17 by decide, show ¬ (19 : Int) = 18 by decide, if_false, if_true]
    rw [if_pos (by simp), show rd [v, v] 0 = v from rfl, s1, Option.bind_some, if_pos (by simp), show rd [v, v] 1 = v from rfl, s2, Option.bind_some, truth12, Option.bind_some]; simp [bin]
  · simp only [show ¬ (20 : Int) = 2 by decide, show ¬ (20 : Int) = 3 by decide, show ¬ (20 : Int) = 4 by decide, show ¬ (20 : Int) = 5 by decide, show ¬ (20 : Int) = 6 by decide, show ¬ (20 : Int) = 7 by decide, show ¬ (20 : Int) = 8 by decide, show ¬ (20 : Int) = 9 by decide, show ¬ (20 : Int) = 10 by decide, show ¬ (20 : Int) = 11 by decide, show ¬ (20 : Int) = 12 by decide, show ¬ (20 : Int) = 13 by decide, show ¬ (20 : Int) = 14 by decide, show ¬ (20 : Int) = 15 by decide, show ¬ (20 : Int) = 16 by decide, show ¬ (20 : Int) = 17 by decide, show ¬ (20 : Int) = 18 by decide, show ¬ (20 : Int) = 19 by decide, if_false, if_true]
    rw [if_pos (by simp), show rd [v, v] 0 = v from rfl, s1, Option.bind_some, if_pos (by simp), show rd [v, v] 1 = v from rfl, s2, Option.bind_some, truth12, Option.bind_some]; simp [bin]
theorem eval_select (w : Int) (ws : List Int) (x y z num : Int) (hk : 1 < Q) : jacquardref12_Eval.f 21 w ws [x, y, z] num = some (if x = 1 then y else z) := by
  unfold jacquardref12_Eval.f
  rw [if_neg (by decide), if_pos (by simp), if_pos (by simp), if_pos (by simp), show rd [x, y, z] 0 = x from rfl, show rd [x, y, z] 1 = y from rfl, jacquardref12_Eval.j0]
  simp only [show ¬ (21 : Int) = 2 by decide, show ¬ (21 : Int) = 3 by decide, show ¬ (21 : Int) = 4 by decide, show ¬ (21 : Int) = 5 by decide, show ¬ (21 : Int) = 6 by decide, show ¬ (21 : Int) = 7 by decide, show ¬ (21 : Int) = 8 by decide, show ¬ (21 : Int) = 9 by decide, show ¬ (21 : Int) = 10 by decide, show ¬ (21 : Int) = 11 by decide, show ¬ (21 : Int) = 12 by decide, show ¬ (21 : Int) = 13 by decide, show ¬ (21 : Int) = 14 by decide, show ¬ (21 : Int) = 15 by decide, show ¬ (21 : Int) = 16 by decide, show ¬ (21 : Int) = 17 by decide, show ¬ (21 : Int) = 18 by decide, show ¬ (21 : Int) = 19 by decide, show ¬ (21 : Int) = 20 by decide, if_false, if_true]
  by_cases c : x = 1
  · rw [if_pos c, if_pos c]
  · rw [if_neg c, if_neg c, if_pos (by simp)]; rfl
theorem eval_cast {op : Int} (ho : op = 22 ∨ op = 23 ∨ op = 24) {w v : Int} {n m : Nat} (hw : w = n) (hn : 1 ≤ n) (h64 : n ≤ 64) (hv : v = m) (hm : 1 ≤ m) (hm64 : m ≤ 64) {x : Int} (hx : 0 ≤ x ∧ x < 2 ^ m) (num : Int) (hk : 66 < Q) :
    jacquardref12_Eval.f op w [v] [x] num = some (castv op n m x) := by
  have hp := pow_le hm64
  have hnw : nn w = n := by have := nn_of (w := w) (by omega) (by omega); omega
  have hnv : nn v = m := by have := nn_of (w := v) (by omega) (by omega); omega
  have mk := rmask_eq (w := w) (by omega) (by omega)
  have s1 := rsg_eq (w := v) (x := x) (by omega) hx.1 (by rw [hnv]; exact hx.2) (by omega)
  rw [hnw] at mk
  rw [hnv] at s1
  have hm : ∀ x, Go.bits .and .u64 (IntKind.u64.wrap x) (2 ^ n - 1) = x % 2 ^ n := fun x => by rw [and_mask h64 (by rw [wrap_u64]; omega), wrap_mod h64]
  unfold jacquardref12_Eval.f
  rw [if_neg (by omega), if_pos (by simp), if_neg (by simp), show rd [x] 0 = x from rfl, jacquardref12_Eval.j0]
  rcases ho with rfl | rfl | rfl
  · simp only [show ¬ (22 : Int) = 2 by decide, show ¬ (22 : Int) = 3 by decide, show ¬ (22 : Int) = 4 by decide, show ¬ (22 : Int) = 5 by decide, show ¬ (22 : Int) = 6 by decide, show ¬ (22 : Int) = 7 by decide, show ¬ (22 : Int) = 8 by decide, show ¬ (22 : Int) = 9 by decide, show ¬ (22 : Int) = 10 by decide, show ¬ (22 : Int) = 11 by decide, show ¬ (22 : Int) = 12 by decide, show ¬ (22 : Int) = 13 by decide, show ¬ (22 : Int) = 14 by decide, show ¬ (22 : Int) = 15 by decide, show ¬ (22 : Int) = 16 by decide, show ¬ (22 : Int) = 17 by decide, show ¬ (22 : Int) = 18 by decide, show ¬ (22 : Int) = 19 by decide, show ¬ (22 : Int) = 20 by decide, show ¬ (22 : Int) = 21 by decide, show ¬ (22 : Int) = 23 by decide, if_false, if_true]
    rw [mk, Option.bind_some, and_mask h64 (by omega)]; simp [castv]
  · simp only [show ¬ (23 : Int) = 2 by decide, show ¬ (23 : Int) = 3 by decide, show ¬ (23 : Int) = 4 by decide, show ¬ (23 : Int) = 5 by decide, show ¬ (23 : Int) = 6 by decide, show ¬ (23 : Int) = 7 by decide, show ¬ (23 : Int) = 8 by decide, show ¬ (23 : Int) = 9 by decide, show ¬ (23 : Int) = 10 by decide, show ¬ (23 : Int) = 11 by decide, show ¬ (23 : Int) = 12 by decide, show ¬ (23 : Int) = 13 by decide, show ¬ (23 : Int) = 14 by decide, show ¬ (23 : Int) = 15 by decide, show ¬ (23 : Int) = 16 by decide, show ¬ (23 : Int) = 17 by decide, show ¬ (23 : Int) = 18 by decide, show ¬ (23 : Int) = 19 by decide, show ¬ (23 : Int) = 20 by decide, show ¬ (23 : Int) = 21 by decide, show ¬ (23 : Int) = 22 by decide, if_false, if_true]
    rw [if_pos (by simp), show rd [v] 0 = v from rfl, s1, Option.bind_some, mk, Option.bind_some, hm]; simp [castv]
  · simp only [show ¬ (24 : Int) = 2 by decide, show ¬ (24 : Int) = 3 by decide, show ¬ (24 : Int) = 4 by decide, show ¬ (24 : Int) = 5 by decide, show ¬ (24 : Int) = 6 by decide, show ¬ (24 : Int) = 7 by decide, show ¬ (24 : Int) = 8 by decide, show ¬ (24 : Int) = 9 by decide, show ¬ (24 : Int) = 10 by decide, show ¬ (24 : Int) = 11 by decide, show ¬ (24 : Int) = 12 by decide, show ¬ (24 : Int) = 13 by decide, show ¬ (24 : Int) = 14 by decide, show ¬ (24 : Int) = 15 by decide, show ¬ (24 : Int) = 16 by decide, show ¬ (24 : Int) = 17 by decide, show ¬ (24 : Int) = 18 by decide, show ¬ (24 : Int) = 19 by decide, show ¬ (24 : Int) = 20 by decide, show ¬ (24 : Int) = 21 by decide, show ¬ (24 : Int) = 22 by decide, show ¬ (24 : Int) = 23 by decide, if_false, if_true]
    rw [mk, Option.bind_some, and_mask h64 (by omega)]; simp [castv]
theorem eval_const {w : Int} {n : Nat} (hw : w = n) (h64 : n ≤ 64) (ws l : List Int) {num : Int} (hx : 0 ≤ num ∧ num < 18446744073709551616) (hk : 66 < Q) : jacquardref12_Eval.f 1 w ws l num = some (num % 2 ^ n) := by
  have hnw : nn w = n := by have := nn_of (w := w) (by omega) (by omega); omega
  have mk := rmask_eq (w := w) (by omega) (by omega)
  rw [hnw] at mk
  unfold jacquardref12_Eval.f
  rw [if_pos rfl, mk, Option.bind_some, and_mask h64 hx]
end Go.Proofs.YthhhegblccoonaaGreatDoor.Ev
/- The bounds that the reference computes: the same. -/
namespace Go.Proofs.YthhhegblccoonaaGreatDoor.Rf
set_option linter.unusedVariables false
set_option linter.unusedSimpArgs false
set_option linter.unusedSectionVars false
open Go.RowKit Go.Proofs.YthhhegblccoonaaGreatDoor.P Go.Proofs.YthhhegblccoonaaGreatDoorW.PrintWords Wd Im Iv Tg Lw0 Ap Cm Cn Ev

instance (x : Int) : Decidable (I64 x) := by unfold I64; infer_instance
section
variable {w : Int} {n : Nat} (hw : w = n) (hn : 1 ≤ n) (h64 : n ≤ 64) (hk : 70 < Q)
include hw hn h64 hk
theorem nnw : nn w = n := by have := nn_of (w := w) (by omega) (by omega); omega
theorem um : jacquardref13_Umax.f w = some (2 ^ n - 1) := by rw [umax_eq (by omega) (by omega), nnw hw hn h64 hk]
theorem sx : jacquardref13_Smax.f w = some (2 ^ (n - 1) - 1) := by rw [smax_eq (by omega) (by omega), nnw hw hn h64 hk]
theorem sn : jacquardref13_Smin.f w = some (-2 ^ (n - 1)) := by rw [smin_eq (by omega) (by omega), nnw hw hn h64 hk]
theorem rtop : jacquardref13_Top.f w = some (top n) := by
  unfold jacquardref13_Top.f
  rw [if_neg (by omega), decide_eq_false (by omega), jacquardref13_Top.j0, if_neg (by decide), um hw hn h64 hk, Option.bind_some, sn hw hn h64 hk, Option.bind_some, sx hw hn h64 hk]; rfl
theorem rof {x : Int} (hx : 0 ≤ x ∧ x < 18446744073709551616) : jacquardref13_Of.f w x = some (one n x) := by
  have hm := mod_lt n x
  have hs := rsg_eq (w := w) (x := x % 2 ^ n) (by omega) hm.1 (by rw [nnw hw hn h64 hk]; exact hm.2) (by omega)
  rw [nnw hw hn h64 hk] at hs
  unfold jacquardref13_Of.f
  rw [if_neg (by omega), decide_eq_false (by omega), jacquardref13_Of.j0, if_neg (by decide), um hw hn h64 hk, Option.bind_some, and_mask h64 hx, hs, Option.bind_some, sg_fit]; rfl
theorem plus_j (s : Int) (b : Bool) : jacquardref13_plus.j0 w s b = some (if b then (0, false) else (s, decide (inr n s))) := by
  rw [jacquardref13_plus.j0]
  cases b
  · rw [if_neg (by decide), sn hw hn h64 hk, Option.bind_some]
    by_cases c : s ≥ -2 ^ (n - 1)
    · rw [if_pos c, sx hw hn h64 hk, Option.bind_some]; simp [inr, show -2 ^ (n - 1) ≤ s from c]
    · rw [if_neg c]; simp [inr, show ¬ -2 ^ (n - 1) ≤ s from c]
  · rw [if_pos rfl]; rfl
theorem minus_j (s : Int) (b : Bool) : jacquardref13_minus.j0 w s b = some (if b then (0, false) else (s, decide (inr n s))) := by
  rw [jacquardref13_minus.j0]
  cases b
  · rw [if_neg (by decide), sn hw hn h64 hk, Option.bind_some]
    by_cases c : s ≥ -2 ^ (n - 1)
    · rw [if_pos c, sx hw hn h64 hk, Option.bind_some]; simp [inr, show -2 ^ (n - 1) ≤ s from c]
    · rw [if_neg c]; simp [inr, show ¬ -2 ^ (n - 1) ≤ s from c]
  · rw [if_pos rfl]; rfl
theorem rplus {a b : Int} (ha : I64 a) (hb : I64 b) : jacquardref13_plus.f w a b = some (if I64 (a + b) then a + b else 0, decide (inr n (a + b))) := by
  have e : jacquardref13_plus.f w a b = jacquardref13_plus.j0 w (wrap64 (a + b)) (decide (¬ I64 (a + b))) := by
    have t : ∀ p : Bool, p = decide (¬ I64 (a + b)) → jacquardref13_plus.j0 w (wrap64 (a + b)) p = jacquardref13_plus.j0 w (wrap64 (a + b)) (decide (¬ I64 (a + b))) := fun p h => by rw [h]
    unfold jacquardref13_plus.f
    unfold I64 wrap64 at *
    by_cases c1 : a ≥ 0
    · rw [if_pos c1]
      by_cases c2 : b ≥ 0
      · rw [if_pos c2]
        by_cases c3 : (a + b + 9223372036854775808) % 18446744073709551616 - 9223372036854775808 < 0
        · rw [if_pos c3]; exact t _ (decide_eq_true (by omega)).symm
        · rw [if_neg c3, if_neg (by omega)]; exact t _ (decide_eq_false (by omega)).symm
      · rw [if_neg c2, if_neg (by omega)]; exact t _ (decide_eq_false (by omega)).symm
    · rw [if_neg c1, if_pos (by omega)]
      by_cases c2 : b < 0
      · rw [if_pos c2]; exact t _ (by rw [decide_eq_decide]; omega)
      · rw [if_neg c2]; exact t _ (decide_eq_false (by omega)).symm
  rw [e, plus_j hw hn h64 hk]
  by_cases c : I64 (a + b)
  · rw [decide_eq_false (not_not_intro c), if_pos c, wrap64_id c.1 c.2]; rfl
  · rw [decide_eq_true c, if_neg c, decide_eq_false (fun h => c (i64_inr h64 h))]; rfl
theorem rminus {a b : Int} (ha : I64 a) (hb : I64 b) : jacquardref13_minus.f w a b = some (if I64 (a - b) then a - b else 0, decide (inr n (a - b))) := by
  have e : jacquardref13_minus.f w a b = jacquardref13_minus.j0 w (wrap64 (a - b)) (decide (¬ I64 (a - b))) := by
    have t : ∀ p : Bool, p = decide (¬ I64 (a - b)) → jacquardref13_minus.j0 w (wrap64 (a - b)) p = jacquardref13_minus.j0 w (wrap64 (a - b)) (decide (¬ I64 (a - b))) := fun p h => by rw [h]
    unfold jacquardref13_minus.f
    unfold I64 wrap64 at *
    by_cases c1 : a ≥ 0
    · rw [if_pos c1]
      by_cases c2 : b < 0
      · rw [if_pos c2]
        by_cases c3 : (a - b + 9223372036854775808) % 18446744073709551616 - 9223372036854775808 < 0
        · rw [if_pos c3]; exact t _ (decide_eq_true (by omega)).symm
        · rw [if_neg c3, if_neg (by omega)]; exact t _ (decide_eq_false (by omega)).symm
      · rw [if_neg c2, if_neg (by omega)]; exact t _ (decide_eq_false (by omega)).symm
    · rw [if_neg c1, if_pos (by omega)]
      by_cases c2 : b ≥ 0
      · rw [if_pos c2]; exact t _ (by rw [decide_eq_decide]; omega)
      · rw [if_neg c2]; exact t _ (decide_eq_false (by omega)).symm
  rw [e, minus_j hw hn h64 hk]
  by_cases c : I64 (a - b)
  · rw [decide_eq_false (not_not_intro c), if_pos c, wrap64_id c.1 c.2]; rfl
  · rw [decide_eq_true c, if_neg c, decide_eq_false (fun h => c (i64_inr h64 h))]; rfl
end
theorem size_eq {a : Int} (ha : I64 a) : jacquardref13_size.f a = some (a.natAbs : Int) := by
  unfold jacquardref13_size.f I64 at *
  by_cases c : a < 0
  · rw [if_pos c, wrap_u64, wrap_u64]; congr 1; omega
  · rw [if_neg c, wrap_u64]; congr 1; omega
theorem product_eq {x y l : Int} (hx : 0 ≤ x) (hy : 0 ≤ y) (hl : 0 ≤ l ∧ l < 18446744073709551616) : ∃ v, jacquardref13_product.f x y l = some (v, decide (x * y ≤ l)) ∧ (x * y ≤ l → v = x * y) := by
  unfold jacquardref13_product.f
  by_cases c : x = 0
  · subst c; refine ⟨0, ?_, fun _ => by simp⟩
    rw [if_pos rfl, decide_eq_true (by simpa using hl.1)]
  · rw [if_neg c]
    by_cases c2 : y = 0
    · subst c2; refine ⟨0, ?_, fun _ => by simp⟩
      rw [if_pos rfl, decide_eq_true (by simpa using hl.1)]
    · have h := le_div_nat (a := x) (b := y) (l := l) (by omega) hy hl.1
      have hd : IntKind.u64.wrap (Int.tdiv l x) = Int.tdiv l x := by
        rw [Int.tdiv_eq_ediv_of_nonneg hl.1, wrap_u64]
        have := Int.ediv_le_self x hl.1
        have := Int.ediv_nonneg hl.1 hx
        omega
      refine ⟨IntKind.u64.wrap (x * y), ?_, fun h2 => ?_⟩
      · rw [if_neg c2, hd]; congr 2; exact decide_eq_decide.2 h
      · have := Int.mul_nonneg hx hy
        rw [wrap_u64]; omega
theorem rtimes {w : Int} {n : Nat} (hw : w = n) (hn : 1 ≤ n) (h64 : n ≤ 64) (hk : 70 < Q) {a b : Int} (ha : I64 a) (hb : I64 b) : ∃ v, jacquardref13_times.f w a b = some (v, decide (inr n (a * b))) ∧ (inr n (a * b) → v = a * b) := by
  have hp := pow_le63 (n := n - 1) (by omega)
  have hpp := pow_pos (n - 1)
  have hab := abs_mul a b
  have hnn : (0 : Int) ≤ (a.natAbs : Int) * (b.natAbs : Int) := Int.mul_nonneg (by omega) (by omega)
  unfold jacquardref13_times.f
  rw [sx hw hn h64 (by omega), Option.bind_some]
  by_cases c : (a < 0) = (b < 0)
  · have e : ((decide (a < 0)) != (decide (b < 0))) = false := by simp only [c]; simp
    rw [if_pos c] at hab
    obtain ⟨v, hv, hv2⟩ := product_eq (x := a.natAbs) (y := b.natAbs) (l := 2 ^ (n - 1) - 1) (by omega) (by omega) (by omega)
    rw [e, if_neg (by decide), jacquardref13_times.j0, size_eq ha, Option.bind_some, size_eq hb, Option.bind_some, show IntKind.u64.wrap (2 ^ (n - 1) - 1) = 2 ^ (n - 1) - 1 by rw [wrap_u64]; omega, hv, Option.bind_some, if_neg (by decide)]
    rw [hab] at hv2 hnn
    refine ⟨wrap64 v, ?_, fun h => ?_⟩
    · congr 2; rw [decide_eq_decide, hab]; unfold inr; omega
    · have := hv2 (by unfold inr at h; omega)
      unfold inr at h
      rw [this, wrap64_id (by omega) (by omega)]
  · have e : ((decide (a < 0)) != (decide (b < 0))) = true := by
      rw [bne_iff_ne]; intro h; exact c (propext (decide_eq_decide.1 h))
    rw [if_neg c] at hab
    obtain ⟨v, hv, hv2⟩ := product_eq (x := a.natAbs) (y := b.natAbs) (l := 2 ^ (n - 1)) (by omega) (by omega) (by omega)
    have hl : IntKind.u64.wrap (IntKind.u64.wrap (2 ^ (n - 1) - 1) + 1) = 2 ^ (n - 1) := by rw [wrap_u64, wrap_u64]; omega
    rw [e, if_pos rfl, jacquardref13_times.j0, size_eq ha, Option.bind_some, size_eq hb, Option.bind_some, hl, hv, Option.bind_some, if_pos rfl]
    rw [hab] at hv2 hnn
    refine ⟨wrap64 (IntKind.u64.wrap (-v)), ?_, fun h => ?_⟩
    · congr 2; rw [decide_eq_decide, hab]; unfold inr; omega
    · have := hv2 (by unfold inr at h; omega)
      unfold inr at h
      rw [this, wrap_u64]; unfold wrap64; omega
theorem ones_loop {z : Nat} (hz : z < 2 ^ 64) (d : Nat) : ∀ (k i : Nat), i + d = len z → d < k → jacquardref13_ones.l0 k z (2 ^ i - 1) = some (2 ^ len z - 1) := by
  have hl := len_le hz
  induction d with
  | zero =>
    intro k i hi hk
    obtain ⟨k, rfl⟩ : ∃ m, k = m + 1 := ⟨k - 1, by omega⟩
    obtain rfl : i = len z := by omega
    have := lt_len z
    have := cast_pow (len z)
    rw [jacquardref13_ones.l0, if_neg (by omega)]
  | succ d ih =>
    intro k i hi hk
    obtain ⟨k, rfl⟩ : ∃ m, k = m + 1 := ⟨k - 1, by omega⟩
    have h2 := ih k (i + 1) (by omega) (by omega)
    have hp := pow_pos i
    have hp2 := pow_le (n := i + 1) (by omega)
    rw [Int.pow_succ] at hp2
    have hlt : ¬ z < 2 ^ i := fun h => by have := len_le h; omega
    have := cast_pow i
    rw [jacquardref13_ones.l0, if_pos (by omega)]
    have e : IntKind.u64.wrap (IntKind.u64.wrap ((2 ^ i - 1) * 2) + 1) = 2 ^ (i + 1) - 1 := by rw [wrap_u64, wrap_u64, Int.pow_succ]; omega
    rw [e]; exact h2
theorem ones_eq {z : Int} (hz : 0 ≤ z ∧ z < 18446744073709551616) (hk : 64 < Q) : jacquardref13_ones.f z = some (2 ^ len z.toNat - 1) := by
  have hl := len_le (z := z.toNat) (k := 64) (by omega)
  have := ones_loop (z := z.toNat) (by omega) (len z.toNat) Q 0 (by omega) (by omega)
  unfold jacquardref13_ones.f
  rw [Int.toNat_of_nonneg hz.1] at this
  simpa using this
theorem one_1 : one 1 1 = (1, 1, -1, -1) := by decide
theorem one_0 : one 1 0 = (0, 0, 0, 0) := by decide
theorem top_1 : top 1 = (0, 1, -1, 0) := by decide
theorem decided_eq (yes no : Prop) [Decidable yes] [Decidable no] (hk : 71 < Q) : jacquardref13_decided.f (decide yes) (decide no) = some (dec yes no) := by
  unfold jacquardref13_decided.f dec
  by_cases c : yes
  · rw [if_pos (decide_eq_true c), if_pos c, rof (w := 1) (n := 1) rfl (by decide) (by decide) (by omega) (by decide), one_1]; rfl
  · rw [if_neg (by simpa using c), if_neg c]
    by_cases c2 : no
    · rw [if_pos (decide_eq_true c2), if_pos c2, rof (w := 1) (n := 1) rfl (by decide) (by decide) (by omega) (by decide), one_0]; rfl
    · rw [if_neg (by simpa using c2), if_neg c2, rtop (w := 1) (n := 1) rfl (by decide) (by decide) (by omega), top_1]; rfl
theorem rcompare {op : Int} (ho : 15 ≤ op ∧ op ≤ 20) (alo ahi al am blo bhi bl bm : Int) (hk : 72 < Q) : jacquardref13_compare.f op alo ahi al am blo bhi bl bm = some (cmp op alo ahi al am blo bhi bl bm) := by
  have J : ∀ b : Bool, b = decide (Apart alo ahi al am blo bhi bl bm) → jacquardref13_compare.j0 op b alo ahi al am blo bhi bl bm = some (cmp op alo ahi al am blo bhi bl bm) := by
    intro b hb
    subst hb
    have tf := fun (p : Prop) [Decidable p] => decided_eq p False (by omega)
    have ft := fun (p : Prop) [Decidable p] => decided_eq False p (by omega)
    have de := fun (p q : Prop) [Decidable p] [Decidable q] => decided_eq p q (by omega)
    have e : (decide False) = false := rfl
    rw [e] at tf ft
    obtain rfl | rfl | rfl | rfl | rfl | rfl : op = 15 ∨ op = 16 ∨ op = 17 ∨ op = 18 ∨ op = 19 ∨ op = 20 := by omega
    · rw [jacquardref13_compare.j0, if_pos rfl, ft]; simp [cmp]
    · rw [jacquardref13_compare.j0, if_neg (by decide), if_pos rfl, tf]; simp [cmp]
    · rw [jacquardref13_compare.j0, if_neg (by decide), if_neg (by decide), if_pos rfl, de]; simp [cmp]
    · rw [jacquardref13_compare.j0, if_neg (by decide), if_neg (by decide), if_neg (by decide), if_pos rfl, de]; simp [cmp]
    · rw [jacquardref13_compare.j0, if_neg (by decide), if_neg (by decide), if_neg (by decide), if_neg (by decide), if_pos rfl, de]; simp [cmp]
    · rw [jacquardref13_compare.j0, if_neg (by decide), if_neg (by decide), if_neg (by decide), if_neg (by decide), if_neg (by decide), de]; simp [cmp]
  unfold jacquardref13_compare.f
  by_cases c1 : ahi < blo
  · rw [if_pos c1]; exact J _ (decide_eq_true (Or.inl c1)).symm
  · rw [if_neg c1]
    by_cases c2 : bhi < alo
    · rw [if_pos c2]; exact J _ (decide_eq_true (Or.inr (Or.inl c2))).symm
    · rw [if_neg c2]
      by_cases c3 : am < bl
      · rw [if_pos c3]; exact J _ (decide_eq_true (Or.inr (Or.inr (Or.inl c3)))).symm
      · rw [if_neg c3]; exact J _ (by rw [decide_eq_decide]; unfold Apart; omega)
theorem rcast {w v : Int} {n m : Nat} (hw : w = n) (hv : v = m) (hn : 1 ≤ n) (hm : 1 ≤ m) (h64 : n ≤ 64) {op : Int} (ho : (op = 22 ∧ m ≤ n) ∨ (op = 23 ∧ m ≤ n) ∨ (op = 24 ∧ n ≤ m)) {alo ahi al am : Int} (ha0 : 0 ≤ alo) (va : Bd m alo ahi al am) (hk : 72 < Q) :
    jacquardref13_cast.f op w v alo ahi al am = some (cast op n m alo ahi al am) := by
  obtain ⟨a1, a2, a3, a4, a5⟩ := va
  unfold jacquardref13_cast.f Ap.cast
  rw [rtop hw hn h64 (by omega), Option.bind_some]
  by_cases c : n = m
  · subst c
    rw [if_pos (by omega), if_pos rfl]
  · rw [if_neg (by omega), if_neg c]
    rcases ho with ⟨rfl, h⟩ | ⟨rfl, h⟩ | ⟨rfl, h⟩
    · have := pow_le63 (n := m) (by omega)
      rw [if_pos rfl, if_pos rfl, wrap64_id (by omega) (by omega), wrap64_id (by omega) (by omega)]
    · rw [if_neg (by decide), if_pos rfl, if_neg (by decide), if_pos rfl]; rfl
    · rw [if_neg (by decide), if_neg (by decide), if_neg (show ¬ (24 : Int) = 22 by decide), if_neg (show ¬ (24 : Int) = 23 by decide), um hw hn h64 (by omega), Option.bind_some]
      have J : ∀ o0 o1, jacquardref13_cast.j0 w alo ahi al am o0 o1 (top n).2.2.1 (top n).2.2.2 = some (o0, o1, (if inr n al ∧ inr n am then al else -2 ^ (n - 1)), (if inr n al ∧ inr n am then am else 2 ^ (n - 1) - 1)) := by
        intro o0 o1
        rw [jacquardref13_cast.j0, sn hw hn h64 (by omega), Option.bind_some]
        by_cases c1 : al ≥ -2 ^ (n - 1)
        · rw [if_pos c1, sx hw hn h64 (by omega), Option.bind_some]
          by_cases c2 : am ≤ 2 ^ (n - 1) - 1
          · have i : inr n al ∧ inr n am := ⟨⟨by omega, by omega⟩, by omega, by omega⟩
            rw [if_pos c2, if_pos i, if_pos i]
          · rw [if_neg c2, if_neg (fun h => c2 h.2.2), if_neg (fun h => c2 h.2.2)]; rfl
        · rw [if_neg c1, if_neg (fun h => c1 h.1.1), if_neg (fun h => c1 h.1.1)]; rfl
      by_cases c3 : ahi ≤ 2 ^ n - 1
      · rw [if_pos c3, if_pos c3, if_pos c3]; exact J _ _
      · rw [if_neg c3, if_neg c3, if_neg c3]; exact J _ _
section
variable {w : Int} {n : Nat} (hw : w = n) (hn : 1 ≤ n) (h64 : n ≤ 64) {alo ahi al am blo bhi bl bm : Int} (ha0 : 0 ≤ alo) (hb0 : 0 ≤ blo) (va : Bd n alo ahi al am) (vb : Bd n blo bhi bl bm) (hk : 72 < Q)
include hw hn h64 ha0 hb0 va vb hk
theorem unsigned_eq {op : Int} (ho : 2 ≤ op ∧ op ≤ 14) : jacquardref13_unsigned.f op w alo ahi al am blo bhi bl bm = some (U op n alo ahi blo bhi) := by
  obtain ⟨a1, a2, a3, a4, a5⟩ := va
  obtain ⟨b1, b2, b3, b4, b5⟩ := vb
  have hp := pow_le h64
  have hpp := pow_pos n
  have hm : ∀ x, Go.bits .and .u64 (IntKind.u64.wrap x) (2 ^ n - 1) = x % 2 ^ n := fun x => by rw [and_mask h64 (by rw [wrap_u64]; omega), wrap_mod h64]
  have wu : ∀ x : Int, 0 ≤ x → x < 18446744073709551616 → IntKind.u64.wrap x = x := fun x h h' => by rw [wrap_u64]; omega
  have f := mx_facts ahi bhi
  unfold jacquardref13_unsigned.f
  rw [um hw hn h64 (by omega), Option.bind_some]
  obtain rfl | rfl | rfl | rfl | rfl | rfl | rfl | rfl | rfl | rfl | rfl | rfl | rfl : op = 2 ∨ op = 3 ∨ op = 4 ∨ op = 5 ∨ op = 6 ∨ op = 7 ∨ op = 8 ∨ op = 9 ∨ op = 10 ∨ op = 11 ∨ op = 12 ∨ op = 13 ∨ op = 14 := by omega
  · rw [if_pos rfl, wu (2 ^ n - 1 - bhi) (by omega) (by omega), wu (2 ^ n - 1 - blo) (by omega) (by omega)]
    simp only [U, if_pos]
    by_cases c : ahi + bhi ≤ 2 ^ n - 1
    · rw [if_pos (by omega), if_pos c, wu _ (by omega) (by omega), wu _ (by omega) (by omega)]
    · rw [if_neg (by omega), if_neg c, hm, hm]
      by_cases c2 : 2 ^ n - 1 < alo + blo
      · rw [if_pos (by omega), if_pos c2]
      · rw [if_neg (by omega), if_neg c2]
  · rw [if_neg (by decide), if_pos rfl, hm, hm]
    simp only [U, if_pos, if_neg (show ¬ (3 : Int) = 2 by decide)]
    by_cases c : alo ≥ bhi
    · rw [if_pos c, if_pos (.inl c)]
    · rw [if_neg c]
      by_cases c2 : ahi < blo
      · rw [if_pos c2, if_pos (.inr c2)]
      · rw [if_neg c2, if_neg (by omega)]
  · obtain ⟨v, hv, hv2⟩ := product_eq (x := ahi) (y := bhi) (l := 2 ^ n - 1) (by omega) (by omega) (by omega)
    have hlo : 0 ≤ alo * blo := Int.mul_nonneg ha0 hb0
    have hle : alo * blo ≤ ahi * bhi := Int.mul_le_mul a1 b1 hb0 (by omega)
    rw [if_neg (by decide), if_neg (by decide), if_pos rfl, hv, Option.bind_some]
    simp only [U, if_pos, if_neg (show ¬ (4 : Int) = 2 by decide), if_neg (show ¬ (4 : Int) = 3 by decide)]
    by_cases c : ahi * bhi ≤ 2 ^ n - 1
    · rw [if_pos (decide_eq_true c), if_pos c, hv2 c, wu _ (by omega) (by omega)]
    · rw [if_neg (by simpa using c), if_neg c]
  · rw [if_neg (by decide), if_neg (by decide), if_neg (by decide), if_pos rfl]
    simp only [U, if_pos, if_neg (show ¬ (5 : Int) = 2 by decide), if_neg (show ¬ (5 : Int) = 3 by decide), if_neg (show ¬ (5 : Int) = 4 by decide)]
    by_cases c : 1 ≤ blo
    · have q : ∀ x y : Int, 0 ≤ x → x < 18446744073709551616 → 0 ≤ y → IntKind.u64.wrap (Int.tdiv x y) = x / y := fun x y h h' h2 => by
        rw [Int.tdiv_eq_ediv_of_nonneg h, wrap_u64]
        have := Int.ediv_le_self y h
        have := Int.ediv_nonneg h h2
        omega
      rw [if_pos (show blo ≥ 1 from c), if_neg (by omega), if_neg (by omega), if_pos c, q _ _ (by omega) (by omega) (by omega), q _ _ (by omega) (by omega) (by omega)]
    · rw [if_neg (show ¬ blo ≥ 1 from c), if_neg c]
  · rw [if_neg (by decide), if_neg (by decide), if_neg (by decide), if_neg (by decide), if_pos rfl]
    simp only [U, if_pos, if_neg (show ¬ (6 : Int) = 2 by decide), if_neg (show ¬ (6 : Int) = 3 by decide), if_neg (show ¬ (6 : Int) = 4 by decide), if_neg (show ¬ (6 : Int) = 5 by decide)]
    by_cases c : 1 ≤ blo
    · rw [if_pos (show blo ≥ 1 from c), if_pos c, jacquardref13_unsigned.j0]
      by_cases c2 : ahi < blo
      · rw [if_pos (decide_eq_true c2), if_pos c2]
      · rw [if_neg (by simpa using c2), if_pos (show blo ≥ 1 from c), if_neg c2, wu _ (by omega) (by omega)]
    · rw [if_neg (show ¬ blo ≥ 1 from c), if_neg c, jacquardref13_unsigned.j0, if_neg (by decide), if_neg (show ¬ blo ≥ 1 from c)]
  · simp only [show ¬ (7 : Int) = 2 by decide, show ¬ (7 : Int) = 3 by decide, show ¬ (7 : Int) = 4 by decide, show ¬ (7 : Int) = 5 by decide, show ¬ (7 : Int) = 6 by decide, show ¬ (7 : Int) = 9 by decide, show ¬ (7 : Int) = 10 by decide, show ¬ (7 : Int) = 11 by decide, show ¬ (7 : Int) = 12 by decide, show ¬ (7 : Int) = 13 by decide, if_false, U]
  · simp only [show ¬ (8 : Int) = 2 by decide, show ¬ (8 : Int) = 3 by decide, show ¬ (8 : Int) = 4 by decide, show ¬ (8 : Int) = 5 by decide, show ¬ (8 : Int) = 6 by decide, show ¬ (8 : Int) = 9 by decide, show ¬ (8 : Int) = 10 by decide, show ¬ (8 : Int) = 11 by decide, show ¬ (8 : Int) = 12 by decide, show ¬ (8 : Int) = 13 by decide, if_false, U]
  · simp only [show ¬ (9 : Int) = 2 by decide, show ¬ (9 : Int) = 3 by decide, show ¬ (9 : Int) = 4 by decide, show ¬ (9 : Int) = 5 by decide, show ¬ (9 : Int) = 6 by decide, if_false, if_true, U]
  · simp only [show ¬ (10 : Int) = 2 by decide, show ¬ (10 : Int) = 3 by decide, show ¬ (10 : Int) = 4 by decide, show ¬ (10 : Int) = 5 by decide, show ¬ (10 : Int) = 6 by decide, show ¬ (10 : Int) = 9 by decide, if_false, if_true, U]
    rw [ones_eq (by omega) (by omega), Option.bind_some]
  · simp only [show ¬ (11 : Int) = 2 by decide, show ¬ (11 : Int) = 3 by decide, show ¬ (11 : Int) = 4 by decide, show ¬ (11 : Int) = 5 by decide, show ¬ (11 : Int) = 6 by decide, show ¬ (11 : Int) = 9 by decide, show ¬ (11 : Int) = 10 by decide, if_false, if_true, U]
    rw [ones_eq (by omega) (by omega), Option.bind_some]
  · simp only [show ¬ (12 : Int) = 2 by decide, show ¬ (12 : Int) = 3 by decide, show ¬ (12 : Int) = 4 by decide, show ¬ (12 : Int) = 5 by decide, show ¬ (12 : Int) = 6 by decide, show ¬ (12 : Int) = 9 by decide, show ¬ (12 : Int) = 10 by decide, show ¬ (12 : Int) = 11 by decide, if_false, if_true, U]
    rw [wr_w hw h64]
    by_cases c : blo = bhi
    · rw [if_pos c, if_pos c, jacquardref13_unsigned.j1]
      by_cases c2 : (n : Int) ≤ blo
      · rw [if_pos (decide_eq_true (show blo ≥ (n : Int) from c2)), if_pos c2]
      · have hps := pow_pos' blo.toNat
        rw [if_neg (by simpa using c2), if_pos c, if_pos hb0, if_neg c2, shr_u (by omega) hb0]
        by_cases c3 : ahi ≤ (2 ^ n - 1) / 2 ^ blo.toNat
        · have h1 : ahi * 2 ^ blo.toNat ≤ 2 ^ n - 1 := by
            have h1 := Int.mul_le_mul_of_nonneg_right c3 (show 0 ≤ (2 : Int) ^ blo.toNat by omega)
            have h2 := Int.ediv_mul_le (2 ^ n - 1) (b := 2 ^ blo.toNat) (by omega)
            omega
          have h5 : alo * 2 ^ blo.toNat ≤ ahi * 2 ^ blo.toNat := Int.mul_le_mul_of_nonneg_right a1 (by omega)
          have h6 : 0 ≤ alo * 2 ^ blo.toNat := Int.mul_nonneg ha0 (by omega)
          rw [if_pos c3, if_pos c3, shl_u (by omega) h6 (by omega), shl_u (by omega) (by omega) (by omega)]
        · rw [if_neg c3, if_neg c3]
    · rw [if_neg c, if_neg c, jacquardref13_unsigned.j1, if_neg (by decide), if_neg c]
  · simp only [show ¬ (13 : Int) = 2 by decide, show ¬ (13 : Int) = 3 by decide, show ¬ (13 : Int) = 4 by decide, show ¬ (13 : Int) = 5 by decide, show ¬ (13 : Int) = 6 by decide, show ¬ (13 : Int) = 9 by decide, show ¬ (13 : Int) = 10 by decide, show ¬ (13 : Int) = 11 by decide, show ¬ (13 : Int) = 12 by decide, if_false, if_true, U]
    have e : ∀ a b : Int, 0 ≤ a → a < 2 ^ n → bin 13 n a b = a / 2 ^ b.toNat := fun a b h h' => by
      simp only [bin]; simp; intro hb
      rw [Int.ediv_eq_zero_of_lt h]
      have := pow_mono (a := n) (b := b.toNat) (by omega)
      omega
    rw [Option.bind_some, eval_bin hw hn h64 (by decide) _ (by omega) (by omega) _ (by omega), Option.bind_some, eval_bin hw hn h64 (by decide) _ (by omega) (by omega) _ (by omega), Option.bind_some, e _ _ ha0 (by omega), e _ _ (by omega) (by omega)]
  · simp only [show ¬ (14 : Int) = 2 by decide, show ¬ (14 : Int) = 3 by decide, show ¬ (14 : Int) = 4 by decide, show ¬ (14 : Int) = 5 by decide, show ¬ (14 : Int) = 6 by decide, show ¬ (14 : Int) = 9 by decide, show ¬ (14 : Int) = 10 by decide, show ¬ (14 : Int) = 11 by decide, show ¬ (14 : Int) = 12 by decide, show ¬ (14 : Int) = 13 by decide, if_false, U]
end
section
variable {w : Int} {n : Nat} (hw : w = n) (hn : 1 ≤ n) (h64 : n ≤ 64) {alo ahi al am blo bhi bl bm : Int} (ha0 : 0 ≤ alo) (hb0 : 0 ≤ blo) (va : Bd n alo ahi al am) (vb : Bd n blo bhi bl bm) (hk : 73 < Q)
include hw hn h64 ha0 hb0 va vb hk
theorem signed_eq' {op : Int} (ho : 2 ≤ op ∧ op ≤ 14) : jacquardref13_signed.f op w alo ahi al am blo bhi bl bm = some (S op n al am bl bm blo bhi) := by
  obtain ⟨ia, ia'⟩ := bd_i64 h64 va
  obtain ⟨ib, ib'⟩ := bd_i64 h64 vb
  obtain ⟨a1, a2, a3, a4, a5⟩ := va
  obtain ⟨b1, b2, b3, b4, b5⟩ := vb
  have hp := pow_le63 (n := n - 1) (by omega)
  have hpp := pow_pos (n - 1)
  have hsn := sn hw hn h64 (by omega)
  have hsx := sx hw hn h64 (by omega)
  have hsn' := sn hw hn h64 (by omega)
  have hsx' := sx hw hn h64 (by omega)
  unfold jacquardref13_signed.f
  have dflt : ∀ op : Int, (op = 5 ∨ op = 6 ∨ op = 9 ∨ op = 10 ∨ op = 11 ∨ op = 13) → S op n al am bl bm blo bhi = (-2 ^ (n - 1), 2 ^ (n - 1) - 1) := by
    intro op h; rcases h with rfl | rfl | rfl | rfl | rfl | rfl <;> simp [S]
  obtain rfl | rfl | rfl | rfl | rfl | rfl | rfl | rfl | rfl | rfl | rfl | rfl | rfl : op = 2 ∨ op = 3 ∨ op = 4 ∨ op = 5 ∨ op = 6 ∨ op = 7 ∨ op = 8 ∨ op = 9 ∨ op = 10 ∨ op = 11 ∨ op = 12 ∨ op = 13 ∨ op = 14 := by omega
  · rw [if_pos rfl, rplus hw hn h64 (by omega) ia ib, Option.bind_some, rplus hw hn h64 (by omega) ia' ib', Option.bind_some]
    simp only [S, if_pos]
    by_cases c1 : inr n (al + bl)
    · rw [if_pos (decide_eq_true c1), jacquardref13_signed.j0]
      by_cases c2 : inr n (am + bm)
      · rw [if_pos (decide_eq_true c2), if_pos (i64_inr h64 c1), if_pos (i64_inr h64 c2), if_pos ⟨c1, c2⟩]
      · rw [if_neg (by simpa using c2), if_neg (fun h => c2 h.2), hsn, Option.bind_some, hsx]; rfl
    · rw [if_neg (by simpa using c1), jacquardref13_signed.j0, if_neg (by decide), if_neg (fun h => c1 h.1), hsn, Option.bind_some, hsx]; rfl
  · rw [if_neg (by decide), if_pos rfl, rminus hw hn h64 (by omega) ia ib', Option.bind_some, rminus hw hn h64 (by omega) ia' ib, Option.bind_some]
    simp only [S, if_pos, if_neg (show ¬ (3 : Int) = 2 by decide)]
    by_cases c1 : inr n (al - bm)
    · rw [if_pos (decide_eq_true c1), jacquardref13_signed.j1]
      by_cases c2 : inr n (am - bl)
      · rw [if_pos (decide_eq_true c2), if_pos (i64_inr h64 c1), if_pos (i64_inr h64 c2), if_pos ⟨c1, c2⟩]
      · rw [if_neg (by simpa using c2), if_neg (fun h => c2 h.2), hsn, Option.bind_some, hsx]; rfl
    · rw [if_neg (by simpa using c1), jacquardref13_signed.j1, if_neg (by decide), if_neg (fun h => c1 h.1), hsn, Option.bind_some, hsx]; rfl
  · obtain ⟨v1, e1, f1⟩ := rtimes hw hn h64 (by omega) ia ib
    obtain ⟨v2, e2, f2⟩ := rtimes hw hn h64 (by omega) ia ib'
    obtain ⟨v3, e3, f3⟩ := rtimes hw hn h64 (by omega) ia' ib
    obtain ⟨v4, e4, f4⟩ := rtimes hw hn h64 (by omega) ia' ib'
    rw [if_neg (by decide), if_neg (by decide), if_pos rfl, e1, Option.bind_some, e2, Option.bind_some, e3, Option.bind_some, e4, Option.bind_some]
    simp only [S, if_pos, if_neg (show ¬ (4 : Int) = 2 by decide), if_neg (show ¬ (4 : Int) = 3 by decide)]
    have J : jacquardref13_signed.j2 w v1 v2 v3 v4 false = some (-2 ^ (n - 1), 2 ^ (n - 1) - 1) := by rw [jacquardref13_signed.j2, if_neg (by decide), hsn, Option.bind_some, hsx]; rfl
    by_cases c1 : inr n (al * bl)
    · rw [if_pos (decide_eq_true c1)]
      by_cases c2 : inr n (al * bm)
      · rw [if_pos (decide_eq_true c2)]
        by_cases c3 : inr n (am * bl)
        · rw [if_pos (decide_eq_true c3)]
          by_cases c4 : inr n (am * bm)
          · rw [decide_eq_true c4, jacquardref13_signed.j2, if_pos rfl, f1 c1, f2 c2, f3 c3, f4 c4, if_pos ⟨c1, c2, c3, c4⟩]; rfl
          · rw [decide_eq_false c4, if_neg (fun h => c4 h.2.2.2)]; exact J
        · rw [if_neg (by simpa using c3), if_neg (fun h => c3 h.2.2.1)]; exact J
      · rw [if_neg (by simpa using c2), if_neg (fun h => c2 h.2.1)]; exact J
    · rw [if_neg (by simpa using c1), if_neg (fun h => c1 h.1)]; exact J
  · simp only [show ¬ (5 : Int) = 2 by decide, show ¬ (5 : Int) = 3 by decide, show ¬ (5 : Int) = 4 by decide, show ¬ (5 : Int) = 7 by decide, show ¬ (5 : Int) = 8 by decide, show ¬ (5 : Int) = 12 by decide, show ¬ (5 : Int) = 14 by decide, if_false]
    rw [hsn', Option.bind_some, hsx', dflt 5 (by omega)]; rfl
  · simp only [show ¬ (6 : Int) = 2 by decide, show ¬ (6 : Int) = 3 by decide, show ¬ (6 : Int) = 4 by decide, show ¬ (6 : Int) = 7 by decide, show ¬ (6 : Int) = 8 by decide, show ¬ (6 : Int) = 12 by decide, show ¬ (6 : Int) = 14 by decide, if_false]
    rw [hsn', Option.bind_some, hsx', dflt 6 (by omega)]; rfl
  · have J3 : ∀ b : Bool, (b = true ↔ ((0 < bl ∨ bm < 0) ∧ (-2 ^ (n - 1) < al ∨ -1 < bl ∨ bm < -1))) → jacquardref13_signed.j3 w b alo ahi al am blo bhi bl bm = some (S 7 n al am bl bm blo bhi) := by
      intro b hb
      simp only [S, if_pos, if_neg (show ¬ (7 : Int) = 2 by decide), if_neg (show ¬ (7 : Int) = 3 by decide), if_neg (show ¬ (7 : Int) = 4 by decide)]
      rw [jacquardref13_signed.j3]
      by_cases c : b = true
      · have hc := hb.1 c
        have t : ∀ x y : Int, I64 x → I64 y → ¬ (x = -9223372036854775808 ∧ y = -1) → wrap64 (Int.tdiv x y) = Int.tdiv x y := fun x y hx hy h => wrap64_id (tdiv_I hx hy h).1 (tdiv_I hx hy h).2
        rw [if_pos c, if_neg (by omega), if_neg (by omega), if_pos hc, t _ _ ia ib (by omega), t _ _ ia ib' (by omega), t _ _ ia' ib (by omega), t _ _ ia' ib' (by omega)]; rfl
      · rw [if_neg c, if_neg (fun h => c (hb.2 h)), hsn, Option.bind_some, hsx]; rfl
    have win : ∀ x : Int, jacquardref13_within.f x blo bhi bl bm = some (decide (bl ≤ x ∧ x ≤ bm)) := fun x => by
      unfold jacquardref13_within.f
      by_cases c : x ≥ bl
      · rw [if_pos c]; congr 1; exact decide_eq_decide.2 ⟨fun h => ⟨c, h⟩, fun h => h.2⟩
      · rw [if_neg c, decide_eq_false (fun h => c h.1)]
    rw [if_neg (by decide), if_neg (by decide), if_neg (by decide), if_pos rfl, win, Option.bind_some]
    by_cases c0 : bl ≤ 0 ∧ 0 ≤ bm
    · rw [if_pos (decide_eq_true c0)]; exact J3 _ (by simp; omega)
    · rw [if_neg (by simpa using c0), hsn', Option.bind_some]
      by_cases c2 : al > -2 ^ (n - 1)
      · rw [if_pos c2]; exact J3 _ (by simp; omega)
      · rw [if_neg c2, win, Option.bind_some]; exact J3 _ (by simp; omega)
  · have e1 : 1 ≤ bl → wrap64 (1 - bm) = 1 - bm := fun h => wrap64_id (by omega) (by unfold I64 at ib'; omega)
    have e2 : 1 ≤ bl → wrap64 (bm - 1) = bm - 1 := fun h => wrap64_id (by omega) (by unfold I64 at ib'; omega)
    simp only [show ¬ (8 : Int) = 2 by decide, show ¬ (8 : Int) = 3 by decide, show ¬ (8 : Int) = 4 by decide, show ¬ (8 : Int) = 7 by decide, if_false, if_true, S]
    by_cases c : 1 ≤ bl
    · rw [if_pos (show bl ≥ 1 from c), if_pos c, e1 c, e2 c]
    · rw [if_neg (show ¬ bl ≥ 1 from c), if_neg c]
  · simp only [show ¬ (9 : Int) = 2 by decide, show ¬ (9 : Int) = 3 by decide, show ¬ (9 : Int) = 4 by decide, show ¬ (9 : Int) = 7 by decide, show ¬ (9 : Int) = 8 by decide, show ¬ (9 : Int) = 12 by decide, show ¬ (9 : Int) = 14 by decide, if_false]
    rw [hsn', Option.bind_some, hsx', dflt 9 (by omega)]; rfl
  · simp only [show ¬ (10 : Int) = 2 by decide, show ¬ (10 : Int) = 3 by decide, show ¬ (10 : Int) = 4 by decide, show ¬ (10 : Int) = 7 by decide, show ¬ (10 : Int) = 8 by decide, show ¬ (10 : Int) = 12 by decide, show ¬ (10 : Int) = 14 by decide, if_false]
    rw [hsn', Option.bind_some, hsx', dflt 10 (by omega)]; rfl
  · simp only [show ¬ (11 : Int) = 2 by decide, show ¬ (11 : Int) = 3 by decide, show ¬ (11 : Int) = 4 by decide, show ¬ (11 : Int) = 7 by decide, show ¬ (11 : Int) = 8 by decide, show ¬ (11 : Int) = 12 by decide, show ¬ (11 : Int) = 14 by decide, if_false]
    rw [hsn', Option.bind_some, hsx', dflt 11 (by omega)]; rfl
  · have eS : S 12 n al am bl bm blo bhi = if blo = bhi ∧ blo < n ∧ (-2 ^ (n - 1)) / 2 ^ blo.toNat ≤ al ∧ am ≤ (2 ^ (n - 1) - 1) / 2 ^ blo.toNat then (al * 2 ^ blo.toNat, am * 2 ^ blo.toNat) else (-2 ^ (n - 1), 2 ^ (n - 1) - 1) := by simp [S]
    have J : jacquardref13_signed.j4 w false alo ahi al am blo bhi bl bm = some (-2 ^ (n - 1), 2 ^ (n - 1) - 1) := by rw [jacquardref13_signed.j4, if_neg (by decide), hsn, Option.bind_some, hsx]; rfl
    rw [eS]
    simp only [show ¬ (12 : Int) = 2 by decide, show ¬ (12 : Int) = 3 by decide, show ¬ (12 : Int) = 4 by decide, show ¬ (12 : Int) = 7 by decide, show ¬ (12 : Int) = 8 by decide, if_false, if_true]
    rw [wr_w hw h64]
    by_cases c : blo = bhi
    · rw [if_pos c]
      by_cases c2 : blo < n
      · have hps := pow_pos' blo.toNat
        have hd : (2 : Int) ^ (n - 1) = 2 ^ (n - 1 - blo.toNat) * 2 ^ blo.toNat := by rw [← Int.pow_add]; congr 1; omega
        rw [if_pos c2, hsn', Option.bind_some, if_pos hb0, shr_i (by omega)]
        by_cases c3 : (-2 ^ (n - 1)) / 2 ^ blo.toNat ≤ al
        · rw [if_pos (show al ≥ _ from c3), hsx', Option.bind_some, shr_i (by omega)]
          by_cases c4 : am ≤ (2 ^ (n - 1) - 1) / 2 ^ blo.toNat
          · have h1 : am * 2 ^ blo.toNat ≤ 2 ^ (n - 1) - 1 := by
              have h1 := Int.mul_le_mul_of_nonneg_right c4 (show 0 ≤ (2 : Int) ^ blo.toNat by omega)
              have h2 := Int.ediv_mul_le (2 ^ (n - 1) - 1) (b := 2 ^ blo.toNat) (by omega)
              omega
            have h4 : -2 ^ (n - 1) ≤ al * 2 ^ blo.toNat := by
              rw [hd, ← Int.neg_mul, Int.mul_ediv_cancel _ (by omega)] at c3
              rw [hd, ← Int.neg_mul]
              exact Int.mul_le_mul_of_nonneg_right c3 (by omega)
            have h5 : al * 2 ^ blo.toNat ≤ am * 2 ^ blo.toNat := Int.mul_le_mul_of_nonneg_right a4 (by omega)
            rw [decide_eq_true c4, jacquardref13_signed.j4, if_pos rfl, if_pos hb0, shl_i (by omega) (by unfold I64; omega), shl_i (by omega) (by unfold I64; omega), if_pos ⟨c, c2, c3, c4⟩]
          · rw [decide_eq_false c4, J, if_neg (fun h => c4 h.2.2.2)]
        · rw [if_neg (show ¬ al ≥ _ from c3), J, if_neg (fun h => c3 h.2.2.1)]
      · rw [if_neg c2, J, if_neg (fun h => c2 h.2.1)]
    · rw [if_neg c, J, if_neg (fun h => c h.1)]
  · simp only [show ¬ (13 : Int) = 2 by decide, show ¬ (13 : Int) = 3 by decide, show ¬ (13 : Int) = 4 by decide, show ¬ (13 : Int) = 7 by decide, show ¬ (13 : Int) = 8 by decide, show ¬ (13 : Int) = 12 by decide, show ¬ (13 : Int) = 14 by decide, if_false]
    rw [hsn', Option.bind_some, hsx', dflt 13 (by omega)]; rfl
  · have e : IntKind.u64.wrap (wrap64 (w - 1)) = (n : Int) - 1 := by rw [wrap64_id (by omega) (by omega), wrap_u64]; omega
    have f1 := mn_facts blo ((n : Int) - 1)
    have f2 := mn_facts bhi ((n : Int) - 1)
    simp only [show ¬ (14 : Int) = 2 by decide, show ¬ (14 : Int) = 3 by decide, show ¬ (14 : Int) = 4 by decide, show ¬ (14 : Int) = 7 by decide, show ¬ (14 : Int) = 8 by decide, show ¬ (14 : Int) = 12 by decide, if_false, if_true]
    rw [e, if_pos (by omega), if_pos (by omega), shr_i (by omega), shr_i (by omega), shr_i (by omega), shr_i (by omega)]
    rfl
end
end Go.Proofs.YthhhegblccoonaaGreatDoor.Rf
/- The shapes of operators, and the value for single words. -/
namespace Go.Proofs.YthhhegblccoonaaGreatDoor.Aq
set_option linter.unusedVariables false
set_option linter.unusedSimpArgs false
set_option linter.unusedSectionVars false
open Go.RowKit Go.Proofs.YthhhegblccoonaaGreatDoor.P Go.Proofs.YthhhegblccoonaaGreatDoorW.PrintWords Wd Im Iv Tg Lw0 Ap Cm Cn Ev Rf

/-- The shape's own test, behind the widths'. -/
def shc (op w : Int) (ws : List Int) : Bool :=
  if op = 1 then (ws.length : Int) == 0
  else if op = 21 then decide ((ws.length : Int) = 3 ∧ rd ws 0 = 1 ∧ rd ws 1 = w ∧ rd ws 2 = w)
  else if op = 22 ∨ op = 23 then decide ((ws.length : Int) = 1 ∧ rd ws 0 ≤ w)
  else if op = 24 then decide ((ws.length : Int) = 1 ∧ w ≤ rd ws 0)
  else if 15 ≤ op ∧ op ≤ 20 then decide ((ws.length : Int) = 2 ∧ rd ws 0 = rd ws 1 ∧ w = 1)
  else if 2 ≤ op ∧ op ≤ 14 then decide ((ws.length : Int) = 2 ∧ rd ws 0 = w ∧ rd ws 1 = w)
  else false
def okw (v : Int) : Bool := decide (1 ≤ v ∧ v ≤ 64)
def shb (op w : Int) (ws : List Int) : Bool := okw w && (ws.all okw && shc op w ws)
theorem three {ws : List Int} {w : Int} : (if (ws.length : Int) = 3 then (if 0 < (ws.length : Int) then (if (rd ws 0) = 1 then (if 1 < (ws.length : Int) then (if (rd ws 1) = w then (if 2 < (ws.length : Int) then (some ((rd ws 2) == w)) else (none)) else (some false)) else (none)) else (some false)) else (none)) else (some false)) = some (decide ((ws.length : Int) = 3 ∧ rd ws 0 = 1 ∧ rd ws 1 = w ∧ rd ws 2 = w)) := by
  by_cases h : (ws.length : Int) = 3
  · rw [if_pos h, if_pos (by omega)]
    by_cases h0 : rd ws 0 = 1
    · rw [if_pos h0, if_pos (by omega)]
      by_cases h1 : rd ws 1 = w
      · rw [if_pos h1, if_pos (by omega)]
        congr 1
        by_cases h2 : rd ws 2 = w <;> simp [h, h0, h1, h2]
      · rw [if_neg h1, decide_eq_false (fun h => h1 h.2.2.1)]
    · rw [if_neg h0, decide_eq_false (fun h => h0 h.2.1)]
  · rw [if_neg h, decide_eq_false (fun h' => h h'.1)]
theorem oneU {ws : List Int} {w : Int} : (if (ws.length : Int) = 1 then (if 0 < (ws.length : Int) then (some (decide ((rd ws 0) ≤ w))) else (none)) else (some false)) = some (decide ((ws.length : Int) = 1 ∧ rd ws 0 ≤ w)) := by
  by_cases h : (ws.length : Int) = 1
  · rw [if_pos h, if_pos (by omega)]; congr 1; rw [decide_eq_decide]; exact ⟨fun h1 => ⟨h, h1⟩, fun h1 => h1.2⟩
  · rw [if_neg h, decide_eq_false (fun h' => h h'.1)]
theorem oneD {ws : List Int} {w : Int} : (if (ws.length : Int) = 1 then (if 0 < (ws.length : Int) then (some (decide ((rd ws 0) ≥ w))) else (none)) else (some false)) = some (decide ((ws.length : Int) = 1 ∧ w ≤ rd ws 0)) := by
  by_cases h : (ws.length : Int) = 1
  · rw [if_pos h, if_pos (by omega)]; congr 1; rw [decide_eq_decide]; exact ⟨fun h1 => ⟨h, h1⟩, fun h1 => h1.2⟩
  · rw [if_neg h, decide_eq_false (fun h' => h h'.1)]
theorem twoC {ws : List Int} {w : Int} : (if (ws.length : Int) = 2 then (if 0 < (ws.length : Int) then (if 1 < (ws.length : Int) then (if (rd ws 0) = (rd ws 1) then (some (w == 1)) else (some false)) else (none)) else (none)) else (some false)) = some (decide ((ws.length : Int) = 2 ∧ rd ws 0 = rd ws 1 ∧ w = 1)) := by
  by_cases h : (ws.length : Int) = 2
  · rw [if_pos h, if_pos (by omega), if_pos (by omega)]
    by_cases h1 : rd ws 0 = rd ws 1
    · rw [if_pos h1]; congr 1; by_cases h2 : w = 1 <;> simp [h, h1, h2]
    · rw [if_neg h1, decide_eq_false (fun h => h1 h.2.1)]
  · rw [if_neg h, decide_eq_false (fun h' => h h'.1)]
theorem twoB {ws : List Int} {w : Int} : (if (ws.length : Int) = 2 then (if 0 < (ws.length : Int) then (if (rd ws 0) = w then (if 1 < (ws.length : Int) then (some ((rd ws 1) == w)) else (none)) else (some false)) else (none)) else (some false)) = some (decide ((ws.length : Int) = 2 ∧ rd ws 0 = w ∧ rd ws 1 = w)) := by
  by_cases h : (ws.length : Int) = 2
  · rw [if_pos h, if_pos (by omega)]
    by_cases h1 : rd ws 0 = w
    · rw [if_pos h1, if_pos (by omega)]; congr 1; by_cases h2 : rd ws 1 = w <;> simp [h, h1, h2]
    · rw [if_neg h1, decide_eq_false (fun h => h1 h.2.1)]
  · rw [if_neg h, decide_eq_false (fun h' => h h'.1)]
theorem isCompare_eq (op : Int) : bits_IsCompare.f op = some (decide (15 ≤ op ∧ op ≤ 20)) := by
  unfold bits_IsCompare.f
  by_cases h : op ≥ 15
  · rw [if_pos h]; congr 1; simp; omega
  · rw [if_neg h]; congr 1; simp; omega
theorem shaped_tail (k : Nat) (op w : Int) (ws : List Int) (i : Int) (hi : ¬ i < (ws.length : Int)) : interval_shaped.l0 (k + 2) op w ws ws (ws.length : Int) i = some (shc op w ws) := by
  have hQb := Q_big
  have J : ∀ b : Bool, b = decide (op = 22 ∨ op = 23) → ¬ op = 1 → ¬ op = 21 → interval_shaped.j1 (k + 1) op w ws (ws.length : Int) op b = some (shc op w ws) := by
    intro b hb h1 h21
    unfold shc
    rw [if_neg h1, if_neg h21, interval_shaped.j1]
    by_cases c : op = 22 ∨ op = 23
    · rw [hb, if_pos (decide_eq_true c), if_pos c, oneU]
    · rw [hb, if_neg (by simpa using c), if_neg c]
      by_cases c2 : op = 24
      · rw [if_pos c2, if_pos c2, oneD]
      · rw [if_neg c2, if_neg c2, isCompare_eq, Option.bind_some]
        by_cases c3 : 15 ≤ op ∧ op ≤ 20
        · rw [if_pos (decide_eq_true c3), if_pos c3, twoC]
        · rw [if_neg (by simpa using c3), if_neg c3, isBinary_eq, Option.bind_some]
          by_cases c4 : 2 ≤ op ∧ op ≤ 14
          · rw [if_pos (decide_eq_true (by omega)), if_pos c4, twoB]
          · rw [if_neg (by simp; omega), if_neg c4]
  rw [interval_shaped.l0, if_neg hi]
  by_cases c1 : op = 1
  · rw [if_pos c1]; unfold shc; rw [if_pos c1]
  · rw [if_neg c1]
    by_cases c2 : op = 21
    · rw [if_pos c2, three]; unfold shc; rw [if_neg c1, if_pos c2]
    · rw [if_neg c2]
      by_cases c3 : op = 22
      · rw [if_pos c3]; exact J _ (by rw [c3]; rfl) c1 c2
      · rw [if_neg c3]; exact J _ (by rw [Bool.eq_iff_iff]; simp [c3]) c1 c2
theorem shaped_loop (op w : Int) (ws : List Int) (hl : ws.length ≤ 8) (d : Nat) : ∀ (k i : Nat), i + d = ws.length → d + 2 ≤ k → interval_shaped.l0 k op w ws ws (ws.length : Int) i = some ((ws.drop i).all okw && shc op w ws) := by
  have hQb := Q_big
  induction d with
  | zero =>
    intro k i hi hk
    obtain ⟨k, rfl⟩ : ∃ m, k = m + 2 := ⟨k - 2, by omega⟩
    rw [shaped_tail _ _ _ _ _ (by omega), List.drop_eq_nil_of_le (by omega)]; rfl
  | succ d ih =>
    intro k i hi hk
    obtain ⟨k, rfl⟩ : ∃ m, k = m + 1 := ⟨k - 1, by omega⟩
    have h2 := ih k (i + 1) (by omega) (by omega)
    have hlt : i < ws.length := by omega
    have er : rd ws (i : Int) = ws[i] := by
      unfold rd; rw [Int.toNat_natCast, List.getD_eq_getElem?_getD, List.getElem?_eq_getElem hlt]; rfl
    rw [interval_shaped.l0, if_pos (by omega), if_pos (by omega), if_pos (by omega), good_eq, Option.bind_some, List.drop_eq_getElem_cons hlt, er]
    by_cases c : 1 ≤ ws[i] ∧ ws[i] ≤ 64
    · rw [if_pos (decide_eq_true c), show wrap64 ((i : Int) + 1) = ((i + 1 : Nat) : Int) by rw [wrap64_id (by omega) (by omega)]; omega, h2]
      simp only [List.all_cons, show okw ws[i] = true from decide_eq_true c, Bool.true_and]
    · rw [if_neg (by simpa using c)]
      simp only [List.all_cons, okw, decide_eq_false c, Bool.false_and]
theorem shaped_eq (op w : Int) (ws : List Int) (hl : ws.length ≤ 8) (hk : 12 ≤ Q) : interval_shaped.f op w ws = some (shb op w ws) := by
  have h := shaped_loop op w ws hl ws.length Q 0 (by omega) (by omega)
  unfold interval_shaped.f shb
  rw [good_eq, Option.bind_some]
  by_cases c : 1 ≤ w ∧ w ≤ 64
  · rw [if_pos (decide_eq_true c), show okw w = true from decide_eq_true c, Bool.true_and]; simpa using h
  · rw [if_neg (by simpa using c), show okw w = false from decide_eq_false c]; rfl
theorem rshape_tail (k : Nat) (op w : Int) (ws : List Int) (i : Int) (hi : ¬ i < (ws.length : Int)) : jacquardref12_Shape.l0 (k + 4) op w ws i = some (shc op w ws) := by
  have hQb := Q_big
  have J4 : ∀ b : Bool, b = decide (op = 22 ∨ op = 23) → ¬ op = 1 → ¬ op = 21 → ¬ (15 ≤ op ∧ op ≤ 20) → ¬ (2 ≤ op ∧ op ≤ 14) → jacquardref12_Shape.j4 (k + 1) op w ws (ws.length : Int) b = some (shc op w ws) := by
    intro b hb h1 h21 h15 h2
    unfold shc
    rw [if_neg h1, if_neg h21, jacquardref12_Shape.j4]
    by_cases c : op = 22 ∨ op = 23
    · rw [hb, if_pos (decide_eq_true c), if_pos c, oneU]
    · rw [hb, if_neg (by simpa using c), if_neg c]
      by_cases c2 : op = 24
      · rw [if_pos c2, if_pos c2, oneD]
      · rw [if_neg c2, if_neg c2, if_neg h15, if_neg h2]
  have J3 : ∀ b : Bool, b = decide (15 ≤ op ∧ op ≤ 20) → ¬ op = 1 → ¬ (2 ≤ op ∧ op ≤ 14) → jacquardref12_Shape.j3 (k + 2) op w ws (ws.length : Int) b = some (shc op w ws) := by
    intro b hb h1 h2
    rw [jacquardref12_Shape.j3]
    by_cases c : 15 ≤ op ∧ op ≤ 20
    · rw [hb, if_pos (decide_eq_true c), twoC]; unfold shc; rw [if_neg h1, if_neg (by omega), if_neg (by omega), if_neg (by omega), if_pos c]
    · rw [hb, if_neg (by simpa using c)]
      by_cases c2 : op = 21
      · rw [if_pos c2, three]; unfold shc; rw [if_neg h1, if_pos c2]
      · rw [if_neg c2]
        by_cases c3 : op = 22
        · rw [if_pos c3]; exact J4 _ (by rw [c3]; rfl) h1 c2 c h2
        · rw [if_neg c3]; exact J4 _ (by rw [Bool.eq_iff_iff]; simp [c3]) h1 c2 c h2
  have J2 : ∀ b : Bool, b = decide (2 ≤ op ∧ op ≤ 14) → ¬ op = 1 → jacquardref12_Shape.j2 (k + 3) op w ws (ws.length : Int) b = some (shc op w ws) := by
    intro b hb h1
    rw [jacquardref12_Shape.j2]
    by_cases c : 2 ≤ op ∧ op ≤ 14
    · rw [hb, if_pos (decide_eq_true c), twoB]; unfold shc; rw [if_neg h1, if_neg (by omega), if_neg (by omega), if_neg (by omega), if_neg (by omega), if_pos c]
    · rw [hb, if_neg (by simpa using c)]
      by_cases c2 : op ≥ 15
      · rw [if_pos c2]; exact J3 _ (by rw [decide_eq_decide]; omega) h1 c
      · rw [if_neg c2]; exact J3 _ (decide_eq_false (by omega)).symm h1 c
  rw [jacquardref12_Shape.l0, if_neg hi]
  by_cases c1 : op = 1
  · rw [if_pos c1]; unfold shc; rw [if_pos c1]
  · rw [if_neg c1]
    by_cases c2 : op ≥ 2
    · rw [if_pos c2]; exact J2 _ (by rw [decide_eq_decide]; omega) c1
    · rw [if_neg c2]; exact J2 _ (decide_eq_false (by omega)).symm c1
theorem rshape_loop (op w : Int) (ws : List Int) (hl : ws.length ≤ 8) (d : Nat) : ∀ (k i : Nat), i + d = ws.length → d + 4 ≤ k → jacquardref12_Shape.l0 k op w ws i = some ((ws.drop i).all okw && shc op w ws) := by
  have hQb := Q_big
  induction d with
  | zero =>
    intro k i hi hk
    obtain ⟨k, rfl⟩ : ∃ m, k = m + 4 := ⟨k - 4, by omega⟩
    rw [rshape_tail _ _ _ _ _ (by omega), List.drop_eq_nil_of_le (by omega)]; rfl
  | succ d ih =>
    intro k i hi hk
    obtain ⟨k, rfl⟩ : ∃ m, k = m + 1 := ⟨k - 1, by omega⟩
    have h2 := ih k (i + 1) (by omega) (by omega)
    have hlt : i < ws.length := by omega
    have er : rd ws (i : Int) = ws[i] := by
      unfold rd; rw [Int.toNat_natCast, List.getD_eq_getElem?_getD, List.getElem?_eq_getElem hlt]; rfl
    rw [jacquardref12_Shape.l0, if_pos (by omega), if_pos (by omega), List.drop_eq_getElem_cons hlt, er]
    by_cases c1 : ws[i] < 1
    · rw [if_pos c1]
      simp only [List.all_cons, okw, decide_eq_false (show ¬ (1 ≤ ws[i] ∧ ws[i] ≤ 64) by omega), Bool.false_and]
    · rw [if_neg c1]
      by_cases c2 : ws[i] > 64
      · rw [if_pos c2]
        simp only [List.all_cons, okw, decide_eq_false (show ¬ (1 ≤ ws[i] ∧ ws[i] ≤ 64) by omega), Bool.false_and]
      · rw [if_neg c2, show wrap64 ((i : Int) + 1) = ((i + 1 : Nat) : Int) by rw [wrap64_id (by omega) (by omega)]; omega, h2]
        simp only [List.all_cons, okw, decide_eq_true (show 1 ≤ ws[i] ∧ ws[i] ≤ 64 by omega), Bool.true_and]
theorem rshape_eq (op w : Int) (ws : List Int) (hl : ws.length ≤ 8) (hk : 14 ≤ Q) : jacquardref12_Shape.f op w ws = some (shb op w ws) := by
  obtain ⟨k, hQ⟩ : ∃ m, Q = m + 1 := ⟨Q - 1, by omega⟩
  have h := rshape_loop op w ws hl ws.length k 0 (by omega) (by omega)
  unfold jacquardref12_Shape.f shb
  rw [hQ]
  by_cases c1 : w < 1
  · rw [if_pos c1, jacquardref12_Shape.j0, if_pos rfl, show okw w = false from decide_eq_false (by omega)]; rfl
  · rw [if_neg c1, jacquardref12_Shape.j0]
    by_cases c2 : w > 64
    · rw [if_pos (decide_eq_true c2), show okw w = false from decide_eq_false (by omega)]; rfl
    · rw [if_neg (by simpa using c2), show okw w = true from decide_eq_true (show 1 ≤ w ∧ w ≤ 64 by omega), Bool.true_and]; simpa using h
theorem len1 {ws : List Int} (h : (ws.length : Int) = 1) : ws = [rd ws 0] := by
  match ws, h with
  | [a], _ => rfl
theorem len2 {ws : List Int} (h : (ws.length : Int) = 2) : ws = [rd ws 0, rd ws 1] := by
  match ws, h with
  | [a, b], _ => rfl
theorem len3 {ws : List Int} (h : (ws.length : Int) = 3) : ws = [rd ws 0, rd ws 1, rd ws 2] := by
  match ws, h with
  | [a, b, c], _ => rfl
theorem sh_of {op w : Int} {ws : List Int} (h : shb op w ws = true) : Sh op w ws := by
  unfold shb okw at h
  simp only [Bool.and_eq_true, List.all_eq_true, decide_eq_true_eq] at h
  obtain ⟨hw, ha, hs⟩ := h
  refine ⟨hw, ha, ?_⟩
  unfold shc at hs
  by_cases c1 : op = 1
  · rw [if_pos c1] at hs; left; refine ⟨c1, ?_⟩; simpa using hs
  rw [if_neg c1] at hs
  by_cases c2 : op = 21
  · rw [if_pos c2] at hs; obtain ⟨h0, h1, h2, h3⟩ := of_decide_eq_true hs; have e := len3 h0; rw [h1, h2, h3] at e; exact .inr (.inr (.inr (.inl ⟨c2, e⟩)))
  rw [if_neg c2] at hs
  by_cases c3 : op = 22 ∨ op = 23
  · rw [if_pos c3] at hs; obtain ⟨h0, h1⟩ := of_decide_eq_true hs; exact .inr (.inr (.inr (.inr (.inl ⟨c3, _, len1 h0, h1⟩))))
  rw [if_neg c3] at hs
  by_cases c4 : op = 24
  · rw [if_pos c4] at hs; obtain ⟨h0, h1⟩ := of_decide_eq_true hs; exact .inr (.inr (.inr (.inr (.inr ⟨c4, _, len1 h0, h1⟩))))
  rw [if_neg c4] at hs
  by_cases c5 : 15 ≤ op ∧ op ≤ 20
  · rw [if_pos c5] at hs; obtain ⟨h0, h1, h2⟩ := of_decide_eq_true hs; have e := len2 h0; rw [h1] at e; exact .inr (.inr (.inl ⟨c5, h2, _, e⟩))
  rw [if_neg c5] at hs
  by_cases c6 : 2 ≤ op ∧ op ≤ 14
  · rw [if_pos c6] at hs; obtain ⟨h0, h1, h2⟩ := of_decide_eq_true hs; have e := len2 h0; rw [h1, h2] at e; exact .inr (.inl ⟨c6, e⟩)
  rw [if_neg c6] at hs; cases hs
end Go.Proofs.YthhhegblccoonaaGreatDoor.Aq
/- Known bits: the shapes of operators; values. -/
namespace Go.Proofs.YthhhegblccoonaaGreatDoor.Kb
set_option linter.unusedVariables false
set_option linter.unusedSimpArgs false
set_option linter.unusedSectionVars false
open Go.RowKit Go.Proofs.YthhhegblccoonaaGreatDoor.P Go.Proofs.YthhhegblccoonaaGreatDoorW.PrintWords Wd Im Iv Tg Lw0 Ap Cm Cn Ev Aq
open Ft hiding top

theorem kshape_tail (k : Nat) (op w : Int) (ws : List Int) (i : Int) (hi : ¬ i < (ws.length : Int)) : knownbits_shaped.l0 (k + 4) op w ws ws (ws.length : Int) i = some (shc op w ws) := by
  have hQb := Q_big
  have J4 : ∀ b : Bool, b = decide (op = 22 ∨ op = 23) → ¬ op = 1 → ¬ op = 21 → ¬ (15 ≤ op ∧ op ≤ 20) → ¬ (2 ≤ op ∧ op ≤ 14) → knownbits_shaped.j3 (k + 1) op w ws (ws.length : Int) b = some (shc op w ws) := by
    intro b hb h1 h21 h15 h2
    unfold shc
    rw [if_neg h1, if_neg h21, knownbits_shaped.j3]
    by_cases c : op = 22 ∨ op = 23
    · rw [hb, if_pos (decide_eq_true c), if_pos c, oneU]
    · rw [hb, if_neg (by simpa using c), if_neg c]
      by_cases c2 : op = 24
      · rw [if_pos c2, if_pos c2, oneD]
      · rw [if_neg c2, if_neg c2, if_neg h15, if_neg h2]
  have J3 : ∀ b : Bool, b = decide (15 ≤ op ∧ op ≤ 20) → ¬ op = 1 → ¬ (2 ≤ op ∧ op ≤ 14) → knownbits_shaped.j2 (k + 2) op w ws (ws.length : Int) b = some (shc op w ws) := by
    intro b hb h1 h2
    rw [knownbits_shaped.j2]
    by_cases c : 15 ≤ op ∧ op ≤ 20
    · rw [hb, if_pos (decide_eq_true c), twoC]; unfold shc; rw [if_neg h1, if_neg (by omega), if_neg (by omega), if_neg (by omega), if_pos c]
    · rw [hb, if_neg (by simpa using c)]
      by_cases c2 : op = 21
      · rw [if_pos c2, three]; unfold shc; rw [if_neg h1, if_pos c2]
      · rw [if_neg c2]
        by_cases c3 : op = 22
        · rw [if_pos c3]; exact J4 _ (by rw [c3]; rfl) h1 c2 c h2
        · rw [if_neg c3]; exact J4 _ (by rw [Bool.eq_iff_iff]; simp [c3]) h1 c2 c h2
  have J2 : ∀ b : Bool, b = decide (2 ≤ op ∧ op ≤ 14) → ¬ op = 1 → knownbits_shaped.j1 (k + 3) op w ws (ws.length : Int) b = some (shc op w ws) := by
    intro b hb h1
    rw [knownbits_shaped.j1]
    by_cases c : 2 ≤ op ∧ op ≤ 14
    · rw [hb, if_pos (decide_eq_true c), twoB]; unfold shc; rw [if_neg h1, if_neg (by omega), if_neg (by omega), if_neg (by omega), if_neg (by omega), if_pos c]
    · rw [hb, if_neg (by simpa using c)]
      by_cases c2 : op ≥ 15
      · rw [if_pos c2]; exact J3 _ (by rw [decide_eq_decide]; omega) h1 c
      · rw [if_neg c2]; exact J3 _ (decide_eq_false (by omega)).symm h1 c
  rw [knownbits_shaped.l0, if_neg hi]
  by_cases c1 : op = 1
  · rw [if_pos c1]; unfold shc; rw [if_pos c1]
  · rw [if_neg c1]
    by_cases c2 : op ≥ 2
    · rw [if_pos c2]; exact J2 _ (by rw [decide_eq_decide]; omega) c1
    · rw [if_neg c2]; exact J2 _ (decide_eq_false (by omega)).symm c1
theorem kshaped_loop (op w : Int) (ws : List Int) (hl : ws.length ≤ 8) (d : Nat) : ∀ (k i : Nat), i + d = ws.length → d + 4 ≤ k → knownbits_shaped.l0 k op w ws ws (ws.length : Int) i = some ((ws.drop i).all okw && shc op w ws) := by
  have hQb := Q_big
  induction d with
  | zero =>
    intro k i hi hk
    obtain ⟨k, rfl⟩ : ∃ m, k = m + 4 := ⟨k - 4, by omega⟩
    rw [kshape_tail _ _ _ _ _ (by omega), List.drop_eq_nil_of_le (by omega)]; rfl
  | succ d ih =>
    intro k i hi hk
    obtain ⟨k, rfl⟩ : ∃ m, k = m + 1 := ⟨k - 1, by omega⟩
    have h2 := ih k (i + 1) (by omega) (by omega)
    have hlt : i < ws.length := by omega
    have er : rd ws (i : Int) = ws[i] := by
      unfold rd; rw [Int.toNat_natCast, List.getD_eq_getElem?_getD, List.getElem?_eq_getElem hlt]; rfl
    rw [knownbits_shaped.l0, if_pos (by omega), if_pos (by omega), if_pos (by omega), kgood_eq, Option.bind_some, List.drop_eq_getElem_cons hlt, er]
    by_cases c : 1 ≤ ws[i] ∧ ws[i] ≤ 64
    · rw [if_pos (decide_eq_true c), show wrap64 ((i : Int) + 1) = ((i + 1 : Nat) : Int) by rw [wrap64_id (by omega) (by omega)]; omega, h2]
      simp only [List.all_cons, show okw ws[i] = true from decide_eq_true c, Bool.true_and]
    · rw [if_neg (by simpa using c)]
      simp only [List.all_cons, okw, decide_eq_false c, Bool.false_and]
theorem kshaped_eq (op w : Int) (ws : List Int) (hl : ws.length ≤ 8) (hk : 14 ≤ Q) : knownbits_shaped.f op w ws = some (shb op w ws) := by
  have h := kshaped_loop op w ws hl ws.length Q 0 (by omega) (by omega)
  unfold knownbits_shaped.f shb
  rw [kgood_eq, Option.bind_some]
  by_cases c : 1 ≤ w ∧ w ≤ 64
  · rw [if_pos (decide_eq_true c), show okw w = true from decide_eq_true c, Bool.true_and]; simpa using h
  · rw [if_neg (by simpa using c), show okw w = false from decide_eq_false c]; rfl

/-! ### Values -/
section
variable {n : Nat} {w : Int} (hw : w = n) (h1 : 1 ≤ n) (hn : n ≤ 64)
include hw h1 hn
theorem ksigned {a : Nat} (ha : a < 2 ^ n) : knownbits_signed.f w (a : Int) = some (sg n a) := by
  have hm := mul_lt hn ha
  have hsh := shl_n (a := a) (s := 64 - n) (by omega) hm
  have hwr : wrap64 (64 - w) = ((64 - n : Nat) : Int) := by rw [wrap64_id (by omega) (by omega)]; omega
  have hp : 2 ^ n = 2 * 2 ^ (n - 1) := by
    obtain ⟨m, rfl⟩ : ∃ m, n = m + 1 := ⟨n - 1, by omega⟩
    rw [Nat.pow_succ]; simp; omega
  have e64 : 2 ^ n * 2 ^ (64 - n) = 18446744073709551616 := by rw [← Nat.pow_add, show n + (64 - n) = 64 by omega]
  have hpos := Nat.two_pow_pos (64 - n)
  unfold knownbits_signed.f
  rw [hwr, if_pos (by omega), hsh]
  unfold shr
  rw [show min ((64 - n : Nat) : Int).toNat (IntKind.bits .i64) = 64 - n by show min _ 64 = _; omega, pnat]
  have hne : ((2 ^ (64 - n) : Nat) : Int) ≠ 0 := by omega
  congr 1
  by_cases c : 2 ^ (n - 1) ≤ a
  · have hge : 9223372036854775808 ≤ a * 2 ^ (64 - n) := by
      have := Nat.mul_le_mul_right (2 ^ (64 - n)) c
      rw [hp, Nat.mul_assoc] at e64
      omega
    have e : wrap64 ((a * 2 ^ (64 - n) : Nat) : Int) = ((a : Int) - ((2 ^ n : Nat) : Int)) * ((2 ^ (64 - n) : Nat) : Int) := by
      rw [Int.sub_mul, ← Int.natCast_mul, ← Int.natCast_mul, e64]
      unfold wrap64; omega
    rw [e, Int.mul_ediv_cancel _ hne, sgh h1 c ha]
  · have hlt : a * 2 ^ (64 - n) < 9223372036854775808 := by
      have := Nat.mul_lt_mul_of_pos_right (show a < 2 ^ (n - 1) by omega) hpos
      rw [hp, Nat.mul_assoc] at e64
      omega
    rw [wrap64_id (by omega) (by omega), Int.natCast_mul, Int.mul_ediv_cancel _ hne, sgl h1 (by omega)]
theorem modn {v : Int} : IntKind.u64.wrap v % 2 ^ n = v % 2 ^ n := wrap_mod hn v
theorem modw {v : Int} : IntKind.u64.wrap (wrap64 v) % 2 ^ n = v % 2 ^ n := by
  rw [wrap_mod hn]
  have e : wrap64 v % 18446744073709551616 = v % 18446744073709551616 := by unfold wrap64; omega
  have h := pow_dvd hn
  rw [← Int.emod_emod_of_dvd (wrap64 v) h, e, Int.emod_emod_of_dvd v h]
omit hw h1 hn in
theorem wrapU (v : Int) : 0 ≤ IntKind.u64.wrap v ∧ IntKind.u64.wrap v < 18446744073709551616 := by rw [wrap_u64]; omega
/-- Divisions. -/
theorem kdiv {op : Int} (ho : op = 5 ∨ op = 6 ∨ op = 7 ∨ op = 8) {a b : Nat} (ha : a < 2 ^ n) (hb : b < 2 ^ n) (hk : 2 < Q) :
    ∃ v : Int, knownbits_divide.f op w a b = some v ∧ (0 ≤ v ∧ v < 18446744073709551616) ∧ v % 2 ^ n = bin op n a b := by
  have hpp := pow_pos n
  have hp64 := pow_le hn
  have ha6 := up64 hn ha
  have hb6 := up64 hn hb
  have haI : (a : Int) < 2 ^ n := by rw [pnat]; omega
  have hbI : (b : Int) < 2 ^ n := by rw [pnat]; omega
  have hma : (a : Int) % 2 ^ n = a := mod_small (by omega) haI
  have hmm : ((2 : Int) ^ n - 1) % 2 ^ n = 2 ^ n - 1 := mod_small (by omega) (by omega)
  have bz : sg n (b : Int) = 0 ↔ b = 0 := by
    have := pow_succ' h1
    unfold sg; rw [mod_small (by omega) hbI]; split <;> omega
  unfold knownbits_divide.f
  rw [ksigned hw h1 hn ha, Option.bind_some, ksigned hw h1 hn hb, Option.bind_some]
  rcases ho with rfl | rfl | rfl | rfl
  · rw [if_pos rfl]
    by_cases c : b = 0
    · rw [if_pos (by omega), knownbits_divide.j0, if_pos rfl, hw, kmaskN hn, Option.bind_some]
      exact ⟨_, rfl, by have := F_lt (n := n) hn; omega, by rw [← mnat, hmm]; simp [bin, c]⟩
    · rw [if_neg (by omega), if_neg (by decide), knownbits_divide.j0, if_neg (by decide), if_neg (by omega), if_pos rfl]
      have e : Int.tdiv (a : Int) (b : Int) = (a : Int) / b := Int.tdiv_eq_ediv_of_nonneg (by omega)
      have hq : (a : Int) / b ≤ a := Int.ediv_le_self _ (by omega)
      have h0 : 0 ≤ (a : Int) / b := Int.ediv_nonneg (by omega) (by omega)
      refine ⟨_, rfl, wrapU _, ?_⟩
      rw [e, modn hw h1 hn, mod_small h0 (by omega)]
      simp [bin, c]
  · rw [if_neg (by decide), if_neg (by decide), knownbits_divide.j0, if_neg (by decide)]
    by_cases c : b = 0
    · rw [if_pos (by omega)]
      exact ⟨_, rfl, by omega, by rw [hma]; simp [bin, c]⟩
    · rw [if_neg (by omega), if_neg (by decide), if_pos rfl]
      have e : Int.tmod (a : Int) (b : Int) = (a : Int) % b := Int.tmod_eq_emod_of_nonneg (by omega)
      have h0 : 0 ≤ (a : Int) % b := Int.emod_nonneg _ (by omega)
      have h2 : (a : Int) % b < b := Int.emod_lt_of_pos _ (by omega)
      refine ⟨_, rfl, by rw [e]; omega, ?_⟩
      rw [e, mod_small h0 (by omega)]
      simp [bin, c]
  · rw [if_neg (by decide), if_pos rfl]
    by_cases c : b = 0
    · rw [show ((b : Int) == 0) = true by simp [c], knownbits_divide.j0, if_pos rfl, hw, kmaskN hn, Option.bind_some]
      exact ⟨_, rfl, by have := F_lt (n := n) hn; omega, by rw [← mnat, hmm]; simp [bin, c]⟩
    · rw [show ((b : Int) == 0) = false by simp [c], knownbits_divide.j0, if_neg (by decide), if_neg (by omega), if_neg (by decide), if_neg (by decide)]
      by_cases c2 : sg n (b : Int) = -1
      · rw [if_pos c2, show ((7 : Int) == 7) = true from rfl, knownbits_divide.j1, if_pos rfl]
        refine ⟨_, rfl, wrapU _, ?_⟩
        have e : bin 7 n a b = -(sg n (a : Int)) % 2 ^ n := by simp [bin, c, c2, Int.tdiv_neg]
        rw [modn hw h1 hn, e, Int.neg_emod_eq_sub_emod, Int.neg_emod_eq_sub_emod, Int.sub_emod, Int.sub_emod (2 ^ n) (sg n (a : Int)), sg_mod]
      · rw [if_neg c2, knownbits_divide.j1, if_neg (by decide), if_neg c2, if_pos rfl, if_neg (fun h => c (bz.1 h))]
        refine ⟨_, rfl, wrapU _, ?_⟩
        rw [modw hw h1 hn]; simp [bin, c]
  · rw [if_neg (by decide), if_neg (by decide), knownbits_divide.j0, if_neg (by decide)]
    by_cases c : b = 0
    · rw [if_pos (by omega)]
      exact ⟨_, rfl, by omega, by rw [hma]; simp [bin, c]⟩
    · rw [if_neg (by omega), if_neg (by decide), if_neg (by decide)]
      by_cases c2 : sg n (b : Int) = -1
      · rw [if_pos c2, show ((8 : Int) == 7) = false from rfl, knownbits_divide.j1, if_neg (by decide), if_pos c2]
        refine ⟨_, rfl, by omega, ?_⟩
        have e : bin 8 n a b = 0 := by simp [bin, c, c2, Int.tmod_neg]
        rw [e]; rfl
      · rw [if_neg c2, knownbits_divide.j1, if_neg (by decide), if_neg c2, if_neg (by decide), if_neg (fun h => c (bz.1 h))]
        refine ⟨_, rfl, wrapU _, ?_⟩
        rw [modn hw h1 hn]; simp [bin, c]
/-- Shifts. -/
theorem kshf {op : Int} (ho : op = 12 ∨ op = 13 ∨ op = 14) {a b : Nat} (ha : a < 2 ^ n) (hb : b < 2 ^ n) :
    ∃ v : Int, knownbits_shift.f op w a b = some v ∧ (0 ≤ v ∧ v < 18446744073709551616) ∧ v % 2 ^ n = bin op n a b := by
  have hpp := pow_pos n
  have hp64 := pow_le hn
  have haI : (a : Int) < 2 ^ n := by rw [pnat]; omega
  have hq : ∀ s : Nat, 0 ≤ (a : Int) / 2 ^ s ∧ (a : Int) / 2 ^ s ≤ a := fun s => by
    rw [pnat, show (a : Int) / ((2 ^ s : Nat) : Int) = ((a / 2 ^ s : Nat) : Int) by norm_cast]
    have := Nat.div_le_self a (2 ^ s)
    generalize a / 2 ^ s = q at *
    omega
  unfold knownbits_shift.f
  rw [wr_n hw hn]
  rcases ho with rfl | rfl | rfl
  · rw [if_neg (by decide)]
    by_cases c : (n : Int) ≤ b
    · rw [if_pos (by omega)]
      exact ⟨_, rfl, by omega, by simp [bin, c]⟩
    · rw [if_neg (by omega), if_pos rfl, if_pos (by omega), shl_m (by omega)]
      refine ⟨_, rfl, by omega, ?_⟩
      have e : bin 12 n a b = (a * 2 ^ b) % 2 ^ n := by simp [bin, c]
      have e3 : ((a * 2 ^ b % 2 ^ 64 : Nat) : Int) = ((a : Int) * 2 ^ b) % 18446744073709551616 := by rw [Int.natCast_emod, Int.natCast_mul, pnat]; rfl
      rw [e, e3, mod_mod_pow hn]
  · rw [if_neg (by decide)]
    by_cases c : (n : Int) ≤ b
    · rw [if_pos (by omega)]
      exact ⟨_, rfl, by omega, by simp [bin, c]⟩
    · rw [if_neg (by omega), if_neg (by decide), if_pos (by omega)]
      have := hq b
      have e : shr .u64 (a : Int) (b : Int) = (a : Int) / 2 ^ b := by
        unfold shr; rw [show min (b : Int).toNat (IntKind.bits .u64) = b by show min _ 64 = _; omega]
      refine ⟨_, rfl, by rw [e]; omega, ?_⟩
      rw [e, mod_small this.1 (by omega)]; simp [bin, c]
  · have hm : mn (b : Int) (IntKind.u64.wrap (wrap64 (w - 1))) = ((min b (n - 1) : Nat) : Int) := by
      rw [hw, wrap64_id (by omega) (by omega), wrap_u64]
      unfold mn; split <;> omega
    rw [if_pos rfl, ksigned hw h1 hn ha, Option.bind_some, hm, if_pos (by omega)]
    refine ⟨_, rfl, wrapU _, ?_⟩
    unfold shr
    rw [show min ((min b (n - 1) : Nat) : Int).toNat (IntKind.bits .i64) = min b (n - 1) by show min _ 64 = _; omega, modn hw h1 hn]
    by_cases c : (n : Int) ≤ b
    · rw [show min b (n - 1) = n - 1 by omega]
      have hr := sg_range h1 (a : Int)
      have hps := pow_pos (n - 1)
      by_cases c2 : 2 ^ (n - 1) ≤ a
      · have e : sg n (a : Int) / 2 ^ (n - 1) = -1 := by
          apply (Int.ediv_eq_iff_of_pos (by omega)).2
          have := sgh h1 c2 ha
          have : ((2 ^ (n - 1) : Nat) : Int) = 2 ^ (n - 1) := (pnat _).symm
          have hs := pow_succ' h1
          have : ((2 ^ n : Nat) : Int) = 2 ^ n := (pnat _).symm
          omega
        have c3 : (2 : Int) ^ (n - 1) ≤ a := by rw [pnat]; omega
        rw [e]
        simp [bin, c, c3]
        have := Int.add_emod_right (a := -1) (b := (2 : Int) ^ n)
        rw [← this, mod_small (by omega) (by omega)]; omega
      · have e : sg n (a : Int) / 2 ^ (n - 1) = 0 := by
          rw [sgl h1 (by omega)]
          exact Int.ediv_eq_zero_of_lt (by omega) (by rw [pnat]; omega)
        have c3 : ¬ (2 : Int) ^ (n - 1) ≤ a := by rw [pnat]; omega
        rw [e]
        simp [bin, c, c3]
    · rw [show min b (n - 1) = b by omega]
      simp [bin, c]
/-- Comparisons. -/
theorem kcmp {op : Int} (ho : 15 ≤ op ∧ op ≤ 20) {a b : Nat} (ha : a < 2 ^ n) (hb : b < 2 ^ n) : knownbits_compare.f op w a b = some (bin op n a b) := by
  unfold knownbits_compare.f
  rw [ksigned hw h1 hn ha, ksigned hw h1 hn hb]
  have ho' : op = 15 ∨ op = 16 ∨ op = 17 ∨ op = 18 ∨ op = 19 ∨ op = 20 := by omega
  rcases ho' with rfl | rfl | rfl | rfl | rfl | rfl
  · simp only [if_true, kone, Option.bind_some]; simp [bin]
  · simp only [if_true, kone, Option.bind_some, show ¬ (16 : Int) = 15 by decide, if_false]
    by_cases c : a = b <;> simp [bin, c]
  · simp only [if_true, kone, Option.bind_some, show ¬ (17 : Int) = 15 by decide, show ¬ (17 : Int) = 16 by decide, if_false]; simp [bin]
  · simp only [if_true, kone, Option.bind_some, show ¬ (18 : Int) = 15 by decide, show ¬ (18 : Int) = 16 by decide, show ¬ (18 : Int) = 17 by decide, if_false]; simp [bin]
  · simp only [if_true, kone, Option.bind_some, show ¬ (19 : Int) = 15 by decide, show ¬ (19 : Int) = 16 by decide, show ¬ (19 : Int) = 17 by decide, show ¬ (19 : Int) = 18 by decide, if_false]; simp [bin]
  · simp only [kone, Option.bind_some, show ¬ (20 : Int) = 15 by decide, show ¬ (20 : Int) = 16 by decide, show ¬ (20 : Int) = 17 by decide, show ¬ (20 : Int) = 18 by decide, show ¬ (20 : Int) = 19 by decide, if_false]; simp [bin]
end
end Go.Proofs.YthhhegblccoonaaGreatDoor.Kb
/- Known bits: Apply, operator by operator. -/
namespace Go.Proofs.YthhhegblccoonaaGreatDoor.Kb
set_option linter.unusedVariables false
set_option linter.unusedSimpArgs false
set_option linter.unusedSectionVars false
open Go.RowKit Go.Proofs.YthhhegblccoonaaGreatDoor.P Go.Proofs.YthhhegblccoonaaGreatDoorW.PrintWords Wd Im Iv Tg Lw0 Ap Cm Cn Ev Aq
open Ft hiding top

def mk (p : Nat × Nat) : S45 := ⟨p.1, p.2⟩
/-- The two results are one. -/
def Both (x y : Option (Int × Int)) : Prop := ∃ z o : Nat, z < 18446744073709551616 ∧ o < 18446744073709551616 ∧ x = some ((z : Int), (o : Int)) ∧ y = some ((z : Int), (o : Int))
theorem both_kz {n : Nat} (hn : n ≤ 64) {x y : Option (Int × Int)} {F : Nat → Option Bool} (h1 : x = some ((kz F n : Int), (ko F n : Int))) (h2 : y = some ((kz F n : Int), (ko F n : Int))) : Both x y :=
  ⟨_, _, up64 hn (kz_lt F n), up64 hn (ko_lt F n), h1, h2⟩
theorem pair_bind (x : Option (Int × Int)) : (x.bind fun b => some (b.1, b.2)) = x := by cases x <;> rfl
section
variable {a b : Nat × Nat} {n : Nat} {w : Int} (hw : w = n) (h1 : 1 ≤ n) (hn : n ≤ 64) (haz : a.1 < 2 ^ n) (hao : a.2 < 2 ^ n) (hbz : b.1 < 2 ^ n) (hbo : b.2 < 2 ^ n) (da : a.1 &&& a.2 = 0) (db : b.1 &&& b.2 = 0)
include hw h1 hn haz hao hbz hbo da db
theorem two_op {op : Int} (ho : 2 ≤ op ∧ op ≤ 14) (num : Int) (acc acc' : List Int) {k : Nat} (hk : 500 < k) :
    Both (knownbits_Apply.l0 (k + 8) op w [w, w] [mk a, mk b] num false acc [mk a, mk b] 2 2) (jacquardref12_Apply.l0 (k + 8) op w [w, w] [mk a, mk b] num false acc' 2 0 0) := by
  have hQb := Q_big
  have haz6 := up64 hn haz
  have hao6 := up64 hn hao
  have hbz6 := up64 hn hbz
  have hbo6 := up64 hn hbo
  have ea : rd_T45 [mk a, mk b] 0 = mk a := rfl
  have eb' : rd_T45 [mk a, mk b] 1 = mk b := rfl
  have hl : ((([mk a, mk b] : List S45).length : Int)) = 2 := rfl
  have hm : mn 1 (wrap64 ((([mk a, mk b] : List S45).length : Int) - 1)) = 1 := by rw [hl]; decide +kernel
  have eb : rd_T45 [mk a, mk b] (mn 1 (wrap64 ((([mk a, mk b] : List S45).length : Int) - 1))) = mk b := by rw [hm]; rfl
  have f0 : ∀ p, (mk p).f0 = (p.1 : Int) := fun _ => rfl
  have f1 : ∀ p, (mk p).f1 = (p.2 : Int) := fun _ => rfl
  rw [knownbits_Apply.l0, if_neg (show ¬ (2 : Int) < 2 by decide), if_neg Bool.false_ne_true, if_pos (show (0 : Int) < (([mk a, mk b] : List S45).length : Int) by rw [hl]; decide), if_pos (show 0 ≤ mn 1 (wrap64 ((([mk a, mk b] : List S45).length : Int) - 1)) by rw [hm]; decide), if_pos (show mn 1 (wrap64 ((([mk a, mk b] : List S45).length : Int) - 1)) < (([mk a, mk b] : List S45).length : Int) by rw [hm, hl]; decide),
    jacquardref12_Apply.l0, if_neg (show ¬ (2 : Int) < (([mk a, mk b] : List S45).length : Int) by rw [hl]; decide), if_neg Bool.false_ne_true, if_pos (show (0 : Int) < (([mk a, mk b] : List S45).length : Int) by rw [hl]; decide), if_pos (show (([mk a, mk b] : List S45).length : Int) > 1 by rw [hl]; decide), if_pos (show (1 : Int) < (([mk a, mk b] : List S45).length : Int) by rw [hl]; decide), eb, ea, eb', f0, f1, f0, f1, jacquardref12_Apply.j2]
  have ho' : op = 2 ∨ op = 3 ∨ op = 4 ∨ op = 5 ∨ op = 6 ∨ op = 7 ∨ op = 8 ∨ op = 9 ∨ op = 10 ∨ op = 11 ∨ op = 12 ∨ op = 13 ∨ op = 14 := by omega
  rcases ho' with rfl | rfl | rfl | rfl | rfl | rfl | rfl | rfl | rfl | rfl | rfl | rfl | rfl
  · simp only [Int.reduceEq, if_false, if_true, pair_bind]
    exact both_kz hn (kadd hw hn haz hao hbz hbo da db (some false) (by omega)) (radd hw hn haz hao hbz hbo (some false) (by omega))
  · simp only [Int.reduceEq, if_false, if_true, pair_bind]
    exact both_kz hn (kadd hw hn haz hao hbo hbz da (by rw [Nat.and_comm]; exact db) (some true) (by omega)) (radd hw hn haz hao hbo hbz (some true) (by omega))
  · simp only [Int.reduceEq, if_false, if_true, pair_bind]
    obtain ⟨la, lb, ta, tb, _, _, _, _, h⟩ := prod_ok hw h1 hn haz hao hbz hbo da db (by omega)
    exact both_kz hn (h _ rfl).1 (h _ rfl).2
  · simp only [Int.reduceEq, if_false, if_true, pair_bind]
    by_cases c : b.2 = 0
    · rw [if_pos (by omega), if_pos (by omega)]; exact ⟨0, 0, by decide, by decide, rfl, rfl⟩
    · obtain ⟨t, hl, hr⟩ := klead hw h1 hn haz
      have htn := hr.1
      rw [if_neg (by omega), if_neg (by omega), hl, Option.bind_some, khigh hw hn htn, Option.bind_some, rlead0 hw hn haz hao da hr (by omega), Option.bind_some, show (0 : Int) = ((0 : Nat) : Int) from rfl, rzeros hw hn (Nat.zero_le _) htn (by omega), zf_hi, zf_o]
      exact ⟨_, _, up64 hn (hi_lt _ _), by decide, rfl, rfl⟩
  · simp only [Int.reduceEq, if_false, if_true, pair_bind]
    obtain ⟨F, e1, e2, _⟩ := rem_ok hw h1 hn haz hao hbz hbo da db (by omega)
    obtain ⟨F', e1', e2', _⟩ := rem_ok hw h1 hn haz hao hbz hbo da db (by omega)
    refine both_kz hn e1 ?_
    rw [e2']
    exact e1'.symm.trans e1
  · simp only [Int.reduceEq, if_false, if_true, Int.reduceBEq]
    rw [knownbits_Apply.j2, jacquardref12_Apply.j3]
    simp only [Int.reduceEq, if_false, if_true, Int.reduceBEq, Bool.false_eq_true]
    rw [knownbits_Apply.j3]
    simp only [Int.reduceEq, if_false, if_true, Int.reduceBEq, Bool.false_eq_true]
    rw [knownbits_Apply.j4]
    simp only [Int.reduceEq, if_false, if_true, Int.reduceBEq, Bool.false_eq_true]
    rw [knownbits_Apply.j5]
    simp only [Int.reduceEq, if_false, if_true, Int.reduceBEq, Bool.false_eq_true]
    exact ⟨0, 0, by decide, by decide, rfl, rfl⟩
  · simp only [Int.reduceEq, if_false, if_true, Int.reduceBEq]
    rw [knownbits_Apply.j2, jacquardref12_Apply.j3]
    simp only [Int.reduceEq, if_false, if_true, Int.reduceBEq, Bool.false_eq_true]
    rw [knownbits_Apply.j3]
    simp only [Int.reduceEq, if_false, if_true, Int.reduceBEq, Bool.false_eq_true]
    rw [knownbits_Apply.j4]
    simp only [Int.reduceEq, if_false, if_true, Int.reduceBEq, Bool.false_eq_true]
    rw [knownbits_Apply.j5]
    simp only [Int.reduceEq, if_false, if_true, Int.reduceBEq, Bool.false_eq_true]
    exact ⟨0, 0, by decide, by decide, rfl, rfl⟩
  · simp only [Int.reduceEq, if_false, if_true]
    exact ⟨_, _, or_lt (n := 64) haz6 hbz6, Nat.lt_of_le_of_lt Nat.and_le_left hao6, by rw [nor haz6 hbz6, nand hao6 hbo6], by rw [nor haz6 hbz6, nand hao6 hbo6]⟩
  · simp only [Int.reduceEq, if_false, if_true]
    exact ⟨_, _, Nat.lt_of_le_of_lt Nat.and_le_left haz6, or_lt (n := 64) hao6 hbo6, by rw [nand haz6 hbz6, nor hao6 hbo6], by rw [nand haz6 hbz6, nor hao6 hbo6]⟩
  · simp only [Int.reduceEq, if_false, if_true]
    have l1 : a.1 &&& b.1 < 18446744073709551616 := Nat.lt_of_le_of_lt Nat.and_le_left haz6
    have l2 : a.2 &&& b.2 < 18446744073709551616 := Nat.lt_of_le_of_lt Nat.and_le_left hao6
    have l3 : a.1 &&& b.2 < 18446744073709551616 := Nat.lt_of_le_of_lt Nat.and_le_left haz6
    have l4 : a.2 &&& b.1 < 18446744073709551616 := Nat.lt_of_le_of_lt Nat.and_le_left hao6
    exact ⟨_, _, or_lt (n := 64) l1 l2, or_lt (n := 64) l3 l4, by rw [nand haz6 hbz6, nand hao6 hbo6, nand haz6 hbo6, nand hao6 hbz6, nor l1 l2, nor l3 l4], by rw [nand haz6 hbz6, nand hao6 hbo6, nand haz6 hbo6, nand hao6 hbz6, nor l1 l2, nor l3 l4]⟩
  · simp only [Int.reduceEq, if_false, if_true, Int.reduceBEq]
    rw [knownbits_Apply.j2, jacquardref12_Apply.j3]
    simp only [Int.reduceEq, if_false, if_true, Int.reduceBEq, Bool.false_eq_true]
    rw [jacquardref12_Apply.j4]
    simp only [Int.reduceEq, if_false, if_true, pair_bind]
    rw [kexact hw h1 hn hbz hbo db, Option.bind_some]
    by_cases c : b.1 ||| b.2 = 2 ^ n - 1
    · rw [if_pos c, if_pos rfl]
      exact both_kz hn (kshifted hw h1 hn haz hao da (by omega) b.2 hbo6) (rright_exact hw h1 hn haz hao da (by omega) hbz hbo db c (by omega))
    · rw [if_neg c, if_neg (by decide)]
      obtain ⟨Z, O, hZ, hO, e1, e2, _⟩ := vague_ok hw h1 hn haz hao da (op := 12) (by omega) hbz hbo db c (by omega)
      refine ⟨Z, O, up64 hn hZ, up64 hn hO, ?_, e2⟩
      exact e1
  · simp only [Int.reduceEq, if_false, if_true, Int.reduceBEq]
    rw [knownbits_Apply.j2, jacquardref12_Apply.j3]
    simp only [Int.reduceEq, if_false, if_true, Int.reduceBEq, Bool.false_eq_true]
    rw [jacquardref12_Apply.j4]
    simp only [Int.reduceEq, if_false, if_true, pair_bind]
    rw [kexact hw h1 hn hbz hbo db, Option.bind_some]
    by_cases c : b.1 ||| b.2 = 2 ^ n - 1
    · rw [if_pos c, if_pos rfl]
      exact both_kz hn (kshifted hw h1 hn haz hao da (by omega) b.2 hbo6) (rright_exact hw h1 hn haz hao da (by omega) hbz hbo db c (by omega))
    · rw [if_neg c, if_neg (by decide)]
      obtain ⟨Z, O, hZ, hO, e1, e2, _⟩ := vague_ok hw h1 hn haz hao da (op := 13) (by omega) hbz hbo db c (by omega)
      refine ⟨Z, O, up64 hn hZ, up64 hn hO, ?_, e2⟩
      exact e1
  · simp only [Int.reduceEq, if_false, if_true, Int.reduceBEq]
    rw [knownbits_Apply.j2, jacquardref12_Apply.j3]
    simp only [Int.reduceEq, if_false, if_true, Int.reduceBEq, Bool.false_eq_true]
    rw [jacquardref12_Apply.j4]
    simp only [Int.reduceEq, if_false, if_true, pair_bind]
    rw [kexact hw h1 hn hbz hbo db, Option.bind_some]
    by_cases c : b.1 ||| b.2 = 2 ^ n - 1
    · rw [if_pos c, if_pos rfl]
      exact both_kz hn (kshifted hw h1 hn haz hao da (by omega) b.2 hbo6) (rright_exact hw h1 hn haz hao da (by omega) hbz hbo db c (by omega))
    · rw [if_neg c, if_neg (by decide)]
      obtain ⟨Z, O, hZ, hO, e1, e2, _⟩ := vague_ok hw h1 hn haz hao da (op := 14) (by omega) hbz hbo db c (by omega)
      refine ⟨Z, O, up64 hn hZ, up64 hn hO, ?_, e2⟩
      exact e1
end
end Go.Proofs.YthhhegblccoonaaGreatDoor.Kb
/- Known bits: Apply for casts, comparisons and choices. -/
namespace Go.Proofs.YthhhegblccoonaaGreatDoor.Kb
set_option linter.unusedVariables false
set_option linter.unusedSimpArgs false
set_option linter.unusedSectionVars false
open Go.RowKit Go.Proofs.YthhhegblccoonaaGreatDoor.P Go.Proofs.YthhhegblccoonaaGreatDoorW.PrintWords Wd Im Iv Tg Lw0 Ap Cm Cn Ev Aq
open Ft hiding top

theorem hi_ndiff {n m : Nat} (h : m ≤ n) : ndiff (2 ^ n - 1) (2 ^ m - 1) = hi n (n - m) := by
  unfold hi; rw [show n - (n - m) = m by omega]
section
variable {a : Nat × Nat} {n m : Nat} {w v : Int} (hw : w = n) (hv : v = m) (h1 : 1 ≤ n) (hn : n ≤ 64) (hm1 : 1 ≤ m) (hm : m ≤ 64) (haz : a.1 < 2 ^ m) (hao : a.2 < 2 ^ m) (da : a.1 &&& a.2 = 0)
include hw hv h1 hn hm1 hm haz hao da
/-- The reference's loop of a signed extension. -/
theorem rsext (hmn : m ≤ n) (d : Nat) : ∀ k i : Nat, i + d = n → d < k → m ≤ i →
    jacquardref12_Apply.l1 k w [v] (i : Int) a.1 a.2 ((a.1 ||| kz (fun j => if m ≤ j then kn a.1 a.2 (m - 1) else none) i : Nat) : Int) ((a.2 ||| ko (fun j => if m ≤ j then kn a.1 a.2 (m - 1) else none) i : Nat) : Int) =
      some (((a.1 ||| kz (fun j => if m ≤ j then kn a.1 a.2 (m - 1) else none) n : Nat) : Int), ((a.2 ||| ko (fun j => if m ≤ j then kn a.1 a.2 (m - 1) else none) n : Nat) : Int)) := by
  have hQb := Q_big
  have hpw : ∀ {x : Nat}, x < 2 ^ m → x < 2 ^ n := fun h => Nat.lt_of_lt_of_le h (Nat.pow_le_pow_right (by decide) hmn)
  induction d with
  | zero =>
    intro k i hi hk _
    obtain ⟨k, rfl⟩ : ∃ m, k = m + 1 := ⟨k - 1, by omega⟩
    obtain rfl : i = n := by omega
    rw [jacquardref12_Apply.l1, if_neg (by omega)]
  | succ d ih =>
    intro k i hi hk hmi
    obtain ⟨k, rfl⟩ : ∃ m, k = m + 1 := ⟨k - 1, by omega⟩
    have hlt : i < n := by omega
    have h2 := ih k (i + 1) (by omega) (by omega) (by omega)
    have hput := put_eq hn (hpw haz) (hpw hao) hlt (fun j => if m ≤ j then kn a.1 a.2 (m - 1) else none)
    rw [if_pos hmi] at hput
    have hx : wrap64 (rd [v] 0 - 1) = ((m - 1 : Nat) : Int) := by
      rw [show rd [v] 0 = v from rfl, wrap64_id (by omega) (by omega)]; omega
    rw [jacquardref12_Apply.l1, if_pos (by omega), if_pos (show (0 : Int) < (([v] : List Int).length : Int) by simp), hx, known_eq (up64 hm haz) (up64 hm hao) (by omega), Option.bind_some, hput, Option.bind_some, wr hlt hn]
    exact h2
theorem one_op {op : Int} (ho : (op = 22 ∧ m ≤ n) ∨ (op = 23 ∧ m ≤ n) ∨ (op = 24 ∧ n ≤ m)) (num : Int) (acc acc' : List Int) {k : Nat} (hk : 500 < k) :
    Both (knownbits_Apply.l0 (k + 8) op w [v] [mk a] num false acc [mk a] 1 1) (jacquardref12_Apply.l0 (k + 8) op w [v] [mk a] num false acc' 1 0 0) := by
  have hQb := Q_big
  have haz6 := up64 hm haz
  have hao6 := up64 hm hao
  have ea : rd_T45 [mk a] 0 = mk a := rfl
  have hl : ((([mk a] : List S45).length : Int)) = 1 := rfl
  have hlv : ((([v] : List Int).length : Int)) = 1 := rfl
  have hm0 : mn 1 (wrap64 ((([mk a] : List S45).length : Int) - 1)) = 0 := by rw [hl]; decide +kernel
  have f0 : ∀ p, (mk p).f0 = (p.1 : Int) := fun _ => rfl
  have f1 : ∀ p, (mk p).f1 = (p.2 : Int) := fun _ => rfl
  have er : rd [v] 0 = v := rfl
  have hpw : ∀ {x : Nat}, m ≤ n → x < 2 ^ m → x < 2 ^ n := fun hmn h => Nat.lt_of_lt_of_le h (Nat.pow_le_pow_right (by decide) hmn)
  rw [knownbits_Apply.l0, if_neg (show ¬ (1 : Int) < 1 by decide), if_neg Bool.false_ne_true, if_pos (show (0 : Int) < (([mk a] : List S45).length : Int) by rw [hl]; decide), if_pos (show 0 ≤ mn 1 (wrap64 ((([mk a] : List S45).length : Int) - 1)) by rw [hm0]; decide), if_pos (show mn 1 (wrap64 ((([mk a] : List S45).length : Int) - 1)) < (([mk a] : List S45).length : Int) by rw [hm0, hl]; decide),
    jacquardref12_Apply.l0, if_neg (show ¬ (1 : Int) < (([mk a] : List S45).length : Int) by rw [hl]; decide), if_neg Bool.false_ne_true, if_pos (show (0 : Int) < (([mk a] : List S45).length : Int) by rw [hl]; decide), if_neg (show ¬ (([mk a] : List S45).length : Int) > 1 by rw [hl]; decide), hm0, ea, f0, f1, jacquardref12_Apply.j2]
  rcases ho with ⟨rfl, hmn⟩ | ⟨rfl, hmn⟩ | ⟨rfl, hnm⟩
  · simp only [Int.reduceEq, if_false, if_true, Int.reduceBEq]
    rw [knownbits_Apply.j2, jacquardref12_Apply.j3]
    simp only [Int.reduceEq, if_false, if_true, Int.reduceBEq, Bool.false_eq_true]
    rw [knownbits_Apply.j3, jacquardref12_Apply.j4]
    simp only [Int.reduceEq, if_false, if_true, Int.reduceBEq, Bool.false_eq_true]
    rw [knownbits_Apply.j4]
    simp only [Int.reduceEq, if_false, if_true, Int.reduceBEq, Bool.false_eq_true]
    rw [knownbits_Apply.j5]
    simp only [Int.reduceEq, if_false, if_true, Int.reduceBEq, Bool.false_eq_true, hlv, pair_bind, Int.reduceLT]
    rw [er, hw, hv, kmaskN hn, kmaskN hm, Option.bind_some, Option.bind_some, show wrap64 ((n : Int) - (m : Int)) = ((n - m : Nat) : Int) by rw [wrap64_id (by omega) (by omega)]; omega, show (0 : Int) = ((0 : Nat) : Int) from rfl, rzeros rfl hn (Nat.zero_le _) (Nat.sub_le _ _) (by omega), Option.bind_some, zf_hi, zf_o]
    unfold jacquardref12_both.f
    have hh := up64 hn (hi_lt n (n - m))
    rw [nandn (F_lt hn) (F_lt hm), hi_ndiff hmn, nor haz6 hh, nor hao6 (by decide), Nat.or_zero]
    exact ⟨_, _, or_lt (n := 64) haz6 hh, hao6, rfl, rfl⟩
  · simp only [Int.reduceEq, if_false, if_true, Int.reduceBEq]
    rw [knownbits_Apply.j2, jacquardref12_Apply.j3]
    simp only [Int.reduceEq, if_false, if_true, Int.reduceBEq, Bool.false_eq_true]
    rw [knownbits_Apply.j3, jacquardref12_Apply.j4]
    simp only [Int.reduceEq, if_false, if_true, Int.reduceBEq, Bool.false_eq_true]
    rw [knownbits_Apply.j4]
    simp only [Int.reduceEq, if_false, if_true, Int.reduceBEq, Bool.false_eq_true]
    rw [knownbits_Apply.j5]
    simp only [Int.reduceEq, if_false, if_true, Int.reduceBEq, Bool.false_eq_true, hlv, pair_bind, Int.reduceLT]
    rw [er]
    have hx : wrap64 (v - 1) = ((m - 1 : Nat) : Int) := by rw [wrap64_id (by omega) (by omega)]; omega
    have hp : 2 ^ (m - 1) < 18446744073709551616 := Nat.lt_of_lt_of_le (Nat.pow_lt_pow_right (by decide) (show m - 1 < 64 by omega)) (by decide)
    have hh := up64 hn (hi_lt n (n - m))
    have h2 := rsext (a := a) (w := w) (v := v) hw hv h1 hn hm1 hm haz hao da hmn (n - m) (k + 4) m (by omega) (by omega) (Nat.le_refl _)
    have k0 := kz_none (f := fun j => if m ≤ j then kn a.1 a.2 (m - 1) else none) (n := m) (fun i hi => if_neg (by omega))
    rw [k0.1, k0.2, Nat.or_zero, Nat.or_zero, ← hv] at h2
    rw [h2, hx, if_pos (by omega), hw, hv, kmaskN hn, kmaskN hm, Option.bind_some, Option.bind_some, shl_one (by omega), nand haz6 hp, nand hao6 hp, nandn (F_lt hn) (F_lt hm), hi_ndiff hmn, nor haz6 hh, nor hao6 hh]
    have sz := sbit a.1 (m - 1)
    have so := sbit a.2 (m - 1)
    have cast0 : ∀ x : Nat, ((x : Int) = 0) = (x = 0) := fun x => by simp
    simp only [cast0, sz, so]
    have e1 := kn_z (i := m - 1) da
    have e2 := kn_o a.1 a.2 (m - 1)
    have hd := disj.1 da (m - 1)
    have fl : ∀ b : Bool, kz (fun j => if m ≤ j then some b else none) n = (if b = false then hi n (n - m) else 0) ∧ ko (fun j => if m ≤ j then some b else none) n = (if b = true then hi n (n - m) else 0) := fun b => by
      constructor
      · refine (is_kz fun i => ?_).symm
        cases b
        · rw [if_pos rfl, tb_hi, show n - (n - m) = m by omega]; by_cases c : m ≤ i <;> simp [c]
        · by_cases c : m ≤ i <;> simp [c]
      · refine (is_ko fun i => ?_).symm
        cases b
        · by_cases c : m ≤ i <;> simp [c]
        · rw [if_pos rfl, tb_hi, show n - (n - m) = m by omega]; by_cases c : m ≤ i <;> simp [c]
    have fn : kz (fun j => if m ≤ j then (none : Option Bool) else none) n = 0 ∧ ko (fun j => if m ≤ j then (none : Option Bool) else none) n = 0 := kz_none fun i _ => by simp
    cases hk0 : kn a.1 a.2 (m - 1) with
    | none =>
      rw [hk0] at e1 e2
      have z0 : a.1.testBit (m - 1) = false := by rw [← e1]; rfl
      have o0 : a.2.testBit (m - 1) = false := by rw [← e2]; rfl
      rw [fn.1, fn.2, Nat.or_zero, Nat.or_zero, if_pos z0, if_pos o0]
      exact ⟨_, _, haz6, hao6, rfl, rfl⟩
    | some b =>
      rw [hk0] at e1 e2
      rw [(fl b).1, (fl b).2]
      cases b
      · have z0 : ¬ a.1.testBit (m - 1) = false := by rw [← e1]; decide
        have o0 : a.2.testBit (m - 1) = false := by rw [← e2]; rfl
        rw [if_neg z0, if_pos o0]
        simp only [if_true, if_false, Bool.false_eq_true, Nat.or_zero]
        exact ⟨_, _, or_lt (n := 64) haz6 hh, hao6, rfl, rfl⟩
      · have z0 : a.1.testBit (m - 1) = false := by rw [← e1]; rfl
        have o0 : ¬ a.2.testBit (m - 1) = false := by rw [← e2]; decide
        rw [if_pos z0, if_neg o0]
        simp only [if_true, if_false, Bool.true_eq_false, Nat.or_zero]
        exact ⟨_, _, haz6, or_lt (n := 64) hao6 hh, rfl, rfl⟩
  · simp only [Int.reduceEq, if_false, if_true, Int.reduceBEq]
    rw [knownbits_Apply.j2, jacquardref12_Apply.j3]
    simp only [Int.reduceEq, if_false, if_true, Int.reduceBEq, Bool.false_eq_true]
    rw [knownbits_Apply.j3, jacquardref12_Apply.j4]
    simp only [Int.reduceEq, if_false, if_true, Int.reduceBEq, Bool.false_eq_true]
    rw [knownbits_Apply.j4]
    simp only [Int.reduceEq, if_false, if_true, Int.reduceBEq, Bool.false_eq_true]
    rw [knownbits_Apply.j5]
    simp only [Int.reduceEq, if_false, if_true, Int.reduceBEq, Bool.false_eq_true]
    have hnn : nn w = n := by have := nn_of (w := w) (by omega) (by omega); omega
    have hF := F_lt hn
    rw [rmask_eq (by omega) (by omega), hnn, mnat, Option.bind_some, Option.bind_some, hw, kmaskN hn, Option.bind_some, Option.bind_some, nand haz6 hF, nand hao6 hF]
    exact ⟨_, _, Nat.lt_of_le_of_lt Nat.and_le_left haz6, Nat.lt_of_le_of_lt Nat.and_le_left hao6, rfl, rfl⟩
end
section
variable {a b : Nat × Nat} {n : Nat} {v : Int} (hv : v = n) (h1 : 1 ≤ n) (hn : n ≤ 64) (haz : a.1 < 2 ^ n) (hao : a.2 < 2 ^ n) (hbz : b.1 < 2 ^ n) (hbo : b.2 < 2 ^ n) (da : a.1 &&& a.2 = 0) (db : b.1 &&& b.2 = 0)
include hv h1 hn haz hao hbz hbo da db
theorem bz_lt (b : Bool) : bz' b < 18446744073709551616 := by unfold bz'; split <;> decide
theorem cmp_op {op : Int} (ho : 15 ≤ op ∧ op ≤ 20) (w num : Int) (acc acc' : List Int) {k : Nat} (hk : 500 < k) :
    Both (knownbits_Apply.l0 (k + 8) op w [v, v] [mk a, mk b] num false acc [mk a, mk b] 2 2) (jacquardref12_Apply.l0 (k + 8) op w [v, v] [mk a, mk b] num false acc' 2 0 0) := by
  have hQb := Q_big
  have haz6 := up64 hn haz
  have hao6 := up64 hn hao
  have hbz6 := up64 hn hbz
  have hbo6 := up64 hn hbo
  have ea : rd_T45 [mk a, mk b] 0 = mk a := rfl
  have eb' : rd_T45 [mk a, mk b] 1 = mk b := rfl
  have hl : ((([mk a, mk b] : List S45).length : Int)) = 2 := rfl
  have hlv : ((([v, v] : List Int).length : Int)) = 2 := rfl
  have er : rd [v, v] 0 = v := rfl
  have hm : mn 1 (wrap64 ((([mk a, mk b] : List S45).length : Int) - 1)) = 1 := by rw [hl]; decide +kernel
  have eb : rd_T45 [mk a, mk b] (mn 1 (wrap64 ((([mk a, mk b] : List S45).length : Int) - 1))) = mk b := by rw [hm]; rfl
  have f0 : ∀ p, (mk p).f0 = (p.1 : Int) := fun _ => rfl
  have f1 : ∀ p, (mk p).f1 = (p.2 : Int) := fun _ => rfl
  have hc := rcmp (az := a.1) (ao := a.2) (bz := b.1) (bo := b.2) hv h1 hn haz hao hbz hbo da db ho (by omega)
  rw [knownbits_Apply.l0, if_neg (show ¬ (2 : Int) < 2 by decide), if_neg Bool.false_ne_true, if_pos (show (0 : Int) < (([mk a, mk b] : List S45).length : Int) by rw [hl]; decide), if_pos (show 0 ≤ mn 1 (wrap64 ((([mk a, mk b] : List S45).length : Int) - 1)) by rw [hm]; decide), if_pos (show mn 1 (wrap64 ((([mk a, mk b] : List S45).length : Int) - 1)) < (([mk a, mk b] : List S45).length : Int) by rw [hm, hl]; decide),
    jacquardref12_Apply.l0, if_neg (show ¬ (2 : Int) < (([mk a, mk b] : List S45).length : Int) by rw [hl]; decide), if_neg Bool.false_ne_true, if_pos (show (0 : Int) < (([mk a, mk b] : List S45).length : Int) by rw [hl]; decide), if_pos (show (([mk a, mk b] : List S45).length : Int) > 1 by rw [hl]; decide), if_pos (show (1 : Int) < (([mk a, mk b] : List S45).length : Int) by rw [hl]; decide), eb, ea, eb', f0, f1, f0, f1, jacquardref12_Apply.j2]
  have or6 : Go.bits .or .u64 (Go.bits .and .u64 (a.1 : Int) b.2) (Go.bits .and .u64 (a.2 : Int) b.1) = 0 ↔ (a.1 &&& b.2 = 0 ∧ a.2 &&& b.1 = 0) := by
    rw [nand haz6 hbo6, nand hao6 hbz6, nor (Nat.lt_of_le_of_lt Nat.and_le_left haz6) (Nat.lt_of_le_of_lt Nat.and_le_left hao6)]
    have : (a.1 &&& b.2 ||| a.2 &&& b.1) = 0 ↔ (a.1 &&& b.2 = 0 ∧ a.2 &&& b.1 = 0) := Nat.or_eq_zero_iff
    omega
  have lm : a.2 ≤ Ft.top n a.1 ∧ b.2 ≤ Ft.top n b.1 := ⟨least_most haz da hao, least_most hbz db hbo⟩
  have fz1 := fz_lt h1 haz hao
  have fz2 := fz_lt h1 hao haz
  have fz3 := fz_lt h1 hbz hbo
  have fz4 := fz_lt h1 hbo hbz
  have fl : fz n a.2 a.1 ≤ Ft.top n (fz n a.1 a.2) ∧ fz n b.2 b.1 ≤ Ft.top n (fz n b.1 b.2) := ⟨least_most fz1 (fz_disj hv h1 hn haz hao da) fz2, least_most fz3 (fz_disj hv h1 hn hbz hbo db) fz4⟩
  have ho' : op = 15 ∨ op = 16 ∨ op = 17 ∨ op = 18 ∨ op = 19 ∨ op = 20 := by omega
  rcases ho' with rfl | rfl | rfl | rfl | rfl | rfl
  all_goals
    simp only [Int.reduceEq, if_false, if_true, Int.reduceBEq]
    rw [knownbits_Apply.j2, jacquardref12_Apply.j3]
    simp only [Int.reduceEq, if_false, if_true, Int.reduceBEq, Bool.false_eq_true]
    rw [knownbits_Apply.j3, jacquardref12_Apply.j4]
    simp only [Int.reduceEq, if_false, if_true, Int.reduceBEq, Bool.false_eq_true, hlv, pair_bind, or6, Int.reduceLT]
    rw [er, hc]
    unfold cmpk
    simp only [Int.reduceEq, if_false, if_true]
  · by_cases c : a.1 &&& b.2 = 0 ∧ a.2 &&& b.1 = 0
    · rw [if_pos c, if_pos c]; exact ⟨0, 0, by decide, by decide, rfl, rfl⟩
    · rw [if_neg c, if_neg c, kone', Option.bind_some]
      show Both (knownbits_Of.f 1 ((0 : Nat) : Int)) _
      rw [kof1 (.inl rfl)]; exact ⟨1, 0, by decide, by decide, rfl, rfl⟩
  · by_cases c : a.1 &&& b.2 = 0 ∧ a.2 &&& b.1 = 0
    · rw [if_pos c, if_pos c]; exact ⟨0, 0, by decide, by decide, rfl, rfl⟩
    · rw [if_neg c, if_neg c, kone', Option.bind_some]
      show Both (knownbits_Of.f 1 ((1 : Nat) : Int)) _
      rw [kof1 (.inr rfl)]; exact ⟨0, 1, by decide, by decide, rfl, rfl⟩
  all_goals
    rw [knownbits_Apply.j4]
    simp only [Int.reduceEq, if_false, if_true, Int.reduceBEq, Bool.false_eq_true, hlv, pair_bind, Int.reduceLT]
  · rw [er, kless hv hn haz hbz (by omega) false lm]
    exact ⟨_, _, bz_lt hv h1 hn haz hao hbz hbo da db _, bz_lt hv h1 hn haz hao hbz hbo da db _, rfl, rfl⟩
  · rw [er, kless hv hn haz hbz (by omega) true lm]
    exact ⟨_, _, bz_lt hv h1 hn haz hao hbz hbo da db _, bz_lt hv h1 hn haz hao hbz hbo da db _, rfl, rfl⟩
  all_goals
    rw [knownbits_Apply.j5]
    simp only [Int.reduceEq, if_false, if_true, Int.reduceBEq, Bool.false_eq_true, hlv, pair_bind, Int.reduceLT]
    rw [er, kflip hv h1 hn haz hao, Option.bind_some, kflip hv h1 hn hbz hbo, Option.bind_some]
  · rw [kless hv hn fz1 fz3 (by omega) false fl]
    exact ⟨_, _, bz_lt hv h1 hn haz hao hbz hbo da db _, bz_lt hv h1 hn haz hao hbz hbo da db _, rfl, rfl⟩
  · rw [kless hv hn fz1 fz3 (by omega) true fl]
    exact ⟨_, _, bz_lt hv h1 hn haz hao hbz hbo da db _, bz_lt hv h1 hn haz hao hbz hbo da db _, rfl, rfl⟩
end
end Go.Proofs.YthhhegblccoonaaGreatDoor.Kb
/- Known bits: Apply: choices, single words, the loop over the operands; both packages come to the same. -/
namespace Go.Proofs.YthhhegblccoonaaGreatDoor.Kb
set_option linter.unusedVariables false
set_option linter.unusedSimpArgs false
set_option linter.unusedSectionVars false
open Go.RowKit Go.Proofs.YthhhegblccoonaaGreatDoor.P Go.Proofs.YthhhegblccoonaaGreatDoorW.PrintWords Wd Im Iv Tg Lw0 Ap Cm Cn Ev Aq
open Ft hiding top

/-- Choices. -/
theorem sel_op {a b c : Nat × Nat} {n : Nat} {w : Int} (hw : w = n) (h1 : 1 ≤ n) (hn : n ≤ 64) (haz : a.1 < 2 ^ 1) (hao : a.2 < 2 ^ 1) (hbz : b.1 < 2 ^ n) (hbo : b.2 < 2 ^ n) (hcz : c.1 < 2 ^ n) (hco : c.2 < 2 ^ n) (da : a.1 &&& a.2 = 0) (num : Int) (acc acc' : List Int) {k : Nat} (hk : 500 < k) :
    Both (knownbits_Apply.l0 (k + 8) 21 w [1, w, w] [mk a, mk b, mk c] num false acc [mk a, mk b, mk c] 3 3) (jacquardref12_Apply.l0 (k + 8) 21 w [1, w, w] [mk a, mk b, mk c] num false acc' 3 0 0) := by
  have hQb := Q_big
  have hbz6 := up64 hn hbz
  have hbo6 := up64 hn hbo
  have hcz6 := up64 hn hcz
  have hco6 := up64 hn hco
  have ea : rd_T45 [mk a, mk b, mk c] 0 = mk a := rfl
  have eb' : rd_T45 [mk a, mk b, mk c] 1 = mk b := rfl
  have ec : rd_T45 [mk a, mk b, mk c] 2 = mk c := rfl
  have hl : ((([mk a, mk b, mk c] : List S45).length : Int)) = 3 := rfl
  have hm : mn 1 (wrap64 ((([mk a, mk b, mk c] : List S45).length : Int) - 1)) = 1 := by rw [hl]; decide +kernel
  have f0 : ∀ p, (mk p).f0 = (p.1 : Int) := fun _ => rfl
  have f1 : ∀ p, (mk p).f1 = (p.2 : Int) := fun _ => rfl
  rw [knownbits_Apply.l0, if_neg (show ¬ (3 : Int) < 3 by decide), if_neg Bool.false_ne_true, hm, hl, if_pos (show (0 : Int) < 3 by decide), if_pos (show (0 : Int) ≤ 1 by decide), if_pos (show (1 : Int) < 3 by decide),
    jacquardref12_Apply.l0, hl, if_neg (show ¬ (3 : Int) < 3 by decide), if_neg Bool.false_ne_true, if_pos (show (0 : Int) < 3 by decide), if_pos (show (3 : Int) > 1 by decide), if_pos (show (1 : Int) < 3 by decide), ea, eb', f0, f1, f0, f1, jacquardref12_Apply.j2]
  simp only [Int.reduceEq, if_false, if_true, Int.reduceBEq]
  rw [knownbits_Apply.j2, jacquardref12_Apply.j3]
  simp only [Int.reduceEq, if_false, if_true, Int.reduceBEq, Bool.false_eq_true]
  rw [knownbits_Apply.j3, jacquardref12_Apply.j4]
  simp only [Int.reduceEq, if_false, if_true, Int.reduceBEq, Bool.false_eq_true]
  rw [knownbits_Apply.j4]
  simp only [Int.reduceEq, if_false, if_true, Int.reduceBEq, Bool.false_eq_true]
  rw [knownbits_Apply.j5]
  simp only [Int.reduceEq, if_false, if_true, Int.reduceBEq, Bool.false_eq_true, pair_bind]
  have x1 := kexact (w := 1) (n := 1) rfl (by decide) (by decide) haz hao da
  have x2 := rexact (w := 1) (n := 1) rfl (by decide) (by decide) haz hao da (by omega)
  rw [x1, x2, Option.bind_some, Option.bind_some]
  by_cases cx : a.1 ||| a.2 = 2 ^ 1 - 1
  · rw [if_pos cx, if_pos rfl, if_pos (decide_eq_true cx)]
    have h01 : a.2 = 0 ∨ a.2 = 1 := by omega
    rcases h01 with h0 | h0
    · rw [h0]
      have e2 : IntKind.u64.wrap (2 - ((0 : Nat) : Int)) = 2 := by rw [wrap_u64]; rfl
      simp only [e2, hl, ec, f0, f1]
      rw [if_pos (by decide), if_pos (by decide), show (((0 : Nat) : Int) == 1) = false from rfl, jacquardref12_Apply.j5, if_neg (by decide), ← h0, x2, Option.bind_some, if_pos (decide_eq_true cx), hl, if_pos (by decide), ec, f0, f1]
      exact ⟨_, _, hcz6, hco6, rfl, rfl⟩
    · rw [h0]
      have e2 : IntKind.u64.wrap (2 - ((1 : Nat) : Int)) = 1 := by rw [wrap_u64]; rfl
      simp only [e2, hl, eb', f0, f1]
      rw [if_pos (by decide), if_pos (by decide), show (((1 : Nat) : Int) == 1) = true from rfl, jacquardref12_Apply.j5, if_pos rfl]
      exact ⟨_, _, hbz6, hbo6, rfl, rfl⟩
  · rw [if_neg cx, if_neg (by decide), if_neg (show ¬ decide (a.1 ||| a.2 = 2 ^ 1 - 1) = true by simpa using cx), hl, if_pos (by decide), ec, f0, f1, jacquardref12_Apply.j5, if_neg (by decide), x2, Option.bind_some, if_neg (show ¬ decide (a.1 ||| a.2 = 2 ^ 1 - 1) = true by simpa using cx), hl, if_pos (by decide), ec, f0, f1]
    unfold knownbits_Join.f jacquardref12_Join.f
    rw [nand hbz6 hcz6, nand hbo6 hco6]
    exact ⟨_, _, Nat.lt_of_le_of_lt Nat.and_le_left hbz6, Nat.lt_of_le_of_lt Nat.and_le_left hbo6, rfl, rfl⟩
/-- Single words. -/
theorem of_both {n : Nat} {w : Int} (hw : w = n) (h1 : 1 ≤ n) (hn : n ≤ 64) {x y : Int} (hx : 0 ≤ x ∧ x < 18446744073709551616) (hy : 0 ≤ y ∧ y < 18446744073709551616) (hm : x % 2 ^ n = y % 2 ^ n) (hk : 64 < Q) :
    Both (knownbits_Of.f w x) (jacquardref12_Of.f w y) := by
  have hnn : nn w = n := by have := nn_of (w := w) (by omega) (by omega); omega
  obtain ⟨p, rfl⟩ := Int.eq_ofNat_of_zero_le hx.1
  obtain ⟨q, rfl⟩ := Int.eq_ofNat_of_zero_le hy.1
  have hp : p < 18446744073709551616 := by omega
  have hq : q < 18446744073709551616 := by omega
  have hF := F_lt hn
  have hpq : p % 2 ^ n = q % 2 ^ n := by rw [pnat] at hm; exact_mod_cast hm
  have tbp : ∀ i, i < n → p.testBit i = q.testBit i := fun i hi => by
    have := congrArg (Nat.testBit · i) hpq
    simpa [Nat.testBit_mod_two_pow, hi] using this
  unfold knownbits_Of.f jacquardref12_Of.f
  rw [kgood_eq, Option.bind_some, if_pos (decide_eq_true ⟨by omega, by omega⟩), rmask_eq (by omega) hk, hnn, mnat, Option.bind_some, hw, kmaskN hn, Option.bind_some, not_eq hp, nand (not_lt hp) hF, nand hp hF, nandn hF hq, nand hq hF]
  have e1 : (18446744073709551615 ^^^ p) &&& (2 ^ n - 1) = ndiff (2 ^ n - 1) q := by
    apply Nat.eq_of_testBit_eq; intro i
    rw [Nat.testBit_and, tb_not, tb_F, tb_ndiff, tb_F]
    by_cases c : i < n
    · rw [tbp i c]; simp [c, show i < 64 by omega]
    · simp [c]
  have e2 : p &&& (2 ^ n - 1) = q &&& (2 ^ n - 1) := by
    apply Nat.eq_of_testBit_eq; intro i
    rw [Nat.testBit_and, Nat.testBit_and, tb_F]
    by_cases c : i < n
    · rw [tbp i c]
    · simp [c]
  rw [e1, e2]
  exact ⟨_, _, up64 hn (ndiff_lt (by have := Nat.two_pow_pos n; omega)), Nat.lt_of_le_of_lt Nat.and_le_left hq, rfl, rfl⟩
/-! ### The loop over the operands -/
section
variable {op w num v i : Int} {ws acc : List Int} {zs : List S45} {a : Nat × Nat} (hr : rd ws i = v) (hz : rd_T45 zs i = mk a) (h0 : 0 ≤ i) (hi : i < (zs.length : Int)) (hi2 : i < (ws.length : Int)) (hv : 1 ≤ v ∧ v ≤ 64) (hu : a.1 < 18446744073709551616 ∧ a.2 < 18446744073709551616) (hacc : acc.length < 17592186044416)
include hr hz h0 hi hi2 hv hu hacc
theorem kst {k : Nat} (e : Bool) : knownbits_Apply.l0 (k + 1) op w ws zs num e acc zs (zs.length : Int) i =
    if decide (KV v a.1 a.2) = true then knownbits_Apply.l0 k op w ws zs num (e && decide (a.1 ||| a.2 = 2 ^ nn v - 1)) (acc ++ [if a.1 ||| a.2 = 2 ^ nn v - 1 then (a.2 : Int) else 0]) zs (zs.length : Int) (wrap64 (i + 1)) else some (0, 0) := by
  have hQb := Q_big
  have f0 : (mk a).f0 = (a.1 : Int) := rfl
  have f1 : (mk a).f1 = (a.2 : Int) := rfl
  rw [knownbits_Apply.l0, if_pos hi, if_pos h0, if_pos hi, if_pos hi2, hr, hz, f0, f1, kvalid_eq hu.1 hu.2, Option.bind_some]
  by_cases c : KV v a.1 a.2
  · have hn := nn_of (w := v) (by omega) hv.2
    rw [if_pos (decide_eq_true c), if_pos (decide_eq_true c), kexact (w := v) (n := nn v) hn.symm (by omega) (nn_le v) c.2.1 c.2.2.1 c.2.2.2, Option.bind_some, if_pos hacc, Option.bind_some]
    by_cases c2 : a.1 ||| a.2 = 2 ^ nn v - 1
    · rw [if_pos c2, if_pos c2, decide_eq_true c2]; cases e <;> rfl
    · rw [if_neg c2, if_neg c2, decide_eq_false c2]; cases e <;> rfl
  · rw [if_neg (by simpa using c), if_neg (by simpa using c)]
theorem rst {k : Nat} (hk : 64 < k) (e : Bool) : jacquardref12_Apply.l0 (k + 1) op w ws zs num e acc i 0 0 =
    if decide (KV v a.1 a.2) = true then jacquardref12_Apply.l0 k op w ws zs num (e && decide (a.1 ||| a.2 = 2 ^ nn v - 1)) (acc ++ [(a.2 : Int)]) (wrap64 (i + 1)) 0 0 else some (0, 0) := by
  have hQb := Q_big
  have f0 : (mk a).f0 = (a.1 : Int) := rfl
  have f1 : (mk a).f1 = (a.2 : Int) := rfl
  rw [jacquardref12_Apply.l0, if_pos hi, if_pos h0, if_pos hi2, hr, hz, f0, f1, rkvalid_eq hu.1 hu.2 v (by omega), Option.bind_some]
  by_cases c : KV v a.1 a.2
  · have hn := nn_of (w := v) (by omega) hv.2
    rw [if_pos (decide_eq_true c), if_pos (decide_eq_true c), rexact (w := v) (n := nn v) hn.symm (by omega) (nn_le v) c.2.1 c.2.2.1 c.2.2.2 (by omega), Option.bind_some, if_pos hacc, if_pos hacc]
    cases e
    · rw [if_neg (by decide)]; rfl
    · rw [if_pos rfl]; rfl
  · rw [if_neg (by simpa using c), if_neg (by simpa using c)]
end
theorem both0 : Both (some (0, 0)) (some (0, 0)) := ⟨0, 0, by decide, by decide, rfl, rfl⟩
theorem wr1 : wrap64 (0 + 1) = 1 ∧ wrap64 (1 + 1) = 2 ∧ wrap64 (2 + 1) = 3 := by decide +kernel
end Go.Proofs.YthhhegblccoonaaGreatDoor.Kb
/- Known bits: Apply of both packages comes to the same. -/
namespace Go.Proofs.YthhhegblccoonaaGreatDoor.Kb
set_option linter.unusedVariables false
set_option linter.unusedSimpArgs false
set_option linter.unusedSectionVars false
open Go.RowKit Go.Proofs.YthhhegblccoonaaGreatDoor.P Go.Proofs.YthhhegblccoonaaGreatDoorW.PrintWords Wd Im Iv Tg Lw0 Ap Cm Cn Ev Aq
open Ft hiding top

theorem kval2 {n : Nat} {w : Int} (hw : w = n) (h1 : 1 ≤ n) (hn : n ≤ 64) {op : Int} (ho : 2 ≤ op ∧ op ≤ 14) {a b : Nat} (ha : a < 2 ^ n) (hb : b < 2 ^ n) (num : Int) (hk : 10 < Q) :
    ∃ v : Int, knownbits_value.f op w [w, w] [(a : Int), (b : Int)] num = some v ∧ (0 ≤ v ∧ v < 18446744073709551616) ∧ v % 2 ^ n = bin op n a b := by
  have hl : ((([(a : Int), (b : Int)] : List Int).length : Int)) = 2 := rfl
  have r0 : rd [(a : Int), (b : Int)] 0 = a := rfl
  have r1 : rd [(a : Int), (b : Int)] 1 = b := rfl
  have ha6 := up64 hn ha
  have hb6 := up64 hn hb
  have sm : ∀ {x : Nat}, x < 2 ^ n → ((x : Nat) : Int) % 2 ^ n = x := fun {x} hx => mod_small (by omega) (by rw [pnat]; omega)
  have ho' : op = 2 ∨ op = 3 ∨ op = 4 ∨ op = 5 ∨ op = 6 ∨ op = 7 ∨ op = 8 ∨ op = 9 ∨ op = 10 ∨ op = 11 ∨ op = 12 ∨ op = 13 ∨ op = 14 := by omega
  unfold knownbits_value.f
  rcases ho' with rfl | rfl | rfl | rfl | rfl | rfl | rfl | rfl | rfl | rfl | rfl | rfl | rfl
  · simp only [Int.reduceEq, if_false, if_true, hl, r0, r1, Int.reduceLT]
    exact ⟨_, rfl, wrapU _, by rw [modn hw h1 hn]; simp [bin]⟩
  · simp only [Int.reduceEq, if_false, if_true, hl, r0, r1, Int.reduceLT]
    exact ⟨_, rfl, wrapU _, by rw [modn hw h1 hn]; simp [bin]⟩
  · simp only [Int.reduceEq, if_false, if_true, hl, r0, r1, Int.reduceLT]
    exact ⟨_, rfl, wrapU _, by rw [modn hw h1 hn]; simp [bin]⟩
  · obtain ⟨x, e, h⟩ := kdiv hw h1 hn (op := 5) (by omega) ha hb (by omega)
    simp only [Int.reduceEq, if_false, if_true, hl, r0, r1, Int.reduceLT, Int.reduceBEq]
    rw [knownbits_value.j0]
    simp only [Int.reduceEq, if_false, if_true, hl, r0, r1, Int.reduceLT, e, Option.bind_some]
    exact ⟨_, rfl, h⟩
  · obtain ⟨x, e, h⟩ := kdiv hw h1 hn (op := 6) (by omega) ha hb (by omega)
    simp only [Int.reduceEq, if_false, if_true, hl, r0, r1, Int.reduceLT, Int.reduceBEq]
    rw [knownbits_value.j0]
    simp only [Int.reduceEq, if_false, if_true, hl, r0, r1, Int.reduceLT, e, Option.bind_some]
    exact ⟨_, rfl, h⟩
  · obtain ⟨x, e, h⟩ := kdiv hw h1 hn (op := 7) (by omega) ha hb (by omega)
    simp only [Int.reduceEq, if_false, if_true, hl, r0, r1, Int.reduceLT, Int.reduceBEq]
    rw [knownbits_value.j0]
    simp only [Int.reduceEq, if_false, if_true, hl, r0, r1, Int.reduceLT, e, Option.bind_some]
    exact ⟨_, rfl, h⟩
  · obtain ⟨x, e, h⟩ := kdiv hw h1 hn (op := 8) (by omega) ha hb (by omega)
    simp only [Int.reduceEq, if_false, if_true, hl, r0, r1, Int.reduceLT, Int.reduceBEq]
    rw [knownbits_value.j0]
    simp only [Int.reduceEq, if_false, if_true, hl, r0, r1, Int.reduceLT, e, Option.bind_some]
    exact ⟨_, rfl, h⟩
  · simp only [Int.reduceEq, if_false, if_true, hl, r0, r1, Int.reduceLT, Int.reduceBEq]
    rw [knownbits_value.j0]
    simp only [Int.reduceEq, if_false, if_true, hl, r0, r1, Int.reduceLT, Int.reduceBEq, Bool.false_eq_true, nand ha6 hb6]
    have := Nat.and_lt_two_pow (n := n) a hb
    exact ⟨_, rfl, by have := up64 hn this; omega, by rw [sm this]; simp [bin]⟩
  · simp only [Int.reduceEq, if_false, if_true, hl, r0, r1, Int.reduceLT, Int.reduceBEq]
    rw [knownbits_value.j0]
    simp only [Int.reduceEq, if_false, if_true, hl, r0, r1, Int.reduceLT, Int.reduceBEq, Bool.false_eq_true, nor ha6 hb6]
    have := or_lt ha hb
    exact ⟨_, rfl, by have := up64 hn this; omega, by rw [sm this]; simp [bin]⟩
  · simp only [Int.reduceEq, if_false, if_true, hl, r0, r1, Int.reduceLT, Int.reduceBEq]
    rw [knownbits_value.j0]
    simp only [Int.reduceEq, if_false, if_true, hl, r0, r1, Int.reduceLT, Int.reduceBEq, Bool.false_eq_true, nxor ha6 hb6]
    have := Nat.xor_lt_two_pow ha hb
    exact ⟨_, rfl, by have := up64 hn this; omega, by rw [sm this]; simp [bin]⟩
  · obtain ⟨x, e, h⟩ := kshf hw h1 hn (op := 12) (by omega) ha hb
    simp only [Int.reduceEq, if_false, if_true, hl, r0, r1, Int.reduceLT, Int.reduceBEq]
    rw [knownbits_value.j0]
    simp only [Int.reduceEq, if_false, if_true, hl, r0, r1, Int.reduceLT, Int.reduceBEq, Bool.false_eq_true]
    rw [knownbits_value.j1]
    simp only [Int.reduceEq, if_false, if_true, hl, r0, r1, Int.reduceLT, e, Option.bind_some]
    exact ⟨_, rfl, h⟩
  · obtain ⟨x, e, h⟩ := kshf hw h1 hn (op := 13) (by omega) ha hb
    simp only [Int.reduceEq, if_false, if_true, hl, r0, r1, Int.reduceLT, Int.reduceBEq]
    rw [knownbits_value.j0]
    simp only [Int.reduceEq, if_false, if_true, hl, r0, r1, Int.reduceLT, Int.reduceBEq, Bool.false_eq_true]
    rw [knownbits_value.j1]
    simp only [Int.reduceEq, if_false, if_true, hl, r0, r1, Int.reduceLT, e, Option.bind_some]
    exact ⟨_, rfl, h⟩
  · obtain ⟨x, e, h⟩ := kshf hw h1 hn (op := 14) (by omega) ha hb
    simp only [Int.reduceEq, if_false, if_true, hl, r0, r1, Int.reduceLT, Int.reduceBEq]
    rw [knownbits_value.j0]
    simp only [Int.reduceEq, if_false, if_true, hl, r0, r1, Int.reduceLT, Int.reduceBEq, Bool.false_eq_true]
    rw [knownbits_value.j1]
    simp only [Int.reduceEq, if_false, if_true, hl, r0, r1, Int.reduceLT, e, Option.bind_some]
    exact ⟨_, rfl, h⟩
theorem kvalc {m : Nat} {v : Int} (hv : v = m) (h1 : 1 ≤ m) (hm : m ≤ 64) {op : Int} (ho : 15 ≤ op ∧ op ≤ 20) {a b : Nat} (ha : a < 2 ^ m) (hb : b < 2 ^ m) (w num : Int) (hk : 10 < Q) :
    knownbits_value.f op w [v, v] [(a : Int), (b : Int)] num = some (bin op m a b) := by
  have hl : ((([(a : Int), (b : Int)] : List Int).length : Int)) = 2 := rfl
  have hlv : ((([v, v] : List Int).length : Int)) = 2 := rfl
  have r0 : rd [(a : Int), (b : Int)] 0 = a := rfl
  have r1 : rd [(a : Int), (b : Int)] 1 = b := rfl
  have rv : rd [v, v] 0 = v := rfl
  have ho' : op = 15 ∨ op = 16 ∨ op = 17 ∨ op = 18 ∨ op = 19 ∨ op = 20 := by omega
  have e := kcmp hv h1 hm ho ha hb
  unfold knownbits_value.f
  rcases ho' with rfl | rfl | rfl | rfl | rfl | rfl
  all_goals
    simp only [Int.reduceEq, if_false, Int.reduceBEq]
    rw [knownbits_value.j0]
    simp only [Int.reduceEq, if_false, Int.reduceBEq, Bool.false_eq_true]
    rw [knownbits_value.j1]
    simp only [Int.reduceEq, if_false, Int.reduceBEq, Bool.false_eq_true]
    rw [knownbits_value.j2]
    simp only [Int.reduceEq, if_false, if_true, hl, hlv, r0, r1, rv, Int.reduceLT, Bool.false_eq_true, e, Option.bind_some]
theorem kvals (w num x y z : Int) (hk : 10 < Q) : knownbits_value.f 21 w [1, w, w] [x, y, z] num = some (if x = 1 then y else z) := by
  have hl : ((([x, y, z] : List Int).length : Int)) = 3 := rfl
  have r0 : rd [x, y, z] 0 = x := rfl
  have r1 : rd [x, y, z] 1 = y := rfl
  have r2 : rd [x, y, z] 2 = z := rfl
  unfold knownbits_value.f
  simp only [Int.reduceEq, if_false, Int.reduceBEq]
  rw [knownbits_value.j0]
  simp only [Int.reduceEq, if_false, Int.reduceBEq, Bool.false_eq_true]
  rw [knownbits_value.j1]
  simp only [Int.reduceEq, if_false, if_true, Int.reduceBEq, Bool.false_eq_true, hl, r0, r1, r2, Int.reduceLT]
  by_cases c : x = 1
  · rw [if_pos c, if_pos c]
  · rw [if_neg c, if_neg c]
theorem kval1 {n m : Nat} {w v : Int} (hw : w = n) (hv : v = m) (h1 : 1 ≤ n) (hn : n ≤ 64) (hm1 : 1 ≤ m) (hm : m ≤ 64) {op : Int} (ho : op = 22 ∨ op = 23 ∨ op = 24) {a : Nat} (ha : a < 2 ^ m) (num : Int) (hk : 10 < Q) :
    ∃ x : Int, knownbits_value.f op w [v] [(a : Int)] num = some x ∧ (0 ≤ x ∧ x < 18446744073709551616) ∧ x % 2 ^ n = castv op n m a := by
  have hl : ((([(a : Int)] : List Int).length : Int)) = 1 := rfl
  have hlv : ((([v] : List Int).length : Int)) = 1 := rfl
  have r0 : rd [(a : Int)] 0 = a := rfl
  have rv : rd [v] 0 = v := rfl
  have ha6 := up64 hm ha
  have e := ksigned hv hm1 hm ha
  unfold knownbits_value.f
  rcases ho with rfl | rfl | rfl
  all_goals
    simp only [Int.reduceEq, if_false, Int.reduceBEq]
    rw [knownbits_value.j0]
    simp only [Int.reduceEq, if_false, Int.reduceBEq, Bool.false_eq_true]
    rw [knownbits_value.j1]
    simp only [Int.reduceEq, if_false, if_true, Int.reduceBEq, Bool.false_eq_true]
    rw [knownbits_value.j2]
    simp only [Int.reduceEq, if_false, if_true, hl, hlv, r0, rv, Int.reduceLT, Bool.false_eq_true, e, Option.bind_some]
  · exact ⟨_, rfl, by omega, by simp [castv]⟩
  · exact ⟨_, rfl, wrapU _, by rw [modn hw h1 hn]; simp [castv]⟩
  · exact ⟨_, rfl, by omega, by simp [castv]⟩
theorem ex_tail {op w num : Int} {ws accI accR : List Int} {zs : List S45} {n : Nat} (hw : w = n) (h1 : 1 ≤ n) (hn : n ≤ 64) {k : Nat} (hk : 100 < k) {x y : Int} (hI : knownbits_value.f op w ws accI num = some x) (hR : jacquardref12_Eval.f op w ws accR num = some y)
    (hx : 0 ≤ x ∧ x < 18446744073709551616) (hy : 0 ≤ y ∧ y < 18446744073709551616) (hm : x % 2 ^ n = y % 2 ^ n) {L : Int} (hL : (zs.length : Int) = L) :
    Both (knownbits_Apply.l0 (k + 8) op w ws zs num true accI zs L L) (jacquardref12_Apply.l0 (k + 8) op w ws zs num true accR L 0 0) := by
  have hQb := Q_big
  rw [knownbits_Apply.l0, if_neg (by omega), if_pos rfl, hI, Option.bind_some, jacquardref12_Apply.l0, if_neg (by omega), if_pos rfl, hR, Option.bind_some, pair_bind, pair_bind]
  exact of_both hw h1 hn hx hy hm (by omega)
theorem bin_lt {op : Int} (ho : 2 ≤ op ∧ op ≤ 20) {n : Nat} (h1 : 1 ≤ n) (hn : n ≤ 64) {a b : Nat} (ha : a < 2 ^ n) (hb : b < 2 ^ n) : 0 ≤ bin op n a b ∧ bin op n a b < 18446744073709551616 := by
  have hp := pow_pos n
  have hp6 := pow_le hn
  have haI : (a : Int) < 2 ^ n := by rw [pnat]; omega
  have hm := fun x : Int => mod_U hn x
  have ho' : op = 2 ∨ op = 3 ∨ op = 4 ∨ op = 5 ∨ op = 6 ∨ op = 7 ∨ op = 8 ∨ op = 9 ∨ op = 10 ∨ op = 11 ∨ op = 12 ∨ op = 13 ∨ op = 14 ∨ op = 15 ∨ op = 16 ∨ op = 17 ∨ op = 18 ∨ op = 19 ∨ op = 20 := by omega
  by_cases hc : op ≤ 14
  · obtain ⟨v, _, h, e⟩ := kval2 (w := n) rfl h1 hn ⟨ho.1, hc⟩ ha hb 0 (by decide)
    rw [← e]; exact hm v
  · have e := kcmp (w := (n : Int)) rfl h1 hn (op := op) (by omega) ha hb
    have : bin op n a b = 0 ∨ bin op n a b = 1 := by
      rcases ho' with h | h | h | h | h | h | h | h | h | h | h | h | h | rfl | rfl | rfl | rfl | rfl | rfl <;> first | omega | (simp only [bin, Int.reduceEq, if_false, if_true]; split <;> simp)
    omega
theorem mkv {v : Int} (h : 1 ≤ v ∧ v ≤ 64) : v = (nn v : Int) ∧ 1 ≤ nn v ∧ nn v ≤ 64 := by have := nn_of (w := v) (by omega) h.2; omega
theorem Both.none : Both (some (0, 0)) (some (0, 0)) := both0
end Go.Proofs.YthhhegblccoonaaGreatDoor.Kb
/- Known bits: Apply of both packages comes to the same, for any operands. -/
namespace Go.Proofs.YthhhegblccoonaaGreatDoor.Kb
set_option linter.unusedVariables false
set_option linter.unusedSimpArgs false
set_option linter.unusedSectionVars false
open Go.RowKit Go.Proofs.YthhhegblccoonaaGreatDoor.P Go.Proofs.YthhhegblccoonaaGreatDoorW.PrintWords Wd Im Iv Tg Lw0 Ap Cm Cn Ev Aq
open Ft hiding top

abbrev U2 (p : Nat × Nat) : Prop := p.1 < 18446744073709551616 ∧ p.2 < 18446744073709551616
def xb (v : Int) (a : Nat × Nat) : Bool := decide (a.1 ||| a.2 = 2 ^ nn v - 1)
theorem arg1 {op w v num : Int} (hv : 1 ≤ v ∧ v ≤ 64) {a : Nat × Nat} (ua : U2 a) {k : Nat} (hk : 100 < k)
    (T : ∀ e : Bool, KV v a.1 a.2 → e = xb v a → Both (knownbits_Apply.l0 (k + 8) op w [v] [mk a] num e [if a.1 ||| a.2 = 2 ^ nn v - 1 then (a.2 : Int) else 0] [mk a] 1 1) (jacquardref12_Apply.l0 (k + 8) op w [v] [mk a] num e [(a.2 : Int)] 1 0 0)) :
    Both (knownbits_Apply.l0 (k + 9) op w [v] [mk a] num true [] [mk a] (([mk a] : List S45).length : Int) 0) (jacquardref12_Apply.l0 (k + 9) op w [v] [mk a] num true [] 0 0 0) := by
  have hQb := Q_big
  rw [kst (ws := [v]) (zs := [mk a]) (a := a) (v := v) rfl rfl (by decide) (by simp) (by simp) hv ua (by simp), rst (ws := [v]) (zs := [mk a]) (a := a) (v := v) rfl rfl (by decide) (by simp) (by simp) hv ua (by simp) (by omega), wr1.1]
  by_cases c : KV v a.1 a.2
  · rw [if_pos (decide_eq_true c), if_pos (decide_eq_true c)]
    exact T _ c (by simp [xb])
  · rw [if_neg (by simpa using c), if_neg (by simpa using c)]; exact both0
theorem arg2 {op w u v num : Int} (hu : 1 ≤ u ∧ u ≤ 64) (hv : 1 ≤ v ∧ v ≤ 64) {a b : Nat × Nat} (ua : U2 a) (ub : U2 b) {k : Nat} (hk : 100 < k)
    (T : ∀ e : Bool, KV u a.1 a.2 → KV v b.1 b.2 → e = (xb u a && xb v b) → Both (knownbits_Apply.l0 (k + 8) op w [u, v] [mk a, mk b] num e [if a.1 ||| a.2 = 2 ^ nn u - 1 then (a.2 : Int) else 0, if b.1 ||| b.2 = 2 ^ nn v - 1 then (b.2 : Int) else 0] [mk a, mk b] 2 2) (jacquardref12_Apply.l0 (k + 8) op w [u, v] [mk a, mk b] num e [(a.2 : Int), (b.2 : Int)] 2 0 0)) :
    Both (knownbits_Apply.l0 (k + 10) op w [u, v] [mk a, mk b] num true [] [mk a, mk b] (([mk a, mk b] : List S45).length : Int) 0) (jacquardref12_Apply.l0 (k + 10) op w [u, v] [mk a, mk b] num true [] 0 0 0) := by
  have hQb := Q_big
  rw [kst (ws := [u, v]) (zs := [mk a, mk b]) (a := a) (v := u) rfl rfl (by decide) (by simp) (by simp) hu ua (by simp), rst (ws := [u, v]) (zs := [mk a, mk b]) (a := a) (v := u) rfl rfl (by decide) (by simp) (by simp) hu ua (by simp) (by omega), wr1.1]
  by_cases c : KV u a.1 a.2
  · rw [if_pos (decide_eq_true c), if_pos (decide_eq_true c), kst (ws := [u, v]) (zs := [mk a, mk b]) (a := b) (v := v) rfl rfl (by decide) (by simp) (by simp) hv ub (by simp), rst (ws := [u, v]) (zs := [mk a, mk b]) (a := b) (v := v) rfl rfl (by decide) (by simp) (by simp) hv ub (by simp) (by omega), wr1.2.1]
    by_cases c2 : KV v b.1 b.2
    · rw [if_pos (decide_eq_true c2), if_pos (decide_eq_true c2)]
      exact T _ c c2 (by simp [xb])
    · rw [if_neg (by simpa using c2), if_neg (by simpa using c2)]; exact both0
  · rw [if_neg (by simpa using c), if_neg (by simpa using c)]; exact both0
theorem arg3 {op w u v t num : Int} (hu : 1 ≤ u ∧ u ≤ 64) (hv : 1 ≤ v ∧ v ≤ 64) (ht : 1 ≤ t ∧ t ≤ 64) {a b c : Nat × Nat} (ua : U2 a) (ub : U2 b) (uc : U2 c) {k : Nat} (hk : 100 < k)
    (T : ∀ e : Bool, KV u a.1 a.2 → KV v b.1 b.2 → KV t c.1 c.2 → e = (xb u a && xb v b && xb t c) → Both (knownbits_Apply.l0 (k + 8) op w [u, v, t] [mk a, mk b, mk c] num e [if a.1 ||| a.2 = 2 ^ nn u - 1 then (a.2 : Int) else 0, if b.1 ||| b.2 = 2 ^ nn v - 1 then (b.2 : Int) else 0, if c.1 ||| c.2 = 2 ^ nn t - 1 then (c.2 : Int) else 0] [mk a, mk b, mk c] 3 3) (jacquardref12_Apply.l0 (k + 8) op w [u, v, t] [mk a, mk b, mk c] num e [(a.2 : Int), (b.2 : Int), (c.2 : Int)] 3 0 0)) :
    Both (knownbits_Apply.l0 (k + 11) op w [u, v, t] [mk a, mk b, mk c] num true [] [mk a, mk b, mk c] (([mk a, mk b, mk c] : List S45).length : Int) 0) (jacquardref12_Apply.l0 (k + 11) op w [u, v, t] [mk a, mk b, mk c] num true [] 0 0 0) := by
  have hQb := Q_big
  rw [kst (ws := [u, v, t]) (zs := [mk a, mk b, mk c]) (a := a) (v := u) rfl rfl (by decide) (by simp) (by simp) hu ua (by simp), rst (ws := [u, v, t]) (zs := [mk a, mk b, mk c]) (a := a) (v := u) rfl rfl (by decide) (by simp) (by simp) hu ua (by simp) (by omega), wr1.1]
  by_cases c1 : KV u a.1 a.2
  · rw [if_pos (decide_eq_true c1), if_pos (decide_eq_true c1), kst (ws := [u, v, t]) (zs := [mk a, mk b, mk c]) (a := b) (v := v) rfl rfl (by decide) (by simp) (by simp) hv ub (by simp), rst (ws := [u, v, t]) (zs := [mk a, mk b, mk c]) (a := b) (v := v) rfl rfl (by decide) (by simp) (by simp) hv ub (by simp) (by omega), wr1.2.1]
    by_cases c2 : KV v b.1 b.2
    · rw [if_pos (decide_eq_true c2), if_pos (decide_eq_true c2), kst (ws := [u, v, t]) (zs := [mk a, mk b, mk c]) (a := c) (v := t) rfl rfl (by decide) (by simp) (by simp) ht uc (by simp), rst (ws := [u, v, t]) (zs := [mk a, mk b, mk c]) (a := c) (v := t) rfl rfl (by decide) (by simp) (by simp) ht uc (by simp) (by omega), wr1.2.2]
      by_cases c3 : KV t c.1 c.2
      · rw [if_pos (decide_eq_true c3), if_pos (decide_eq_true c3)]
        exact T _ c1 c2 c3 (by simp [xb])
      · rw [if_neg (by simpa using c3), if_neg (by simpa using c3)]; exact both0
    · rw [if_neg (by simpa using c2), if_neg (by simpa using c2)]; exact both0
  · rw [if_neg (by simpa using c1), if_neg (by simpa using c1)]; exact both0
theorem kvn {v : Int} {n : Nat} {a : Nat × Nat} (hv : v = n) (hn : n ≤ 64) (h : KV v a.1 a.2) : a.1 < 2 ^ n ∧ a.2 < 2 ^ n ∧ a.1 &&& a.2 = 0 := by
  obtain ⟨h1, h2, h3, h4⟩ := h
  have := nn_of (w := v) (by omega) h1.2
  rw [show nn v = n by omega] at h2 h3
  exact ⟨h2, h3, h4⟩
theorem kb_both {op w num : Int} {ws : List Int} {ars : List (Nat × Nat)} (h8 : ws.length ≤ 8) (hu : ∀ p ∈ ars, U2 p) (hnum : 0 ≤ num ∧ num < 18446744073709551616) :
    Both (knownbits_Apply.f op w ws (ars.map mk) num) (jacquardref12_Apply.f op w ws (ars.map mk) num) := by
  have hQb := Q_big
  obtain ⟨q, hQ⟩ := Q_ex 1000
  unfold knownbits_Apply.f jacquardref12_Apply.f
  rw [kshaped_eq op w ws h8 (by first | omega | decide), rshape_eq op w ws h8 (by first | omega | decide), Option.bind_some, Option.bind_some, hQ]
  have jt : Both (knownbits_Apply.j0 (q + 1000) op w ws (ars.map mk) num true) (jacquardref12_Apply.j0 (q + 1000) op w ws (ars.map mk) num true 0 0) := by
    rw [knownbits_Apply.j0, if_pos rfl, jacquardref12_Apply.j0, if_pos rfl]; exact both0
  by_cases c : shb op w ws = true
  · rw [if_pos c, if_pos c]
    by_cases c2 : ars.length = ws.length
    · have e : (((ars.map mk).length : Int) != (ws.length : Int)) = false := by rw [List.length_map, c2]; simp
      rw [e]
      obtain ⟨hw, hws, hs⟩ := sh_of c
      obtain ⟨w1, w2, w3⟩ := mkv hw
      rw [knownbits_Apply.j0, if_neg (by first | omega | decide), jacquardref12_Apply.j0, if_neg (by first | omega | decide)]
      rcases hs with ⟨rfl, rfl⟩ | ⟨ho, rfl⟩ | ⟨ho, rfl, v, rfl⟩ | ⟨rfl, rfl⟩ | ⟨ho, v, rfl, hle⟩ | ⟨ho, v, rfl, hle⟩
      · match ars, c2 with
        | [], _ =>
          have hm := mod_U w3 num
          refine ex_tail (k := q + 991) w1 w2 w3 (by first | omega | decide) (x := num) (y := num % 2 ^ nn w) ?_ (eval_const w1 w3 [] [] hnum (by first | omega | decide)) hnum hm (by rw [Int.emod_emod_of_dvd _ (Int.dvd_refl _)]) rfl
          unfold knownbits_value.f; rw [if_pos rfl]
      · match ars, c2 with
        | [a, b], _ =>
          have ua := hu a (by simp)
          have ub := hu b (by simp)
          refine arg2 (k := q + 989) hw hw ua ub (by first | omega | decide) fun e ka kb he => ?_
          obtain ⟨a1, a2, a3⟩ := kvn w1 w3 ka
          obtain ⟨b1, b2, b3⟩ := kvn w1 w3 kb
          cases e
          · exact two_op w1 w2 w3 a1 a2 b1 b2 a3 b3 ho num _ _ (by first | omega | decide)
          · have he' : xb w a = true ∧ xb w b = true := by simpa using he.symm
            have ea : a.1 ||| a.2 = 2 ^ nn w - 1 := by simpa [xb] using he'.1
            have eb : b.1 ||| b.2 = 2 ^ nn w - 1 := by simpa [xb] using he'.2
            rw [if_pos ea, if_pos eb]
            obtain ⟨x, e1, e2, e3⟩ := kval2 w1 w2 w3 ho a2 b2 num (by first | omega | decide)
            have hb := bin_lt (op := op) (by omega) w2 w3 a2 b2
            refine ex_tail (k := q + 989) w1 w2 w3 (by first | omega | decide) e1 (eval_bin w1 w2 w3 ho [w, w] (by rw [pnat]; omega) (by rw [pnat]; omega) num (by first | omega | decide)) e2 hb ?_ rfl
            rw [e3, ← e3, Int.emod_emod_of_dvd _ (Int.dvd_refl _)]
      · match ars, c2 with
        | [a, b], _ =>
          have hv : 1 ≤ v ∧ v ≤ 64 := hws v (by simp)
          obtain ⟨v1, v2, v3⟩ := mkv hv
          have ua := hu a (by simp)
          have ub := hu b (by simp)
          refine arg2 (k := q + 989) hv hv ua ub (by first | omega | decide) fun e ka kb he => ?_
          obtain ⟨a1, a2, a3⟩ := kvn v1 v3 ka
          obtain ⟨b1, b2, b3⟩ := kvn v1 v3 kb
          cases e
          · exact cmp_op v1 v2 v3 a1 a2 b1 b2 a3 b3 ho 1 num _ _ (by first | omega | decide)
          · have he' : xb v a = true ∧ xb v b = true := by simpa using he.symm
            have ea : a.1 ||| a.2 = 2 ^ nn v - 1 := by simpa [xb] using he'.1
            have eb : b.1 ||| b.2 = 2 ^ nn v - 1 := by simpa [xb] using he'.2
            rw [if_pos ea, if_pos eb]
            have hb := bin_lt (op := op) (by omega) v2 v3 a2 b2
            exact ex_tail (k := q + 989) w1 w2 w3 (by first | omega | decide) (kvalc v1 v2 v3 ho a2 b2 1 num (by first | omega | decide)) (eval_cmp ho 1 v1 v2 v3 (by rw [pnat]; omega) (by rw [pnat]; omega) num (by first | omega | decide)) hb hb rfl rfl
      · match ars, c2 with
        | [a, b, c], _ =>
          have ua := hu a (by simp)
          have ub := hu b (by simp)
          have uc := hu c (by simp)
          refine arg3 (k := q + 988) (u := 1) (by first | omega | decide) hw hw ua ub uc (by first | omega | decide) fun e ka kb kc he => ?_
          obtain ⟨a1, a2, a3⟩ := kvn (n := 1) rfl (by first | omega | decide) ka
          obtain ⟨b1, b2, b3⟩ := kvn w1 w3 kb
          obtain ⟨c1, c2, c3⟩ := kvn w1 w3 kc
          cases e
          · exact sel_op w1 w2 w3 a1 a2 b1 b2 c1 c2 a3 num _ _ (by first | omega | decide)
          · have he' : (xb 1 a = true ∧ xb w b = true) ∧ xb w c = true := by simpa using he.symm
            have ea : a.1 ||| a.2 = 2 ^ nn 1 - 1 := by simpa [xb] using he'.1.1
            have eb : b.1 ||| b.2 = 2 ^ nn w - 1 := by simpa [xb] using he'.1.2
            have ec : c.1 ||| c.2 = 2 ^ nn w - 1 := by simpa [xb] using he'.2
            rw [if_pos ea, if_pos eb, if_pos ec]
            have q1 := up64 w3 b2
            have q2 := up64 w3 c2
            have hy : 0 ≤ (if (a.2 : Int) = 1 then (b.2 : Int) else (c.2 : Int)) ∧ (if (a.2 : Int) = 1 then (b.2 : Int) else (c.2 : Int)) < 18446744073709551616 := by split <;> omega
            exact ex_tail (k := q + 988) w1 w2 w3 (by first | omega | decide) (kvals w num _ _ _ (by first | omega | decide)) (eval_select w [1, w, w] _ _ _ num (by first | omega | decide)) hy hy rfl rfl
      · match ars, c2 with
        | [a], _ =>
          have hv : 1 ≤ v ∧ v ≤ 64 := hws v (by simp)
          obtain ⟨v1, v2, v3⟩ := mkv hv
          have ua := hu a (by simp)
          refine arg1 (k := q + 990) hv ua (by first | omega | decide) fun e ka he => ?_
          obtain ⟨a1, a2, a3⟩ := kvn v1 v3 ka
          cases e
          · exact one_op w1 v1 w2 w3 v2 v3 a1 a2 a3 (by omega) num _ _ (by first | omega | decide)
          · have ea : a.1 ||| a.2 = 2 ^ nn v - 1 := by simpa [xb] using he.symm
            rw [if_pos ea]
            obtain ⟨x, e1, e2, e3⟩ := kval1 w1 v1 w2 w3 v2 v3 (op := op) (by omega) a2 num (by first | omega | decide)
            have hb : 0 ≤ castv op (nn w) (nn v) a.2 ∧ castv op (nn w) (nn v) a.2 < 18446744073709551616 := by rw [← e3]; exact mod_U w3 x
            refine ex_tail (k := q + 990) w1 w2 w3 (by first | omega | decide) e1 (eval_cast (by omega) w1 w2 w3 v1 v2 v3 (by rw [pnat]; omega) num (by first | omega | decide)) e2 hb ?_ rfl
            rw [e3, ← e3, Int.emod_emod_of_dvd _ (Int.dvd_refl _)]
      · match ars, c2 with
        | [a], _ =>
          have hv : 1 ≤ v ∧ v ≤ 64 := hws v (by simp)
          obtain ⟨v1, v2, v3⟩ := mkv hv
          have ua := hu a (by simp)
          refine arg1 (k := q + 990) hv ua (by first | omega | decide) fun e ka he => ?_
          obtain ⟨a1, a2, a3⟩ := kvn v1 v3 ka
          cases e
          · exact one_op w1 v1 w2 w3 v2 v3 a1 a2 a3 (by omega) num _ _ (by first | omega | decide)
          · have ea : a.1 ||| a.2 = 2 ^ nn v - 1 := by simpa [xb] using he.symm
            rw [if_pos ea]
            obtain ⟨x, e1, e2, e3⟩ := kval1 w1 v1 w2 w3 v2 v3 (op := op) (by omega) a2 num (by first | omega | decide)
            have hb : 0 ≤ castv op (nn w) (nn v) a.2 ∧ castv op (nn w) (nn v) a.2 < 18446744073709551616 := by rw [← e3]; exact mod_U w3 x
            refine ex_tail (k := q + 990) w1 w2 w3 (by first | omega | decide) e1 (eval_cast (by omega) w1 w2 w3 v1 v2 v3 (by rw [pnat]; omega) num (by first | omega | decide)) e2 hb ?_ rfl
            rw [e3, ← e3, Int.emod_emod_of_dvd _ (Int.dvd_refl _)]
    · have e : (((ars.map mk).length : Int) != (ws.length : Int)) = true := by rw [List.length_map, bne_iff_ne]; omega
      rw [e]; exact jt
  · rw [if_neg c, if_neg c]; exact jt
end Go.Proofs.YthhhegblccoonaaGreatDoor.Kb
