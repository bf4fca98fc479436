import Derived.Test.YtoddafkffchnjaaTg
import Derived.Test.YtoddafkffchnjaaLw0
/- The bounds that Apply computes, in plain numbers, and that they hold the value of the operator. -/
namespace Go.Proofs.Ytoddafkffchnjaa.Ap
set_option linter.unusedVariables false
set_option linter.unusedSimpArgs false
set_option linter.unusedSectionVars false
open Go.RowKit Go.Proofs.YtoddafkffchnjaaW.PrintWords Wd Im Iv Tg Lw0
theorem wrap64_rng (n : Int) : -9223372036854775808 ≤ wrap64 n ∧ wrap64 n < 9223372036854775808 := by unfold wrap64; omega
theorem wrap64_ex (n : Int) : ∃ q, n = wrap64 n + 18446744073709551616 * q := ⟨(n + 9223372036854775808) / 18446744073709551616, by unfold wrap64; omega⟩
def I64 (x : Int) : Prop := -9223372036854775808 ≤ x ∧ x < 9223372036854775808
theorem tdiv_bound (x a : Int) (h : 2 ≤ a.natAbs) : (Int.tdiv x a).natAbs ≤ x.natAbs / 2 := by
  rw [Int.natAbs_tdiv]
  exact Nat.div_le_div_left h (by decide)
theorem times_ok {a b : Int} (ha : I64 a) (hb : I64 b) : (a = 0 ∨ (wrap64 (Int.tdiv (wrap64 (a * b)) a) = b ∧ ¬ (a = -1 ∧ b = -9223372036854775808))) ↔ I64 (a * b) := by
  unfold I64 at *
  constructor
  · rintro (rfl | ⟨h, hn⟩)
    · simp
    · by_cases a0 : a = 0
      · subst a0; simp
      by_cases a1 : a = 1
      · subst a1; simp; omega
      by_cases a2 : a = -1
      · subst a2
        have : b ≠ -9223372036854775808 := fun h => hn ⟨rfl, h⟩
        simp; omega
      · have hr := wrap64_rng (a * b)
        obtain ⟨q, hq⟩ := wrap64_ex (a * b)
        have hd := tdiv_bound (wrap64 (a * b)) a (by omega)
        rw [wrap64_id (by omega) (by omega)] at h
        have e := Int.mul_tdiv_add_tmod (wrap64 (a * b)) a
        rw [h] at e
        have hm : (Int.tmod (wrap64 (a * b)) a).natAbs < a.natAbs := by
          rw [Int.natAbs_tmod]; exact Nat.mod_lt _ (by omega)
        generalize a * b = p at *
        generalize wrap64 p = x at *
        omega
  · intro h
    by_cases a0 : a = 0
    · exact .inl a0
    · right
      rw [wrap64_id h.1 h.2, Int.mul_tdiv_cancel_left _ a0, wrap64_id hb.1 hb.2]
      refine ⟨rfl, ?_⟩
      rintro ⟨rfl, rfl⟩
      simp at h

theorem tdiv_I {x a : Int} (hx : I64 x) (ha : I64 a) (h : ¬ (x = -9223372036854775808 ∧ a = -1)) : I64 (Int.tdiv x a) := by
  unfold I64 at *
  by_cases a2 : 2 ≤ a.natAbs
  · have := tdiv_bound x a a2
    omega
  · obtain rfl | rfl | rfl : a = 0 ∨ a = 1 ∨ a = -1 := by omega
    · simp
    · simpa using hx
    · simp; omega
/-- The magnitude of a product against a limit. -/
theorem le_div_nat {a b l : Int} (ha : 0 < a) (hb : 0 ≤ b) (hl : 0 ≤ l) : b ≤ Int.tdiv l a ↔ a * b ≤ l := by
  rw [Int.tdiv_eq_ediv_of_nonneg hl, Int.le_ediv_iff_mul_le ha, Int.mul_comm]
theorem abs_mul (a b : Int) : ((a.natAbs : Int) * (b.natAbs : Int) = if (a < 0) = (b < 0) then a * b else -(a * b)) := by
  rcases Int.lt_or_le a 0 with h | h <;> rcases Int.lt_or_le b 0 with k | k
  · rw [Int.ofNat_natAbs_of_nonpos (by omega), Int.ofNat_natAbs_of_nonpos (by omega), if_pos (by simp [h, k])]; grind
  · rw [Int.ofNat_natAbs_of_nonpos (by omega), Int.natAbs_of_nonneg (by omega), if_neg (by simp [h]; omega)]; grind
  · rw [Int.natAbs_of_nonneg (by omega), Int.ofNat_natAbs_of_nonpos (by omega), if_neg (by simp [k]; omega)]; grind
  · rw [Int.natAbs_of_nonneg (by omega), Int.natAbs_of_nonneg (by omega), if_pos (by simp; omega)]
def Bt (p q r : Int) : Prop := (p ≤ r ∧ r ≤ q) ∨ (q ≤ r ∧ r ≤ p)
theorem corners {p q r s L H u v t : Int} (h1 : Bt u v t) (h2 : Bt p q u) (h3 : Bt r s v) (hp : L ≤ p ∧ p ≤ H) (hq : L ≤ q ∧ q ≤ H) (hr : L ≤ r ∧ r ≤ H) (hs : L ≤ s ∧ s ≤ H) : L ≤ t ∧ t ≤ H := by
  unfold Bt at *; omega
theorem bt_mul {a b x : Int} (c : Int) (h : a ≤ x ∧ x ≤ b) : Bt (a * c) (b * c) (x * c) := by
  unfold Bt
  rcases Int.lt_or_le c 0 with k | k
  · exact .inr ⟨Int.mul_le_mul_of_nonpos_right h.2 (by omega), Int.mul_le_mul_of_nonpos_right h.1 (by omega)⟩
  · exact .inl ⟨Int.mul_le_mul_of_nonneg_right h.1 k, Int.mul_le_mul_of_nonneg_right h.2 k⟩
theorem bt_mul' {a b x : Int} (c : Int) (h : a ≤ x ∧ x ≤ b) : Bt (c * a) (c * b) (c * x) := by
  rw [Int.mul_comm c a, Int.mul_comm c b, Int.mul_comm c x]; exact bt_mul c h
theorem Bt.neg {p q r : Int} (h : Bt p q r) : Bt (-p) (-q) (-r) := by unfold Bt at *; omega
theorem bt_tdiv {a b x c : Int} (hc : c ≠ 0) (h : a ≤ x ∧ x ≤ b) : Bt (Int.tdiv a c) (Int.tdiv b c) (Int.tdiv x c) := by
  rcases Int.lt_or_le c 0 with k | k
  · have e : ∀ z, Int.tdiv z c = -Int.tdiv z (-c) := fun z => by rw [Int.tdiv_neg]; omega
    rw [e a, e b, e x]
    exact Bt.neg (.inl ⟨Int.tdiv_le_tdiv (by omega) h.1, Int.tdiv_le_tdiv (by omega) h.2⟩)
  · exact .inl ⟨Int.tdiv_le_tdiv (by omega) h.1, Int.tdiv_le_tdiv (by omega) h.2⟩
theorem div_anti {x y z : Int} (hx : 0 ≤ x) (hy : 0 < y) (h : y ≤ z) : x / z ≤ x / y := by
  apply Int.le_ediv_of_mul_le hy
  have h1 : x / z * y ≤ x / z * z := Int.mul_le_mul_of_nonneg_left h (Int.ediv_nonneg hx (by omega))
  have h2 := Int.ediv_mul_le x (b := z) (by omega)
  omega
theorem bt_tdiv' {a b y x : Int} (hc : 0 < a ∨ b < 0) (h : a ≤ y ∧ y ≤ b) : Bt (Int.tdiv x a) (Int.tdiv x b) (Int.tdiv x y) := by
  have pos : ∀ {a b y x : Int}, 0 < a → a ≤ y ∧ y ≤ b → 0 ≤ x → Bt (Int.tdiv x a) (Int.tdiv x b) (Int.tdiv x y) := by
    intro a b y x ha h hx
    rw [Int.tdiv_eq_ediv_of_nonneg hx, Int.tdiv_eq_ediv_of_nonneg hx, Int.tdiv_eq_ediv_of_nonneg hx]
    exact .inr ⟨div_anti hx (by omega) h.2, div_anti hx ha h.1⟩
  have pos2 : ∀ {a b y x : Int}, 0 < a → a ≤ y ∧ y ≤ b → Bt (Int.tdiv x a) (Int.tdiv x b) (Int.tdiv x y) := by
    intro a b y x ha h
    rcases Int.lt_or_le x 0 with k | k
    · have e : ∀ z, Int.tdiv x z = -Int.tdiv (-x) z := fun z => by rw [Int.neg_tdiv]; omega
      rw [e a, e b, e y]; exact Bt.neg (pos ha h (by omega))
    · exact pos ha h k
  rcases hc with k | k
  · exact pos2 k h
  · have e : ∀ z, Int.tdiv x z = -Int.tdiv x (-z) := fun z => by rw [Int.tdiv_neg]; omega
    have := pos2 (a := -b) (b := -a) (y := -y) (x := x) (by omega) (by omega)
    rw [e a, e b, e y]
    have := this.neg
    unfold Bt at *; omega
theorem pow_pos' (n : Nat) : (0 : Int) < 2 ^ n := by have := Nat.two_pow_pos n; exact_mod_cast this
theorem bt_shr {a b x : Int} (c : Nat) (h : a ≤ x ∧ x ≤ b) : Bt (a / 2 ^ c) (b / 2 ^ c) (x / 2 ^ c) :=
  .inl ⟨Int.ediv_le_ediv (pow_pos' c) h.1, Int.ediv_le_ediv (pow_pos' c) h.2⟩
theorem div_step (x : Int) (p d : Nat) : x / 2 ^ (p + d) = x / 2 ^ p / 2 ^ d := by
  rw [Int.pow_add, Int.ediv_ediv_of_nonneg (by have := pow_pos' p; omega)]
theorem div_nn {z : Int} (d : Nat) (h : 0 ≤ z) : 0 ≤ z / 2 ^ d ∧ z / 2 ^ d ≤ z := ⟨Int.ediv_nonneg h (by have := pow_pos' d; omega), Int.ediv_le_self _ h⟩
theorem div_neg' {z : Int} (d : Nat) (h : z < 0) : z / 2 ^ d < 0 ∧ z ≤ z / 2 ^ d := by
  have := pow_pos' d
  refine ⟨Int.ediv_neg_of_neg_of_pos h this, Int.le_ediv_of_mul_le this ?_⟩
  have := Int.mul_le_mul_of_nonpos_left (a := z) (b := 2 ^ d) (c := 1) (by omega) (by omega)
  omega
theorem bt_shr' {p q y : Nat} (x : Int) (h : p ≤ y ∧ y ≤ q) : Bt (x / 2 ^ p) (x / 2 ^ q) (x / 2 ^ y) := by
  obtain ⟨d, rfl⟩ : ∃ d, y = p + d := ⟨y - p, by omega⟩
  obtain ⟨e, rfl⟩ : ∃ e, q = p + d + e := ⟨q - (p + d), by omega⟩
  rw [div_step x (p + d) e, div_step x p d]
  rcases Int.lt_or_le x 0 with k | k
  · have h1 := div_neg' p k
    have h2 := div_neg' d h1.1
    have h3 := div_neg' e h2.1
    exact .inl ⟨h2.2, h3.2⟩
  · have h1 := div_nn p k
    have h2 := div_nn d h1.1
    have h3 := div_nn e h2.1
    exact .inr ⟨h3.2, h2.2⟩
def len (z : Nat) : Nat := if z = 0 then 0 else Nat.log2 z + 1
theorem len_lt (z k : Nat) : z < 2 ^ k ↔ len z ≤ k := by
  unfold len
  split
  · subst z; simp [Nat.two_pow_pos]
  · rename_i h
    rw [← Nat.log2_lt h]; omega
theorem len_uniq {z k : Nat} (h1 : z < 2 ^ k) (h2 : ∀ j, z < 2 ^ j → k ≤ j) : len z = k := Nat.le_antisymm ((len_lt z k).1 h1) (h2 _ ((len_lt z _).2 (Nat.le_refl _)))
theorem len_or (x y : Nat) : len (x ||| y) = len (max x y) := by
  apply len_uniq
  · have h := (len_lt (max x y) _).2 (Nat.le_refl _)
    exact Nat.or_lt_two_pow (by omega) (by omega)
  · intro j h
    apply (len_lt _ _).1
    have := @Nat.left_le_or x y
    have := @Nat.right_le_or x y
    omega
theorem len_le {z k : Nat} (h : z < 2 ^ k) : len z ≤ k := (len_lt z k).1 h
theorem lt_len (z : Nat) : z < 2 ^ len z := (len_lt z _).2 (Nat.le_refl _)
/-! ### The closed form of Apply's bounds -/
def inr (n : Nat) (x : Int) : Prop := -2 ^ (n - 1) ≤ x ∧ x ≤ 2 ^ (n - 1) - 1
instance (n : Nat) (x : Int) : Decidable (inr n x) := by unfold inr; infer_instance
def mn4 (a b c d : Int) : Int := mn (mn (mn a b) c) d
def mx4 (a b c d : Int) : Int := mx (mx (mx a b) c) d
theorem four_facts (a b c d : Int) : (mn4 a b c d ≤ a ∧ a ≤ mx4 a b c d) ∧ (mn4 a b c d ≤ b ∧ b ≤ mx4 a b c d) ∧ (mn4 a b c d ≤ c ∧ c ≤ mx4 a b c d) ∧ (mn4 a b c d ≤ d ∧ d ≤ mx4 a b c d) := by
  unfold mn4 mx4
  have h1 := mn_facts a b
  have h2 := mn_facts (mn a b) c
  have h3 := mn_facts (mn (mn a b) c) d
  have g1 := mx_facts a b
  have g2 := mx_facts (mx a b) c
  have g3 := mx_facts (mx (mx a b) c) d
  omega
/-- The unsigned bounds of a result. -/
def U (op : Int) (n : Nat) (alo ahi blo bhi : Int) : Int × Int :=
  if op = 2 then (if ahi + bhi ≤ 2 ^ n - 1 then (alo + blo, ahi + bhi) else if 2 ^ n - 1 < alo + blo then ((alo + blo) % 2 ^ n, (ahi + bhi) % 2 ^ n) else (0, 2 ^ n - 1))
  else if op = 3 then (if bhi ≤ alo ∨ ahi < blo then ((alo - bhi) % 2 ^ n, (ahi - blo) % 2 ^ n) else (0, 2 ^ n - 1))
  else if op = 4 then (if ahi * bhi ≤ 2 ^ n - 1 then (alo * blo, ahi * bhi) else (0, 2 ^ n - 1))
  else if op = 5 then (if 1 ≤ blo then (alo / bhi, ahi / blo) else (0, 2 ^ n - 1))
  else if op = 6 then (if 1 ≤ blo then (if ahi < blo then (alo, ahi) else (0, mn ahi (bhi - 1))) else (0, ahi))
  else if op = 9 then (0, mn ahi bhi)
  else if op = 10 then (mx alo blo, 2 ^ len (mx ahi bhi).toNat - 1)
  else if op = 11 then (0, 2 ^ len (mx ahi bhi).toNat - 1)
  else if op = 12 then (if blo = bhi then (if (n : Int) ≤ blo then (0, 0) else if ahi ≤ (2 ^ n - 1) / 2 ^ blo.toNat then (alo * 2 ^ blo.toNat, ahi * 2 ^ blo.toNat) else (0, 2 ^ n - 1)) else (0, 2 ^ n - 1))
  else if op = 13 then (alo / 2 ^ bhi.toNat, ahi / 2 ^ blo.toNat)
  else (0, 2 ^ n - 1)
/-- The signed bounds of a result. -/
def S (op : Int) (n : Nat) (al am bl bm blo bhi : Int) : Int × Int :=
  if op = 2 then (if inr n (al + bl) ∧ inr n (am + bm) then (al + bl, am + bm) else (-2 ^ (n - 1), 2 ^ (n - 1) - 1))
  else if op = 3 then (if inr n (al - bm) ∧ inr n (am - bl) then (al - bm, am - bl) else (-2 ^ (n - 1), 2 ^ (n - 1) - 1))
  else if op = 4 then (if inr n (al * bl) ∧ inr n (al * bm) ∧ inr n (am * bl) ∧ inr n (am * bm) then (mn4 (al * bl) (al * bm) (am * bl) (am * bm), mx4 (al * bl) (al * bm) (am * bl) (am * bm)) else (-2 ^ (n - 1), 2 ^ (n - 1) - 1))
  else if op = 7 then (if (0 < bl ∨ bm < 0) ∧ (-2 ^ (n - 1) < al ∨ -1 < bl ∨ bm < -1) then (mn4 (Int.tdiv al bl) (Int.tdiv al bm) (Int.tdiv am bl) (Int.tdiv am bm), mx4 (Int.tdiv al bl) (Int.tdiv al bm) (Int.tdiv am bl) (Int.tdiv am bm)) else (-2 ^ (n - 1), 2 ^ (n - 1) - 1))
  else if op = 8 then (if 1 ≤ bl then (mx (mn al 0) (1 - bm), mn (mx am 0) (bm - 1)) else (mn al 0, mx am 0))
  else if op = 12 then (if blo = bhi ∧ blo < n ∧ (-2 ^ (n - 1)) / 2 ^ blo.toNat ≤ al ∧ am ≤ (2 ^ (n - 1) - 1) / 2 ^ blo.toNat then (al * 2 ^ blo.toNat, am * 2 ^ blo.toNat) else (-2 ^ (n - 1), 2 ^ (n - 1) - 1))
  else if op = 14 then (mn4 (al / 2 ^ (mn blo (n - 1)).toNat) (al / 2 ^ (mn bhi (n - 1)).toNat) (am / 2 ^ (mn blo (n - 1)).toNat) (am / 2 ^ (mn bhi (n - 1)).toNat), mx4 (al / 2 ^ (mn blo (n - 1)).toNat) (al / 2 ^ (mn bhi (n - 1)).toNat) (am / 2 ^ (mn blo (n - 1)).toNat) (am / 2 ^ (mn bhi (n - 1)).toNat))
  else (-2 ^ (n - 1), 2 ^ (n - 1) - 1)

/-! ### Soundness -/
theorem sg_val {n : Nat} (hn : 1 ≤ n) {v : Int} (h : inr n v) : sg n (v % 2 ^ n) = v := by
  obtain ⟨h1, h2⟩ := h
  have hs := pow_succ' hn
  have hp := pow_pos (n - 1)
  rw [sg_fit]
  rcases Int.lt_or_le v 0 with k | k
  · unfold sg
    rw [mod_neg h1 k hn, if_neg (by omega)]; omega
  · exact sg_lo k (by omega) hn
theorem sg_mul {n : Nat} (hn : 1 ≤ n) {x y : Int} (h : inr n (sg n x * sg n y)) : sg n (x * y % 2 ^ n) = sg n x * sg n y := by
  rw [← sg_val hn h]
  apply sg_of_mod
  rw [Int.emod_emod_of_dvd _ (Int.dvd_refl _), Int.emod_emod_of_dvd _ (Int.dvd_refl _), Int.mul_emod, ← sg_mod x, ← sg_mod y, ← Int.mul_emod]
theorem sg_add {n : Nat} (hn : 1 ≤ n) {x y : Int} (h : inr n (sg n x + sg n y)) : sg n ((x + y) % 2 ^ n) = sg n x + sg n y := by
  rw [← sg_val hn h]
  apply sg_of_mod
  rw [Int.emod_emod_of_dvd _ (Int.dvd_refl _), Int.emod_emod_of_dvd _ (Int.dvd_refl _), Int.add_emod, ← sg_mod x, ← sg_mod y, ← Int.add_emod]
theorem sg_sub {n : Nat} (hn : 1 ≤ n) {x y : Int} (h : inr n (sg n x - sg n y)) : sg n ((x - y) % 2 ^ n) = sg n x - sg n y := by
  rw [← sg_val hn h]
  apply sg_of_mod
  rw [Int.emod_emod_of_dvd _ (Int.dvd_refl _), Int.emod_emod_of_dvd _ (Int.dvd_refl _), Int.sub_emod, ← sg_mod x, ← sg_mod y, ← Int.sub_emod]
theorem sg_inr {n : Nat} (hn : 1 ≤ n) (x : Int) : -2 ^ (n - 1) ≤ sg n x ∧ sg n x ≤ 2 ^ (n - 1) - 1 := by
  have := sg_range hn x
  omega
theorem mod_minus {n : Nat} {x : Int} (h0 : 2 ^ n ≤ x) (h : x < 2 ^ n + 2 ^ n) : x % 2 ^ n = x - 2 ^ n := by
  rw [← Int.sub_emod_right]; exact mod_small (by omega) (by omega)
theorem mod_plus {n : Nat} {x : Int} (h0 : x < 0) (h : -2 ^ n ≤ x) : x % 2 ^ n = x + 2 ^ n := by
  rw [← Int.add_emod_right]; exact mod_small (by omega) (by omega)

section
variable {n : Nat} (hn : 1 ≤ n) {alo ahi al am blo bhi bl bm x y : Int} (ha0 : 0 ≤ alo) (hb0 : 0 ≤ blo) (va : Bd n alo ahi al am) (vb : Bd n blo bhi bl bm) (hx : In n alo ahi al am x) (hy : In n blo bhi bl bm y)
include hn ha0 hb0 va vb hx hy
theorem sound_add : ((U 2 n alo ahi blo bhi).1 ≤ bin 2 n x y ∧ bin 2 n x y ≤ (U 2 n alo ahi blo bhi).2) ∧ (S 2 n al am bl bm blo bhi).1 ≤ sg n (bin 2 n x y) ∧ sg n (bin 2 n x y) ≤ (S 2 n al am bl bm blo bhi).2 := by
  obtain ⟨a1, a2, a3, a4, a5⟩ := va
  obtain ⟨b1, b2, b3, b4, b5⟩ := vb
  obtain ⟨x1, x2, x3, x4⟩ := hx
  obtain ⟨y1, y2, y3, y4⟩ := hy
  have e : bin 2 n x y = (x + y) % 2 ^ n := by simp [bin]
  have hm := mod_lt n (x + y)
  rw [e]
  refine ⟨?_, ?_⟩
  · simp only [U, if_pos]
    by_cases c : ahi + bhi ≤ 2 ^ n - 1
    · rw [if_pos c, mod_small (by omega) (by omega)]; constructor <;> simp only [] <;> omega
    · rw [if_neg c]
      by_cases c2 : 2 ^ n - 1 < alo + blo
      · rw [if_pos c2, mod_minus (x := x + y) (by omega) (by omega), mod_minus (x := alo + blo) (by omega) (by omega), mod_minus (x := ahi + bhi) (by omega) (by omega)]; constructor <;> simp only [] <;> omega
      · rw [if_neg c2]; constructor <;> simp only [] <;> omega
  · simp only [S, if_pos]
    by_cases c : inr n (al + bl) ∧ inr n (am + bm)
    · rw [if_pos c]
      obtain ⟨⟨c1, c2⟩, c3, c4⟩ := c
      rw [sg_add hn ⟨by omega, by omega⟩]; constructor <;> simp only [] <;> omega
    · rw [if_neg c]; exact sg_inr hn _
theorem sound_sub : ((U 3 n alo ahi blo bhi).1 ≤ bin 3 n x y ∧ bin 3 n x y ≤ (U 3 n alo ahi blo bhi).2) ∧ (S 3 n al am bl bm blo bhi).1 ≤ sg n (bin 3 n x y) ∧ sg n (bin 3 n x y) ≤ (S 3 n al am bl bm blo bhi).2 := by
  obtain ⟨a1, a2, a3, a4, a5⟩ := va
  obtain ⟨b1, b2, b3, b4, b5⟩ := vb
  obtain ⟨x1, x2, x3, x4⟩ := hx
  obtain ⟨y1, y2, y3, y4⟩ := hy
  have e : bin 3 n x y = (x - y) % 2 ^ n := by simp [bin]
  have hm := mod_lt n (x - y)
  rw [e]
  refine ⟨?_, ?_⟩
  · simp only [U, if_pos, if_neg (show ¬ (3 : Int) = 2 by decide)]
    by_cases c : bhi ≤ alo ∨ ahi < blo
    · rw [if_pos c]
      rcases c with c | c
      · rw [mod_small (x := x - y) (by omega) (by omega), mod_small (x := alo - bhi) (by omega) (by omega), mod_small (x := ahi - blo) (by omega) (by omega)]; constructor <;> simp only [] <;> omega
      · rw [mod_plus (x := x - y) (by omega) (by omega), mod_plus (x := alo - bhi) (by omega) (by omega), mod_plus (x := ahi - blo) (by omega) (by omega)]; constructor <;> simp only [] <;> omega
    · rw [if_neg c]; constructor <;> simp only [] <;> omega
  · simp only [S, if_pos, if_neg (show ¬ (3 : Int) = 2 by decide)]
    by_cases c : inr n (al - bm) ∧ inr n (am - bl)
    · rw [if_pos c]
      obtain ⟨⟨c1, c2⟩, c3, c4⟩ := c
      rw [sg_sub hn ⟨by omega, by omega⟩]; constructor <;> simp only [] <;> omega
    · rw [if_neg c]; exact sg_inr hn _
theorem sound_mul : ((U 4 n alo ahi blo bhi).1 ≤ bin 4 n x y ∧ bin 4 n x y ≤ (U 4 n alo ahi blo bhi).2) ∧ (S 4 n al am bl bm blo bhi).1 ≤ sg n (bin 4 n x y) ∧ sg n (bin 4 n x y) ≤ (S 4 n al am bl bm blo bhi).2 := by
  obtain ⟨a1, a2, a3, a4, a5⟩ := va
  obtain ⟨b1, b2, b3, b4, b5⟩ := vb
  obtain ⟨x1, x2, x3, x4⟩ := hx
  obtain ⟨y1, y2, y3, y4⟩ := hy
  have e : bin 4 n x y = (x * y) % 2 ^ n := by simp [bin]
  have hm := mod_lt n (x * y)
  rw [e]
  refine ⟨?_, ?_⟩
  · simp only [U, if_pos, if_neg (show ¬ (4 : Int) = 2 by decide), if_neg (show ¬ (4 : Int) = 3 by decide)]
    have h1 : alo * blo ≤ x * y := Int.mul_le_mul x1 y1 hb0 (by omega)
    have h2 : x * y ≤ ahi * bhi := Int.mul_le_mul x2 y2 (by omega) (by omega)
    have h3 : 0 ≤ alo * blo := Int.mul_nonneg ha0 hb0
    by_cases c : ahi * bhi ≤ 2 ^ n - 1
    · rw [if_pos c, mod_small (by omega) (by omega)]; exact ⟨h1, h2⟩
    · rw [if_neg c]; constructor <;> simp only [] <;> omega
  · simp only [S, if_pos, if_neg (show ¬ (4 : Int) = 2 by decide), if_neg (show ¬ (4 : Int) = 3 by decide)]
    by_cases c : inr n (al * bl) ∧ inr n (al * bm) ∧ inr n (am * bl) ∧ inr n (am * bm)
    · rw [if_pos c]
      obtain ⟨c1, c2, c3, c4⟩ := c
      have k1 := bt_mul (sg n y) ⟨x3, x4⟩
      have k2 := bt_mul' al ⟨y3, y4⟩
      have k3 := bt_mul' am ⟨y3, y4⟩
      have hb := corners k1 k2 k3 c1 c2 c3 c4
      rw [sg_mul hn hb]
      have f := four_facts (al * bl) (al * bm) (am * bl) (am * bm)
      exact corners k1 k2 k3 f.1 f.2.1 f.2.2.1 f.2.2.2
    · rw [if_neg c]; exact sg_inr hn _
end
theorem nat_lt_of {n : Nat} {x : Int} (h : x < 2 ^ n) : x.toNat < 2 ^ n := by
  have := pow_toNat n
  have := Nat.two_pow_pos n
  omega
theorem cast_pow (n : Nat) : ((2 ^ n : Nat) : Int) = 2 ^ n := by rw [Int.natCast_pow]; rfl
theorem pow_mono {a b : Nat} (h : a ≤ b) : (2 : Int) ^ a ≤ 2 ^ b := by
  rw [← cast_pow, ← cast_pow]; exact Int.ofNat_le.2 (Nat.pow_le_pow_right (by decide) h)
section
variable {n : Nat} (hn : 1 ≤ n) {alo ahi al am blo bhi bl bm x y : Int} (ha0 : 0 ≤ alo) (hb0 : 0 ≤ blo) (va : Bd n alo ahi al am) (vb : Bd n blo bhi bl bm) (hx : In n alo ahi al am x) (hy : In n blo bhi bl bm y)
include hn ha0 hb0 va vb hx hy
theorem sound_udiv : ((U 5 n alo ahi blo bhi).1 ≤ bin 5 n x y ∧ bin 5 n x y ≤ (U 5 n alo ahi blo bhi).2) := by
  obtain ⟨a1, a2, a3, a4, a5⟩ := va
  obtain ⟨b1, b2, b3, b4, b5⟩ := vb
  obtain ⟨x1, x2, x3, x4⟩ := hx
  obtain ⟨y1, y2, y3, y4⟩ := hy
  have e : bin 5 n x y = if y = 0 then 2 ^ n - 1 else x / y := by simp [bin]
  rw [e]
  simp only [U, if_pos, if_neg (show ¬ (5 : Int) = 2 by decide), if_neg (show ¬ (5 : Int) = 3 by decide), if_neg (show ¬ (5 : Int) = 4 by decide)]
  by_cases c : 1 ≤ blo
  · rw [if_pos c, if_neg (by omega)]
    refine ⟨Int.le_trans (div_anti ha0 (by omega) y2) (Int.ediv_le_ediv (by omega) x1), Int.le_trans (Int.ediv_le_ediv (by omega) x2) (div_anti (by omega) (by omega) y1)⟩
  · rw [if_neg c]
    have h1 := Int.ediv_nonneg (a := x) (b := y) (by omega) (by omega)
    have h2 := Int.ediv_le_self y (a := x) (by omega)
    by_cases c0 : y = 0
    · rw [if_pos c0]; constructor <;> simp only [] <;> omega
    · rw [if_neg c0]; constructor <;> simp only [] <;> omega
theorem sound_urem : ((U 6 n alo ahi blo bhi).1 ≤ bin 6 n x y ∧ bin 6 n x y ≤ (U 6 n alo ahi blo bhi).2) := by
  obtain ⟨a1, a2, a3, a4, a5⟩ := va
  obtain ⟨b1, b2, b3, b4, b5⟩ := vb
  obtain ⟨x1, x2, x3, x4⟩ := hx
  obtain ⟨y1, y2, y3, y4⟩ := hy
  have e : bin 6 n x y = if y = 0 then x else x % y := by simp [bin]
  rw [e]
  simp only [U, if_pos, if_neg (show ¬ (6 : Int) = 2 by decide), if_neg (show ¬ (6 : Int) = 3 by decide), if_neg (show ¬ (6 : Int) = 4 by decide), if_neg (show ¬ (6 : Int) = 5 by decide)]
  by_cases c : 1 ≤ blo
  · have h1 := Int.emod_nonneg x (b := y) (by omega)
    have h2 := Int.emod_lt_of_pos x (b := y) (by omega)
    rw [if_pos c, if_neg (show ¬ y = 0 by omega)]
    by_cases c2 : ahi < blo
    · rw [if_pos c2, Int.emod_eq_of_lt (by omega) (by omega)]; exact ⟨x1, x2⟩
    · rw [if_neg c2]
      have f := mn_facts ahi (bhi - 1)
      have h3 : x % y ≤ x := by
        have := Int.mul_ediv_add_emod x y
        have := Int.mul_nonneg (a := y) (b := x / y) (by omega) (Int.ediv_nonneg (by omega) (by omega))
        omega
      constructor <;> simp only [] <;> omega
  · rw [if_neg c]
    by_cases c0 : y = 0
    · rw [if_pos c0]; constructor <;> simp only [] <;> omega
    · rw [if_neg c0]
      have h1 := Int.emod_nonneg x (b := y) c0
      have h3 : x % y ≤ x := by
        have := Int.mul_ediv_add_emod x y
        have := Int.mul_nonneg (a := y) (b := x / y) (by omega) (Int.ediv_nonneg (by omega) (by omega))
        omega
      constructor <;> simp only [] <;> omega
theorem sg0 {z : Int} (h0 : 0 ≤ z) (h1 : z < 2 ^ n) : sg n z = 0 ↔ z = 0 := by
  have := pow_succ' hn
  have := pow_pos (n - 1)
  unfold sg
  rw [mod_small h0 h1]
  split <;> omega
theorem sound_sdiv : ((S 7 n al am bl bm blo bhi).1 ≤ sg n (bin 7 n x y) ∧ sg n (bin 7 n x y) ≤ (S 7 n al am bl bm blo bhi).2) := by
  have z0 := sg0 hn ha0 hb0 va vb hx hy (z := y)
  obtain ⟨a1, a2, a3, a4, a5⟩ := va
  obtain ⟨b1, b2, b3, b4, b5⟩ := vb
  obtain ⟨x1, x2, x3, x4⟩ := hx
  obtain ⟨y1, y2, y3, y4⟩ := hy
  have e : bin 7 n x y = if y = 0 then 2 ^ n - 1 else Int.tdiv (sg n x) (sg n y) % 2 ^ n := by simp [bin]
  rw [e]
  simp only [S, if_pos, if_neg (show ¬ (7 : Int) = 2 by decide), if_neg (show ¬ (7 : Int) = 3 by decide), if_neg (show ¬ (7 : Int) = 4 by decide)]
  by_cases c : (0 < bl ∨ bm < 0) ∧ (-2 ^ (n - 1) < al ∨ -1 < bl ∨ bm < -1)
  · rw [if_pos c]
    obtain ⟨c1, c2⟩ := c
    have hy0 : ¬ y = 0 := fun h => by
      have := (z0 (by omega) (by omega)).2 h
      omega
    rw [if_neg hy0]
    have k1 := bt_tdiv (c := sg n y) (by omega) ⟨x3, x4⟩
    have k2 := bt_tdiv' (x := al) (by omega) ⟨y3, y4⟩
    have k3 := bt_tdiv' (x := am) (by omega) ⟨y3, y4⟩
    have f := four_facts (Int.tdiv al bl) (Int.tdiv al bm) (Int.tdiv am bl) (Int.tdiv am bm)
    have hp := pow_pos (n - 1)
    have hr : inr n (Int.tdiv (sg n x) (sg n y)) := by
      unfold inr
      by_cases a2' : 2 ≤ (sg n y).natAbs
      · have := tdiv_bound (sg n x) (sg n y) a2'
        omega
      · obtain h | h : sg n y = 1 ∨ sg n y = -1 := by omega
        · rw [h, Int.tdiv_one]; omega
        · rw [h, Int.tdiv_neg, Int.tdiv_one]; omega
    rw [sg_val hn hr]
    exact corners k1 k2 k3 f.1 f.2.1 f.2.2.1 f.2.2.2
  · rw [if_neg c]; exact sg_inr hn _
theorem tmod_facts (a b : Int) (hb : 0 < b) : (0 ≤ a → 0 ≤ Int.tmod a b ∧ Int.tmod a b ≤ a ∧ Int.tmod a b ≤ b - 1) ∧ (a ≤ 0 → Int.tmod a b ≤ 0 ∧ a ≤ Int.tmod a b ∧ 1 - b ≤ Int.tmod a b) := by
  clear ha0 hb0 va vb hx hy hn
  have pos : ∀ a : Int, 0 ≤ a → 0 ≤ Int.tmod a b ∧ Int.tmod a b ≤ a ∧ Int.tmod a b ≤ b - 1 := fun a h => by
    rw [Int.tmod_eq_emod_of_nonneg h]
    have h1 := Int.emod_nonneg a (b := b) (by omega)
    have h2 := Int.emod_lt_of_pos a (b := b) hb
    have := Int.mul_ediv_add_emod a b
    have := Int.mul_nonneg (a := b) (b := a / b) (by omega) (Int.ediv_nonneg h (by omega))
    omega
  refine ⟨pos a, fun h => ?_⟩
  have := pos (-a) (by omega)
  rw [Int.neg_tmod] at this
  omega
theorem sound_srem : ((S 8 n al am bl bm blo bhi).1 ≤ sg n (bin 8 n x y) ∧ sg n (bin 8 n x y) ≤ (S 8 n al am bl bm blo bhi).2) := by
  have z0 := sg0 hn ha0 hb0 va vb hx hy (z := y)
  have tm := fun a b h => tmod_facts hn ha0 hb0 va vb hx hy a b h
  obtain ⟨a1, a2, a3, a4, a5⟩ := va
  obtain ⟨b1, b2, b3, b4, b5⟩ := vb
  obtain ⟨x1, x2, x3, x4⟩ := hx
  obtain ⟨y1, y2, y3, y4⟩ := hy
  have e : bin 8 n x y = if y = 0 then x else Int.tmod (sg n x) (sg n y) % 2 ^ n := by simp [bin]
  have hxr := sg_inr hn x
  have hyr := sg_inr hn y
  have k1 := mn_facts al 0
  have k2 := mx_facts am 0
  have k3 := mx_facts (mn al 0) (1 - bm)
  have k4 := mn_facts (mx am 0) (bm - 1)
  rw [e]
  simp only [S, if_pos, if_neg (show ¬ (8 : Int) = 2 by decide), if_neg (show ¬ (8 : Int) = 3 by decide), if_neg (show ¬ (8 : Int) = 4 by decide), if_neg (show ¬ (8 : Int) = 7 by decide)]
  by_cases c0 : y = 0
  · rw [if_pos c0]
    have := (z0 (by omega) (by omega)).2 c0
    by_cases c : 1 ≤ bl
    · omega
    · rw [if_neg c]; constructor <;> simp only [] <;> omega
  · rw [if_neg c0]
    have hs : ¬ sg n y = 0 := fun h => c0 ((z0 (by omega) (by omega)).1 h)
    have hr : (0 ≤ sg n x → 0 ≤ Int.tmod (sg n x) (sg n y) ∧ Int.tmod (sg n x) (sg n y) ≤ sg n x) ∧ (sg n x ≤ 0 → Int.tmod (sg n x) (sg n y) ≤ 0 ∧ sg n x ≤ Int.tmod (sg n x) (sg n y)) := by
      rcases Int.lt_or_le (sg n y) 0 with k | k
      · have := tm (sg n x) (-(sg n y)) (by omega)
        rw [Int.tmod_neg] at this
        omega
      · have := tm (sg n x) (sg n y) (by omega)
        omega
    have hi : inr n (Int.tmod (sg n x) (sg n y)) := by unfold inr; omega
    rw [sg_val hn hi]
    by_cases c : 1 ≤ bl
    · rw [if_pos c]
      have := tm (sg n x) (sg n y) (by omega)
      constructor <;> simp only [] <;> omega
    · rw [if_neg c]; constructor <;> simp only [] <;> omega
theorem sound_and : ((U 9 n alo ahi blo bhi).1 ≤ bin 9 n x y ∧ bin 9 n x y ≤ (U 9 n alo ahi blo bhi).2) := by
  obtain ⟨a1, a2, a3, a4, a5⟩ := va
  obtain ⟨b1, b2, b3, b4, b5⟩ := vb
  obtain ⟨x1, x2, x3, x4⟩ := hx
  obtain ⟨y1, y2, y3, y4⟩ := hy
  have e : bin 9 n x y = ((x.toNat &&& y.toNat : Nat) : Int) := by simp [bin]
  have h1 : x.toNat &&& y.toNat ≤ x.toNat := Nat.and_le_left
  have h2 : x.toNat &&& y.toNat ≤ y.toNat := Nat.and_le_right
  have f := mn_facts ahi bhi
  rw [e]
  simp only [U]
  constructor <;> simp <;> omega
theorem sound_ones {z : Nat} (h : z < 2 ^ len (mx ahi bhi).toNat) : 0 ≤ (z : Int) ∧ (z : Int) ≤ 2 ^ len (mx ahi bhi).toNat - 1 := by
  have := cast_pow (len (mx ahi bhi).toNat)
  omega
theorem lt_ones : x.toNat < 2 ^ len (mx ahi bhi).toNat ∧ y.toNat < 2 ^ len (mx ahi bhi).toNat := by
  have h := lt_len (mx ahi bhi).toNat
  have f := mx_facts ahi bhi
  obtain ⟨x1, x2, x3, x4⟩ := hx
  obtain ⟨y1, y2, y3, y4⟩ := hy
  omega
theorem sound_or : ((U 10 n alo ahi blo bhi).1 ≤ bin 10 n x y ∧ bin 10 n x y ≤ (U 10 n alo ahi blo bhi).2) := by
  have hz := lt_ones hn ha0 hb0 va vb hx hy
  have h := sound_ones hn ha0 hb0 va vb hx hy (Nat.or_lt_two_pow hz.1 hz.2)
  obtain ⟨x1, x2, x3, x4⟩ := hx
  obtain ⟨y1, y2, y3, y4⟩ := hy
  have e : bin 10 n x y = ((x.toNat ||| y.toNat : Nat) : Int) := by simp [bin]
  have h1 := @Nat.left_le_or x.toNat y.toNat
  have h2 := @Nat.right_le_or x.toNat y.toNat
  have f := mx_facts alo blo
  rw [e]
  simp only [U]
  constructor
  · simp; omega
  · simpa using h.2
theorem sound_xor : ((U 11 n alo ahi blo bhi).1 ≤ bin 11 n x y ∧ bin 11 n x y ≤ (U 11 n alo ahi blo bhi).2) := by
  have hz := lt_ones hn ha0 hb0 va vb hx hy
  have h := sound_ones hn ha0 hb0 va vb hx hy (Nat.xor_lt_two_pow hz.1 hz.2)
  have e : bin 11 n x y = ((x.toNat ^^^ y.toNat : Nat) : Int) := by simp [bin]
  rw [e]
  simp only [U]
  constructor
  · simp
  · simpa using h.2
theorem mul_le_of_div {a p m : Int} (hp : 0 < p) (h : a ≤ m / p) : a * p ≤ m := by
  have h1 := Int.mul_le_mul_of_nonneg_right h (show 0 ≤ p by omega)
  have h2 := Int.ediv_mul_le m (b := p) (by omega)
  omega
end

section
variable {n : Nat} (hn : 1 ≤ n) {alo ahi al am blo bhi bl bm x y : Int} (ha0 : 0 ≤ alo) (hb0 : 0 ≤ blo) (va : Bd n alo ahi al am) (vb : Bd n blo bhi bl bm) (hx : In n alo ahi al am x) (hy : In n blo bhi bl bm y)
include hn ha0 hb0 va vb hx hy
theorem sound_shl : ((U 12 n alo ahi blo bhi).1 ≤ bin 12 n x y ∧ bin 12 n x y ≤ (U 12 n alo ahi blo bhi).2) ∧ (S 12 n al am bl bm blo bhi).1 ≤ sg n (bin 12 n x y) ∧ sg n (bin 12 n x y) ≤ (S 12 n al am bl bm blo bhi).2 := by
  obtain ⟨a1, a2, a3, a4, a5⟩ := va
  obtain ⟨b1, b2, b3, b4, b5⟩ := vb
  obtain ⟨x1, x2, x3, x4⟩ := hx
  obtain ⟨y1, y2, y3, y4⟩ := hy
  have e : bin 12 n x y = if (n : Int) ≤ y then 0 else x * 2 ^ y.toNat % 2 ^ n := by simp [bin]
  have hm := mod_lt n (x * 2 ^ y.toNat)
  have hpn := pow_pos n
  have hp := pow_pos' y.toNat
  rw [e]
  refine ⟨?_, ?_⟩
  · simp only [U, if_pos, if_neg (show ¬ (12 : Int) = 2 by decide), if_neg (show ¬ (12 : Int) = 3 by decide), if_neg (show ¬ (12 : Int) = 4 by decide), if_neg (show ¬ (12 : Int) = 5 by decide), if_neg (show ¬ (12 : Int) = 6 by decide), if_neg (show ¬ (12 : Int) = 9 by decide), if_neg (show ¬ (12 : Int) = 10 by decide), if_neg (show ¬ (12 : Int) = 11 by decide)]
    by_cases c : blo = bhi
    · obtain rfl : y = blo := by omega
      rw [if_pos c]
      by_cases c2 : (n : Int) ≤ y
      · rw [if_pos c2, if_pos c2]; simp
      · rw [if_neg c2, if_neg c2]
        by_cases c3 : ahi ≤ (2 ^ n - 1) / 2 ^ y.toNat
        · rw [if_pos c3]
          have h1 := mul_le_of_div hn ha0 hb0 ⟨a1, a2, a3, a4, a5⟩ ⟨b1, b2, b3, b4, b5⟩ ⟨x1, x2, x3, x4⟩ ⟨y1, y2, y3, y4⟩ hp c3
          have h2 : alo * 2 ^ y.toNat ≤ x * 2 ^ y.toNat := Int.mul_le_mul_of_nonneg_right x1 (by omega)
          have h3 : x * 2 ^ y.toNat ≤ ahi * 2 ^ y.toNat := Int.mul_le_mul_of_nonneg_right x2 (by omega)
          have h4 : 0 ≤ alo * 2 ^ y.toNat := Int.mul_nonneg ha0 (by omega)
          rw [mod_small (by omega) (by omega)]; exact ⟨h2, h3⟩
        · rw [if_neg c3]; constructor <;> simp only [] <;> omega
    · rw [if_neg c]
      by_cases c2 : (n : Int) ≤ y
      · rw [if_pos c2]; constructor <;> simp only [] <;> omega
      · rw [if_neg c2]; constructor <;> simp only [] <;> omega
  · simp only [S, if_pos, if_neg (show ¬ (12 : Int) = 2 by decide), if_neg (show ¬ (12 : Int) = 3 by decide), if_neg (show ¬ (12 : Int) = 4 by decide), if_neg (show ¬ (12 : Int) = 7 by decide), if_neg (show ¬ (12 : Int) = 8 by decide)]
    by_cases c : blo = bhi ∧ blo < n ∧ (-2 ^ (n - 1)) / 2 ^ blo.toNat ≤ al ∧ am ≤ (2 ^ (n - 1) - 1) / 2 ^ blo.toNat
    · rw [if_pos c]
      obtain ⟨c1, c2, c3, c4⟩ := c
      obtain rfl : y = blo := by omega
      rw [if_neg (by omega)]
      have h1 := mul_le_of_div hn ha0 hb0 ⟨a1, a2, a3, a4, a5⟩ ⟨b1, b2, b3, b4, b5⟩ ⟨x1, x2, x3, x4⟩ ⟨y1, y2, y3, y4⟩ hp c4
      have h2 : al * 2 ^ y.toNat ≤ sg n x * 2 ^ y.toNat := Int.mul_le_mul_of_nonneg_right x3 (by omega)
      have h3 : sg n x * 2 ^ y.toNat ≤ am * 2 ^ y.toNat := Int.mul_le_mul_of_nonneg_right x4 (by omega)
      have hd : (2 : Int) ^ (n - 1) = 2 ^ (n - 1 - y.toNat) * 2 ^ y.toNat := by rw [← Int.pow_add]; congr 1; omega
      have h4 : -2 ^ (n - 1) ≤ al * 2 ^ y.toNat := by
        rw [hd, ← Int.neg_mul, Int.mul_ediv_cancel _ (by omega)] at c3
        rw [hd, ← Int.neg_mul]
        exact Int.mul_le_mul_of_nonneg_right c3 (by omega)
      have hv : inr n (sg n x * 2 ^ y.toNat) := by unfold inr; omega
      have e2 : x * 2 ^ y.toNat % 2 ^ n = sg n x * 2 ^ y.toNat % 2 ^ n := by
        rw [Int.mul_emod, ← sg_mod x, ← Int.mul_emod]
      rw [e2, sg_val hn hv]; exact ⟨h2, h3⟩
    · rw [if_neg c]; exact sg_inr hn _
theorem sound_lshr : ((U 13 n alo ahi blo bhi).1 ≤ bin 13 n x y ∧ bin 13 n x y ≤ (U 13 n alo ahi blo bhi).2) := by
  obtain ⟨a1, a2, a3, a4, a5⟩ := va
  obtain ⟨b1, b2, b3, b4, b5⟩ := vb
  obtain ⟨x1, x2, x3, x4⟩ := hx
  obtain ⟨y1, y2, y3, y4⟩ := hy
  have e : bin 13 n x y = x / 2 ^ y.toNat := by
    simp only [bin]
    simp
    intro h
    rw [Int.ediv_eq_zero_of_lt (by omega)]
    have := pow_mono (a := n) (b := y.toNat) (by omega)
    omega
  rw [e]
  simp only [U]
  have m1 := pow_mono (a := y.toNat) (b := bhi.toNat) (by omega)
  have m2 := pow_mono (a := blo.toNat) (b := y.toNat) (by omega)
  have p1 := pow_pos' y.toNat
  have p2 := pow_pos' blo.toNat
  have p3 := pow_pos' bhi.toNat
  exact ⟨Int.le_trans (Int.ediv_le_ediv p3 x1) (div_anti (by omega) p1 m1), Int.le_trans (Int.ediv_le_ediv p1 x2) (div_anti (by omega) p2 m2)⟩
theorem sound_ashr : ((S 14 n al am bl bm blo bhi).1 ≤ sg n (bin 14 n x y) ∧ sg n (bin 14 n x y) ≤ (S 14 n al am bl bm blo bhi).2) := by
  obtain ⟨a1, a2, a3, a4, a5⟩ := va
  obtain ⟨b1, b2, b3, b4, b5⟩ := vb
  obtain ⟨x1, x2, x3, x4⟩ := hx
  obtain ⟨y1, y2, y3, y4⟩ := hy
  have hs := pow_succ' hn
  have hpp := pow_pos (n - 1)
  have hr := sg_inr hn x
  have m0 := mn_facts y (n - 1)
  have m1 := mn_facts blo (n - 1)
  have m2 := mn_facts bhi (n - 1)
  have e : sg n (bin 14 n x y) = sg n x / 2 ^ (mn y (n - 1)).toNat := by
    have hin : inr n (sg n x / 2 ^ (mn y (n - 1)).toNat) := by
      unfold inr
      rcases Int.lt_or_le (sg n x) 0 with k | k
      · have := div_neg' (mn y (n - 1)).toNat k
        omega
      · have := div_nn (mn y (n - 1)).toNat k
        omega
    rw [← sg_val hn hin]
    congr 1
    have e1 : bin 14 n x y = if (n : Int) ≤ y then (if 2 ^ (n - 1) ≤ x then 2 ^ n - 1 else 0) else sg n x / 2 ^ y.toNat % 2 ^ n := by simp [bin]
    rw [e1]
    by_cases c : (n : Int) ≤ y
    · rw [if_pos c, show mn y (n - 1) = ((n - 1 : Nat) : Int) by omega, Int.toNat_natCast]
      by_cases c2 : 2 ^ (n - 1) ≤ x
      · have := sg_hi c2 (by omega) hn
        have hq : sg n x / 2 ^ (n - 1) = -1 := by
          apply (Int.ediv_eq_iff_of_pos (by omega)).2
          omega
        rw [if_pos c2, hq, mod_plus (by omega) (by omega)]; omega
      · have := sg_lo (n := n) (y := x) (by omega) (by omega) hn
        rw [if_neg c2, this, Int.ediv_eq_zero_of_lt (by omega) (by omega)]; simp
    · rw [if_neg c, show mn y (n - 1) = y by omega]
  rw [e]
  simp only [S]
  have k1 := bt_shr (mn y (n - 1)).toNat ⟨x3, x4⟩
  have k2 := bt_shr' (p := (mn blo (n - 1)).toNat) (q := (mn bhi (n - 1)).toNat) (y := (mn y (n - 1)).toNat) al (by omega)
  have k3 := bt_shr' (p := (mn blo (n - 1)).toNat) (q := (mn bhi (n - 1)).toNat) (y := (mn y (n - 1)).toNat) am (by omega)
  have f := four_facts (al / 2 ^ (mn blo (n - 1)).toNat) (al / 2 ^ (mn bhi (n - 1)).toNat) (am / 2 ^ (mn blo (n - 1)).toNat) (am / 2 ^ (mn bhi (n - 1)).toNat)
  exact corners k1 k2 k3 f.1 f.2.1 f.2.2.1 f.2.2.2
end
/-! ### Comparisons, extensions, truncations -/
def dec (yes no : Prop) [Decidable yes] [Decidable no] : Int × Int × Int × Int := if yes then (1, 1, -1, -1) else if no then (0, 0, 0, 0) else (0, 1, -1, 0)
def Apart (alo ahi al am blo bhi bl bm : Int) : Prop := ahi < blo ∨ bhi < alo ∨ am < bl ∨ bm < al
instance (alo ahi al am blo bhi bl bm : Int) : Decidable (Apart alo ahi al am blo bhi bl bm) := by unfold Apart; infer_instance
def cmp (op : Int) (alo ahi al am blo bhi bl bm : Int) : Int × Int × Int × Int :=
  if op = 15 then dec False (Apart alo ahi al am blo bhi bl bm)
  else if op = 16 then dec (Apart alo ahi al am blo bhi bl bm) False
  else if op = 17 then dec (ahi < blo) (bhi ≤ alo)
  else if op = 18 then dec (ahi ≤ blo) (bhi < alo)
  else if op = 19 then dec (am < bl) (bm ≤ al)
  else dec (am ≤ bl) (bm < al)
def InR (n : Nat) (r : Int × Int × Int × Int) (x : Int) : Prop := In n r.1 r.2.1 r.2.2.1 r.2.2.2 x
theorem sg1_0 : sg 1 0 = 0 := by decide
theorem sg1_1 : sg 1 1 = -1 := by decide
theorem in_dec (yes no : Prop) [Decidable yes] [Decidable no] {r : Int} (h : r = 0 ∨ r = 1) (hy : yes → r = 1) (hno : no → r = 0) : InR 1 (dec yes no) r := by
  unfold dec InR In
  by_cases c : yes
  · rw [if_pos c, hy c, sg1_1]; decide
  · rw [if_neg c]
    by_cases c2 : no
    · rw [if_pos c2, hno c2, sg1_0]; decide
    · rw [if_neg c2]
      rcases h with rfl | rfl
      · rw [sg1_0]; decide
      · rw [sg1_1]; decide
theorem sound_cmp {op : Int} (ho : 15 ≤ op ∧ op ≤ 20) {n : Nat} {alo ahi al am blo bhi bl bm x y : Int} (hx : In n alo ahi al am x) (hy : In n blo bhi bl bm y) :
    InR 1 (cmp op alo ahi al am blo bhi bl bm) (bin op n x y) := by
  obtain ⟨x1, x2, x3, x4⟩ := hx
  obtain ⟨y1, y2, y3, y4⟩ := hy
  obtain rfl | rfl | rfl | rfl | rfl | rfl : op = 15 ∨ op = 16 ∨ op = 17 ∨ op = 18 ∨ op = 19 ∨ op = 20 := by omega
  · have e : bin 15 n x y = if x = y then 1 else 0 := by simp [bin]
    rw [e, show cmp 15 alo ahi al am blo bhi bl bm = dec False (Apart alo ahi al am blo bhi bl bm) by simp [cmp]]
    refine in_dec _ _ (by split <;> simp) (fun h => h.elim) (fun h => if_neg fun hxy => ?_)
    subst hxy; unfold Apart at h; omega
  · have e : bin 16 n x y = if x = y then 0 else 1 := by simp [bin]
    rw [e, show cmp 16 alo ahi al am blo bhi bl bm = dec (Apart alo ahi al am blo bhi bl bm) False by simp [cmp]]
    refine in_dec _ _ (by split <;> simp) (fun h => if_neg fun hxy => ?_) (fun h => h.elim)
    subst hxy; unfold Apart at h; omega
  · have e : bin 17 n x y = if x < y then 1 else 0 := by simp [bin]
    rw [e, show cmp 17 alo ahi al am blo bhi bl bm = dec (ahi < blo) (bhi ≤ alo) by simp [cmp]]
    exact in_dec _ _ (by split <;> simp) (fun h => if_pos (by omega)) (fun h => if_neg (by omega))
  · have e : bin 18 n x y = if x ≤ y then 1 else 0 := by simp [bin]
    rw [e, show cmp 18 alo ahi al am blo bhi bl bm = dec (ahi ≤ blo) (bhi < alo) by simp [cmp]]
    exact in_dec _ _ (by split <;> simp) (fun h => if_pos (by omega)) (fun h => if_neg (by omega))
  · have e : bin 19 n x y = if sg n x < sg n y then 1 else 0 := by simp [bin]
    rw [e, show cmp 19 alo ahi al am blo bhi bl bm = dec (am < bl) (bm ≤ al) by simp [cmp]]
    exact in_dec _ _ (by split <;> simp) (fun h => if_pos (by omega)) (fun h => if_neg (by omega))
  · have e : bin 20 n x y = if sg n x ≤ sg n y then 1 else 0 := by simp [bin]
    rw [e, show cmp 20 alo ahi al am blo bhi bl bm = dec (am ≤ bl) (bm < al) by simp [cmp]]
    exact in_dec _ _ (by split <;> simp) (fun h => if_pos (by omega)) (fun h => if_neg (by omega))
/-- The bounds of an extension or a truncation from m to n bits. -/
def cast (op : Int) (n m : Nat) (alo ahi al am : Int) : Int × Int × Int × Int :=
  if n = m then (alo, ahi, al, am) else if op = 22 then (alo, ahi, alo, ahi) else if op = 23 then (0, 2 ^ n - 1, al, am)
  else ((if ahi ≤ 2 ^ n - 1 then alo else 0), (if ahi ≤ 2 ^ n - 1 then ahi else 2 ^ n - 1), (if inr n al ∧ inr n am then al else -2 ^ (n - 1)), (if inr n al ∧ inr n am then am else 2 ^ (n - 1) - 1))
/-- The value of an extension or a truncation. -/
def castv (op : Int) (n m : Nat) (x : Int) : Int := if op = 23 then sg m x % 2 ^ n else x % 2 ^ n
theorem pow_dvd' {a b : Nat} (h : a ≤ b) : (2 : Int) ^ a ∣ 2 ^ b := by
  rw [← cast_pow, ← cast_pow]; exact Int.ofNat_dvd.2 (Nat.pow_dvd_pow 2 h)
theorem sound_cast {op : Int} {n m : Nat} (hn : 1 ≤ n) (hm : 1 ≤ m) (ho : (op = 22 ∧ m ≤ n) ∨ (op = 23 ∧ m ≤ n) ∨ (op = 24 ∧ n ≤ m)) {alo ahi al am x : Int} (ha0 : 0 ≤ alo) (va : Bd m alo ahi al am) (hx : In m alo ahi al am x) :
    InR n (cast op n m alo ahi al am) (castv op n m x) := by
  have hx' := hx
  obtain ⟨x1, x2, x3, x4⟩ := hx
  obtain ⟨a1, a2, a3, a4, a5⟩ := va
  have hmod := mod_lt n (castv op n m x)
  unfold cast castv InR
  by_cases c : n = m
  · subst c
    rw [if_pos rfl]
    rcases ho with ⟨rfl, _⟩ | ⟨rfl, _⟩ | ⟨rfl, _⟩
    · rw [if_neg (by decide), mod_small (by omega) (by omega)]; exact hx'
    · rw [if_pos rfl, sg_mod, mod_small (by omega) (by omega)]; exact hx'
    · rw [if_neg (by decide), mod_small (by omega) (by omega)]; exact hx'
  · rw [if_neg c]
    rcases ho with ⟨rfl, h⟩ | ⟨rfl, h⟩ | ⟨rfl, h⟩
    · have hp := pow_mono (a := m) (b := n - 1) (by omega)
      have hp1 := pow_mono (a := n - 1) (b := n) (by omega)
      rw [if_pos rfl, if_neg (by decide), mod_small (by omega) (by omega)]
      have := sg_lo (n := n) (y := x) (by omega) (by omega) hn
      unfold In
      simp only []
      omega
    · have hp := pow_mono (a := m - 1) (b := n - 1) (by omega)
      rw [if_neg (by decide), if_pos rfl, if_pos rfl]
      have hr := sg_inr hm x
      have := sg_val hn (v := sg m x) ⟨by omega, by omega⟩
      have := mod_lt n (sg m x)
      unfold In
      simp only []
      omega
    · rw [if_neg (show ¬ (24 : Int) = 22 by decide), if_neg (show ¬ (24 : Int) = 23 by decide), if_neg (show ¬ (24 : Int) = 23 by decide)]
      have hl := mod_lt n x
      have hsr := sg_inr hn (x % 2 ^ n)
      unfold In
      simp only []
      refine ⟨?_, ?_, ?_, ?_⟩
      · by_cases c2 : ahi ≤ 2 ^ n - 1
        · rw [if_pos c2, mod_small (by omega) (by omega)]; exact x1
        · rw [if_neg c2]; omega
      · by_cases c2 : ahi ≤ 2 ^ n - 1
        · rw [if_pos c2, mod_small (by omega) (by omega)]; exact x2
        · rw [if_neg c2]; omega
      all_goals
        by_cases c2 : inr n al ∧ inr n am
        · have hv : sg n (x % 2 ^ n) = sg m x := by
            obtain ⟨⟨c3, c4⟩, c5, c6⟩ := c2
            rw [← sg_val hn (v := sg m x) ⟨by omega, by omega⟩]
            congr 1
            rw [← Int.emod_emod_of_dvd x (pow_dvd' h), ← sg_mod x, Int.emod_emod_of_dvd _ (pow_dvd' h)]
          rw [if_pos c2, hv]; assumption
        · rw [if_neg c2]; omega
/-! ### The whole -/
abbrev R := Int × Int × Int × Int
def top (n : Nat) : R := (0, 2 ^ n - 1, -2 ^ (n - 1), 2 ^ (n - 1) - 1)
def one (n : Nat) (x : Int) : R := (x % 2 ^ n, x % 2 ^ n, sg n x, sg n x)
def join (b c : R) : R := (mn b.1 c.1, mx b.2.1 c.2.1, mn b.2.2.1 c.2.2.1, mx b.2.2.2 c.2.2.2)
/-- What Tighten gives. -/
def tg (w : Int) (r : R) : Int × Int × Int × Int × Bool := if Valid w r.1 r.2.1 r.2.2.1 r.2.2.2 then Tg.tight (nn w) r.1 r.2.1 r.2.2.1 r.2.2.2 else (0, 0, 0, 0, false)
/-- The result of Tighten, and the range of all words where it has none. -/
def fitr (w : Int) (r : R) : R := if (tg w r).2.2.2.2 = true then ((tg w r).1, (tg w r).2.1, (tg w r).2.2.1, (tg w r).2.2.2.1) else top (nn w)
/-- The bounds of a result, not yet tightened. -/
def core (op : Int) (n m : Nat) (a b c : R) : R :=
  if 15 ≤ op ∧ op ≤ 20 then cmp op a.1 a.2.1 a.2.2.1 a.2.2.2 b.1 b.2.1 b.2.2.1 b.2.2.2
  else if op = 21 then (if a.1 = a.2.1 then (if a.1 = 1 then b else c) else join b c)
  else if 22 ≤ op then cast op n m a.1 a.2.1 a.2.2.1 a.2.2.2
  else ((U op n a.1 a.2.1 b.1 b.2.1).1, (U op n a.1 a.2.1 b.1 b.2.1).2, (S op n a.2.2.1 a.2.2.2 b.2.2.1 b.2.2.2 b.1 b.2.1).1, (S op n a.2.2.1 a.2.2.2 b.2.2.1 b.2.2.2 b.1 b.2.1).2)
/-- The value of an operator. -/
def ev (op : Int) (n m : Nat) (x y z num : Int) : Int :=
  if op = 1 then num % 2 ^ n else if op ≤ 14 then bin op n x y else if op ≤ 20 then bin op m x y else if op = 21 then (if x = 1 then y else z) else castv op n m x
def BdR (n : Nat) (r : R) : Prop := Bd n r.1 r.2.1 r.2.2.1 r.2.2.2 ∧ 0 ≤ r.1
theorem in_top {n : Nat} (hn : 1 ≤ n) {x : Int} (h0 : 0 ≤ x) (h : x < 2 ^ n) : InR n (top n) x := by
  have := sg_inr hn x
  unfold InR In top
  simp only []
  omega
theorem bd_top {n : Nat} (hn : 1 ≤ n) : BdR n (top n) := by
  have := pow_pos (n - 1)
  have := pow_pos n
  unfold BdR top
  exact ⟨⟨by simp only []; omega, by simp only []; omega, by simp only []; omega, by simp only []; omega, by simp only []; omega⟩, by simp only []; omega⟩
theorem tg_sound {w : Int} (hw : 1 ≤ w ∧ w ≤ 64) {r : R} (h0 : 0 ≤ r.1) {x : Int} (hx0 : 0 ≤ x) (hx : x < 2 ^ nn w) (h : InR (nn w) r x) (hok : (tg w r).2.2.2.2 = true) :
    BdR (nn w) ((tg w r).1, (tg w r).2.1, (tg w r).2.2.1, (tg w r).2.2.2.1) ∧ InR (nn w) ((tg w r).1, (tg w r).2.1, (tg w r).2.2.1, (tg w r).2.2.2.1) x := by
  have hn := nn_of (w := w) (by omega) hw.2
  unfold tg at *
  by_cases hv : Valid w r.1 r.2.1 r.2.2.1 r.2.2.2
  · rw [if_pos hv] at hok ⊢
    rcases tight_form (n := nn w) (by omega) h0 (Bd.of hv) with ⟨e, _⟩ | ⟨a, b, c, d, e, hb, ha, _, _, _, _, _, hin⟩
    · rw [e] at hok; cases hok
    · rw [e]
      exact ⟨⟨hb, ha⟩, (hin x hx0 hx).2 h⟩
  · rw [if_neg hv] at hok; cases hok
theorem fitr_sound {w : Int} (hw : 1 ≤ w ∧ w ≤ 64) {r : R} (h0 : 0 ≤ r.1) {x : Int} (hx0 : 0 ≤ x) (hx : x < 2 ^ nn w) (h : InR (nn w) r x) : BdR (nn w) (fitr w r) ∧ InR (nn w) (fitr w r) x := by
  have hn := nn_of (w := w) (by omega) hw.2
  unfold fitr
  by_cases c : (tg w r).2.2.2.2 = true
  · rw [if_pos c]; exact tg_sound hw h0 hx0 hx h c
  · rw [if_neg c]; exact ⟨bd_top (by omega), in_top (by omega) hx0 hx⟩
theorem tg_bd {w : Int} (hw : 1 ≤ w ∧ w ≤ 64) {r : R} (h0 : 0 ≤ r.1) (hok : (tg w r).2.2.2.2 = true) : BdR (nn w) ((tg w r).1, (tg w r).2.1, (tg w r).2.2.1, (tg w r).2.2.2.1) := by
  have hn := nn_of (w := w) (by omega) hw.2
  unfold tg at *
  by_cases hv : Valid w r.1 r.2.1 r.2.2.1 r.2.2.2
  · rw [if_pos hv] at hok ⊢
    rcases tight_form (n := nn w) (by omega) h0 (Bd.of hv) with ⟨e, _⟩ | ⟨a, b, c, d, e, hb, ha, _, _, _, _, _, hin⟩
    · rw [e] at hok; cases hok
    · rw [e]; exact ⟨hb, ha⟩
  · rw [if_neg hv] at hok; cases hok
/-- The shapes of operators: the width of the result and those of the operands. -/
def Sh (op w : Int) (ws : List Int) : Prop := (1 ≤ w ∧ w ≤ 64) ∧ (∀ v ∈ ws, 1 ≤ v ∧ v ≤ 64) ∧
  ((op = 1 ∧ ws = []) ∨ ((2 ≤ op ∧ op ≤ 14) ∧ ws = [w, w]) ∨ ((15 ≤ op ∧ op ≤ 20) ∧ w = 1 ∧ ∃ v, ws = [v, v]) ∨ (op = 21 ∧ ws = [1, w, w]) ∨ ((op = 22 ∨ op = 23) ∧ ∃ v, ws = [v] ∧ v ≤ w) ∨ (op = 24 ∧ ∃ v, ws = [v] ∧ w ≤ v))
theorem sound_core {op : Int} {n m : Nat} (hn : 1 ≤ n) (hm : 1 ≤ m) {a b c : R} {x y z num : Int}
    (ho : ((2 ≤ op ∧ op ≤ 14) ∧ m = n ∧ InR n a x ∧ InR n b y ∧ BdR n a ∧ BdR n b) ∨ ((15 ≤ op ∧ op ≤ 20) ∧ n = 1 ∧ InR m a x ∧ InR m b y) ∨ (op = 21 ∧ m = 1 ∧ InR 1 a x ∧ InR n b y ∧ InR n c z) ∨ (22 ≤ op ∧ ((op = 22 ∧ m ≤ n) ∨ (op = 23 ∧ m ≤ n) ∨ (op = 24 ∧ n ≤ m)) ∧ InR m a x ∧ BdR m a)) :
    InR n (core op n m a b c) (ev op n m x y z num) := by
  rcases ho with ⟨ho, rfl, hx, hy, ⟨va, ha0⟩, vb, hb0⟩ | ⟨ho, rfl, hx, hy⟩ | ⟨rfl, rfl, hx, hy, hz⟩ | ⟨ho, hs, hx, va, ha0⟩
  · have e1 : ev op m m x y z num = bin op m x y := by unfold ev; rw [if_neg (by omega), if_pos ho.2]
    have e2 : core op m m a b c = ((U op m a.1 a.2.1 b.1 b.2.1).1, (U op m a.1 a.2.1 b.1 b.2.1).2, (S op m a.2.2.1 a.2.2.2 b.2.2.1 b.2.2.2 b.1 b.2.1).1, (S op m a.2.2.1 a.2.2.2 b.2.2.1 b.2.2.2 b.1 b.2.1).2) := by
      unfold core; rw [if_neg (by omega), if_neg (by omega), if_neg (by omega)]
    rw [e1, e2]
    have xl := hx
    have yl := hy
    obtain ⟨x1, x2, x3, x4⟩ := xl
    obtain ⟨y1, y2, y3, y4⟩ := yl
    have hr := bin_range (op := op) hn (a := x) (b := y) (by omega) (by have := va.h2; omega) (by omega) (by have := vb.h2; omega)
    have hsr := sg_inr hn (bin op m x y)
    have dU : ∀ p, U op m a.1 a.2.1 b.1 b.2.1 = p → p = (0, 2 ^ m - 1) → (U op m a.1 a.2.1 b.1 b.2.1).1 ≤ bin op m x y ∧ bin op m x y ≤ (U op m a.1 a.2.1 b.1 b.2.1).2 := by
      intro p h1 h2; rw [h1, h2]; constructor <;> simp only [] <;> omega
    have dS : ∀ p, S op m a.2.2.1 a.2.2.2 b.2.2.1 b.2.2.2 b.1 b.2.1 = p → p = (-2 ^ (m - 1), 2 ^ (m - 1) - 1) → (S op m a.2.2.1 a.2.2.2 b.2.2.1 b.2.2.2 b.1 b.2.1).1 ≤ sg m (bin op m x y) ∧ sg m (bin op m x y) ≤ (S op m a.2.2.1 a.2.2.2 b.2.2.1 b.2.2.2 b.1 b.2.1).2 := by
      intro p h1 h2; rw [h1, h2]; exact hsr
    have key : ((U op m a.1 a.2.1 b.1 b.2.1).1 ≤ bin op m x y ∧ bin op m x y ≤ (U op m a.1 a.2.1 b.1 b.2.1).2) ∧ (S op m a.2.2.1 a.2.2.2 b.2.2.1 b.2.2.2 b.1 b.2.1).1 ≤ sg m (bin op m x y) ∧ sg m (bin op m x y) ≤ (S op m a.2.2.1 a.2.2.2 b.2.2.1 b.2.2.2 b.1 b.2.1).2 := by
      obtain rfl | rfl | rfl | rfl | rfl | rfl | rfl | rfl | rfl | rfl | rfl | rfl | rfl : op = 2 ∨ op = 3 ∨ op = 4 ∨ op = 5 ∨ op = 6 ∨ op = 7 ∨ op = 8 ∨ op = 9 ∨ op = 10 ∨ op = 11 ∨ op = 12 ∨ op = 13 ∨ op = 14 := by omega
      · exact sound_add hn ha0 hb0 va vb hx hy
      · exact sound_sub hn ha0 hb0 va vb hx hy
      · exact sound_mul hn ha0 hb0 va vb hx hy
      · exact ⟨sound_udiv hn ha0 hb0 va vb hx hy, dS _ rfl (by simp [S])⟩
      · exact ⟨sound_urem hn ha0 hb0 va vb hx hy, dS _ rfl (by simp [S])⟩
      · exact ⟨dU _ rfl (by simp [U]), sound_sdiv hn ha0 hb0 va vb hx hy⟩
      · exact ⟨dU _ rfl (by simp [U]), sound_srem hn ha0 hb0 va vb hx hy⟩
      · exact ⟨sound_and hn ha0 hb0 va vb hx hy, dS _ rfl (by simp [S])⟩
      · exact ⟨sound_or hn ha0 hb0 va vb hx hy, dS _ rfl (by simp [S])⟩
      · exact ⟨sound_xor hn ha0 hb0 va vb hx hy, dS _ rfl (by simp [S])⟩
      · exact sound_shl hn ha0 hb0 va vb hx hy
      · exact ⟨sound_lshr hn ha0 hb0 va vb hx hy, dS _ rfl (by simp [S])⟩
      · exact ⟨dU _ rfl (by simp [U]), sound_ashr hn ha0 hb0 va vb hx hy⟩
    exact ⟨key.1.1, key.1.2, key.2.1, key.2.2⟩
  · have e1 : ev op 1 m x y z num = bin op m x y := by unfold ev; rw [if_neg (by omega), if_neg (by omega), if_pos ho.2]
    have e2 : core op 1 m a b c = cmp op a.1 a.2.1 a.2.2.1 a.2.2.2 b.1 b.2.1 b.2.2.1 b.2.2.2 := by unfold core; rw [if_pos ho]
    rw [e1, e2]; exact sound_cmp ho hx hy
  · have e1 : ev 21 n 1 x y z num = if x = 1 then y else z := by simp [ev]
    have e2 : core 21 n 1 a b c = if a.1 = a.2.1 then (if a.1 = 1 then b else c) else join b c := by simp [core]
    rw [e1, e2]
    obtain ⟨x1, x2, x3, x4⟩ := hx
    by_cases k : a.1 = a.2.1
    · rw [if_pos k]
      by_cases k1 : a.1 = 1
      · rw [if_pos k1, if_pos (by omega)]; exact hy
      · rw [if_neg k1, if_neg (by omega)]; exact hz
    · rw [if_neg k]
      obtain ⟨y1, y2, y3, y4⟩ := hy
      obtain ⟨z1, z2, z3, z4⟩ := hz
      have f1 := mn_facts b.1 c.1
      have f2 := mx_facts b.2.1 c.2.1
      have f3 := mn_facts b.2.2.1 c.2.2.1
      have f4 := mx_facts b.2.2.2 c.2.2.2
      unfold InR In join
      simp only []
      split <;> omega
  · have e1 : ev op n m x y z num = castv op n m x := by unfold ev; rw [if_neg (by omega), if_neg (by omega), if_neg (by omega), if_neg (by omega)]
    have e2 : core op n m a b c = cast op n m a.1 a.2.1 a.2.2.1 a.2.2.2 := by unfold core; rw [if_neg (by omega), if_neg (by omega), if_pos ho]
    rw [e1, e2]; exact sound_cast hn hm hs ha0 va hx
theorem fit_dec (yes no : Prop) [Decidable yes] [Decidable no] : fitr 1 (dec yes no) = dec yes no := by
  unfold dec
  by_cases c : yes
  · rw [if_pos c]; decide
  · rw [if_neg c]
    by_cases c2 : no
    · rw [if_pos c2]; decide
    · rw [if_neg c2]; decide
end Go.Proofs.Ytoddafkffchnjaa.Ap
