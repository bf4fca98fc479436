import Derived.Test.YtoddafkffchnjaaCn
import Derived.Test.YtoddafkffchnjaaBl
import Derived.Test.YtoddafkffchnjaaDf
/- The values of operators, as the reference tells them. -/
namespace Go.Proofs.Ytoddafkffchnjaa.Ev
set_option linter.unusedVariables false
set_option linter.unusedSimpArgs false
set_option linter.unusedSectionVars false
open Go.RowKit Go.Proofs.Ytoddafkffchnjaa.P Go.Proofs.YtoddafkffchnjaaW.PrintWords Wd Im Iv Tg Lw0 Ap Cm Cn

theorem bit12 {x : Int} (hx : 0 ≤ x ∧ x < 18446744073709551616) {i : Int} (hi : 0 ≤ i ∧ i ≤ 64) : jacquardref12_Bit.f x i = some (x / 2 ^ i.toNat % 2) := bit_eq hx hi
theorem or_bit {i : Nat} (hi : i < 64) {o b : Int} (h0 : 0 ≤ o) (h : o < 2 ^ i) (hb : b = 0 ∨ b = 1) : Go.bits .or .u64 o (shl .u64 (IntKind.u64.wrap b) (i : Int)) = o + 2 ^ i * b := by
  have hp := pow_pos i
  have hp2 := pow_le (n := i + 1) (by omega)
  rw [Int.pow_succ] at hp2
  have hs : shl .u64 (IntKind.u64.wrap b) (i : Int) = 2 ^ i * b := by
    rw [show IntKind.u64.wrap b = b by rw [wrap_u64]; omega, shl_u (by omega) (by rcases hb with rfl | rfl <;> simp <;> omega) (by rcases hb with rfl | rfl <;> simp <;> omega)]
    rw [Int.toNat_natCast, Int.mul_comm]
  rw [hs]
  have hbb : 0 ≤ 2 ^ i * b ∧ 2 ^ i * b < 18446744073709551616 := by rcases hb with rfl | rfl <;> simp <;> omega
  rw [bor _ _ (by omega) hbb]
  obtain ⟨x, rfl⟩ := Int.eq_ofNat_of_zero_le h0
  have hx : x < 2 ^ i := by exact_mod_cast h
  rcases hb with rfl | rfl
  · simp
  · have e : ((2 : Int) ^ i * 1).toNat = 2 ^ i * 1 := by rw [Int.mul_one, Nat.mul_one]; exact pow_toNat i
    rw [Int.toNat_natCast, e, Nat.or_comm, ← Nat.two_pow_add_eq_or_of_lt hx]
    rw [Int.natCast_add, Int.natCast_mul, cast_pow]; omega
theorem wr_i {i n : Nat} (h : i < n) (h64 : n ≤ 64) : wrap64 ((i : Int) + 1) = ((i + 1 : Nat) : Int) := by rw [wrap64_id (by omega) (by omega)]; omega
theorem wr_w {w : Int} {n : Nat} (hw : w = n) (h64 : n ≤ 64) : IntKind.u64.wrap w = n := by rw [wrap_u64]; omega
theorem wr_b {b : Int} {i n : Nat} (hb : 0 ≤ b) (c : b < n) (h : i < n) (h64 : n ≤ 64) : wrap64 ((i : Int) + wrap64 b) = b + i := by
  have e : wrap64 b = b := wrap64_id (by omega) (by omega)
  rw [e, wrap64_id (by omega) (by omega)]; omega
theorem truth12 (p : Prop) [Decidable p] : jacquardref12_truth.f (decide p) = some (if p then 1 else 0) := by
  unfold jacquardref12_truth.f
  by_cases c : p
  · rw [if_pos (decide_eq_true c), if_pos c]
  · rw [if_neg (by simpa using c), if_neg c]
theorem mod2 (x : Int) : x % 2 = 0 ∨ x % 2 = 1 := by omega
section
variable {w : Int} {n : Nat} (hw : w = n) (hn : 1 ≤ n) (h64 : n ≤ 64)
include hw hn h64
/-- The loop: the low i bits are those of y. -/
theorem shift_loop {a b fill y : Int} (ha : 0 ≤ a ∧ a < 2 ^ n) (hb : 0 ≤ b ∧ b < 18446744073709551616) (hf : fill = 0 ∨ fill = 1)
    (hlo : ∀ i : Nat, b + i < n → a / 2 ^ (b.toNat + i) % 2 = y / 2 ^ i % 2) (hhi : ∀ i : Nat, i < n → n ≤ b + i → fill = y / 2 ^ i % 2) (d : Nat) :
    ∀ (k i : Nat), i + d = n → d < k → jacquardref12_shift.l0 k w a b fill (y % 2 ^ i) i = some (y % 2 ^ n) := by
  have hp := pow_le h64
  induction d with
  | zero =>
    intro k i hi hk
    obtain ⟨k, rfl⟩ : ∃ m, k = m + 1 := ⟨k - 1, by omega⟩
    obtain rfl : i = n := by omega
    rw [jacquardref12_shift.l0, if_neg (by omega)]
  | succ d ih =>
    intro k i hi hk
    obtain ⟨k, rfl⟩ : ∃ m, k = m + 1 := ⟨k - 1, by omega⟩
    have h2 := ih k (i + 1) (by omega) (by omega)
    have hin : i < n := by omega
    have hi64 : i < 64 := by omega
    have hiw : (i : Int) < w := by omega
    have hi0 : (0 : Int) ≤ (i : Int) := by omega
    have a64 : 0 ≤ a ∧ a < 18446744073709551616 := by omega
    have bx : b + (i : Int) < w → 0 ≤ b + (i : Int) ∧ b + (i : Int) ≤ 64 := by omega
    have bt : (b + (i : Int)).toNat = b.toNat + i := by omega
    have bn : b + (i : Int) < w → b + i < n := by omega
    have bg : ¬ b + (i : Int) < w → n ≤ b + i := by omega
    have bg2 : ¬ b < n → n ≤ b + i := by omega
    clear ih
    rw [jacquardref12_shift.l0, if_pos hiw, wr_w hw h64, wr_i hin h64]
    have hm := mod_lt i y
    have hs := Bl.mod_succ i y
    have hy := mod2 (y / 2 ^ i)
    have F : n ≤ b + i → jacquardref12_shift.l0 k w a b fill (Go.bits .or .u64 (y % 2 ^ i) (shl .u64 (IntKind.u64.wrap fill) (i : Int))) ((i + 1 : Nat) : Int) = some (y % 2 ^ n) := by
      intro h
      have e : Go.bits .or .u64 (y % 2 ^ i) (shl .u64 (IntKind.u64.wrap fill) (i : Int)) = y % 2 ^ (i + 1) := by rw [or_bit hi64 hm.1 hm.2 hf, hs, ← hhi i hin h]
      rw [e]; exact h2
    by_cases c1 : b < n
    · rw [if_pos c1, wr_b hb.1 c1 hin h64]
      by_cases c2 : b + i < w
      · rw [if_pos c2, bit12 a64 (bx c2), Option.bind_some, if_pos hi0, bt, hlo i (bn c2), or_bit hi64 hm.1 hm.2 hy, ← hs]; exact h2
      · rw [if_neg c2, if_pos hi0]; exact F (bg c2)
    · rw [if_neg c1, if_pos hi0]; exact F (bg2 c1)
theorem lshr12 {a b : Int} (ha : 0 ≤ a ∧ a < 2 ^ n) (hb : 0 ≤ b ∧ b < 18446744073709551616) {k : Nat} (hk : 64 < k) : jacquardref12_shift.f k w a b 0 = some (bin 13 n a b) := by
  have hq := div_nn b.toNat ha.1
  have e : bin 13 n a b = a / 2 ^ b.toNat := by
    simp only [bin]; simp; intro h
    rw [Int.ediv_eq_zero_of_lt (by omega)]
    have := pow_mono (a := n) (b := b.toNat) (by omega)
    omega
  have hl := shift_loop hw hn h64 (fill := 0) (y := a / 2 ^ b.toNat) ha hb (.inl rfl) (fun i hi => by rw [← div_step]) (fun i hi h => by
    rw [← div_step, Bl.small_bit ha.1 ha.2 (by omega)]) n k 0 (by omega) (by omega)
  unfold jacquardref12_shift.f
  rw [e]
  rw [mod_small (n := n) hq.1 (by omega)] at hl
  simpa [Int.emod_one] using hl
theorem ashr12 {a b : Int} (ha : 0 ≤ a ∧ a < 2 ^ n) (hb : 0 ≤ b ∧ b < 18446744073709551616) {k : Nat} (hk : 64 < k) : jacquardref12_shift.f k w a b (a / 2 ^ (n - 1) % 2) = some (bin 14 n a b) := by
  have hs := pow_succ' hn
  have hpp := pow_pos (n - 1)
  have hr := sg_inr hn a
  have hbh := Bl.bit_high hn (x := a)
  rw [mod_small ha.1 ha.2] at hbh
  have hf : a / 2 ^ (n - 1) % 2 = 0 ∨ a / 2 ^ (n - 1) % 2 = 1 := by omega
  have hsg := sg_cases hn ha.1 ha.2
  have key : ∀ j : Nat, n - 1 ≤ j → sg n a / 2 ^ j % 2 = a / 2 ^ (n - 1) % 2 := by
    intro j hj
    rw [hbh]
    rcases hsg with ⟨h1, h2⟩ | ⟨h1, h2⟩
    · rw [if_neg (by omega), Bl.small_bit (n := n - 1) (by omega) (by omega) hj]
    · rw [if_pos h1, Bl.neg_bit (n := n - 1) (by omega) (by omega) hj]
  have hl := shift_loop hw hn h64 (fill := a / 2 ^ (n - 1) % 2) (y := sg n a / 2 ^ b.toNat) ha hb hf (fun i hi => by
      rw [← div_step]
      rcases hsg with ⟨h1, h2⟩ | ⟨h1, h2⟩
      · rw [h2]
      · rw [h2, Bl.sub_pow_bit a (by omega)]) (fun i hi h => by
      rw [← div_step, key _ (by omega)]) n k 0 (by omega) (by omega)
  have e : bin 14 n a b = sg n a / 2 ^ b.toNat % 2 ^ n := by
    have e1 : bin 14 n a b = if (n : Int) ≤ b then (if 2 ^ (n - 1) ≤ a then 2 ^ n - 1 else 0) else sg n a / 2 ^ b.toNat % 2 ^ n := by simp [bin]
    rw [e1]
    by_cases c : (n : Int) ≤ b
    · have hp := pow_mono (a := n - 1) (b := b.toNat) (by omega)
      rw [if_pos c]
      rcases hsg with ⟨h1, h2⟩ | ⟨h1, h2⟩
      · rw [if_neg (by omega), h2, Int.ediv_eq_zero_of_lt ha.1 (by omega)]; simp
      · have hq : sg n a / 2 ^ b.toNat = -1 := by
          apply (Int.ediv_eq_iff_of_pos (by omega)).2
          omega
        rw [if_pos h1, hq, mod_plus (by omega) (by omega)]; omega
    · rw [if_neg c]
  unfold jacquardref12_shift.f
  rw [e]
  simpa [Int.emod_one] using hl
theorem divide12 {a b : Int} (ha : 0 ≤ a ∧ a < 2 ^ n) (hb : 0 ≤ b ∧ b < 2 ^ n) {k : Nat} (hk : 64 < k) : jacquardref12_divide.f k w a b = some (bin 7 n a b, bin 8 n a b) := by
  have hp := pow_le h64
  have hnw : nn w = n := by have := nn_of (w := w) (by omega) (by omega); omega
  have hs := pow_succ' hn
  have hpp := pow_pos (n - 1)
  have s1 := rsg_eq (w := w) (by omega) ha.1 (by rw [hnw]; exact ha.2) hk
  have s2 := rsg_eq (w := w) (by omega) hb.1 (by rw [hnw]; exact hb.2) hk
  have mk := rmask_eq (w := w) (by omega) hk
  rw [hnw] at s1 s2 mk
  have hbz : sg n b = 0 ↔ b = 0 := by
    unfold sg; rw [mod_small hb.1 hb.2]; split <;> omega
  unfold jacquardref12_divide.f
  rw [s1, Option.bind_some, s2, Option.bind_some]
  have hm : ∀ x, Go.bits .and .u64 (IntKind.u64.wrap x) (2 ^ n - 1) = x % 2 ^ n := fun x => by rw [and_mask h64 (by rw [wrap_u64]; omega), wrap_mod h64]
  by_cases c0 : sg n b = 0
  · rw [if_pos c0, mk, Option.bind_some]; simp [bin, hbz.1 c0]
  · have hb1 : ¬ b = 0 := fun h => c0 (hbz.2 h)
    rw [if_neg c0]
    by_cases c1 : sg n b = -1
    · rw [if_pos c1, mk, Option.bind_some, hm]
      simp only [bin, c1, hb1]
      simp
      have e := sg_mod (n := n) a
      rw [← Int.zero_sub, ← Int.zero_sub (sg n a), Int.sub_emod, ← e, ← Int.sub_emod]
    · rw [if_neg c1, mk, Option.bind_some, hm, hm]
      have r1 := sg_I h64 a
      have r2 := sg_I h64 b
      have ht := tdiv_I (x := sg n a) (a := sg n b) r1 r2 (by omega)
      rw [wrap64_id ht.1 ht.2]
      simp [bin, hb1]
theorem eval_bin {op : Int} (ho : 2 ≤ op ∧ op ≤ 14) (ws : List Int) {a b : Int} (ha : 0 ≤ a ∧ a < 2 ^ n) (hb : 0 ≤ b ∧ b < 2 ^ n) (num : Int) {k : Nat} (hk : 66 < k) : jacquardref12_Eval.f k op w ws [a, b] num = some (bin op n a b) := by
  obtain ⟨k, rfl⟩ : ∃ m, k = m + 1 := ⟨k - 1, by omega⟩
  have hp := pow_le h64
  have hpp := pow_pos n
  have hnw : nn w = n := by have := nn_of (w := w) (by omega) (by omega); omega
  have mk := rmask_eq (w := w) (by omega) (k := k) (by omega)
  rw [hnw] at mk
  have hm : ∀ x, Go.bits .and .u64 (IntKind.u64.wrap x) (2 ^ n - 1) = x % 2 ^ n := fun x => by rw [and_mask h64 (by rw [wrap_u64]; omega), wrap_mod h64]
  unfold jacquardref12_Eval.f
  rw [if_neg (by omega), if_pos (by simp), if_pos (by simp), if_pos (by simp), show rd [a, b] 0 = a from rfl, show rd [a, b] 1 = b from rfl, jacquardref12_Eval.j0]
  obtain rfl | rfl | rfl | rfl | rfl | rfl | rfl | rfl | rfl | rfl | rfl | rfl | rfl : op = 2 ∨ op = 3 ∨ op = 4 ∨ op = 5 ∨ op = 6 ∨ op = 7 ∨ op = 8 ∨ op = 9 ∨ op = 10 ∨ op = 11 ∨ op = 12 ∨ op = 13 ∨ op = 14 := by omega
  · rw [if_pos rfl, mk, Option.bind_some, hm]; simp [bin]
  · rw [if_neg (by decide), if_pos rfl, mk, Option.bind_some, hm]; simp [bin]
  · rw [if_neg (by decide), if_neg (by decide), if_pos rfl, mk, Option.bind_some, hm]; simp [bin]
  · rw [if_neg (by decide), if_neg (by decide), if_neg (by decide), if_pos rfl]
    by_cases c : b = 0
    · rw [if_pos c, mk, Option.bind_some]; simp [bin, c]
    · have q1 := Int.ediv_le_self b ha.1
      have q2 := Int.ediv_nonneg ha.1 hb.1
      rw [if_neg c, Int.tdiv_eq_ediv_of_nonneg ha.1, show IntKind.u64.wrap (a / b) = a / b by rw [wrap_u64]; omega]; simp [bin, c]
  · rw [if_neg (by decide), if_neg (by decide), if_neg (by decide), if_neg (by decide), if_pos rfl]
    by_cases c : b = 0
    · rw [if_pos c]; simp [bin, c]
    · rw [if_neg c, Int.tmod_eq_emod_of_nonneg ha.1]; simp [bin, c]
  · rw [if_neg (by decide), if_neg (by decide), if_neg (by decide), if_neg (by decide), if_neg (by decide), if_pos rfl, divide12 hw hn h64 ha hb (by omega)]; rfl
  · rw [if_neg (by decide), if_neg (by decide), if_neg (by decide), if_neg (by decide), if_neg (by decide), if_neg (by decide), if_pos rfl, divide12 hw hn h64 ha hb (by omega)]; rfl
  · simp only [show ¬ (9 : Int) = 2 by decide, show ¬ (9 : Int) = 3 by decide, show ¬ (9 : Int) = 4 by decide, show ¬ (9 : Int) = 5 by decide, show ¬ (9 : Int) = 6 by decide, show ¬ (9 : Int) = 7 by decide, show ¬ (9 : Int) = 8 by decide, if_false, if_true]
    rw [band _ _ (by omega) (by omega)]; simp [bin]
  · simp only [show ¬ (10 : Int) = 2 by decide, show ¬ (10 : Int) = 3 by decide, show ¬ (10 : Int) = 4 by decide, show ¬ (10 : Int) = 5 by decide, show ¬ (10 : Int) = 6 by decide, show ¬ (10 : Int) = 7 by decide, show ¬ (10 : Int) = 8 by decide, show ¬ (10 : Int) = 9 by decide, if_false, if_true]
    rw [bor _ _ (by omega) (by omega)]; simp [bin]
  · simp only [show ¬ (11 : Int) = 2 by decide, show ¬ (11 : Int) = 3 by decide, show ¬ (11 : Int) = 4 by decide, show ¬ (11 : Int) = 5 by decide, show ¬ (11 : Int) = 6 by decide, show ¬ (11 : Int) = 7 by decide, show ¬ (11 : Int) = 8 by decide, show ¬ (11 : Int) = 9 by decide, show ¬ (11 : Int) = 10 by decide, if_false, if_true]
    rw [bxor _ _ (by omega) (by omega)]; simp [bin]
  · simp only [show ¬ (12 : Int) = 2 by decide, show ¬ (12 : Int) = 3 by decide, show ¬ (12 : Int) = 4 by decide, show ¬ (12 : Int) = 5 by decide, show ¬ (12 : Int) = 6 by decide, show ¬ (12 : Int) = 7 by decide, show ¬ (12 : Int) = 8 by decide, show ¬ (12 : Int) = 9 by decide, show ¬ (12 : Int) = 10 by decide, show ¬ (12 : Int) = 11 by decide, if_false, if_true]
    rw [show IntKind.u64.wrap w = n by rw [wrap_u64]; omega]
    by_cases c : b ≥ n
    · rw [if_pos c]; simp [bin, show (n : Int) ≤ b from c]
    · rw [if_neg c, if_pos hb.1, mk, Option.bind_some]
      unfold shl
      rw [show min b.toNat (IntKind.bits .u64) = b.toNat by show min _ 64 = _; omega, hm]; simp [bin, show ¬ (n : Int) ≤ b from c]
  · simp only [show ¬ (13 : Int) = 2 by decide, show ¬ (13 : Int) = 3 by decide, show ¬ (13 : Int) = 4 by decide, show ¬ (13 : Int) = 5 by decide, show ¬ (13 : Int) = 6 by decide, show ¬ (13 : Int) = 7 by decide, show ¬ (13 : Int) = 8 by decide, show ¬ (13 : Int) = 9 by decide, show ¬ (13 : Int) = 10 by decide, show ¬ (13 : Int) = 11 by decide, show ¬ (13 : Int) = 12 by decide, if_false, if_true]
    rw [lshr12 hw hn h64 ha (by omega) (by omega)]; rfl
  · simp only [show ¬ (14 : Int) = 2 by decide, show ¬ (14 : Int) = 3 by decide, show ¬ (14 : Int) = 4 by decide, show ¬ (14 : Int) = 5 by decide, show ¬ (14 : Int) = 6 by decide, show ¬ (14 : Int) = 7 by decide, show ¬ (14 : Int) = 8 by decide, show ¬ (14 : Int) = 9 by decide, show ¬ (14 : Int) = 10 by decide, show ¬ (14 : Int) = 11 by decide, show ¬ (14 : Int) = 12 by decide, show ¬ (14 : Int) = 13 by decide, if_false, if_true]
    rw [wrap64_id (by omega) (by omega), bit12 (by omega) (by omega), Option.bind_some, show (w - 1).toNat = n - 1 by omega, ashr12 hw hn h64 ha (by omega) (by omega)]; rfl
end
theorem eval_cmp {op : Int} (ho : 15 ≤ op ∧ op ≤ 20) (w : Int) {v : Int} {m : Nat} (hv : v = m) (hm : 1 ≤ m) (h64 : m ≤ 64) {a b : Int} (ha : 0 ≤ a ∧ a < 2 ^ m) (hb : 0 ≤ b ∧ b < 2 ^ m) (num : Int) {k : Nat} (hk : 66 < k) :
    jacquardref12_Eval.f k op w [v, v] [a, b] num = some (bin op m a b) := by
  obtain ⟨k, rfl⟩ : ∃ m, k = m + 1 := ⟨k - 1, by omega⟩
  have hnv : nn v = m := by have := nn_of (w := v) (by omega) (by omega); omega
  have s1 := rsg_eq (w := v) (x := a) (by omega) ha.1 (by rw [hnv]; exact ha.2) (k := k) (by omega)
  have s2 := rsg_eq (w := v) (x := b) (by omega) hb.1 (by rw [hnv]; exact hb.2) (k := k) (by omega)
  rw [hnv] at s1 s2
  unfold jacquardref12_Eval.f
  rw [if_neg (by omega), if_pos (by simp), if_pos (by simp), if_pos (by simp), show rd [a, b] 0 = a from rfl, show rd [a, b] 1 = b from rfl, jacquardref12_Eval.j0]
  have e1 : (a == b) = decide (a = b) := by rw [Bool.eq_iff_iff]; simp
  have e2 : (a != b) = decide (¬ a = b) := by rw [Bool.eq_iff_iff]; simp
  obtain rfl | rfl | rfl | rfl | rfl | rfl : op = 15 ∨ op = 16 ∨ op = 17 ∨ op = 18 ∨ op = 19 ∨ op = 20 := by omega
  · simp only [show ¬ (15 : Int) = 2 by decide, show ¬ (15 : Int) = 3 by decide, show ¬ (15 : Int) = 4 by decide, show ¬ (15 : Int) = 5 by decide, show ¬ (15 : Int) = 6 by decide, show ¬ (15 : Int) = 7 by decide, show ¬ (15 : Int) = 8 by decide, show ¬ (15 : Int) = 9 by decide, show ¬ (15 : Int) = 10 by decide, show ¬ (15 : Int) = 11 by decide, show ¬ (15 : Int) = 12 by decide, show ¬ (15 : Int) = 13 by decide, show ¬ (15 : Int) = 14 by decide, if_false, if_true]
    rw [e1, truth12, Option.bind_some]; simp [bin]
  · simp only [show ¬ (16 : Int) = 2 by decide, show ¬ (16 : Int) = 3 by decide, show ¬ (16 : Int) = 4 by decide, show ¬ (16 : Int) = 5 by decide, show ¬ (16 : Int) = 6 by decide, show ¬ (16 : Int) = 7 by decide, show ¬ (16 : Int) = 8 by decide, show ¬ (16 : Int) = 9 by decide, show ¬ (16 : Int) = 10 by decide, show ¬ (16 : Int) = 11 by decide, show ¬ (16 : Int) = 12 by decide, show ¬ (16 : Int) = 13 by decide, show ¬ (16 : Int) = 14 by decide, show ¬ (16 : Int) = 15 by decide, if_false, if_true]
    rw [e2, truth12, Option.bind_some]; simp [bin]
  · simp only [show ¬ (17 : Int) = 2 by decide, show ¬ (17 : Int) = 3 by decide, show ¬ (17 : Int) = 4 by decide, show ¬ (17 : Int) = 5 by decide, show ¬ (17 : Int) = 6 by decide, show ¬ (17 : Int) = 7 by decide, show ¬ (17 : Int) = 8 by decide, show ¬ (17 : Int) = 9 by decide, show ¬ (17 : Int) = 10 by decide, show ¬ (17 : Int) = 11 by decide, show ¬ (17 : Int) = 12 by decide, show ¬ (17 : Int) = 13 by decide, show ¬ (17 : Int) = 14 by decide, show ¬ (17 : Int) = 15 by decide, show ¬ (17 : Int) = 16 by decide, if_false, if_true]
    rw [truth12, Option.bind_some]; simp [bin]
  · simp only [show ¬ (18 : Int) = 2 by decide, show ¬ (18 : Int) = 3 by decide, show ¬ (18 : Int) = 4 by decide, show ¬ (18 : Int) = 5 by decide, show ¬ (18 : Int) = 6 by decide, show ¬ (18 : Int) = 7 by decide, show ¬ (18 : Int) = 8 by decide, show ¬ (18 : Int) = 9 by decide, show ¬ (18 : Int) = 10 by decide, show ¬ (18 : Int) = 11 by decide, show ¬ (18 : Int) = 12 by decide, show ¬ (18 : Int) = 13 by decide, show ¬ (18 : Int) = 14 by decide, show ¬ (18 : Int) = 15 by decide, show ¬ (18 : Int) = 16 by decide, show ¬ (18 : Int) = 17 by decide, if_false, if_true]
    rw [truth12, Option.bind_some]; simp [bin]
  · simp only [show ¬ (19 : Int) = 2 by decide, show ¬ (19 : Int) = 3 by decide, show ¬ (19 : Int) = 4 by decide, show ¬ (19 : Int) = 5 by decide, show ¬ (19 : Int) = 6 by decide, show ¬ (19 : Int) = 7 by decide, show ¬ (19 : Int) = 8 by decide, show ¬ (19 : Int) = 9 by decide, show ¬ (19 : Int) = 10 by decide, show ¬ (19 : Int) = 11 by decide, show ¬ (19 : Int) = 12 by decide, show ¬ (19 : Int) = 13 by decide, show ¬ (19 : Int) = 14 by decide, show ¬ (19 : Int) = 15 by decide, show ¬ (19 : Int) = 16 by decide, show ¬ (19 : Int) = 17 by decide, show ¬ (19 : Int) = 18 by decide, if_false, if_true]
    rw [if_pos (by simp), show rd [v, v] 0 = v from rfl, s1, Option.bind_some, if_pos (by simp), show rd [v, v] 1 = v from rfl, s2, Option.bind_some, truth12, Option.bind_some]; simp [bin]
  · simp only [show ¬ (20 : Int) = 2 by decide, show ¬ (20 : Int) = 3 by decide, show ¬ (20 : Int) = 4 by decide, show ¬ (20 : Int) = 5 by decide, show ¬ (20 : Int) = 6 by decide, show ¬ (20 : Int) = 7 by decide, show ¬ (20 : Int) = 8 by decide, show ¬ (20 : Int) = 9 by decide, show ¬ (20 : Int) = 10 by decide, show ¬ (20 : Int) = 11 by decide, show ¬ (20 : Int) = 12 by decide, show ¬ (20 : Int) = 13 by decide, show ¬ (20 : Int) = 14 by decide, show ¬ (20 : Int) = 15 by decide, show ¬ (20 : Int) = 16 by decide, show ¬ (20 : Int) = 17 by decide, show ¬ (20 : Int) = 18 by decide, show ¬ (20 : Int) = 19 by decide, if_false, if_true]
    rw [if_pos (by simp), show rd [v, v] 0 = v from rfl, s1, Option.bind_some, if_pos (by simp), show rd [v, v] 1 = v from rfl, s2, Option.bind_some, truth12, Option.bind_some]; simp [bin]
theorem eval_select (w : Int) (ws : List Int) (x y z num : Int) {k : Nat} (hk : 1 < k) : jacquardref12_Eval.f k 21 w ws [x, y, z] num = some (if x = 1 then y else z) := by
  obtain ⟨k, rfl⟩ : ∃ m, k = m + 1 := ⟨k - 1, by omega⟩
  unfold jacquardref12_Eval.f
  rw [if_neg (by decide), if_pos (by simp), if_pos (by simp), if_pos (by simp), show rd [x, y, z] 0 = x from rfl, show rd [x, y, z] 1 = y from rfl, jacquardref12_Eval.j0]
  simp only [show ¬ (21 : Int) = 2 by decide, show ¬ (21 : Int) = 3 by decide, show ¬ (21 : Int) = 4 by decide, show ¬ (21 : Int) = 5 by decide, show ¬ (21 : Int) = 6 by decide, show ¬ (21 : Int) = 7 by decide, show ¬ (21 : Int) = 8 by decide, show ¬ (21 : Int) = 9 by decide, show ¬ (21 : Int) = 10 by decide, show ¬ (21 : Int) = 11 by decide, show ¬ (21 : Int) = 12 by decide, show ¬ (21 : Int) = 13 by decide, show ¬ (21 : Int) = 14 by decide, show ¬ (21 : Int) = 15 by decide, show ¬ (21 : Int) = 16 by decide, show ¬ (21 : Int) = 17 by decide, show ¬ (21 : Int) = 18 by decide, show ¬ (21 : Int) = 19 by decide, show ¬ (21 : Int) = 20 by decide, if_false, if_true]
  by_cases c : x = 1
  · rw [if_pos c, if_pos c]
  · rw [if_neg c, if_neg c, if_pos (by simp)]; rfl
theorem eval_cast {op : Int} (ho : op = 22 ∨ op = 23 ∨ op = 24) {w v : Int} {n m : Nat} (hw : w = n) (hn : 1 ≤ n) (h64 : n ≤ 64) (hv : v = m) (hm : 1 ≤ m) (hm64 : m ≤ 64) {x : Int} (hx : 0 ≤ x ∧ x < 2 ^ m) (num : Int) {k : Nat} (hk : 66 < k) :
    jacquardref12_Eval.f k op w [v] [x] num = some (castv op n m x) := by
  obtain ⟨k, rfl⟩ : ∃ m, k = m + 1 := ⟨k - 1, by omega⟩
  have hp := pow_le hm64
  have hnw : nn w = n := by have := nn_of (w := w) (by omega) (by omega); omega
  have hnv : nn v = m := by have := nn_of (w := v) (by omega) (by omega); omega
  have mk := rmask_eq (w := w) (by omega) (k := k) (by omega)
  have s1 := rsg_eq (w := v) (x := x) (by omega) hx.1 (by rw [hnv]; exact hx.2) (k := k) (by omega)
  rw [hnw] at mk
  rw [hnv] at s1
  have hm : ∀ x, Go.bits .and .u64 (IntKind.u64.wrap x) (2 ^ n - 1) = x % 2 ^ n := fun x => by rw [and_mask h64 (by rw [wrap_u64]; omega), wrap_mod h64]
  unfold jacquardref12_Eval.f
  rw [if_neg (by omega), if_pos (by simp), if_neg (by simp), show rd [x] 0 = x from rfl, jacquardref12_Eval.j0]
  rcases ho with rfl | rfl | rfl
  · simp only [show ¬ (22 : Int) = 2 by decide, show ¬ (22 : Int) = 3 by decide, show ¬ (22 : Int) = 4 by decide, show ¬ (22 : Int) = 5 by decide, show ¬ (22 : Int) = 6 by decide, show ¬ (22 : Int) = 7 by decide, show ¬ (22 : Int) = 8 by decide, show ¬ (22 : Int) = 9 by decide, show ¬ (22 : Int) = 10 by decide, show ¬ (22 : Int) = 11 by decide, show ¬ (22 : Int) = 12 by decide, show ¬ (22 : Int) = 13 by decide, show ¬ (22 : Int) = 14 by decide, show ¬ (22 : Int) = 15 by decide, show ¬ (22 : Int) = 16 by decide, show ¬ (22 : Int) = 17 by decide, show ¬ (22 : Int) = 18 by decide, show ¬ (22 : Int) = 19 by decide, show ¬ (22 : Int) = 20 by decide, show ¬ (22 : Int) = 21 by decide, show ¬ (22 : Int) = 23 by decide, if_false, if_true]
    rw [mk, Option.bind_some, and_mask h64 (by omega)]; simp [castv]
  · simp only [show ¬ (23 : Int) = 2 by decide, show ¬ (23 : Int) = 3 by decide, show ¬ (23 : Int) = 4 by decide, show ¬ (23 : Int) = 5 by decide, show ¬ (23 : Int) = 6 by decide, show ¬ (23 : Int) = 7 by decide, show ¬ (23 : Int) = 8 by decide, show ¬ (23 : Int) = 9 by decide, show ¬ (23 : Int) = 10 by decide, show ¬ (23 : Int) = 11 by decide, show ¬ (23 : Int) = 12 by decide, show ¬ (23 : Int) = 13 by decide, show ¬ (23 : Int) = 14 by decide, show ¬ (23 : Int) = 15 by decide, show ¬ (23 : Int) = 16 by decide, show ¬ (23 : Int) = 17 by decide, show ¬ (23 : Int) = 18 by decide, show ¬ (23 : Int) = 19 by decide, show ¬ (23 : Int) = 20 by decide, show ¬ (23 : Int) = 21 by decide, show ¬ (23 : Int) = 22 by decide, if_false, if_true]
    rw [if_pos (by simp), show rd [v] 0 = v from rfl, s1, Option.bind_some, mk, Option.bind_some, hm]; simp [castv]
  · simp only [show ¬ (24 : Int) = 2 by decide, show ¬ (24 : Int) = 3 by decide, show ¬ (24 : Int) = 4 by decide, show ¬ (24 : Int) = 5 by decide, show ¬ (24 : Int) = 6 by decide, show ¬ (24 : Int) = 7 by decide, show ¬ (24 : Int) = 8 by decide, show ¬ (24 : Int) = 9 by decide, show ¬ (24 : Int) = 10 by decide, show ¬ (24 : Int) = 11 by decide, show ¬ (24 : Int) = 12 by decide, show ¬ (24 : Int) = 13 by decide, show ¬ (24 : Int) = 14 by decide, show ¬ (24 : Int) = 15 by decide, show ¬ (24 : Int) = 16 by decide, show ¬ (24 : Int) = 17 by decide, show ¬ (24 : Int) = 18 by decide, show ¬ (24 : Int) = 19 by decide, show ¬ (24 : Int) = 20 by decide, show ¬ (24 : Int) = 21 by decide, show ¬ (24 : Int) = 22 by decide, show ¬ (24 : Int) = 23 by decide, if_false, if_true]
    rw [mk, Option.bind_some, and_mask h64 (by omega)]; simp [castv]
theorem eval_const {w : Int} {n : Nat} (hw : w = n) (h64 : n ≤ 64) (ws l : List Int) {num : Int} (hx : 0 ≤ num ∧ num < 18446744073709551616) {k : Nat} (hk : 66 < k) : jacquardref12_Eval.f k 1 w ws l num = some (num % 2 ^ n) := by
  have hnw : nn w = n := by have := nn_of (w := w) (by omega) (by omega); omega
  have mk := rmask_eq (w := w) (by omega) (k := k) (by omega)
  rw [hnw] at mk
  unfold jacquardref12_Eval.f
  rw [if_pos rfl, mk, Option.bind_some, and_mask h64 hx]
end Go.Proofs.Ytoddafkffchnjaa.Ev
