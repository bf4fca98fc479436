import Derived.Test.YtoddafkffchnjaaEv
import Derived.Test.YtoddafkffchnjaaDf
/- The bounds that the reference computes: the same. -/
namespace Go.Proofs.Ytoddafkffchnjaa.Rf
set_option linter.unusedVariables false
set_option linter.unusedSimpArgs false
set_option linter.unusedSectionVars false
open Go.RowKit Go.Proofs.Ytoddafkffchnjaa.P Go.Proofs.YtoddafkffchnjaaW.PrintWords Wd Im Iv Tg Lw0 Ap Cm Cn Ev

instance (x : Int) : Decidable (I64 x) := by unfold I64; infer_instance
section
variable {w : Int} {n : Nat} (hw : w = n) (hn : 1 ≤ n) (h64 : n ≤ 64) {k : Nat} (hk : 70 < k)
include hw hn h64 hk
theorem nnw : nn w = n := by have := nn_of (w := w) (by omega) (by omega); omega
theorem um : jacquardref13_Umax.f k w = some (2 ^ n - 1) := by rw [umax_eq (by omega) (by omega), nnw hw hn h64 hk]
theorem sx : jacquardref13_Smax.f k w = some (2 ^ (n - 1) - 1) := by rw [smax_eq (by omega) (by omega), nnw hw hn h64 hk]
theorem sn : jacquardref13_Smin.f k w = some (-2 ^ (n - 1)) := by rw [smin_eq (by omega) (by omega), nnw hw hn h64 hk]
theorem rtop : jacquardref13_Top.f (k + 1) w = some (top n) := by
  unfold jacquardref13_Top.f
  rw [if_neg (by omega), decide_eq_false (by omega), jacquardref13_Top.j0, if_neg (by decide), um hw hn h64 hk, Option.bind_some, sn hw hn h64 hk, Option.bind_some, sx hw hn h64 hk]; rfl
theorem rof {x : Int} (hx : 0 ≤ x ∧ x < 18446744073709551616) : jacquardref13_Of.f (k + 1) w x = some (one n x) := by
  have hm := mod_lt n x
  have hs := rsg_eq (w := w) (x := x % 2 ^ n) (by omega) hm.1 (by rw [nnw hw hn h64 hk]; exact hm.2) (k := k) (by omega)
  rw [nnw hw hn h64 hk] at hs
  unfold jacquardref13_Of.f
  rw [if_neg (by omega), decide_eq_false (by omega), jacquardref13_Of.j0, if_neg (by decide), um hw hn h64 hk, Option.bind_some, and_mask h64 hx, hs, Option.bind_some, sg_fit]; rfl
theorem plus_j (s : Int) (b : Bool) : jacquardref13_plus.j0 (k + 1) w s b = some (if b then (0, false) else (s, decide (inr n s))) := by
  rw [jacquardref13_plus.j0]
  cases b
  · rw [if_neg (by decide), sn hw hn h64 hk, Option.bind_some]
    by_cases c : s ≥ -2 ^ (n - 1)
    · rw [if_pos c, sx hw hn h64 hk, Option.bind_some]; simp [inr, show -2 ^ (n - 1) ≤ s from c]
    · rw [if_neg c]; simp [inr, show ¬ -2 ^ (n - 1) ≤ s from c]
  · rw [if_pos rfl]; rfl
theorem minus_j (s : Int) (b : Bool) : jacquardref13_minus.j0 (k + 1) w s b = some (if b then (0, false) else (s, decide (inr n s))) := by
  rw [jacquardref13_minus.j0]
  cases b
  · rw [if_neg (by decide), sn hw hn h64 hk, Option.bind_some]
    by_cases c : s ≥ -2 ^ (n - 1)
    · rw [if_pos c, sx hw hn h64 hk, Option.bind_some]; simp [inr, show -2 ^ (n - 1) ≤ s from c]
    · rw [if_neg c]; simp [inr, show ¬ -2 ^ (n - 1) ≤ s from c]
  · rw [if_pos rfl]; rfl
theorem rplus {a b : Int} (ha : I64 a) (hb : I64 b) : jacquardref13_plus.f (k + 1) w a b = some (if I64 (a + b) then a + b else 0, decide (inr n (a + b))) := by
  have e : jacquardref13_plus.f (k + 1) w a b = jacquardref13_plus.j0 (k + 1) w (wrap64 (a + b)) (decide (¬ I64 (a + b))) := by
    have t : ∀ p : Bool, p = decide (¬ I64 (a + b)) → jacquardref13_plus.j0 (k + 1) w (wrap64 (a + b)) p = jacquardref13_plus.j0 (k + 1) w (wrap64 (a + b)) (decide (¬ I64 (a + b))) := fun p h => by rw [h]
    unfold jacquardref13_plus.f
    unfold I64 wrap64 at *
    by_cases c1 : a ≥ 0
    · rw [if_pos c1]
      by_cases c2 : b ≥ 0
      · rw [if_pos c2]
        by_cases c3 : (a + b + 9223372036854775808) % 18446744073709551616 - 9223372036854775808 < 0
        · rw [if_pos c3]; exact t _ (decide_eq_true (by omega)).symm
        · rw [if_neg c3, if_neg (by omega)]; exact t _ (decide_eq_false (by omega)).symm
      · rw [if_neg c2, if_neg (by omega)]; exact t _ (decide_eq_false (by omega)).symm
    · rw [if_neg c1, if_pos (by omega)]
      by_cases c2 : b < 0
      · rw [if_pos c2]; exact t _ (by rw [decide_eq_decide]; omega)
      · rw [if_neg c2]; exact t _ (decide_eq_false (by omega)).symm
  rw [e, plus_j hw hn h64 hk]
  by_cases c : I64 (a + b)
  · rw [decide_eq_false (not_not_intro c), if_pos c, wrap64_id c.1 c.2]; rfl
  · rw [decide_eq_true c, if_neg c, decide_eq_false (fun h => c (i64_inr h64 h))]; rfl
theorem rminus {a b : Int} (ha : I64 a) (hb : I64 b) : jacquardref13_minus.f (k + 1) w a b = some (if I64 (a - b) then a - b else 0, decide (inr n (a - b))) := by
  have e : jacquardref13_minus.f (k + 1) w a b = jacquardref13_minus.j0 (k + 1) w (wrap64 (a - b)) (decide (¬ I64 (a - b))) := by
    have t : ∀ p : Bool, p = decide (¬ I64 (a - b)) → jacquardref13_minus.j0 (k + 1) w (wrap64 (a - b)) p = jacquardref13_minus.j0 (k + 1) w (wrap64 (a - b)) (decide (¬ I64 (a - b))) := fun p h => by rw [h]
    unfold jacquardref13_minus.f
    unfold I64 wrap64 at *
    by_cases c1 : a ≥ 0
    · rw [if_pos c1]
      by_cases c2 : b < 0
      · rw [if_pos c2]
        by_cases c3 : (a - b + 9223372036854775808) % 18446744073709551616 - 9223372036854775808 < 0
        · rw [if_pos c3]; exact t _ (decide_eq_true (by omega)).symm
        · rw [if_neg c3, if_neg (by omega)]; exact t _ (decide_eq_false (by omega)).symm
      · rw [if_neg c2, if_neg (by omega)]; exact t _ (decide_eq_false (by omega)).symm
    · rw [if_neg c1, if_pos (by omega)]
      by_cases c2 : b ≥ 0
      · rw [if_pos c2]; exact t _ (by rw [decide_eq_decide]; omega)
      · rw [if_neg c2]; exact t _ (decide_eq_false (by omega)).symm
  rw [e, minus_j hw hn h64 hk]
  by_cases c : I64 (a - b)
  · rw [decide_eq_false (not_not_intro c), if_pos c, wrap64_id c.1 c.2]; rfl
  · rw [decide_eq_true c, if_neg c, decide_eq_false (fun h => c (i64_inr h64 h))]; rfl
end
theorem size_eq {a : Int} (ha : I64 a) : jacquardref13_size.f a = some (a.natAbs : Int) := by
  unfold jacquardref13_size.f I64 at *
  by_cases c : a < 0
  · rw [if_pos c, wrap_u64, wrap_u64]; congr 1; omega
  · rw [if_neg c, wrap_u64]; congr 1; omega
theorem product_eq {x y l : Int} (hx : 0 ≤ x) (hy : 0 ≤ y) (hl : 0 ≤ l ∧ l < 18446744073709551616) : ∃ v, jacquardref13_product.f x y l = some (v, decide (x * y ≤ l)) ∧ (x * y ≤ l → v = x * y) := by
  unfold jacquardref13_product.f
  by_cases c : x = 0
  · subst c; refine ⟨0, ?_, fun _ => by simp⟩
    rw [if_pos rfl, decide_eq_true (by simpa using hl.1)]
  · rw [if_neg c]
    by_cases c2 : y = 0
    · subst c2; refine ⟨0, ?_, fun _ => by simp⟩
      rw [if_pos rfl, decide_eq_true (by simpa using hl.1)]
    · have h := le_div_nat (a := x) (b := y) (l := l) (by omega) hy hl.1
      have hd : IntKind.u64.wrap (Int.tdiv l x) = Int.tdiv l x := by
        rw [Int.tdiv_eq_ediv_of_nonneg hl.1, wrap_u64]
        have := Int.ediv_le_self x hl.1
        have := Int.ediv_nonneg hl.1 hx
        omega
      refine ⟨IntKind.u64.wrap (x * y), ?_, fun h2 => ?_⟩
      · rw [if_neg c2, hd]; congr 2; exact decide_eq_decide.2 h
      · have := Int.mul_nonneg hx hy
        rw [wrap_u64]; omega
theorem rtimes {w : Int} {n : Nat} (hw : w = n) (hn : 1 ≤ n) (h64 : n ≤ 64) {k : Nat} (hk : 70 < k) {a b : Int} (ha : I64 a) (hb : I64 b) : ∃ v, jacquardref13_times.f (k + 1) w a b = some (v, decide (inr n (a * b))) ∧ (inr n (a * b) → v = a * b) := by
  have hp := pow_le63 (n := n - 1) (by omega)
  have hpp := pow_pos (n - 1)
  have hab := abs_mul a b
  have hnn : (0 : Int) ≤ (a.natAbs : Int) * (b.natAbs : Int) := Int.mul_nonneg (by omega) (by omega)
  unfold jacquardref13_times.f
  rw [sx hw hn h64 (by omega), Option.bind_some]
  by_cases c : (a < 0) = (b < 0)
  · have e : ((decide (a < 0)) != (decide (b < 0))) = false := by simp only [c]; simp
    rw [if_pos c] at hab
    obtain ⟨v, hv, hv2⟩ := product_eq (x := a.natAbs) (y := b.natAbs) (l := 2 ^ (n - 1) - 1) (by omega) (by omega) (by omega)
    rw [e, if_neg (by decide), jacquardref13_times.j0, size_eq ha, Option.bind_some, size_eq hb, Option.bind_some, show IntKind.u64.wrap (2 ^ (n - 1) - 1) = 2 ^ (n - 1) - 1 by rw [wrap_u64]; omega, hv, Option.bind_some, if_neg (by decide)]
    rw [hab] at hv2 hnn
    refine ⟨wrap64 v, ?_, fun h => ?_⟩
    · congr 2; rw [decide_eq_decide, hab]; unfold inr; omega
    · have := hv2 (by unfold inr at h; omega)
      unfold inr at h
      rw [this, wrap64_id (by omega) (by omega)]
  · have e : ((decide (a < 0)) != (decide (b < 0))) = true := by
      rw [bne_iff_ne]; intro h; exact c (propext (decide_eq_decide.1 h))
    rw [if_neg c] at hab
    obtain ⟨v, hv, hv2⟩ := product_eq (x := a.natAbs) (y := b.natAbs) (l := 2 ^ (n - 1)) (by omega) (by omega) (by omega)
    have hl : IntKind.u64.wrap (IntKind.u64.wrap (2 ^ (n - 1) - 1) + 1) = 2 ^ (n - 1) := by rw [wrap_u64, wrap_u64]; omega
    rw [e, if_pos rfl, jacquardref13_times.j0, size_eq ha, Option.bind_some, size_eq hb, Option.bind_some, hl, hv, Option.bind_some, if_pos rfl]
    rw [hab] at hv2 hnn
    refine ⟨wrap64 (IntKind.u64.wrap (-v)), ?_, fun h => ?_⟩
    · congr 2; rw [decide_eq_decide, hab]; unfold inr; omega
    · have := hv2 (by unfold inr at h; omega)
      unfold inr at h
      rw [this, wrap_u64]; unfold wrap64; omega
theorem ones_loop {z : Nat} (hz : z < 2 ^ 64) (d : Nat) : ∀ (k i : Nat), i + d = len z → d < k → jacquardref13_ones.l0 k z (2 ^ i - 1) = some (2 ^ len z - 1) := by
  have hl := len_le hz
  induction d with
  | zero =>
    intro k i hi hk
    obtain ⟨k, rfl⟩ : ∃ m, k = m + 1 := ⟨k - 1, by omega⟩
    obtain rfl : i = len z := by omega
    have := lt_len z
    have := cast_pow (len z)
    rw [jacquardref13_ones.l0, if_neg (by omega)]
  | succ d ih =>
    intro k i hi hk
    obtain ⟨k, rfl⟩ : ∃ m, k = m + 1 := ⟨k - 1, by omega⟩
    have h2 := ih k (i + 1) (by omega) (by omega)
    have hp := pow_pos i
    have hp2 := pow_le (n := i + 1) (by omega)
    rw [Int.pow_succ] at hp2
    have hlt : ¬ z < 2 ^ i := fun h => by have := len_le h; omega
    have := cast_pow i
    rw [jacquardref13_ones.l0, if_pos (by omega)]
    have e : IntKind.u64.wrap (IntKind.u64.wrap ((2 ^ i - 1) * 2) + 1) = 2 ^ (i + 1) - 1 := by rw [wrap_u64, wrap_u64, Int.pow_succ]; omega
    rw [e]; exact h2
theorem ones_eq {z : Int} (hz : 0 ≤ z ∧ z < 18446744073709551616) {k : Nat} (hk : 64 < k) : jacquardref13_ones.f k z = some (2 ^ len z.toNat - 1) := by
  have hl := len_le (z := z.toNat) (k := 64) (by omega)
  have := ones_loop (z := z.toNat) (by omega) (len z.toNat) k 0 (by omega) (by omega)
  unfold jacquardref13_ones.f
  rw [Int.toNat_of_nonneg hz.1] at this
  simpa using this
theorem one_1 : one 1 1 = (1, 1, -1, -1) := by decide
theorem one_0 : one 1 0 = (0, 0, 0, 0) := by decide
theorem top_1 : top 1 = (0, 1, -1, 0) := by decide
theorem decided_eq (yes no : Prop) [Decidable yes] [Decidable no] {k : Nat} (hk : 71 < k) : jacquardref13_decided.f k (decide yes) (decide no) = some (dec yes no) := by
  obtain ⟨k, rfl⟩ : ∃ m, k = m + 1 := ⟨k - 1, by omega⟩
  unfold jacquardref13_decided.f dec
  by_cases c : yes
  · rw [if_pos (decide_eq_true c), if_pos c, rof (w := 1) (n := 1) (k := k) rfl (by decide) (by decide) (by omega) (by decide), one_1]; rfl
  · rw [if_neg (by simpa using c), if_neg c]
    by_cases c2 : no
    · rw [if_pos (decide_eq_true c2), if_pos c2, rof (w := 1) (n := 1) (k := k) rfl (by decide) (by decide) (by omega) (by decide), one_0]; rfl
    · rw [if_neg (by simpa using c2), if_neg c2, rtop (w := 1) (n := 1) (k := k) rfl (by decide) (by decide) (by omega), top_1]; rfl
theorem rcompare {op : Int} (ho : 15 ≤ op ∧ op ≤ 20) (alo ahi al am blo bhi bl bm : Int) {k : Nat} (hk : 72 < k) : jacquardref13_compare.f k op alo ahi al am blo bhi bl bm = some (cmp op alo ahi al am blo bhi bl bm) := by
  obtain ⟨k, rfl⟩ : ∃ m, k = m + 1 := ⟨k - 1, by omega⟩
  have J : ∀ b : Bool, b = decide (Apart alo ahi al am blo bhi bl bm) → jacquardref13_compare.j0 (k + 1) op b alo ahi al am blo bhi bl bm = some (cmp op alo ahi al am blo bhi bl bm) := by
    intro b hb
    subst hb
    have tf := fun (p : Prop) [Decidable p] => decided_eq p False (k := k) (by omega)
    have ft := fun (p : Prop) [Decidable p] => decided_eq False p (k := k) (by omega)
    have de := fun (p q : Prop) [Decidable p] [Decidable q] => decided_eq p q (k := k) (by omega)
    have e : (decide False) = false := rfl
    rw [e] at tf ft
    obtain rfl | rfl | rfl | rfl | rfl | rfl : op = 15 ∨ op = 16 ∨ op = 17 ∨ op = 18 ∨ op = 19 ∨ op = 20 := by omega
    · rw [jacquardref13_compare.j0, if_pos rfl, ft]; simp [cmp]
    · rw [jacquardref13_compare.j0, if_neg (by decide), if_pos rfl, tf]; simp [cmp]
    · rw [jacquardref13_compare.j0, if_neg (by decide), if_neg (by decide), if_pos rfl, de]; simp [cmp]
    · rw [jacquardref13_compare.j0, if_neg (by decide), if_neg (by decide), if_neg (by decide), if_pos rfl, de]; simp [cmp]
    · rw [jacquardref13_compare.j0, if_neg (by decide), if_neg (by decide), if_neg (by decide), if_neg (by decide), if_pos rfl, de]; simp [cmp]
    · rw [jacquardref13_compare.j0, if_neg (by decide), if_neg (by decide), if_neg (by decide), if_neg (by decide), if_neg (by decide), de]; simp [cmp]
  unfold jacquardref13_compare.f
  by_cases c1 : ahi < blo
  · rw [if_pos c1]; exact J _ (decide_eq_true (Or.inl c1)).symm
  · rw [if_neg c1]
    by_cases c2 : bhi < alo
    · rw [if_pos c2]; exact J _ (decide_eq_true (Or.inr (Or.inl c2))).symm
    · rw [if_neg c2]
      by_cases c3 : am < bl
      · rw [if_pos c3]; exact J _ (decide_eq_true (Or.inr (Or.inr (Or.inl c3)))).symm
      · rw [if_neg c3]; exact J _ (by rw [decide_eq_decide]; unfold Apart; omega)
theorem rcast {w v : Int} {n m : Nat} (hw : w = n) (hv : v = m) (hn : 1 ≤ n) (hm : 1 ≤ m) (h64 : n ≤ 64) {op : Int} (ho : (op = 22 ∧ m ≤ n) ∨ (op = 23 ∧ m ≤ n) ∨ (op = 24 ∧ n ≤ m)) {alo ahi al am : Int} (ha0 : 0 ≤ alo) (va : Bd m alo ahi al am) {k : Nat} (hk : 72 < k) :
    jacquardref13_cast.f k op w v alo ahi al am = some (cast op n m alo ahi al am) := by
  obtain ⟨k, rfl⟩ : ∃ m, k = m + 1 := ⟨k - 1, by omega⟩
  obtain ⟨a1, a2, a3, a4, a5⟩ := va
  unfold jacquardref13_cast.f Ap.cast
  rw [rtop hw hn h64 (by omega), Option.bind_some]
  by_cases c : n = m
  · subst c
    rw [if_pos (by omega), if_pos rfl]
  · rw [if_neg (by omega), if_neg c]
    rcases ho with ⟨rfl, h⟩ | ⟨rfl, h⟩ | ⟨rfl, h⟩
    · have := pow_le63 (n := m) (by omega)
      rw [if_pos rfl, if_pos rfl, wrap64_id (by omega) (by omega), wrap64_id (by omega) (by omega)]
    · rw [if_neg (by decide), if_pos rfl, if_neg (by decide), if_pos rfl]; rfl
    · rw [if_neg (by decide), if_neg (by decide), if_neg (show ¬ (24 : Int) = 22 by decide), if_neg (show ¬ (24 : Int) = 23 by decide), um hw hn h64 (by omega), Option.bind_some]
      have J : ∀ o0 o1, jacquardref13_cast.j0 (k + 1) w alo ahi al am o0 o1 (top n).2.2.1 (top n).2.2.2 = some (o0, o1, (if inr n al ∧ inr n am then al else -2 ^ (n - 1)), (if inr n al ∧ inr n am then am else 2 ^ (n - 1) - 1)) := by
        intro o0 o1
        rw [jacquardref13_cast.j0, sn hw hn h64 (by omega), Option.bind_some]
        by_cases c1 : al ≥ -2 ^ (n - 1)
        · rw [if_pos c1, sx hw hn h64 (by omega), Option.bind_some]
          by_cases c2 : am ≤ 2 ^ (n - 1) - 1
          · have i : inr n al ∧ inr n am := ⟨⟨by omega, by omega⟩, by omega, by omega⟩
            rw [if_pos c2, if_pos i, if_pos i]
          · rw [if_neg c2, if_neg (fun h => c2 h.2.2), if_neg (fun h => c2 h.2.2)]; rfl
        · rw [if_neg c1, if_neg (fun h => c1 h.1.1), if_neg (fun h => c1 h.1.1)]; rfl
      by_cases c3 : ahi ≤ 2 ^ n - 1
      · rw [if_pos c3, if_pos c3, if_pos c3]; exact J _ _
      · rw [if_neg c3, if_neg c3, if_neg c3]; exact J _ _
section
variable {w : Int} {n : Nat} (hw : w = n) (hn : 1 ≤ n) (h64 : n ≤ 64) {alo ahi al am blo bhi bl bm : Int} (ha0 : 0 ≤ alo) (hb0 : 0 ≤ blo) (va : Bd n alo ahi al am) (vb : Bd n blo bhi bl bm) {k : Nat} (hk : 72 < k)
include hw hn h64 ha0 hb0 va vb hk
theorem unsigned_eq {op : Int} (ho : 2 ≤ op ∧ op ≤ 14) : jacquardref13_unsigned.f k op w alo ahi al am blo bhi bl bm = some (U op n alo ahi blo bhi) := by
  obtain ⟨k, rfl⟩ : ∃ m, k = m + 1 := ⟨k - 1, by omega⟩
  obtain ⟨a1, a2, a3, a4, a5⟩ := va
  obtain ⟨b1, b2, b3, b4, b5⟩ := vb
  have hp := pow_le h64
  have hpp := pow_pos n
  have hm : ∀ x, Go.bits .and .u64 (IntKind.u64.wrap x) (2 ^ n - 1) = x % 2 ^ n := fun x => by rw [and_mask h64 (by rw [wrap_u64]; omega), wrap_mod h64]
  have wu : ∀ x : Int, 0 ≤ x → x < 18446744073709551616 → IntKind.u64.wrap x = x := fun x h h' => by rw [wrap_u64]; omega
  have f := mx_facts ahi bhi
  unfold jacquardref13_unsigned.f
  rw [um hw hn h64 (by omega), Option.bind_some]
  obtain rfl | rfl | rfl | rfl | rfl | rfl | rfl | rfl | rfl | rfl | rfl | rfl | rfl : op = 2 ∨ op = 3 ∨ op = 4 ∨ op = 5 ∨ op = 6 ∨ op = 7 ∨ op = 8 ∨ op = 9 ∨ op = 10 ∨ op = 11 ∨ op = 12 ∨ op = 13 ∨ op = 14 := by omega
  · rw [if_pos rfl, wu (2 ^ n - 1 - bhi) (by omega) (by omega), wu (2 ^ n - 1 - blo) (by omega) (by omega)]
    simp only [U, if_pos]
    by_cases c : ahi + bhi ≤ 2 ^ n - 1
    · rw [if_pos (by omega), if_pos c, wu _ (by omega) (by omega), wu _ (by omega) (by omega)]
    · rw [if_neg (by omega), if_neg c, hm, hm]
      by_cases c2 : 2 ^ n - 1 < alo + blo
      · rw [if_pos (by omega), if_pos c2]
      · rw [if_neg (by omega), if_neg c2]
  · rw [if_neg (by decide), if_pos rfl, hm, hm]
    simp only [U, if_pos, if_neg (show ¬ (3 : Int) = 2 by decide)]
    by_cases c : alo ≥ bhi
    · rw [if_pos c, if_pos (.inl c)]
    · rw [if_neg c]
      by_cases c2 : ahi < blo
      · rw [if_pos c2, if_pos (.inr c2)]
      · rw [if_neg c2, if_neg (by omega)]
  · obtain ⟨v, hv, hv2⟩ := product_eq (x := ahi) (y := bhi) (l := 2 ^ n - 1) (by omega) (by omega) (by omega)
    have hlo : 0 ≤ alo * blo := Int.mul_nonneg ha0 hb0
    have hle : alo * blo ≤ ahi * bhi := Int.mul_le_mul a1 b1 hb0 (by omega)
    rw [if_neg (by decide), if_neg (by decide), if_pos rfl, hv, Option.bind_some]
    simp only [U, if_pos, if_neg (show ¬ (4 : Int) = 2 by decide), if_neg (show ¬ (4 : Int) = 3 by decide)]
    by_cases c : ahi * bhi ≤ 2 ^ n - 1
    · rw [if_pos (decide_eq_true c), if_pos c, hv2 c, wu _ (by omega) (by omega)]
    · rw [if_neg (by simpa using c), if_neg c]
  · rw [if_neg (by decide), if_neg (by decide), if_neg (by decide), if_pos rfl]
    simp only [U, if_pos, if_neg (show ¬ (5 : Int) = 2 by decide), if_neg (show ¬ (5 : Int) = 3 by decide), if_neg (show ¬ (5 : Int) = 4 by decide)]
    by_cases c : 1 ≤ blo
    · have q : ∀ x y : Int, 0 ≤ x → x < 18446744073709551616 → 0 ≤ y → IntKind.u64.wrap (Int.tdiv x y) = x / y := fun x y h h' h2 => by
        rw [Int.tdiv_eq_ediv_of_nonneg h, wrap_u64]
        have := Int.ediv_le_self y h
        have := Int.ediv_nonneg h h2
        omega
      rw [if_pos (show blo ≥ 1 from c), if_neg (by omega), if_neg (by omega), if_pos c, q _ _ (by omega) (by omega) (by omega), q _ _ (by omega) (by omega) (by omega)]
    · rw [if_neg (show ¬ blo ≥ 1 from c), if_neg c]
  · rw [if_neg (by decide), if_neg (by decide), if_neg (by decide), if_neg (by decide), if_pos rfl]
    simp only [U, if_pos, if_neg (show ¬ (6 : Int) = 2 by decide), if_neg (show ¬ (6 : Int) = 3 by decide), if_neg (show ¬ (6 : Int) = 4 by decide), if_neg (show ¬ (6 : Int) = 5 by decide)]
    by_cases c : 1 ≤ blo
    · rw [if_pos (show blo ≥ 1 from c), if_pos c, jacquardref13_unsigned.j0]
      by_cases c2 : ahi < blo
      · rw [if_pos (decide_eq_true c2), if_pos c2]
      · rw [if_neg (by simpa using c2), if_pos (show blo ≥ 1 from c), if_neg c2, wu _ (by omega) (by omega)]
    · rw [if_neg (show ¬ blo ≥ 1 from c), if_neg c, jacquardref13_unsigned.j0, if_neg (by decide), if_neg (show ¬ blo ≥ 1 from c)]
  · simp only [show ¬ (7 : Int) = 2 by decide, show ¬ (7 : Int) = 3 by decide, show ¬ (7 : Int) = 4 by decide, show ¬ (7 : Int) = 5 by decide, show ¬ (7 : Int) = 6 by decide, show ¬ (7 : Int) = 9 by decide, show ¬ (7 : Int) = 10 by decide, show ¬ (7 : Int) = 11 by decide, show ¬ (7 : Int) = 12 by decide, show ¬ (7 : Int) = 13 by decide, if_false, U]
  · simp only [show ¬ (8 : Int) = 2 by decide, show ¬ (8 : Int) = 3 by decide, show ¬ (8 : Int) = 4 by decide, show ¬ (8 : Int) = 5 by decide, show ¬ (8 : Int) = 6 by decide, show ¬ (8 : Int) = 9 by decide, show ¬ (8 : Int) = 10 by decide, show ¬ (8 : Int) = 11 by decide, show ¬ (8 : Int) = 12 by decide, show ¬ (8 : Int) = 13 by decide, if_false, U]
  · simp only [show ¬ (9 : Int) = 2 by decide, show ¬ (9 : Int) = 3 by decide, show ¬ (9 : Int) = 4 by decide, show ¬ (9 : Int) = 5 by decide, show ¬ (9 : Int) = 6 by decide, if_false, if_true, U]
  · simp only [show ¬ (10 : Int) = 2 by decide, show ¬ (10 : Int) = 3 by decide, show ¬ (10 : Int) = 4 by decide, show ¬ (10 : Int) = 5 by decide, show ¬ (10 : Int) = 6 by decide, show ¬ (10 : Int) = 9 by decide, if_false, if_true, U]
    rw [ones_eq (by omega) (by omega), Option.bind_some]
  · simp only [show ¬ (11 : Int) = 2 by decide, show ¬ (11 : Int) = 3 by decide, show ¬ (11 : Int) = 4 by decide, show ¬ (11 : Int) = 5 by decide, show ¬ (11 : Int) = 6 by decide, show ¬ (11 : Int) = 9 by decide, show ¬ (11 : Int) = 10 by decide, if_false, if_true, U]
    rw [ones_eq (by omega) (by omega), Option.bind_some]
  · simp only [show ¬ (12 : Int) = 2 by decide, show ¬ (12 : Int) = 3 by decide, show ¬ (12 : Int) = 4 by decide, show ¬ (12 : Int) = 5 by decide, show ¬ (12 : Int) = 6 by decide, show ¬ (12 : Int) = 9 by decide, show ¬ (12 : Int) = 10 by decide, show ¬ (12 : Int) = 11 by decide, if_false, if_true, U]
    rw [wr_w hw h64]
    by_cases c : blo = bhi
    · rw [if_pos c, if_pos c, jacquardref13_unsigned.j1]
      by_cases c2 : (n : Int) ≤ blo
      · rw [if_pos (decide_eq_true (show blo ≥ (n : Int) from c2)), if_pos c2]
      · have hps := pow_pos' blo.toNat
        rw [if_neg (by simpa using c2), if_pos c, if_pos hb0, if_neg c2, shr_u (by omega) hb0]
        by_cases c3 : ahi ≤ (2 ^ n - 1) / 2 ^ blo.toNat
        · have h1 : ahi * 2 ^ blo.toNat ≤ 2 ^ n - 1 := by
            have h1 := Int.mul_le_mul_of_nonneg_right c3 (show 0 ≤ (2 : Int) ^ blo.toNat by omega)
            have h2 := Int.ediv_mul_le (2 ^ n - 1) (b := 2 ^ blo.toNat) (by omega)
            omega
          have h5 : alo * 2 ^ blo.toNat ≤ ahi * 2 ^ blo.toNat := Int.mul_le_mul_of_nonneg_right a1 (by omega)
          have h6 : 0 ≤ alo * 2 ^ blo.toNat := Int.mul_nonneg ha0 (by omega)
          rw [if_pos c3, if_pos c3, shl_u (by omega) h6 (by omega), shl_u (by omega) (by omega) (by omega)]
        · rw [if_neg c3, if_neg c3]
    · rw [if_neg c, if_neg c, jacquardref13_unsigned.j1, if_neg (by decide), if_neg c]
  · simp only [show ¬ (13 : Int) = 2 by decide, show ¬ (13 : Int) = 3 by decide, show ¬ (13 : Int) = 4 by decide, show ¬ (13 : Int) = 5 by decide, show ¬ (13 : Int) = 6 by decide, show ¬ (13 : Int) = 9 by decide, show ¬ (13 : Int) = 10 by decide, show ¬ (13 : Int) = 11 by decide, show ¬ (13 : Int) = 12 by decide, if_false, if_true, U]
    have e : ∀ a b : Int, 0 ≤ a → a < 2 ^ n → bin 13 n a b = a / 2 ^ b.toNat := fun a b h h' => by
      simp only [bin]; simp; intro hb
      rw [Int.ediv_eq_zero_of_lt h]
      have := pow_mono (a := n) (b := b.toNat) (by omega)
      omega
    rw [Option.bind_some, eval_bin hw hn h64 (by decide) _ (by omega) (by omega) _ (by omega), Option.bind_some, eval_bin hw hn h64 (by decide) _ (by omega) (by omega) _ (by omega), Option.bind_some, e _ _ ha0 (by omega), e _ _ (by omega) (by omega)]
  · simp only [show ¬ (14 : Int) = 2 by decide, show ¬ (14 : Int) = 3 by decide, show ¬ (14 : Int) = 4 by decide, show ¬ (14 : Int) = 5 by decide, show ¬ (14 : Int) = 6 by decide, show ¬ (14 : Int) = 9 by decide, show ¬ (14 : Int) = 10 by decide, show ¬ (14 : Int) = 11 by decide, show ¬ (14 : Int) = 12 by decide, show ¬ (14 : Int) = 13 by decide, if_false, U]
end
section
variable {w : Int} {n : Nat} (hw : w = n) (hn : 1 ≤ n) (h64 : n ≤ 64) {alo ahi al am blo bhi bl bm : Int} (ha0 : 0 ≤ alo) (hb0 : 0 ≤ blo) (va : Bd n alo ahi al am) (vb : Bd n blo bhi bl bm) {k : Nat} (hk : 73 < k)
include hw hn h64 ha0 hb0 va vb hk
theorem signed_eq' {op : Int} (ho : 2 ≤ op ∧ op ≤ 14) : jacquardref13_signed.f k op w alo ahi al am blo bhi bl bm = some (S op n al am bl bm blo bhi) := by
  obtain ⟨k, rfl⟩ : ∃ m, k = m + 1 := ⟨k - 1, by omega⟩
  obtain ⟨ia, ia'⟩ := bd_i64 h64 va
  obtain ⟨ib, ib'⟩ := bd_i64 h64 vb
  obtain ⟨a1, a2, a3, a4, a5⟩ := va
  obtain ⟨b1, b2, b3, b4, b5⟩ := vb
  have hp := pow_le63 (n := n - 1) (by omega)
  have hpp := pow_pos (n - 1)
  have hsn := sn hw hn h64 (k := k) (by omega)
  have hsx := sx hw hn h64 (k := k) (by omega)
  have hsn' := sn hw hn h64 (k := k + 1) (by omega)
  have hsx' := sx hw hn h64 (k := k + 1) (by omega)
  unfold jacquardref13_signed.f
  have dflt : ∀ op : Int, (op = 5 ∨ op = 6 ∨ op = 9 ∨ op = 10 ∨ op = 11 ∨ op = 13) → S op n al am bl bm blo bhi = (-2 ^ (n - 1), 2 ^ (n - 1) - 1) := by
    intro op h; rcases h with rfl | rfl | rfl | rfl | rfl | rfl <;> simp [S]
  obtain rfl | rfl | rfl | rfl | rfl | rfl | rfl | rfl | rfl | rfl | rfl | rfl | rfl : op = 2 ∨ op = 3 ∨ op = 4 ∨ op = 5 ∨ op = 6 ∨ op = 7 ∨ op = 8 ∨ op = 9 ∨ op = 10 ∨ op = 11 ∨ op = 12 ∨ op = 13 ∨ op = 14 := by omega
  · rw [if_pos rfl, rplus hw hn h64 (by omega) ia ib, Option.bind_some, rplus hw hn h64 (by omega) ia' ib', Option.bind_some]
    simp only [S, if_pos]
    by_cases c1 : inr n (al + bl)
    · rw [if_pos (decide_eq_true c1), jacquardref13_signed.j0]
      by_cases c2 : inr n (am + bm)
      · rw [if_pos (decide_eq_true c2), if_pos (i64_inr h64 c1), if_pos (i64_inr h64 c2), if_pos ⟨c1, c2⟩]
      · rw [if_neg (by simpa using c2), if_neg (fun h => c2 h.2), hsn, Option.bind_some, hsx]; rfl
    · rw [if_neg (by simpa using c1), jacquardref13_signed.j0, if_neg (by decide), if_neg (fun h => c1 h.1), hsn, Option.bind_some, hsx]; rfl
  · rw [if_neg (by decide), if_pos rfl, rminus hw hn h64 (by omega) ia ib', Option.bind_some, rminus hw hn h64 (by omega) ia' ib, Option.bind_some]
    simp only [S, if_pos, if_neg (show ¬ (3 : Int) = 2 by decide)]
    by_cases c1 : inr n (al - bm)
    · rw [if_pos (decide_eq_true c1), jacquardref13_signed.j1]
      by_cases c2 : inr n (am - bl)
      · rw [if_pos (decide_eq_true c2), if_pos (i64_inr h64 c1), if_pos (i64_inr h64 c2), if_pos ⟨c1, c2⟩]
      · rw [if_neg (by simpa using c2), if_neg (fun h => c2 h.2), hsn, Option.bind_some, hsx]; rfl
    · rw [if_neg (by simpa using c1), jacquardref13_signed.j1, if_neg (by decide), if_neg (fun h => c1 h.1), hsn, Option.bind_some, hsx]; rfl
  · obtain ⟨v1, e1, f1⟩ := rtimes hw hn h64 (k := k) (by omega) ia ib
    obtain ⟨v2, e2, f2⟩ := rtimes hw hn h64 (k := k) (by omega) ia ib'
    obtain ⟨v3, e3, f3⟩ := rtimes hw hn h64 (k := k) (by omega) ia' ib
    obtain ⟨v4, e4, f4⟩ := rtimes hw hn h64 (k := k) (by omega) ia' ib'
    rw [if_neg (by decide), if_neg (by decide), if_pos rfl, e1, Option.bind_some, e2, Option.bind_some, e3, Option.bind_some, e4, Option.bind_some]
    simp only [S, if_pos, if_neg (show ¬ (4 : Int) = 2 by decide), if_neg (show ¬ (4 : Int) = 3 by decide)]
    have J : jacquardref13_signed.j2 (k + 1) w v1 v2 v3 v4 false = some (-2 ^ (n - 1), 2 ^ (n - 1) - 1) := by rw [jacquardref13_signed.j2, if_neg (by decide), hsn, Option.bind_some, hsx]; rfl
    by_cases c1 : inr n (al * bl)
    · rw [if_pos (decide_eq_true c1)]
      by_cases c2 : inr n (al * bm)
      · rw [if_pos (decide_eq_true c2)]
        by_cases c3 : inr n (am * bl)
        · rw [if_pos (decide_eq_true c3)]
          by_cases c4 : inr n (am * bm)
          · rw [decide_eq_true c4, jacquardref13_signed.j2, if_pos rfl, f1 c1, f2 c2, f3 c3, f4 c4, if_pos ⟨c1, c2, c3, c4⟩]; rfl
          · rw [decide_eq_false c4, if_neg (fun h => c4 h.2.2.2)]; exact J
        · rw [if_neg (by simpa using c3), if_neg (fun h => c3 h.2.2.1)]; exact J
      · rw [if_neg (by simpa using c2), if_neg (fun h => c2 h.2.1)]; exact J
    · rw [if_neg (by simpa using c1), if_neg (fun h => c1 h.1)]; exact J
  · simp only [show ¬ (5 : Int) = 2 by decide, show ¬ (5 : Int) = 3 by decide, show ¬ (5 : Int) = 4 by decide, show ¬ (5 : Int) = 7 by decide, show ¬ (5 : Int) = 8 by decide, show ¬ (5 : Int) = 12 by decide, show ¬ (5 : Int) = 14 by decide, if_false]
    rw [hsn', Option.bind_some, hsx', dflt 5 (by omega)]; rfl
  · simp only [show ¬ (6 : Int) = 2 by decide, show ¬ (6 : Int) = 3 by decide, show ¬ (6 : Int) = 4 by decide, show ¬ (6 : Int) = 7 by decide, show ¬ (6 : Int) = 8 by decide, show ¬ (6 : Int) = 12 by decide, show ¬ (6 : Int) = 14 by decide, if_false]
    rw [hsn', Option.bind_some, hsx', dflt 6 (by omega)]; rfl
  · have J3 : ∀ b : Bool, (b = true ↔ ((0 < bl ∨ bm < 0) ∧ (-2 ^ (n - 1) < al ∨ -1 < bl ∨ bm < -1))) → jacquardref13_signed.j3 (k + 1) w b alo ahi al am blo bhi bl bm = some (S 7 n al am bl bm blo bhi) := by
      intro b hb
      simp only [S, if_pos, if_neg (show ¬ (7 : Int) = 2 by decide), if_neg (show ¬ (7 : Int) = 3 by decide), if_neg (show ¬ (7 : Int) = 4 by decide)]
      rw [jacquardref13_signed.j3]
      by_cases c : b = true
      · have hc := hb.1 c
        have t : ∀ x y : Int, I64 x → I64 y → ¬ (x = -9223372036854775808 ∧ y = -1) → wrap64 (Int.tdiv x y) = Int.tdiv x y := fun x y hx hy h => wrap64_id (tdiv_I hx hy h).1 (tdiv_I hx hy h).2
        rw [if_pos c, if_neg (by omega), if_neg (by omega), if_pos hc, t _ _ ia ib (by omega), t _ _ ia ib' (by omega), t _ _ ia' ib (by omega), t _ _ ia' ib' (by omega)]; rfl
      · rw [if_neg c, if_neg (fun h => c (hb.2 h)), hsn, Option.bind_some, hsx]; rfl
    have win : ∀ x : Int, jacquardref13_within.f x blo bhi bl bm = some (decide (bl ≤ x ∧ x ≤ bm)) := fun x => by
      unfold jacquardref13_within.f
      by_cases c : x ≥ bl
      · rw [if_pos c]; congr 1; exact decide_eq_decide.2 ⟨fun h => ⟨c, h⟩, fun h => h.2⟩
      · rw [if_neg c, decide_eq_false (fun h => c h.1)]
    rw [if_neg (by decide), if_neg (by decide), if_neg (by decide), if_pos rfl, win, Option.bind_some]
    by_cases c0 : bl ≤ 0 ∧ 0 ≤ bm
    · rw [if_pos (decide_eq_true c0)]; exact J3 _ (by simp; omega)
    · rw [if_neg (by simpa using c0), hsn', Option.bind_some]
      by_cases c2 : al > -2 ^ (n - 1)
      · rw [if_pos c2]; exact J3 _ (by simp; omega)
      · rw [if_neg c2, win, Option.bind_some]; exact J3 _ (by simp; omega)
  · have e1 : 1 ≤ bl → wrap64 (1 - bm) = 1 - bm := fun h => wrap64_id (by omega) (by unfold I64 at ib'; omega)
    have e2 : 1 ≤ bl → wrap64 (bm - 1) = bm - 1 := fun h => wrap64_id (by omega) (by unfold I64 at ib'; omega)
    simp only [show ¬ (8 : Int) = 2 by decide, show ¬ (8 : Int) = 3 by decide, show ¬ (8 : Int) = 4 by decide, show ¬ (8 : Int) = 7 by decide, if_false, if_true, S]
    by_cases c : 1 ≤ bl
    · rw [if_pos (show bl ≥ 1 from c), if_pos c, e1 c, e2 c]
    · rw [if_neg (show ¬ bl ≥ 1 from c), if_neg c]
  · simp only [show ¬ (9 : Int) = 2 by decide, show ¬ (9 : Int) = 3 by decide, show ¬ (9 : Int) = 4 by decide, show ¬ (9 : Int) = 7 by decide, show ¬ (9 : Int) = 8 by decide, show ¬ (9 : Int) = 12 by decide, show ¬ (9 : Int) = 14 by decide, if_false]
    rw [hsn', Option.bind_some, hsx', dflt 9 (by omega)]; rfl
  · simp only [show ¬ (10 : Int) = 2 by decide, show ¬ (10 : Int) = 3 by decide, show ¬ (10 : Int) = 4 by decide, show ¬ (10 : Int) = 7 by decide, show ¬ (10 : Int) = 8 by decide, show ¬ (10 : Int) = 12 by decide, show ¬ (10 : Int) = 14 by decide, if_false]
    rw [hsn', Option.bind_some, hsx', dflt 10 (by omega)]; rfl
  · simp only [show ¬ (11 : Int) = 2 by decide, show ¬ (11 : Int) = 3 by decide, show ¬ (11 : Int) = 4 by decide, show ¬ (11 : Int) = 7 by decide, show ¬ (11 : Int) = 8 by decide, show ¬ (11 : Int) = 12 by decide, show ¬ (11 : Int) = 14 by decide, if_false]
    rw [hsn', Option.bind_some, hsx', dflt 11 (by omega)]; rfl
  · have eS : S 12 n al am bl bm blo bhi = if blo = bhi ∧ blo < n ∧ (-2 ^ (n - 1)) / 2 ^ blo.toNat ≤ al ∧ am ≤ (2 ^ (n - 1) - 1) / 2 ^ blo.toNat then (al * 2 ^ blo.toNat, am * 2 ^ blo.toNat) else (-2 ^ (n - 1), 2 ^ (n - 1) - 1) := by simp [S]
    have J : jacquardref13_signed.j4 (k + 1) w false alo ahi al am blo bhi bl bm = some (-2 ^ (n - 1), 2 ^ (n - 1) - 1) := by rw [jacquardref13_signed.j4, if_neg (by decide), hsn, Option.bind_some, hsx]; rfl
    rw [eS]
    simp only [show ¬ (12 : Int) = 2 by decide, show ¬ (12 : Int) = 3 by decide, show ¬ (12 : Int) = 4 by decide, show ¬ (12 : Int) = 7 by decide, show ¬ (12 : Int) = 8 by decide, if_false, if_true]
    rw [wr_w hw h64]
    by_cases c : blo = bhi
    · rw [if_pos c]
      by_cases c2 : blo < n
      · have hps := pow_pos' blo.toNat
        have hd : (2 : Int) ^ (n - 1) = 2 ^ (n - 1 - blo.toNat) * 2 ^ blo.toNat := by rw [← Int.pow_add]; congr 1; omega
        rw [if_pos c2, hsn', Option.bind_some, if_pos hb0, shr_i (by omega)]
        by_cases c3 : (-2 ^ (n - 1)) / 2 ^ blo.toNat ≤ al
        · rw [if_pos (show al ≥ _ from c3), hsx', Option.bind_some, shr_i (by omega)]
          by_cases c4 : am ≤ (2 ^ (n - 1) - 1) / 2 ^ blo.toNat
          · have h1 : am * 2 ^ blo.toNat ≤ 2 ^ (n - 1) - 1 := by
              have h1 := Int.mul_le_mul_of_nonneg_right c4 (show 0 ≤ (2 : Int) ^ blo.toNat by omega)
              have h2 := Int.ediv_mul_le (2 ^ (n - 1) - 1) (b := 2 ^ blo.toNat) (by omega)
              omega
            have h4 : -2 ^ (n - 1) ≤ al * 2 ^ blo.toNat := by
              rw [hd, ← Int.neg_mul, Int.mul_ediv_cancel _ (by omega)] at c3
              rw [hd, ← Int.neg_mul]
              exact Int.mul_le_mul_of_nonneg_right c3 (by omega)
            have h5 : al * 2 ^ blo.toNat ≤ am * 2 ^ blo.toNat := Int.mul_le_mul_of_nonneg_right a4 (by omega)
            rw [decide_eq_true c4, jacquardref13_signed.j4, if_pos rfl, if_pos hb0, shl_i (by omega) (by unfold I64; omega), shl_i (by omega) (by unfold I64; omega), if_pos ⟨c, c2, c3, c4⟩]
          · rw [decide_eq_false c4, J, if_neg (fun h => c4 h.2.2.2)]
        · rw [if_neg (show ¬ al ≥ _ from c3), J, if_neg (fun h => c3 h.2.2.1)]
      · rw [if_neg c2, J, if_neg (fun h => c2 h.2.1)]
    · rw [if_neg c, J, if_neg (fun h => c h.1)]
  · simp only [show ¬ (13 : Int) = 2 by decide, show ¬ (13 : Int) = 3 by decide, show ¬ (13 : Int) = 4 by decide, show ¬ (13 : Int) = 7 by decide, show ¬ (13 : Int) = 8 by decide, show ¬ (13 : Int) = 12 by decide, show ¬ (13 : Int) = 14 by decide, if_false]
    rw [hsn', Option.bind_some, hsx', dflt 13 (by omega)]; rfl
  · have e : IntKind.u64.wrap (wrap64 (w - 1)) = (n : Int) - 1 := by rw [wrap64_id (by omega) (by omega), wrap_u64]; omega
    have f1 := mn_facts blo ((n : Int) - 1)
    have f2 := mn_facts bhi ((n : Int) - 1)
    simp only [show ¬ (14 : Int) = 2 by decide, show ¬ (14 : Int) = 3 by decide, show ¬ (14 : Int) = 4 by decide, show ¬ (14 : Int) = 7 by decide, show ¬ (14 : Int) = 8 by decide, show ¬ (14 : Int) = 12 by decide, if_false, if_true]
    rw [e, if_pos (by omega), if_pos (by omega), shr_i (by omega), shr_i (by omega), shr_i (by omega), shr_i (by omega)]
    rfl
end
end Go.Proofs.Ytoddafkffchnjaa.Rf
