import Derived.Test.YtoddafkffchnjaaAp
import Derived.Test.YtoddafkffchnjaaEx
import Derived.Test.YtoddafkffchnjaaDf
/- What the computer's methods come to: sums, differences, products, quotients. -/
namespace Go.Proofs.Ytoddafkffchnjaa.Cm
set_option linter.unusedVariables false
set_option linter.unusedSimpArgs false
set_option linter.unusedSectionVars false
open Go.RowKit Go.Proofs.Ytoddafkffchnjaa.P Go.Proofs.YtoddafkffchnjaaW.PrintWords Wd Im Iv Tg Lw0 Ap

def res (w : Int) (n : Nat) (u s : Int × Int) : Option (Int × Int × Int × Int × Int × Int × Int × Int) := some (w, 2 ^ n - 1, -2 ^ (n - 1), 2 ^ (n - 1) - 1, u.1, u.2, s.1, s.2)
theorem i64_inr {n : Nat} (h64 : n ≤ 64) {x : Int} (h : inr n x) : I64 x := by
  have := pow_le63 (n := n - 1) (by omega)
  unfold inr at h; unfold I64; omega
section
variable (w m : Int) {n : Nat} (o0 o1 o2 o3 : Int)
theorem within_eq (x : Int) : interval_computer_within.f w m (-2 ^ (n - 1)) (2 ^ (n - 1) - 1) o0 o1 o2 o3 x = some (decide (inr n x)) := by
  unfold interval_computer_within.f
  by_cases c : x ≥ -2 ^ (n - 1)
  · rw [if_pos c]; congr 1; exact decide_eq_decide.2 ⟨fun h => ⟨c, h⟩, fun h => h.2⟩
  · rw [if_neg c, decide_eq_false (fun h : inr n x => c h.1)]
theorem sum_eq (h64 : n ≤ 64) {a b : Int} (ha : I64 a) (hb : I64 b) : interval_computer_sum.f w m (-2 ^ (n - 1)) (2 ^ (n - 1) - 1) o0 o1 o2 o3 a b = some (wrap64 (a + b), decide (inr n (a + b))) := by
  unfold interval_computer_sum.f
  have key : ((decide (wrap64 (a + b) > a)) == (decide (b > 0))) = true ↔ I64 (a + b) := by
    rw [beq_iff_eq, decide_eq_decide]; unfold I64 wrap64 at *; omega
  by_cases c : I64 (a + b)
  · rw [if_pos (key.2 c), within_eq, Option.bind_some, wrap64_id c.1 c.2]
  · rw [if_neg (fun h => c (key.1 h)), decide_eq_false (fun h => c (i64_inr h64 h))]
theorem less_eq (h64 : n ≤ 64) {a b : Int} (ha : I64 a) (hb : I64 b) : interval_computer_less.f w m (-2 ^ (n - 1)) (2 ^ (n - 1) - 1) o0 o1 o2 o3 a b = some (wrap64 (a - b), decide (inr n (a - b))) := by
  unfold interval_computer_less.f
  have key : ((decide (wrap64 (a - b) < a)) == (decide (b > 0))) = true ↔ I64 (a - b) := by
    rw [beq_iff_eq, decide_eq_decide]; unfold I64 wrap64 at *; omega
  by_cases c : I64 (a - b)
  · rw [if_pos (key.2 c), within_eq, Option.bind_some, wrap64_id c.1 c.2]
  · rw [if_neg (fun h => c (key.1 h)), decide_eq_false (fun h => c (i64_inr h64 h))]
theorem times_eq (h64 : n ≤ 64) {a b : Int} (ha : I64 a) (hb : I64 b) : interval_computer_times.f w m (-2 ^ (n - 1)) (2 ^ (n - 1) - 1) o0 o1 o2 o3 a b = some (wrap64 (a * b), decide (inr n (a * b))) := by
  have key := times_ok ha hb
  unfold interval_computer_times.f
  simp only [within_eq, Option.bind_some]
  have good : I64 (a * b) → some (wrap64 (a * b), decide (inr n (wrap64 (a * b)))) = some (wrap64 (a * b), decide (inr n (a * b))) := fun c => by rw [wrap64_id c.1 c.2]
  have bad : ¬ I64 (a * b) → some (wrap64 (a * b), false) = some (wrap64 (a * b), decide (inr n (a * b))) := fun c => by rw [decide_eq_false (fun h => c (i64_inr h64 h))]
  by_cases a0 : a = 0
  · rw [if_pos a0]; exact good (key.1 (.inl a0))
  · rw [if_neg a0]
    by_cases c1 : wrap64 (Int.tdiv (wrap64 (a * b)) a) = b
    · rw [if_pos c1]
      by_cases c2 : a = -1
      · rw [if_pos c2]
        by_cases c3 : b = -9223372036854775808
        · rw [if_pos c3]; exact bad (fun h => by rcases key.2 h with h | h; exact a0 h; exact h.2 ⟨c2, c3⟩)
        · rw [if_neg c3]; exact good (key.1 (.inr ⟨c1, fun h => c3 h.2⟩))
      · rw [if_neg c2]; exact good (key.1 (.inr ⟨c1, fun h => c2 h.1⟩))
    · rw [if_neg c1]; exact bad (fun h => by rcases key.2 h with h | h; exact a0 h; exact c1 h.1)
theorem corners_eq (mi ma p q r s : Int) (k : Nat) : interval_computer_corners.f (k + 4) w m mi ma o0 o1 o2 o3 p [q, r, s] = some (w, m, mi, ma, o0, o1, mn4 p q r s, mx4 p q r s) := by
  have w1 : wrap64 (0 + 1) = 1 := by decide +kernel
  have w2 : wrap64 (1 + 1) = 2 := by decide +kernel
  have w3 : wrap64 (2 + 1) = 3 := by decide +kernel
  unfold interval_computer_corners.f
  rw [interval_computer_corners.l0, if_pos (by simp), if_pos (by decide), if_pos (by simp), w1, interval_computer_corners.l0, if_pos (by simp), if_pos (by decide), if_pos (by simp), w2, interval_computer_corners.l0, if_pos (by simp), if_pos (by decide), if_pos (by simp), w3, interval_computer_corners.l0, if_neg (by simp)]
  rfl
end
theorem bd_i64 {n : Nat} (h64 : n ≤ 64) {lo hi l m : Int} (h : Bd n lo hi l m) : I64 l ∧ I64 m := by
  have := pow_le63 (n := n - 1) (by omega)
  obtain ⟨h1, h2, h3, h4, h5⟩ := h
  unfold I64; omega
section
variable (w : Int) {n : Nat} (hn : 1 ≤ n) (h64 : n ≤ 64) {alo ahi al am blo bhi bl bm : Int} (ha0 : 0 ≤ alo) (hb0 : 0 ≤ blo) (va : Bd n alo ahi al am) (vb : Bd n blo bhi bl bm)
include hn h64 ha0 hb0 va vb
theorem add_eq (k : Nat) : interval_computer_add.f (k + 2) w (2 ^ n - 1) (-2 ^ (n - 1)) (2 ^ (n - 1) - 1) 0 (2 ^ n - 1) (-2 ^ (n - 1)) (2 ^ (n - 1) - 1) alo ahi al am blo bhi bl bm = res w n (U 2 n alo ahi blo bhi) (S 2 n al am bl bm blo bhi) := by
  obtain ⟨ia, ia'⟩ := bd_i64 h64 va
  obtain ⟨ib, ib'⟩ := bd_i64 h64 vb
  obtain ⟨a1, a2, a3, a4, a5⟩ := va
  obtain ⟨b1, b2, b3, b4, b5⟩ := vb
  have hp := pow_le h64
  have hpp := pow_pos n
  have J1 : ∀ k o0 o1, interval_computer_add.j1 (k + 1) w (2 ^ n - 1) (-2 ^ (n - 1)) (2 ^ (n - 1) - 1) o0 o1 (-2 ^ (n - 1)) (2 ^ (n - 1) - 1) alo ahi al am blo bhi bl bm = res w n (o0, o1) (S 2 n al am bl bm blo bhi) := by
    intro k o0 o1
    rw [interval_computer_add.j1, sum_eq _ _ _ _ _ _ h64 ia ib, Option.bind_some, sum_eq _ _ _ _ _ _ h64 ia' ib', Option.bind_some]
    simp only [S, if_pos]
    by_cases c1 : inr n (al + bl)
    · by_cases c2 : inr n (am + bm)
      · have i1 := i64_inr h64 c1
        have i2 := i64_inr h64 c2
        rw [if_pos (decide_eq_true c1), if_pos (decide_eq_true c2), if_pos ⟨c1, c2⟩, wrap64_id i1.1 i1.2, wrap64_id i2.1 i2.2]; rfl
      · rw [if_pos (decide_eq_true c1), if_neg (by simpa using c2), if_neg (fun h => c2 h.2)]; rfl
    · rw [if_neg (by simpa using c1), if_neg (fun h => c1 h.1)]; rfl
  unfold interval_computer_add.f bits_Add64.f
  rw [if_pos rfl, Option.bind_some, if_pos rfl, Option.bind_some]
  have e1 : addlo alo blo = (alo + blo) % 18446744073709551616 := by unfold addlo; omega
  have e2 : addlo ahi bhi = (ahi + bhi) % 18446744073709551616 := by unfold addlo; omega
  have e3 : addhi alo blo = (alo + blo) / 18446744073709551616 := by unfold addhi; omega
  have e4 : addhi ahi bhi = (ahi + bhi) / 18446744073709551616 := by unfold addhi; omega
  simp only [e1, e2, e3, e4, U, if_pos]
  have hm1 : Go.bits .and .u64 ((alo + blo) % 18446744073709551616) (2 ^ n - 1) = (alo + blo) % 2 ^ n := by rw [and_mask h64 (by omega), mod_mod_pow h64]
  have hm2 : Go.bits .and .u64 ((ahi + bhi) % 18446744073709551616) (2 ^ n - 1) = (ahi + bhi) % 2 ^ n := by rw [and_mask h64 (by omega), mod_mod_pow h64]
  by_cases c : ahi + bhi ≤ 2 ^ n - 1
  · rw [if_pos (by omega), if_pos c, decide_eq_true (show (ahi + bhi) % 18446744073709551616 ≤ 2 ^ n - 1 by omega), interval_computer_add.j0, if_pos rfl]
    unfold interval_computer_u.f
    rw [Option.bind_some, show (alo + blo) % 18446744073709551616 = alo + blo by omega, show (ahi + bhi) % 18446744073709551616 = ahi + bhi by omega]
    exact J1 k _ _
  · rw [if_neg c]
    have J0 : interval_computer_add.j0 (k + 2) ((alo + blo) % 18446744073709551616) ((alo + blo) / 18446744073709551616) ((ahi + bhi) % 18446744073709551616) false w (2 ^ n - 1) (-2 ^ (n - 1)) (2 ^ (n - 1) - 1) 0 (2 ^ n - 1) (-2 ^ (n - 1)) (2 ^ (n - 1) - 1) alo ahi al am blo bhi bl bm = res w n (if 2 ^ n - 1 < alo + blo then ((alo + blo) % 2 ^ n, (ahi + bhi) % 2 ^ n) else (0, 2 ^ n - 1)) (S 2 n al am bl bm blo bhi) := by
      rw [interval_computer_add.j0, if_neg (by decide)]
      unfold interval_computer_u.f
      simp only [Option.bind_some, hm1, hm2]
      by_cases c3 : 2 ^ n - 1 < alo + blo
      · rw [if_pos c3]
        by_cases c4 : (alo + blo) / 18446744073709551616 = 1
        · rw [if_pos c4]; exact J1 k _ _
        · rw [if_neg c4, if_pos (by omega)]; exact J1 k _ _
      · rw [if_neg c3, if_neg (by omega), if_neg (by omega)]; exact J1 k _ _
    by_cases c2 : (ahi + bhi) / 18446744073709551616 = 0
    · rw [if_pos c2, decide_eq_false (show ¬ (ahi + bhi) % 18446744073709551616 ≤ 2 ^ n - 1 by omega)]; exact J0
    · rw [if_neg c2]; exact J0
theorem sub_eq (k : Nat) : interval_computer_sub.f (k + 2) w (2 ^ n - 1) (-2 ^ (n - 1)) (2 ^ (n - 1) - 1) 0 (2 ^ n - 1) (-2 ^ (n - 1)) (2 ^ (n - 1) - 1) alo ahi al am blo bhi bl bm = res w n (U 3 n alo ahi blo bhi) (S 3 n al am bl bm blo bhi) := by
  obtain ⟨ia, ia'⟩ := bd_i64 h64 va
  obtain ⟨ib, ib'⟩ := bd_i64 h64 vb
  obtain ⟨a1, a2, a3, a4, a5⟩ := va
  obtain ⟨b1, b2, b3, b4, b5⟩ := vb
  have hp := pow_le h64
  have J1 : ∀ k o0 o1, interval_computer_sub.j1 (k + 1) w (2 ^ n - 1) (-2 ^ (n - 1)) (2 ^ (n - 1) - 1) o0 o1 (-2 ^ (n - 1)) (2 ^ (n - 1) - 1) alo ahi al am blo bhi bl bm = res w n (o0, o1) (S 3 n al am bl bm blo bhi) := by
    intro k o0 o1
    rw [interval_computer_sub.j1, less_eq _ _ _ _ _ _ h64 ia ib', Option.bind_some, less_eq _ _ _ _ _ _ h64 ia' ib, Option.bind_some]
    simp only [S, if_pos, if_neg (show ¬ (3 : Int) = 2 by decide)]
    by_cases c1 : inr n (al - bm)
    · by_cases c2 : inr n (am - bl)
      · have i1 := i64_inr h64 c1
        have i2 := i64_inr h64 c2
        rw [if_pos (decide_eq_true c1), if_pos (decide_eq_true c2), if_pos ⟨c1, c2⟩, wrap64_id i1.1 i1.2, wrap64_id i2.1 i2.2]; rfl
      · rw [if_pos (decide_eq_true c1), if_neg (by simpa using c2), if_neg (fun h => c2 h.2)]; rfl
    · rw [if_neg (by simpa using c1), if_neg (fun h => c1 h.1)]; rfl
  have hm : ∀ x, Go.bits .and .u64 (IntKind.u64.wrap x) (2 ^ n - 1) = x % 2 ^ n := fun x => by rw [and_mask h64 (by rw [wrap_u64]; omega), wrap_mod h64]
  unfold interval_computer_sub.f
  simp only [U, if_pos, if_neg (show ¬ (3 : Int) = 2 by decide)]
  have Jt : interval_computer_sub.j0 (k + 2) true w (2 ^ n - 1) (-2 ^ (n - 1)) (2 ^ (n - 1) - 1) 0 (2 ^ n - 1) (-2 ^ (n - 1)) (2 ^ (n - 1) - 1) alo ahi al am blo bhi bl bm = res w n ((alo - bhi) % 2 ^ n, (ahi - blo) % 2 ^ n) (S 3 n al am bl bm blo bhi) := by
    rw [interval_computer_sub.j0, if_pos rfl]
    unfold interval_computer_u.f
    rw [Option.bind_some, hm, hm]; exact J1 k _ _
  by_cases c : bhi ≤ alo
  · rw [if_pos c, if_pos (.inl c)]; exact Jt
  · rw [if_neg c]
    by_cases c2 : ahi < blo
    · rw [if_pos (.inr c2), decide_eq_true c2]; exact Jt
    · rw [if_neg (by omega), decide_eq_false c2, interval_computer_sub.j0, if_neg (by decide)]; exact J1 k _ _
end
theorem mul64_eq {a b : Int} (ha : 0 ≤ a ∧ a < 18446744073709551616) (hb : 0 ≤ b ∧ b < 18446744073709551616) : bits_Mul64.f a b = some (a * b / 18446744073709551616, a * b % 18446744073709551616) := by
  unfold bits_Mul64.f
  have m32 : ∀ x : Int, 0 ≤ x ∧ x < 18446744073709551616 → Go.bits .and .u64 x 4294967295 = x % 4294967296 := fun x h => and_mask (n := 32) (by decide) h
  have a0 : 0 ≤ a / 4294967296 ∧ a / 4294967296 ≤ 4294967295 := by omega
  have a1 : 0 ≤ a % 4294967296 ∧ a % 4294967296 ≤ 4294967295 := by omega
  have b0 : 0 ≤ b / 4294967296 ∧ b / 4294967296 ≤ 4294967295 := by omega
  have b1 : 0 ≤ b % 4294967296 ∧ b % 4294967296 ≤ 4294967295 := by omega
  have hab : a * b = (a / 4294967296) * (b / 4294967296) * 18446744073709551616 + ((a / 4294967296) * (b % 4294967296) + (a % 4294967296) * (b / 4294967296)) * 4294967296 + (a % 4294967296) * (b % 4294967296) := by
    have e1 := Int.mul_ediv_add_emod a 4294967296
    have e2 := Int.mul_ediv_add_emod b 4294967296
    generalize a / 4294967296 = x at *
    generalize a % 4294967296 = y at *
    generalize b / 4294967296 = z at *
    generalize b % 4294967296 = t at *
    subst e1 e2
    grind
  rw [m32 a ha, m32 b hb]
  have bd : ∀ x y : Int, (0 ≤ x ∧ x ≤ 4294967295) → (0 ≤ y ∧ y ≤ 4294967295) → 0 ≤ x * y ∧ x * y ≤ 18446744065119617025 := fun x y hx hy => ⟨Int.mul_nonneg hx.1 hy.1, Int.le_trans (Int.mul_le_mul hx.2 hy.2 hy.1 (by decide)) (by decide)⟩
  have p := bd _ _ a0 b0
  have q := bd _ _ a0 b1
  have r := bd _ _ a1 b0
  have s := bd _ _ a1 b1
  rw [hab]
  generalize (a / 4294967296) * (b / 4294967296) = P at *
  generalize (a / 4294967296) * (b % 4294967296) = Q at *
  generalize (a % 4294967296) * (b / 4294967296) = R at *
  generalize (a % 4294967296) * (b % 4294967296) = T at *
  clear hab a0 a1 b0 b1 bd
  have w : ∀ x : Int, 0 ≤ x → x < 18446744073709551616 → IntKind.u64.wrap x = x := fun x h h' => by rw [wrap_u64]; omega
  rw [w T (by omega) (by omega), w Q (by omega) (by omega), w R (by omega) (by omega), w P (by omega) (by omega), w (Q + T / 4294967296) (by omega) (by omega), m32 _ (by omega), w ((Q + T / 4294967296) % 4294967296 + R) (by omega) (by omega), w (P + (Q + T / 4294967296) / 4294967296) (by omega) (by omega), w (P + (Q + T / 4294967296) / 4294967296 + ((Q + T / 4294967296) % 4294967296 + R) / 4294967296) (by omega) (by omega), wrap_u64]
  congr 2
  omega
section
variable (w : Int) {n : Nat} (hn : 1 ≤ n) (h64 : n ≤ 64) {alo ahi al am blo bhi bl bm : Int} (ha0 : 0 ≤ alo) (hb0 : 0 ≤ blo) (va : Bd n alo ahi al am) (vb : Bd n blo bhi bl bm)
include hn h64 ha0 hb0 va vb
theorem mul_eq (k : Nat) : interval_computer_mul.f (k + 6) w (2 ^ n - 1) (-2 ^ (n - 1)) (2 ^ (n - 1) - 1) 0 (2 ^ n - 1) (-2 ^ (n - 1)) (2 ^ (n - 1) - 1) alo ahi al am blo bhi bl bm = res w n (U 4 n alo ahi blo bhi) (S 4 n al am bl bm blo bhi) := by
  obtain ⟨ia, ia'⟩ := bd_i64 h64 va
  obtain ⟨ib, ib'⟩ := bd_i64 h64 vb
  obtain ⟨a1, a2, a3, a4, a5⟩ := va
  obtain ⟨b1, b2, b3, b4, b5⟩ := vb
  have hp := pow_le h64
  have J1 : ∀ o0 o1, interval_computer_mul.j1 (k + 5) w (2 ^ n - 1) (-2 ^ (n - 1)) (2 ^ (n - 1) - 1) o0 o1 (-2 ^ (n - 1)) (2 ^ (n - 1) - 1) alo ahi al am blo bhi bl bm = res w n (o0, o1) (S 4 n al am bl bm blo bhi) := by
    intro o0 o1
    rw [interval_computer_mul.j1, times_eq _ _ _ _ _ _ h64 ia ib, Option.bind_some, times_eq _ _ _ _ _ _ h64 ia ib', Option.bind_some, times_eq _ _ _ _ _ _ h64 ia' ib, Option.bind_some, times_eq _ _ _ _ _ _ h64 ia' ib', Option.bind_some]
    simp only [S, if_pos, if_neg (show ¬ (4 : Int) = 2 by decide), if_neg (show ¬ (4 : Int) = 3 by decide)]
    by_cases c1 : inr n (al * bl)
    · by_cases c2 : inr n (al * bm)
      · by_cases c3 : inr n (am * bl)
        · by_cases c4 : inr n (am * bm)
          · have i1 := i64_inr h64 c1
            have i2 := i64_inr h64 c2
            have i3 := i64_inr h64 c3
            have i4 := i64_inr h64 c4
            rw [if_pos (decide_eq_true c1), if_pos (decide_eq_true c2), if_pos (decide_eq_true c3), if_pos (decide_eq_true c4), if_pos ⟨c1, c2, c3, c4⟩, wrap64_id i1.1 i1.2, wrap64_id i2.1 i2.2, wrap64_id i3.1 i3.2, wrap64_id i4.1 i4.2, corners_eq]; rfl
          · rw [if_pos (decide_eq_true c1), if_pos (decide_eq_true c2), if_pos (decide_eq_true c3), if_neg (by simpa using c4), if_neg (fun h => c4 h.2.2.2)]; rfl
        · rw [if_pos (decide_eq_true c1), if_pos (decide_eq_true c2), if_neg (by simpa using c3), if_neg (fun h => c3 h.2.2.1)]; rfl
      · rw [if_pos (decide_eq_true c1), if_neg (by simpa using c2), if_neg (fun h => c2 h.2.1)]; rfl
    · rw [if_neg (by simpa using c1), if_neg (fun h => c1 h.1)]; rfl
  unfold interval_computer_mul.f
  rw [mul64_eq (by omega) (by omega), Option.bind_some]
  simp only [U, if_pos, if_neg (show ¬ (4 : Int) = 2 by decide), if_neg (show ¬ (4 : Int) = 3 by decide)]
  have hab : 0 ≤ ahi * bhi := Int.mul_nonneg (by omega) (by omega)
  have hlo : 0 ≤ alo * blo := Int.mul_nonneg ha0 hb0
  have hle : alo * blo ≤ ahi * bhi := Int.mul_le_mul a1 b1 hb0 (by omega)
  have Jf : interval_computer_mul.j0 (k + 6) (ahi * bhi % 18446744073709551616) false w (2 ^ n - 1) (-2 ^ (n - 1)) (2 ^ (n - 1) - 1) 0 (2 ^ n - 1) (-2 ^ (n - 1)) (2 ^ (n - 1) - 1) alo ahi al am blo bhi bl bm = res w n (0, 2 ^ n - 1) (S 4 n al am bl bm blo bhi) := by
    rw [interval_computer_mul.j0, if_neg (by decide)]; exact J1 _ _
  by_cases c : ahi * bhi ≤ 2 ^ n - 1
  · rw [if_pos c, if_pos (by omega), decide_eq_true (show ahi * bhi % 18446744073709551616 ≤ 2 ^ n - 1 by omega), interval_computer_mul.j0, if_pos rfl]
    unfold interval_computer_u.f
    rw [Option.bind_some, wrap_u64, show (alo * blo) % 18446744073709551616 = alo * blo by omega, show (ahi * bhi) % 18446744073709551616 = ahi * bhi by omega]
    exact J1 _ _
  · rw [if_neg c]
    by_cases c2 : ahi * bhi / 18446744073709551616 = 0
    · rw [if_pos c2, decide_eq_false (show ¬ ahi * bhi % 18446744073709551616 ≤ 2 ^ n - 1 by omega)]; exact Jf
    · rw [if_neg c2]; exact Jf
theorem udiv_eq (k : Nat) : interval_computer_divide.f (k + 9) w (2 ^ n - 1) (-2 ^ (n - 1)) (2 ^ (n - 1) - 1) 0 (2 ^ n - 1) (-2 ^ (n - 1)) (2 ^ (n - 1) - 1) 5 alo ahi al am blo bhi bl bm = res w n (U 5 n alo ahi blo bhi) (-2 ^ (n - 1), 2 ^ (n - 1) - 1) := by
  obtain ⟨a1, a2, a3, a4, a5⟩ := va
  obtain ⟨b1, b2, b3, b4, b5⟩ := vb
  have hp := pow_le h64
  unfold interval_computer_divide.f
  simp only [U, if_pos, if_neg (show ¬ (5 : Int) = 2 by decide), if_neg (show ¬ (5 : Int) = 3 by decide), if_neg (show ¬ (5 : Int) = 4 by decide)]
  by_cases c : 1 ≤ blo
  · have q : ∀ x y : Int, 0 ≤ x → x < 18446744073709551616 → 0 ≤ y → IntKind.u64.wrap (Int.tdiv x y) = x / y := fun x y h h' h2 => by
      rw [Int.tdiv_eq_ediv_of_nonneg h, wrap_u64]
      have := Int.ediv_le_self y h
      have := Int.ediv_nonneg h h2
      omega
    rw [if_pos c, decide_eq_true (show blo ≥ 1 from c), interval_computer_divide.j0, if_pos rfl, if_neg (by omega), if_neg (by omega), q _ _ (by omega) (by omega) (by omega), q _ _ (by omega) (by omega) (by omega)]
    rfl
  · rw [if_neg c, decide_eq_false (show ¬ blo ≥ 1 from c), interval_computer_divide.j0, if_neg (by decide), if_neg (by decide), interval_computer_divide.j1, if_neg (by decide), if_neg (by decide), interval_computer_divide.j2, if_neg (by decide), if_neg (by decide), if_neg (by decide), interval_computer_divide.j3, if_neg (by decide), if_neg (by decide), interval_computer_divide.j4, if_neg (by decide), if_neg (by decide)]
    rfl
theorem urem_eq (k : Nat) : interval_computer_divide.f (k + 9) w (2 ^ n - 1) (-2 ^ (n - 1)) (2 ^ (n - 1) - 1) 0 (2 ^ n - 1) (-2 ^ (n - 1)) (2 ^ (n - 1) - 1) 6 alo ahi al am blo bhi bl bm = res w n (U 6 n alo ahi blo bhi) (-2 ^ (n - 1), 2 ^ (n - 1) - 1) := by
  obtain ⟨a1, a2, a3, a4, a5⟩ := va
  obtain ⟨b1, b2, b3, b4, b5⟩ := vb
  have hp := pow_le h64
  unfold interval_computer_divide.f
  simp only [U, if_pos, if_neg (show ¬ (6 : Int) = 2 by decide), if_neg (show ¬ (6 : Int) = 3 by decide), if_neg (show ¬ (6 : Int) = 4 by decide), if_neg (show ¬ (6 : Int) = 5 by decide)]
  rw [interval_computer_divide.j0, if_neg (by decide), if_pos rfl]
  by_cases c : 1 ≤ blo
  · rw [if_pos (show blo ≥ 1 from c), if_pos c]
    by_cases c2 : ahi < blo
    · rw [decide_eq_true c2, interval_computer_divide.j1, if_pos rfl, if_pos c2]; rfl
    · rw [decide_eq_false c2, interval_computer_divide.j1, if_neg (by decide), if_pos rfl, if_neg c2, decide_eq_true (show blo ≥ 1 from c), interval_computer_divide.j2, if_pos rfl, show IntKind.u64.wrap (bhi - 1) = bhi - 1 by rw [wrap_u64]; omega]; rfl
  · rw [if_neg (show ¬ blo ≥ 1 from c), if_neg c, interval_computer_divide.j1, if_neg (by decide), if_pos rfl, decide_eq_false (show ¬ blo ≥ 1 from c), interval_computer_divide.j2, if_neg (by decide), if_pos rfl]; rfl
theorem sdiv_eq (k : Nat) : interval_computer_divide.f (k + 9) w (2 ^ n - 1) (-2 ^ (n - 1)) (2 ^ (n - 1) - 1) 0 (2 ^ n - 1) (-2 ^ (n - 1)) (2 ^ (n - 1) - 1) 7 alo ahi al am blo bhi bl bm = res w n (0, 2 ^ n - 1) (S 7 n al am bl bm blo bhi) := by
  obtain ⟨ia, ia'⟩ := bd_i64 h64 va
  obtain ⟨ib, ib'⟩ := bd_i64 h64 vb
  obtain ⟨a1, a2, a3, a4, a5⟩ := va
  obtain ⟨b1, b2, b3, b4, b5⟩ := vb
  have hp := pow_le63 (n := n - 1) (by omega)
  have J3 : ∀ b : Bool, (b = true ↔ ((0 < bl ∨ bm < 0) ∧ (-2 ^ (n - 1) < al ∨ -1 < bl ∨ bm < -1))) → interval_computer_divide.j3 (k + 6) 7 b w (2 ^ n - 1) (-2 ^ (n - 1)) (2 ^ (n - 1) - 1) 0 (2 ^ n - 1) (-2 ^ (n - 1)) (2 ^ (n - 1) - 1) alo ahi al am blo bhi bl bm = res w n (0, 2 ^ n - 1) (S 7 n al am bl bm blo bhi) := by
    intro b hb
    simp only [S, if_pos, if_neg (show ¬ (7 : Int) = 2 by decide), if_neg (show ¬ (7 : Int) = 3 by decide), if_neg (show ¬ (7 : Int) = 4 by decide)]
    rw [interval_computer_divide.j3]
    by_cases c : b = true
    · have hc := hb.1 c
      have t : ∀ x y : Int, I64 x → I64 y → ¬ (x = -9223372036854775808 ∧ y = -1) → wrap64 (Int.tdiv x y) = Int.tdiv x y := fun x y hx hy h => wrap64_id (tdiv_I hx hy h).1 (tdiv_I hx hy h).2
      rw [if_pos c, if_neg (by omega), if_neg (by omega), if_pos hc, t _ _ ia ib (by omega), t _ _ ia ib' (by omega), t _ _ ia' ib (by omega), t _ _ ia' ib' (by omega), corners_eq]; rfl
    · rw [if_neg c, if_neg (by decide), interval_computer_divide.j4, if_neg (by decide), if_neg (by decide), if_neg (fun h => c (hb.2 h))]; rfl
  unfold interval_computer_divide.f
  rw [if_neg (by decide), interval_computer_divide.j0, if_neg (by decide), if_neg (by decide), interval_computer_divide.j1, if_neg (by decide), if_neg (by decide), interval_computer_divide.j2, if_neg (by decide), if_neg (by decide), if_pos rfl]
  by_cases c1 : bl > 0
  · rw [if_pos c1]
    by_cases c2 : al > -2 ^ (n - 1)
    · rw [if_pos c2]; exact J3 _ (by simp; omega)
    · rw [if_neg c2, if_pos (by omega)]; exact J3 _ (by simp; omega)
  · rw [if_neg c1]
    by_cases c0 : bm < 0
    · rw [if_pos c0]
      by_cases c2 : al > -2 ^ (n - 1)
      · rw [if_pos c2]; exact J3 _ (by simp; omega)
      · rw [if_neg c2, if_neg (by omega)]; exact J3 _ (by simp; omega)
    · rw [if_neg c0]; exact J3 _ (by simp; omega)
theorem srem_eq (k : Nat) : interval_computer_divide.f (k + 9) w (2 ^ n - 1) (-2 ^ (n - 1)) (2 ^ (n - 1) - 1) 0 (2 ^ n - 1) (-2 ^ (n - 1)) (2 ^ (n - 1) - 1) 8 alo ahi al am blo bhi bl bm = res w n (0, 2 ^ n - 1) (S 8 n al am bl bm blo bhi) := by
  obtain ⟨ia, ia'⟩ := bd_i64 h64 va
  obtain ⟨ib, ib'⟩ := bd_i64 h64 vb
  obtain ⟨a1, a2, a3, a4, a5⟩ := va
  obtain ⟨b1, b2, b3, b4, b5⟩ := vb
  have f1 := mn_facts al 0
  have f2 := mx_facts am 0
  have f3 := mx_facts (mn al 0) (1 - bm)
  have f4 := mn_facts (mx am 0) (bm - 1)
  have f5 := mx_facts al (1 - bm)
  have f6 := mn_facts am (bm - 1)
  unfold I64 at *
  have e1 : 1 ≤ bl → wrap64 (1 - bm) = 1 - bm := fun h => wrap64_id (by omega) (by omega)
  have e2 : 1 ≤ bl → wrap64 (bm - 1) = bm - 1 := fun h => wrap64_id (by omega) (by omega)
  simp only [S, if_pos, if_neg (show ¬ (8 : Int) = 2 by decide), if_neg (show ¬ (8 : Int) = 3 by decide), if_neg (show ¬ (8 : Int) = 4 by decide), if_neg (show ¬ (8 : Int) = 7 by decide)]
  unfold interval_computer_divide.f
  rw [if_neg (by decide), interval_computer_divide.j0, if_neg (by decide), if_neg (by decide), interval_computer_divide.j1, if_neg (by decide), if_neg (by decide), interval_computer_divide.j2, if_neg (by decide), if_neg (by decide), if_neg (by decide), interval_computer_divide.j3, if_neg (by decide), if_pos rfl]
  by_cases c : 1 ≤ bl
  · rw [if_pos c, decide_eq_true (show bl ≥ 1 from c), interval_computer_divide.j4, if_pos rfl, e1 c, e2 c]
    by_cases c1 : al < 0
    · rw [if_pos c1]
      by_cases c2 : am > 0
      · rw [if_pos c2, show mn al 0 = al by omega, show mx am 0 = am by omega]; rfl
      · rw [if_neg c2, show mn al 0 = al by omega, show mn (mx am 0) (bm - 1) = 0 by omega]; rfl
    · rw [if_neg c1]
      by_cases c2 : am > 0
      · rw [if_pos c2, show mx (mn al 0) (1 - bm) = 0 by omega, show mx am 0 = am by omega]; rfl
      · rw [if_neg c2, show mx (mn al 0) (1 - bm) = 0 by omega, show mn (mx am 0) (bm - 1) = 0 by omega]; rfl
  · rw [if_neg c, decide_eq_false (show ¬ bl ≥ 1 from c), interval_computer_divide.j4, if_neg (by decide), if_pos rfl]; rfl
end
end Go.Proofs.Ytoddafkffchnjaa.Cm
