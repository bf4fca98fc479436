import Derived.Test.YtanmehdcccldfaaRc
import Derived.Test.YtanmehdcccldfaaPx21
import Derived.Test.YtanmehdcccldfaaPx17
/- The reference's Binary equals the plain value. -/
namespace Go.Proofs.Ytanmehdcccldfaa.Rd
set_option linter.unusedVariables false
set_option linter.unusedSimpArgs false
set_option linter.unusedSectionVars false
open Go.RowKit Go.Proofs.Ytanmehdcccldfaa.P Go.Proofs.YtanmehdcccldfaaW.PrintWords Wd Bl Re Im Rb Rc

section
variable {w : Int} (hw1 : 1 ≤ w) (hw2 : w ≤ 64) {a b : Int} (ha0 : 0 ≤ a) (ha : a < 2 ^ nn w) (hb0 : 0 ≤ b) (hb : b < 2 ^ nn w)
include hw1 hw2 ha0 ha hb0 hb
theorem bitop (f : Nat → Nat → Nat) (g : Bool → Bool → Bool) (h : ∀ x y i, (f x y).testBit i = g (x.testBit i) (y.testBit i)) (hlt : ∀ x y, x < 2 ^ nn w → y < 2 ^ nn w → f x y < 2 ^ nn w) (op : Int)
    (hop : ∀ p q : Bool, opb op (if p then 1 else 0) (if q then 1 else 0) = if g p q then 1 else 0) (ho : op = 9 ∨ op = 10 ∨ op = 11) (k : Nat) (hk : 200 < k) :
    jacquardref01_Binary.l0 k op w a b (bitsL (nn w) a) (bitsL (nn w) b) [] 0 = some ((f a.toNat b.toNat : Nat) : Int) := by
  have hn := nn_le w
  have hp := pow_le hn
  have hr := natbit_op f g h op hop a b ha0 hb0
  have hf := hlt a.toNat b.toNat (by have := pow_toNat (nn w); omega) (by have := pow_toNat (nn w); omega)
  have hf2 : ((f a.toNat b.toNat : Nat) : Int) < 2 ^ nn w := by have := pow_toNat (nn w); omega
  obtain ⟨k', h1, h2⟩ := bin_loop (w := w) (a := a) (b := b) ((f a.toNat b.toNat : Nat) : Int) (fun i => hr i) ho (fun _ => none) a b (nn w) k 0 (by omega) (by omega)
  have e0 : bitsL 0 ((f a.toNat b.toNat : Nat) : Int) = [] := rfl
  rw [e0] at h2
  rw [show (0 : Int) = ((0 : Nat) : Int) from rfl, h2]
  obtain ⟨k, rfl⟩ : ∃ m, k' = m + 3 := ⟨k' - 3, by omega⟩
  have hW : jacquardref01_Word.f k (bitsL (nn w) ((f a.toNat b.toNat : Nat) : Int)) = some ((f a.toNat b.toNat : Nat) : Int) ∨ k ≤ 64 := by
    rcases Nat.lt_or_ge 64 k with h | h
    · left
      rw [wordL _ _ hn h, mod_small (by omega) hf2]
    · exact .inr h
  have hW2 : 64 < k → jacquardref01_Word.f k (bitsL (nn w) ((f a.toNat b.toNat : Nat) : Int)) = some ((f a.toNat b.toNat : Nat) : Int) := fun h => by rw [wordL _ _ hn h, mod_small (by omega) hf2]
  have hk64 : 64 < k ∨ k = 64 := by omega
  have hW3 : 63 < k → jacquardref01_Word.f k (bitsL (nn w) ((f a.toNat b.toNat : Nat) : Int)) = some ((f a.toNat b.toNat : Nat) : Int) := by
    intro h
    have hb1 := bitsL_bit (nn w) ((f a.toNat b.toNat : Nat) : Int)
    rcases Nat.lt_or_ge 64 k with h' | h'
    · exact hW2 h'
    · exact absurd h (by omega)
  have J1 : ∀ x13, jacquardref01_Binary.j1 (k + 2) op w a b (bitsL (nn w) a) (bitsL (nn w) b) (bitsL (nn w) ((f a.toNat b.toNat : Nat) : Int)) x13 = some ((f a.toNat b.toNat : Nat) : Int) := by
    intro x13
    have J2 : ∀ x81, jacquardref01_Binary.j2 (k + 1) op w a b (bitsL (nn w) a) (bitsL (nn w) b) (bitsL (nn w) ((f a.toNat b.toNat : Nat) : Int)) x13 x81 true = some ((f a.toNat b.toNat : Nat) : Int) := by
      intro x81
      rw [jacquardref01_Binary.j2, if_pos rfl, hW3 (by omega)]; rfl
    rw [jacquardref01_Binary.j1]
    rcases ho with rfl | rfl | rfl
    · rw [if_pos rfl]; exact J2 9
    · rw [if_neg (by decide), if_pos rfl]; exact J2 10
    · rw [if_neg (by decide), if_neg (by decide)]; exact J2 11
  rw [jacquardref01_Binary.l0, bitsL_length, if_neg (by omega), rneg_eq w a ⟨ha0, by omega⟩ (by omega), Option.bind_some]
  split
  · exact J1 1
  · exact J1 0
theorem other {op : Int} (ho2 : 2 ≤ op ∧ op ≤ 20) (ho : ¬ (op = 9 ∨ op = 10 ∨ op = 11)) (k : Nat) (hk : 400 < k) :
    jacquardref01_Binary.l0 k op w a b (bitsL (nn w) a) (bitsL (nn w) b) [] 0 = some (bin op (nn w) a b) := by
  have hn := nn_le w
  have hnw := nn_of (w := w) (by omega) hw2
  have hw : 1 ≤ nn w := by omega
  have hp := pow_le hn
  have hpp := pow_pos (nn w)
  obtain ⟨k', h1, h2⟩ := skip_loop (w := w) ho a b (bitsL (nn w) a) (bitsL (nn w) b) [] (bitsL_length _ _) (nn w) k 0 (by omega) (by omega)
  rw [show (0 : Int) = ((0 : Nat) : Int) from rfl, h2]
  obtain ⟨k, rfl⟩ : ∃ m, k' = m + 4 := ⟨k' - 4, by omega⟩
  have hA : 0 ≤ a ∧ a < 18446744073709551616 := ⟨ha0, by omega⟩
  have hB : 0 ≤ b ∧ b < 18446744073709551616 := ⟨hb0, by omega⟩
  have hs := pow_succ' hw
  have ham := amount_eq w b hB
  have sa := rsigned_eq w a hA (k := k + 1) (by omega)
  have sb := rsigned_eq w b hB (k := k + 1) (by omega)
  have shrs : ∀ (y fill : Int) (s : Nat), s ≤ 64 → (∀ i : Nat, i + s < nn w → a / 2 ^ (i + s) % 2 = y / 2 ^ s / 2 ^ i % 2) → (∀ i : Nat, nn w ≤ i + s → fill = y / 2 ^ s / 2 ^ i % 2) → jacquardref01_shr.f (k + 1) w a s fill = some (y / 2 ^ s % 2 ^ nn w) :=
    fun y fill s h1 h2 h3 => rshr_eq w a y hA s h1 fill h2 h3 (by omega)
  have sgh : ∀ i : Nat, nn w ≤ i → sg (nn w) a / 2 ^ i % 2 = if 2 ^ (nn w - 1) ≤ a then 1 else 0 := by
    intro i hi
    unfold sg
    rw [mod_small ha0 ha]
    by_cases c : 2 ^ (nn w - 1) ≤ a
    · rw [if_neg (by omega), if_pos c]; exact neg_bit (by omega) (by omega) hi
    · rw [if_pos (by omega), if_neg c]; exact small_bit ha0 ha hi
  have sgl : ∀ i : Nat, i < nn w → sg (nn w) a / 2 ^ i % 2 = a / 2 ^ i % 2 := by
    intro i hi
    unfold sg
    rw [mod_small ha0 ha]
    split
    · rfl
    · exact sub_pow_bit a hi
  have J1 : ∀ x13, x13 = (if 2 ^ (nn w - 1) ≤ a then 1 else 0) → jacquardref01_Binary.j1 (k + 3) op w a b (bitsL (nn w) a) (bitsL (nn w) b) [] x13 = some (bin op (nn w) a b) := by
    intro x13 hx
    rw [jacquardref01_Binary.j1, if_neg (fun h => ho (.inl h)), if_neg (fun h => ho (.inr (.inl h))), show (op == 11) = false by simpa using fun h => ho (.inr (.inr h))]
    rw [jacquardref01_Binary.j2, if_neg (by decide)]
    have amt : (if (nn w : Int) ≤ b then (nn w : Int) else b) = ((if (nn w : Int) ≤ b then nn w else b.toNat : Nat) : Int) := by split <;> omega
    rw [amt] at ham
    have amt64 : (if (nn w : Int) ≤ b then nn w else b.toNat : Nat) ≤ 64 := by split <;> omega
    obtain rfl | rfl | rfl | rfl | rfl | rfl | rfl | rfl | rfl | rfl | rfl | rfl | rfl | rfl | rfl | rfl : op = 2 ∨ op = 3 ∨ op = 4 ∨ op = 5 ∨ op = 6 ∨ op = 7 ∨ op = 8 ∨ op = 12 ∨ op = 13 ∨ op = 14 ∨ op = 15 ∨ op = 16 ∨ op = 17 ∨ op = 18 ∨ op = 19 ∨ op = 20 := by omega
    · obtain ⟨r, h3, h4⟩ := add_eq (nn w) hn a b 0 (.inl rfl) (k := k + 1) (by omega)
      simp [h3, h4, bin]
    · have hq : IntKind.u64.wrap (2 ^ nn w - 1 - b) = 2 ^ nn w - 1 - b := by rw [wrap_u64]; omega
      obtain ⟨r, h3, h4⟩ := add_eq (nn w) hn a (2 ^ nn w - 1 - b) 1 (.inr rfl) (k := k + 1) (by omega)
      have e : (a + (2 ^ nn w - 1 - b) + 1) % 2 ^ nn w = (a - b) % 2 ^ nn w := by
        rw [show a + (2 ^ nn w - 1 - b) + 1 = (a - b) + 2 ^ nn w by omega, Int.add_emod_right]
      rw [e] at h4
      have h5 := ones_eq w (k := k + 1) (by omega)
      have h6 := bits_eq w (2 ^ nn w - 1 - b) (by omega) (k := k + 1) (by omega)
      simp [h5, hq, h6, h3, h4, bin]
    · have h3 := rmul_eq w a b hw ha0 ha hb0 hb (k := k + 1) (by omega)
      simp [h3, bin]
    · have h5 := ones_eq w (k := k) (by omega)
      simp [jacquardref01_Binary.j3, h5]
      by_cases c : b = 0
      · simp [c, bin]
      · have e : IntKind.u64.wrap (Int.tdiv a b) = a / b := by
          rw [Int.tdiv_eq_ediv_of_nonneg ha0, wrap_u64]
          have := Int.ediv_le_self b ha0
          have := Int.ediv_nonneg ha0 hb0
          omega
        simp [c, bin, e]
    · simp [jacquardref01_Binary.j3]
      by_cases c : b = 0
      · simp [c, bin]
      · simp [c, bin, Int.tmod_eq_emod_of_nonneg ha0]
    · have h5 := rdivide_eq hw ha0 ha hb0 hb (k := k) (by omega)
      simp [jacquardref01_Binary.j3, h5]
    · have h5 := rdivide_eq hw ha0 ha hb0 hb (k := k) (by omega)
      simp [jacquardref01_Binary.j3, h5]
    · have h5 := rshl_eq w a hA _ amt64 (k := k + 1) (by omega)
      simp only [ham, h5, Option.bind_some]
      simp [bin]
      by_cases c : (nn w : Int) ≤ b
      · rw [if_pos c, if_pos c, Int.mul_comm, Int.mul_emod_right]
      · rw [if_neg c, if_neg c]
    · have h5 := shrs a 0 _ amt64 (fun i _ => by rw [div_pow_pow, Nat.add_comm]) (fun i hi => by rw [div_pow_pow, small_bit ha0 ha (by omega)])
      simp only [ham, h5, Option.bind_some]
      simp [bin]
      by_cases c : (nn w : Int) ≤ b
      · rw [if_pos c, if_pos c, Int.ediv_eq_zero_of_lt ha0 ha]; rfl
      · rw [if_neg c, if_neg c]
        have h6 : 0 ≤ a / 2 ^ b.toNat := Int.ediv_nonneg ha0 (by have := pow_pos b.toNat; omega)
        have h7 := Int.ediv_le_self (2 ^ b.toNat) ha0
        exact mod_small h6 (by omega)
    · have h5 := shrs (sg (nn w) a) x13 _ amt64 (fun i hi => by rw [div_pow_pow, Nat.add_comm, sgl _ (by omega)]) (fun i hi => by rw [div_pow_pow, sgh _ (by omega), hx])
      simp only [ham, h5, Option.bind_some]
      simp [bin]
      by_cases c : (nn w : Int) ≤ b
      · rw [if_pos c, if_pos c]
        unfold sg
        rw [mod_small ha0 ha]
        by_cases c2 : 2 ^ (nn w - 1) ≤ a
        · have e : (a - 2 ^ nn w) / 2 ^ nn w = -1 := by
            apply Int.ediv_eq_iff_of_pos (by omega) |>.2
            omega
          rw [if_neg (by omega), if_pos c2, e, ← Int.add_emod_right, mod_small (by omega) (by omega)]; omega
        · rw [if_pos (by omega), if_neg c2, Int.ediv_eq_zero_of_lt ha0 ha]; rfl
      · rw [if_neg c, if_neg c]
    all_goals simp [rbit_eq, sa, sb, bin]
  rw [jacquardref01_Binary.l0, bitsL_length, if_neg (by omega), rneg_eq w a hA (by omega), Option.bind_some, mod_small ha0 ha]
  by_cases c : 2 ^ (nn w - 1) ≤ a
  · rw [if_pos (decide_eq_true ⟨hw, c⟩)]; exact J1 1 (by rw [if_pos c])
  · rw [if_neg (by simp; omega)]; exact J1 0 (by rw [if_neg c])
end
theorem rbinary_eq {op w a b : Int} (ho : 2 ≤ op ∧ op ≤ 20) (hw : 1 ≤ w ∧ w ≤ 64) (ha : 0 ≤ a ∧ a < 18446744073709551616) (hb : 0 ≤ b ∧ b < 18446744073709551616) {k : Nat} (hk : 400 < k) :
    jacquardref01_Binary.f k op w a b = some (bin op (nn w) (a % 2 ^ nn w) (b % 2 ^ nn w)) := by
  have hn := nn_le w
  have mA := mod_U hn a
  have mB := mod_U hn b
  obtain ⟨a0, a1⟩ := mod_lt (nn w) a
  obtain ⟨b0, b1⟩ := mod_lt (nn w) b
  unfold jacquardref01_Binary.f
  rw [rfit_eq w a ha (by omega), Option.bind_some, rfit_eq w b hb (by omega), Option.bind_some, bits_eq w _ mA (by omega), Option.bind_some, bits_eq w _ mB (by omega), Option.bind_some]
  generalize a % 2 ^ nn w = x at *
  generalize b % 2 ^ nn w = y at *
  by_cases h9 : op = 9
  · subst h9
    rw [bitop hw.1 hw.2 a0 a1 b0 b1 (· &&& ·) and (fun x y i => Nat.testBit_and x y i) (fun x y hx hy => Nat.and_lt_two_pow x hy) 9 (by decide) (.inl rfl) k (by omega)]
    rfl
  by_cases h10 : op = 10
  · subst h10
    rw [bitop hw.1 hw.2 a0 a1 b0 b1 (· ||| ·) or (fun x y i => Nat.testBit_or x y i) (fun x y hx hy => Nat.or_lt_two_pow hx hy) 10 (by decide) (.inr (.inl rfl)) k (by omega)]
    rfl
  by_cases h11 : op = 11
  · subst h11
    rw [bitop hw.1 hw.2 a0 a1 b0 b1 (· ^^^ ·) xor (fun x y i => Nat.testBit_xor x y i) (fun x y hx hy => Nat.xor_lt_two_pow hx hy) 11 (by decide) (.inr (.inr rfl)) k (by omega)]
    rfl
  exact other hw.1 hw.2 a0 a1 b0 b1 ho (by omega) k hk
theorem risBinary_eq (op : Int) : jacquardref01_IsBinary.f op = some (decide (2 ≤ op ∧ op ≤ 20)) := by
  unfold jacquardref01_IsBinary.f
  by_cases h : op ≥ 2
  · rw [if_pos h]; congr 1; simp; omega
  · rw [if_neg h]; congr 1; simp; omega
end Go.Proofs.Ytanmehdcccldfaa.Rd
