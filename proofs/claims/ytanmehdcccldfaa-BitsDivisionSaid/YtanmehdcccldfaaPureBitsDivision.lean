import Derived.Test.YtanmehdcccldfaaLw
import Derived.Test.YtanmehdcccldfaaPx23
import Derived.Test.YtanmehdcccldfaaPx0
/- Quotient times divisor plus remainder is the dividend, for signed and unsigned words, also if the divisor is 0; the remainder is smaller than the divisor in magnitude and has the sign of the dividend. -/
namespace Go.Proofs.Ytanmehdcccldfaa.Pure
set_option linter.unusedVariables false
set_option linter.unusedSimpArgs false
set_option linter.unusedSectionVars false
open Go.RowKit Go.Proofs.Ytanmehdcccldfaa.P Go.Proofs.YtanmehdcccldfaaW.PrintWords Wd Im Lw

theorem sg_small {n : Nat} (hn : 1 ≤ n) {x : Int} (h0 : -2 ^ (n - 1) ≤ x) (h1 : x < 2 ^ (n - 1)) : sg n x = x := by
  have hp := pow_succ' hn
  have hpp := pow_pos (n - 1)
  unfold sg
  by_cases h : 0 ≤ x
  · rw [mod_small h (by omega), if_pos h1]
  · have e : x % 2 ^ n = x + 2 ^ n := by rw [← Int.add_emod_right]; exact mod_small (by omega) (by omega)
    rw [e, if_neg (by omega)]; omega
theorem tmod_facts (a b : Int) (hb : b ≠ 0) : (0 ≤ a → 0 ≤ Int.tmod a b) ∧ (a ≤ 0 → Int.tmod a b ≤ 0) ∧ (Int.tmod a b).natAbs < b.natAbs := by
  refine ⟨fun h => Int.tmod_nonneg b h, fun h => ?_, ?_⟩
  · have := Int.tmod_nonneg b (a := -a) (by omega)
    rw [Int.neg_tmod] at this
    omega
  · rw [Int.natAbs_tmod]
    exact Nat.mod_lt _ (by omega)
section
variable {n : Nat} (hn : 1 ≤ n) {a b : Int} (ha0 : 0 ≤ a) (ha : a < 2 ^ n) (hb0 : 0 ≤ b) (hb : b < 2 ^ n)
include hn ha0 ha hb0 hb
theorem back_u : bin 2 n (bin 4 n (bin 5 n a b) b) (bin 6 n a b) = a := by
  by_cases h : b = 0
  · simp [bin, h, mod_small ha0 ha]
  · have h1 := Int.mul_ediv_add_emod a b
    have h2 : 0 ≤ b * (a / b) := Int.mul_nonneg hb0 (Int.ediv_nonneg ha0 hb0)
    have h3 := Int.emod_nonneg a h
    simp only [bin]
    simp [h]
    rw [Int.mul_comm, h1, mod_small ha0 ha]
theorem back_s : bin 2 n (bin 4 n (bin 7 n a b) b) (bin 8 n a b) = a := by
  by_cases h : b = 0
  · simp [bin, h, mod_small ha0 ha]
  · have h1 := Int.mul_tdiv_add_tmod (sg n a) (sg n b)
    have e : bin 2 n (bin 4 n (bin 7 n a b) b) (bin 8 n a b) = (Int.tdiv (sg n a) (sg n b) % 2 ^ n * b % 2 ^ n + Int.tmod (sg n a) (sg n b) % 2 ^ n) % 2 ^ n := by
      simp only [bin]; simp [h]
    rw [e, ← Int.add_emod]
    have hsb := sg_mod (n := n) b
    rw [mod_small hb0 hb] at hsb
    have h3 : Int.tdiv (sg n a) (sg n b) % 2 ^ n * b % 2 ^ n = Int.tdiv (sg n a) (sg n b) * sg n b % 2 ^ n := by
      rw [Int.mul_emod (Int.tdiv (sg n a) (sg n b)) (sg n b), hsb]
    rw [Int.add_emod, h3, ← Int.add_emod, Int.mul_comm, h1, sg_mod, mod_small ha0 ha]
end
theorem BitsDivision : jacquardlaw01_BitsDivision.Pure := by
  intro w x y _ hx hy
  rw [wf_u64] at hx hy
  refine ⟨0 + 13, ?_⟩
  generalize 0 = k
  unfold jacquardlaw01_BitsDivision.f
  rw [show k + 13 = (k + 10) + 3 by omega, awake_eq (k + 10), Option.bind_some, if_pos rfl, right_eq, Option.bind_some]
  by_cases hw' : ¬ (1 ≤ w ∧ w ≤ 64)
  · rw [if_neg (by simpa using hw')]
  have hw := Decidable.not_not.1 hw'
  rw [if_pos (decide_eq_true hw), fit_eq w hx, Option.bind_some, fit_eq w hy, Option.bind_some, Option.bind_some]
  obtain ⟨a0, a1⟩ := mod_lt (nn w) x
  obtain ⟨b0, b1⟩ := mod_lt (nn w) y
  generalize x % 2 ^ nn w = a at *
  generalize y % 2 ^ nn w = b at *
  have hn := nn_of (w := w) (by omega) hw.2
  have hn1 : 1 ≤ nn w := by omega
  have hp := pow_le (nn_le w)
  have e : ∀ m op a b, 2 ≤ op ∧ op ≤ 20 → 0 ≤ a ∧ a < 2 ^ nn w → 0 ≤ b ∧ b < 2 ^ nn w → bits_Binary.f (m + 3) op w a b = some (bin op (nn w) a b, 0) := by
    intro m op a b ho ha hb
    rw [binary_eq m op w a b (by omega) (by omega), if_pos ⟨ho.1, ho.2, hw.1, hw.2⟩, mod_small ha.1 ha.2, mod_small hb.1 hb.2]
  have r : ∀ {op a b}, 0 ≤ a ∧ a < 2 ^ nn w → 0 ≤ b ∧ b < 2 ^ nn w → 0 ≤ bin op (nn w) a b ∧ bin op (nn w) a b < 2 ^ nn w := fun ha hb => bin_range hn1 ha.1 ha.2 hb.1 hb.2
  have A : 0 ≤ a ∧ a < 2 ^ nn w := ⟨a0, a1⟩
  have B : 0 ≤ b ∧ b < 2 ^ nn w := ⟨b0, b1⟩
  -- a round, up to the checks of the remainder
  have round : ∀ (m : Nat) (l : List S60) (c i oq orr : Int), 0 ≤ i → i < c → c = (l.length : Int) → rd_T60 l i = ⟨oq, orr⟩ → (oq = 5 ∧ orr = 6) ∨ (oq = 7 ∧ orr = 8) →
      jacquardlaw01_BitsDivision.l0 (m + 4) w a b l c i = jacquardlaw01_BitsDivision.j1 (m + 3) w a b (bin oq (nn w) a b) (bin orr (nn w) a b) l c i false oq orr := by
    intro m l c i oq orr hi0 hi hl hr ho
    rw [jacquardlaw01_BitsDivision.l0, if_pos hi, if_pos hi0, if_pos (by omega), hr]
    simp only []
    have hq := r (op := oq) A B
    have hrr := r (op := orr) A B
    have hpq := r (op := 4) hq B
    rw [e m oq a b (by omega) A B, Option.bind_some, e m orr a b (by omega) A B, Option.bind_some]
    simp only []
    rw [e m 4 _ b (by decide) hq B, Option.bind_some]
    simp only []
    rw [e m 2 _ _ (by decide) hpq hrr, Option.bind_some]
    simp only [if_true]
    congr 1
    rcases ho with ⟨rfl, rfl⟩ | ⟨rfl, rfl⟩
    · rw [back_u hn1 a0 a1 b0 b1]; simp
    · rw [back_s hn1 a0 a1 b0 b1]; simp
  have last : ∀ (m : Nat) (l : List S60) (c i oq orr : Int), (oq = 5 ∧ orr = 6) ∨ (oq = 7 ∧ orr = 8) → ∃ m', m ≤ m' ∧ m' ≤ m + 2 ∧
      jacquardlaw01_BitsDivision.j1 (m + 3) w a b (bin oq (nn w) a b) (bin orr (nn w) a b) l c i false oq orr = jacquardlaw01_BitsDivision.l0 m' w a b l c (wrap64 (i + 1)) := by
    intro m l c i oq orr ho
    by_cases hb : b = 0
    · refine ⟨m + 2, by omega, by omega, ?_⟩
      rw [jacquardlaw01_BitsDivision.j1, if_neg (by decide), if_pos hb, mask_eq, Option.bind_some]
      rcases ho with ⟨rfl, rfl⟩ | ⟨rfl, rfl⟩ <;> simp [bin, hb]
    rcases ho with ⟨rfl, rfl⟩ | ⟨rfl, rfl⟩
    · refine ⟨m + 2, by omega, by omega, ?_⟩
      rw [jacquardlaw01_BitsDivision.j1, if_neg (by decide), if_neg hb, if_pos rfl, if_neg]
      have h2 : bin 6 (nn w) a b = a % b := by simp [bin, hb]
      have := Int.emod_lt_of_pos a (b := b) (by omega)
      rw [h2]; omega
    · refine ⟨m, by omega, by omega, ?_⟩
      have sb := sg_eq_zero hw.1 hw.2 a0 a1 b0 b1 (n := nn w) (x := b) hn1 b0 b1
      have hsb : sg (nn w) b ≠ 0 := fun h => hb (sb.1 h)
      obtain ⟨t1, t2, t3⟩ := tmod_facts (sg (nn w) a) (sg (nn w) b) hsb
      have rb := sg_range hn1 b
      have ra := sg_I (nn_le w) a
      have rb2 := sg_I (nn_le w) b
      have hr := r (op := 8) A B
      have ht : sg (nn w) (bin 8 (nn w) a b) = Int.tmod (sg (nn w) a) (sg (nn w) b) := by
        have h2 : bin 8 (nn w) a b = Int.tmod (sg (nn w) a) (sg (nn w) b) % 2 ^ nn w := by simp [bin, hb]
        rw [h2, sg_fit]
        exact sg_small hn1 (by omega) (by omega)
      rw [jacquardlaw01_BitsDivision.j1, if_neg (by decide), if_neg hb, if_neg (by decide), signed_eq w (x := a) (by omega), Option.bind_some, signed_eq w (x := b) (by omega), Option.bind_some, signed_eq w (x := bin 8 (nn w) a b) (by omega), Option.bind_some, ht]
      generalize Int.tmod (sg (nn w) a) (sg (nn w) b) = t at *
      generalize sg (nn w) a = s at *
      generalize sg (nn w) b = d at *
      have j3 : ∀ d', (d' > 0 → t.natAbs < d'.natAbs) → jacquardlaw01_BitsDivision.j3 (m + 1) w a b d' t l c i = jacquardlaw01_BitsDivision.l0 m w a b l c (wrap64 (i + 1)) := by
        intro d' hd
        rw [jacquardlaw01_BitsDivision.j3]
        by_cases c1 : t < 0
        · rw [if_pos c1]
          by_cases c2 : d' > 0
          · rw [if_pos c2, if_neg]
            have := hd c2
            rw [wrap64_id (by omega) (by omega)]; omega
          · rw [if_neg c2]
        · rw [if_neg c1]
          by_cases c2 : d' > 0
          · rw [if_pos c2, if_neg]
            have := hd c2
            omega
          · rw [if_neg c2]
      have j2 : jacquardlaw01_BitsDivision.j2 (m + 2) w a b d t l c i false = jacquardlaw01_BitsDivision.l0 m w a b l c (wrap64 (i + 1)) := by
        rw [jacquardlaw01_BitsDivision.j2, if_neg (by decide)]
        by_cases c1 : d < 0
        · rw [if_pos c1]
          apply j3
          intro h
          by_cases c2 : d = -9223372036854775808
          · subst c2; exact absurd h (by unfold wrap64; decide)
          · rw [wrap64_id (by omega) (by omega)]; omega
        · rw [if_neg c1]
          exact j3 d (fun _ => t3)
      by_cases c1 : t = 0
      · rw [if_pos c1]; exact j2
      · rw [if_neg c1]
        have : (decide (t < 0) != decide (s < 0)) = false := by
          by_cases c2 : s < 0
          · have := t2 (by omega)
            simp [c2]; omega
          · have := t1 (by omega)
            simp [c2]; omega
        rw [this]; exact j2
  rw [show k + 10 + 3 = (k + 9) + 4 by omega, round (k + 9) _ _ 0 5 6 (by decide) (by decide) rfl rfl (.inl ⟨rfl, rfl⟩)]
  obtain ⟨m1, g1, _, e1⟩ := last (k + 9) [(⟨5, 6⟩ : S60), (⟨7, 8⟩ : S60)] ([(⟨5, 6⟩ : S60), (⟨7, 8⟩ : S60)].length : Int) 0 5 6 (.inl ⟨rfl, rfl⟩)
  rw [e1, show wrap64 (0 + 1) = 1 from wrap64_id (by decide) (by decide), show m1 = (m1 - 4) + 4 by omega, round (m1 - 4) _ _ 1 7 8 (by decide) (by decide) rfl rfl (.inr ⟨rfl, rfl⟩)]
  obtain ⟨m2, g2, _, e2⟩ := last (m1 - 4) [(⟨5, 6⟩ : S60), (⟨7, 8⟩ : S60)] ([(⟨5, 6⟩ : S60), (⟨7, 8⟩ : S60)].length : Int) 1 7 8 (.inr ⟨rfl, rfl⟩)
  rw [e2, show wrap64 (1 + 1) = 2 from wrap64_id (by decide) (by decide), show m2 = (m2 - 1) + 1 by omega, jacquardlaw01_BitsDivision.l0, if_neg (by decide)]
end Go.Proofs.Ytanmehdcccldfaa.Pure
