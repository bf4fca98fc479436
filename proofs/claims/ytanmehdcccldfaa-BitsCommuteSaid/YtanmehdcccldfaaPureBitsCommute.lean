import Derived.Test.YtanmehdcccldfaaLw
import Derived.Test.YtanmehdcccldfaaPx28
/- The operators that Commutes and Associates name have these properties. -/
namespace Go.Proofs.Ytanmehdcccldfaa.Pure
set_option linter.unusedVariables false
set_option linter.unusedSimpArgs false
set_option linter.unusedSectionVars false
open Go.RowKit Go.Proofs.Ytanmehdcccldfaa.P Go.Proofs.YtanmehdcccldfaaW.PrintWords Wd Im Lw

theorem assoc_eq (op : Int) : bits_Associates.f op = some (decide (op = 2 ∨ op = 4 ∨ op = 9 ∨ op = 10 ∨ op = 11)) := by
  unfold bits_Associates.f
  repeat' split
  all_goals (congr 1; symm; first | (apply decide_eq_true; omega) | (apply decide_eq_false; omega))
theorem commutes_eq (op : Int) : bits_Commutes.f op = some (decide (op = 2 ∨ op = 4 ∨ op = 9 ∨ op = 10 ∨ op = 11 ∨ op = 15 ∨ op = 16)) := by
  unfold bits_Commutes.f
  rw [assoc_eq, Option.bind_some]
  by_cases h : op = 2 ∨ op = 4 ∨ op = 9 ∨ op = 10 ∨ op = 11
  · rw [if_pos (decide_eq_true h), decide_eq_true (by omega)]
  · rw [if_neg (by simpa using h)]
    by_cases h2 : op = 15
    · rw [if_pos h2, decide_eq_true (by omega)]
    · rw [if_neg h2]; congr 1; rw [Bool.eq_iff_iff]; simp; omega
theorem bin_comm {op : Int} {n : Nat} (a b : Int) (h : op = 2 ∨ op = 4 ∨ op = 9 ∨ op = 10 ∨ op = 11 ∨ op = 15 ∨ op = 16) : bin op n a b = bin op n b a := by
  rcases h with rfl | rfl | rfl | rfl | rfl | rfl | rfl
  · simp [bin, Int.add_comm]
  · simp [bin, Int.mul_comm]
  · simp [bin, Nat.and_comm]
  · simp [bin, Nat.or_comm]
  · simp [bin, Nat.xor_comm]
  · simp [bin, eq_comm]
  · simp [bin, eq_comm]
theorem bin_assoc {op : Int} {n : Nat} (a b c : Int) (h : op = 2 ∨ op = 4 ∨ op = 9 ∨ op = 10 ∨ op = 11) : bin op n (bin op n a b) c = bin op n a (bin op n b c) := by
  rcases h with rfl | rfl | rfl | rfl | rfl
  · simp [bin, Int.add_assoc]
  · simp [bin, Int.mul_assoc]
    rw [Int.mul_emod, Int.emod_emod_of_dvd _ (Int.dvd_refl _), ← Int.mul_emod, Int.mul_emod a (b * c % 2 ^ n), Int.emod_emod_of_dvd _ (Int.dvd_refl _), ← Int.mul_emod, Int.mul_assoc]
  · simp [bin, Nat.and_assoc]
  · simp [bin, Nat.or_assoc]
  · simp [bin, Nat.xor_assoc]
theorem BitsCommute : jacquardlaw01_BitsCommute.Pure := by
  intro op w x y z _ _ hx hy hz
  rw [wf_u64] at hx hy hz
  refine ⟨0 + 6, ?_⟩
  generalize 0 = k
  unfold jacquardlaw01_BitsCommute.f
  rw [show k + 6 = (k + 3) + 3 by omega, awake_eq (k + 3), Option.bind_some, if_pos rfl]
  have j2 : 1 ≤ w ∧ w ≤ 64 → jacquardlaw01_BitsCommute.j2 (k + 4) op w x y z = some true := by
    intro hw
    have hn := nn_of (w := w) (by omega) hw.2
    have hp := pow_le (nn_le w)
    simp only [jacquardlaw01_BitsCommute.j2]
    rw [assoc_eq, Option.bind_some]
    by_cases h : op = 2 ∨ op = 4 ∨ op = 9 ∨ op = 10 ∨ op = 11
    · rw [if_pos (decide_eq_true h)]
      have hv : 2 ≤ op ∧ op ≤ 20 ∧ 1 ≤ w ∧ w ≤ 64 := ⟨by omega, by omega, hw.1, hw.2⟩
      have e : ∀ a b, 0 ≤ a ∧ a < 18446744073709551616 → 0 ≤ b ∧ b < 18446744073709551616 → bits_Binary.f (k + 3) op w a b = some (bin op (nn w) (a % 2 ^ nn w) (b % 2 ^ nn w), 0) := by
        intro a b ha hb
        rw [binary_eq k op w a b ha hb, if_pos hv]
      have r : ∀ a b, 0 ≤ bin op (nn w) (a % 2 ^ nn w) (b % 2 ^ nn w) ∧ bin op (nn w) (a % 2 ^ nn w) (b % 2 ^ nn w) < 2 ^ nn w := fun a b => bin_range (by omega) (mod_lt _ _).1 (mod_lt _ _).2 (mod_lt _ _).1 (mod_lt _ _).2
      have r1 := r x y
      have r2 := r y z
      rw [e x y hx hy, Option.bind_some, e y z hy hz, Option.bind_some, e _ z (by omega) hz, Option.bind_some, e x _ hx (by omega), Option.bind_some]
      rw [mod_small r1.1 r1.2, mod_small r2.1 r2.2, if_pos (bin_assoc _ _ _ h)]
    · rw [if_neg (by simpa using h)]
  have j1 : jacquardlaw01_BitsCommute.j1 (k + 5) op w false x y z = some true := by
    simp only [jacquardlaw01_BitsCommute.j1]
    rw [if_neg (by decide), right_eq, Option.bind_some]
    by_cases hw : 1 ≤ w ∧ w ≤ 64
    · rw [if_pos (decide_eq_true hw), commutes_eq, Option.bind_some]
      by_cases h : op = 2 ∨ op = 4 ∨ op = 9 ∨ op = 10 ∨ op = 11 ∨ op = 15 ∨ op = 16
      · rw [if_pos (decide_eq_true h), binary_eq (k + 1) op w x y hx hy, Option.bind_some, binary_eq (k + 1) op w y x hy hx, Option.bind_some, if_pos, j2 hw]
        rw [bin_comm _ _ h]
      · rw [if_neg (by simpa using h), j2 hw]
    · rw [if_neg (by simpa using hw)]
  have j0 : ∀ b, b = decide (op = 2 ∨ op = 4 ∨ op = 9 ∨ op = 10 ∨ op = 11 ∨ op = 15 ∨ op = 16) → jacquardlaw01_BitsCommute.j0 (k + 3 + 3) op w b x y z = some true := by
    intro b hb
    simp only [jacquardlaw01_BitsCommute.j0]
    rw [commutes_eq, Option.bind_some, ← hb, if_neg (by simp), assoc_eq, Option.bind_some]
    by_cases h : op = 2 ∨ op = 4 ∨ op = 9 ∨ op = 10 ∨ op = 11 ∨ op = 15 ∨ op = 16
    · rw [decide_eq_true h] at hb
      subst hb
      rw [if_pos rfl]
      by_cases h15 : op = 15
      · rw [if_pos h15, decide_eq_false (by omega)]; exact j1
      · rw [if_neg h15]
        have : (decide (op = 2 ∨ op = 4 ∨ op = 9 ∨ op = 10 ∨ op = 11) != (op != 16)) = false := by
          by_cases h16 : op = 16
          · subst h16; decide
          · rw [decide_eq_true (by omega)]; simp [h16]
        rw [this]; exact j1
    · rw [decide_eq_false h] at hb
      subst hb
      rw [if_neg (by decide), decide_eq_false (by omega)]; exact j1
  repeat' split
  all_goals first
    | exact j0 true (by symm; apply decide_eq_true; omega)
    | exact j0 _ (by rw [Bool.eq_iff_iff]; simp; omega)
end Go.Proofs.Ytanmehdcccldfaa.Pure
