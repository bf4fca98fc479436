import Derived.Test.YtanmehdcccldfaaLw
import Derived.Test.YtanmehdcccldfaaPx30
/- The word that Identity returns is a right identity. -/
namespace Go.Proofs.Ytanmehdcccldfaa.Pure
set_option linter.unusedVariables false
set_option linter.unusedSimpArgs false
set_option linter.unusedSectionVars false
open Go.RowKit Go.Proofs.Ytanmehdcccldfaa.P Go.Proofs.YtanmehdcccldfaaW.PrintWords Wd Im Lw

theorem sg_one {n : Nat} (h : 2 ≤ n) : sg n 1 = 1 := by
  obtain ⟨m, rfl⟩ : ∃ m, n = m + 2 := ⟨n - 2, by omega⟩
  have h1 := pow_pos m
  have h2 : (2 : Int) ^ (m + 2) = 4 * 2 ^ m := by rw [Int.pow_succ, Int.pow_succ]; omega
  have h3 : (2 : Int) ^ (m + 2 - 1) = 2 * 2 ^ m := by rw [show m + 2 - 1 = m + 1 by omega, Int.pow_succ]; omega
  unfold sg
  rw [mod_small (by decide) (by omega), if_pos (by omega)]
theorem ident {op : Int} {n : Nat} (hn : 1 ≤ n) {a e : Int} (ha0 : 0 ≤ a) (ha : a < 2 ^ n)
    (h : (e = 0 ∧ (op = 2 ∨ op = 3 ∨ op = 10 ∨ op = 11 ∨ op = 12 ∨ op = 13 ∨ op = 14)) ∨ (e = 1 ∧ (op = 4 ∨ op = 5 ∨ op = 7)) ∨ (e = 2 ^ n - 1 ∧ op = 9)) :
    bin op n a (e % 2 ^ n) = a := by
  have hp := pow_succ' hn
  have hpp := pow_pos (n - 1)
  have hm := mod_small ha0 ha
  rcases h with ⟨rfl, h⟩ | ⟨rfl, h⟩ | ⟨rfl, rfl⟩
  · rw [Int.zero_emod]
    have hn0 : ¬ (n : Int) ≤ 0 := by omega
    have hs := sg_mod (n := n) a
    have ht : ((a.toNat : Nat) : Int) = a := by omega
    rcases h with rfl | rfl | rfl | rfl | rfl | rfl | rfl
    · simp [bin, hm]
    · simp [bin, hm]
    · simp [bin]; omega
    · simp [bin]; omega
    · simp [bin, hm]; omega
    · simp [bin]; omega
    · simp [bin, hs, hm]; omega
  · rw [mod_small (x := 1) (by decide) (by omega)]
    rcases h with rfl | rfl | rfl
    · simp [bin, hm]
    · simp [bin]
    · rcases Nat.lt_or_ge n 2 with h2 | h2
      · obtain rfl : n = 1 := by omega
        obtain rfl | rfl : a = 0 ∨ a = 1 := by have : (2 : Int) ^ 1 = 2 := rfl; omega
        · decide
        · decide
      · have hs := sg_mod (n := n) a
        simp [bin, sg_one h2, hs, hm]
  · rw [mod_small (by omega) (by omega)]
    have h2 : a.toNat < 2 ^ n := by have := pow_toNat n; omega
    have e : bin 9 n a (2 ^ n - 1) = ((a.toNat &&& ((2 : Int) ^ n - 1).toNat : Nat) : Int) := by unfold bin; rfl
    rw [e, mask_toNat, Nat.and_two_pow_sub_one_eq_mod, Nat.mod_eq_of_lt h2]
    omega
theorem id_eq (k : Nat) (op w : Int) : bits_Identity.f (k + 3) op w = some (if 1 ≤ w ∧ w ≤ 64 then
    (if op = 2 ∨ op = 3 ∨ op = 10 ∨ op = 11 ∨ op = 12 ∨ op = 13 ∨ op = 14 then (0, true) else if op = 4 ∨ op = 5 ∨ op = 7 then (1, true) else if op = 9 then (2 ^ nn w - 1, true) else (0, false)) else (0, false)) := by
  have e0 : bits_Identity.j0 (k + 3) op w true = some (0, false) := by simp [bits_Identity.j0]
  unfold bits_Identity.f
  by_cases h1 : w < 1
  · rw [if_pos h1, e0, if_neg (by omega)]
  rw [if_neg h1]
  by_cases h2 : w > 64
  · rw [decide_eq_true h2, e0, if_neg (by omega)]
  rw [decide_eq_false h2, if_pos (by omega)]
  have m := mask_eq w
  by_cases c : 2 ≤ op ∧ op ≤ 14
  · obtain rfl | rfl | rfl | rfl | rfl | rfl | rfl | rfl | rfl | rfl | rfl | rfl | rfl : op = 2 ∨ op = 3 ∨ op = 4 ∨ op = 5 ∨ op = 6 ∨ op = 7 ∨ op = 8 ∨ op = 9 ∨ op = 10 ∨ op = 11 ∨ op = 12 ∨ op = 13 ∨ op = 14 := by omega
    all_goals simp [bits_Identity.j0, bits_Identity.j1, bits_Identity.j2, m]
  · have d : ∀ i : Int, 2 ≤ i → i ≤ 14 → ¬ op = i := by omega
    simp [bits_Identity.j0, bits_Identity.j1, bits_Identity.j2, d 2, d 3, d 4, d 5, d 7, d 9, d 10, d 11, d 12, d 13, d 14]
theorem end_eq (k : Nat) (op w a e : Int) (ha : 0 ≤ a ∧ a < 18446744073709551616) (hw : 1 ≤ w ∧ w ≤ 64) (ho : 2 ≤ op ∧ op ≤ 14) (hi : bin op (nn w) (a % 2 ^ nn w) (e % 2 ^ nn w) = a % 2 ^ nn w) (he : 0 ≤ e ∧ e < 18446744073709551616) (b : Bool) :
    b = true → jacquardlaw01_BitsIdentity.j0 (k + 5) op w a e true b = some true := by
  rintro rfl
  have hv : 2 ≤ op ∧ op ≤ 20 ∧ 1 ≤ w ∧ w ≤ 64 := ⟨ho.1, by omega, hw.1, hw.2⟩
  have hb := binary_eq k op w a e ha he
  rw [if_pos hv] at hb
  have e1 : jacquardlaw01_BitsIdentity.j1 (k + 4) op w a e true false = some true := by
    simp only [jacquardlaw01_BitsIdentity.j1, hb, fit_eq w ha, hi, Option.bind_some, if_true]
    simp
  simp [jacquardlaw01_BitsIdentity.j0, right_eq, hw, e1]
theorem BitsIdentity : jacquardlaw01_BitsIdentity.Pure := by
  intro op w a _ _ ha
  rw [wf_u64] at ha
  refine ⟨0 + 5, ?_⟩
  generalize 0 = k
  unfold jacquardlaw01_BitsIdentity.f
  rw [show k + 5 = (k + 2) + 3 by omega, awake_eq (k + 2), Option.bind_some, if_pos rfl, id_eq (k + 2) op w, Option.bind_some]
  by_cases hw : 1 ≤ w ∧ w ≤ 64
  · have hn := nn_of (w := w) (by omega) hw.2
    have hp := pow_le (nn_le w)
    have hp1 := pow_pos (nn w)
    obtain ⟨m0, m1⟩ := mod_lt (nn w) a
    simp only [if_pos hw]
    have fin : ∀ e, 2 ≤ op ∧ op ≤ 14 → 0 ≤ e ∧ e < 18446744073709551616 → bin op (nn w) (a % 2 ^ nn w) (e % 2 ^ nn w) = a % 2 ^ nn w → ∀ b, b = true → jacquardlaw01_BitsIdentity.j0 (k + 2 + 3) op w a e true b = some true :=
      fun e ho he hi b hb => end_eq k op w a e ha hw ho hi he b hb
    by_cases c : 2 ≤ op ∧ op ≤ 14
    · by_cases c0 : op = 2 ∨ op = 3 ∨ op = 10 ∨ op = 11 ∨ op = 12 ∨ op = 13 ∨ op = 14
      · have f := fin 0 c (by decide) (ident (by omega) m0 m1 (.inl ⟨rfl, c0⟩))
        rcases c0 with rfl | rfl | rfl | rfl | rfl | rfl | rfl <;> simpa using f true rfl
      · by_cases c1 : op = 4 ∨ op = 5 ∨ op = 7
        · have f := fin 1 c (by decide) (ident (by omega) m0 m1 (.inr (.inl ⟨rfl, c1⟩)))
          rcases c1 with rfl | rfl | rfl <;> simpa using f true rfl
        · by_cases c2 : op = 9
          · have f := fin (2 ^ nn w - 1) c (by omega) (ident (by omega) m0 m1 (.inr (.inr ⟨rfl, c2⟩)))
            subst c2
            simpa using f true rfl
          · obtain rfl | rfl : op = 6 ∨ op = 8 := by omega
            all_goals simp [jacquardlaw01_BitsIdentity.j0, jacquardlaw01_BitsIdentity.j1]
    · have d : ∀ i : Int, 2 ≤ i → i ≤ 14 → ¬ op = i := by omega
      have z : (if op = 2 ∨ op = 3 ∨ op = 10 ∨ op = 11 ∨ op = 12 ∨ op = 13 ∨ op = 14 then ((0 : Int), true) else if op = 4 ∨ op = 5 ∨ op = 7 then (1, true) else if op = 9 then (2 ^ nn w - 1, true) else (0, false)) = (0, false) := by
        rw [if_neg (by omega), if_neg (by omega), if_neg (by omega)]
      rw [z]
      have e0 : jacquardlaw01_BitsIdentity.j0 (k + 2 + 3) op w a 0 false false = some true := by simp [jacquardlaw01_BitsIdentity.j0, jacquardlaw01_BitsIdentity.j1]
      by_cases h2 : op ≥ 2
      · rw [if_pos h2, if_neg (by omega), if_neg (d 5 (by decide) (by decide)), if_neg (d 7 (by decide) (by decide)), if_pos (by omega), decide_eq_false (by omega)]
        exact e0
      · rw [if_neg h2, if_neg (d 5 (by decide) (by decide)), if_neg (d 7 (by decide) (by decide)), if_neg (by omega)]
        exact e0
  · simp only [if_neg hw]
    have e0 : ∀ b, jacquardlaw01_BitsIdentity.j0 (k + 2 + 3) op w a 0 false b = some true := by
      intro b
      cases b <;> simp [jacquardlaw01_BitsIdentity.j0, jacquardlaw01_BitsIdentity.j1, right_eq, hw]
    repeat' split
    all_goals exact e0 _
end Go.Proofs.Ytanmehdcccldfaa.Pure
