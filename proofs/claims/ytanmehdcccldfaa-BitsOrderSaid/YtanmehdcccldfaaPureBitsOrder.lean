import Derived.Test.YtanmehdcccldfaaLw
import Derived.Test.YtanmehdcccldfaaPx24
import Derived.Test.YtanmehdcccldfaaPx0
/- Unsigned and signed comparisons are total orders on words, and agree with equality. -/
namespace Go.Proofs.Ytanmehdcccldfaa.Pure
set_option linter.unusedVariables false
set_option linter.unusedSimpArgs false
set_option linter.unusedSectionVars false
open Go.RowKit Go.Proofs.Ytanmehdcccldfaa.P Go.Proofs.YtanmehdcccldfaaW.PrintWords Wd Im Lw

theorem sg_inj {n : Nat} (hn : 1 ≤ n) {a b : Int} (ha0 : 0 ≤ a) (ha : a < 2 ^ n) (hb0 : 0 ≤ b) (hb : b < 2 ^ n) : sg n a = sg n b ↔ a = b := by
  refine ⟨fun h => ?_, fun h => by rw [h]⟩
  have h1 := sg_mod (n := n) a
  have h2 := sg_mod (n := n) b
  rw [h, h2, mod_small ha0 ha, mod_small hb0 hb] at h1
  exact h1.symm
theorem round_eq (k : Nat) (w x y z : Int) (hx : 0 ≤ x ∧ x < 18446744073709551616) (hy : 0 ≤ y ∧ y < 18446744073709551616) (hz : 0 ≤ z ∧ z < 18446744073709551616) (hw : 1 ≤ w ∧ w ≤ 64)
    (l : List S60) (n i : Int) (lt le : Int) (hi0 : 0 ≤ i) (hi : i < n) (hl : n = (l.length : Int)) (hr : rd_T60 l i = ⟨lt, le⟩) (ho : (lt = 17 ∧ le = 18) ∨ (lt = 19 ∧ le = 20)) :
    jacquardlaw01_BitsOrder.l0 (k + 4) w l n i x y z = jacquardlaw01_BitsOrder.l0 (k + 3) w l n (wrap64 (i + 1)) x y z := by
  have hn := nn_of (w := w) (by omega) hw.2
  have e : ∀ op a b, 2 ≤ op ∧ op ≤ 20 → 0 ≤ a ∧ a < 18446744073709551616 → 0 ≤ b ∧ b < 18446744073709551616 → bits_Binary.f (k + 3) op w a b = some (bin op (nn w) (a % 2 ^ nn w) (b % 2 ^ nn w), 0) := by
    intro op a b ho ha hb
    rw [binary_eq k op w a b ha hb, if_pos ⟨ho.1, ho.2, hw.1, hw.2⟩]
  have ex := mod_lt (nn w) x
  have ey := mod_lt (nn w) y
  have ez := mod_lt (nn w) z
  have sxy := sg_inj (n := nn w) (by omega) ex.1 ex.2 ey.1 ey.2
  rw [jacquardlaw01_BitsOrder.l0, if_pos hi, if_pos hi0, if_pos (by omega), hr]
  simp only []
  rw [e lt x y (by omega) hx hy, Option.bind_some, e lt y x (by omega) hy hx, Option.bind_some, e 15 x y (by decide) hx hy, Option.bind_some, e 16 x y (by decide) hx hy, Option.bind_some, e le x y (by omega) hx hy, Option.bind_some, e lt y z (by omega) hy hz, Option.bind_some, e lt x z (by omega) hx hz, Option.bind_some]
  generalize x % 2 ^ nn w = a at *
  generalize y % 2 ^ nn w = b at *
  generalize z % 2 ^ nn w = c at *
  rcases ho with ⟨rfl, rfl⟩ | ⟨rfl, rfl⟩
  · simp only [bin, wrap_u64]
    simp
    by_cases h1 : a < b
    · simp [h1, show ¬ b < a by omega, show ¬ a = b by omega, show a ≤ b by omega]
      by_cases h2 : b < c
      · simp [h2]; intro; omega
      · simp [h2]
    · by_cases h2 : a = b
      · subst h2; simp
      · simp [h1, h2, show b < a by omega, show ¬ a ≤ b by omega]
  · simp only [bin, wrap_u64]
    simp
    generalize sg (nn w) a = s at *
    generalize sg (nn w) b = t at *
    generalize sg (nn w) c = u at *
    by_cases h1 : s < t
    · simp [h1, show ¬ t < s by omega, show ¬ a = b from fun h => by have := sxy.2 h; omega, show s ≤ t by omega]
      by_cases h2 : t < u
      · simp [h2]; intro; omega
      · simp [h2]
    · by_cases h2 : s = t
      · have h3 := sxy.1 h2
        simp [h2, h3]
      · have h3 : ¬ a = b := fun h => h2 (sxy.2 h)
        simp [h1, h3, show t < s by omega, show ¬ s ≤ t by omega]
theorem BitsOrder : jacquardlaw01_BitsOrder.Pure := by
  intro w x y z _ hx hy hz
  rw [wf_u64] at hx hy hz
  refine ⟨0 + 6, ?_⟩
  generalize 0 = k
  unfold jacquardlaw01_BitsOrder.f
  rw [show k + 6 = (k + 3) + 3 by omega, awake_eq (k + 3), Option.bind_some, if_pos rfl, right_eq, Option.bind_some]
  by_cases hw : 1 ≤ w ∧ w ≤ 64
  · rw [if_pos (decide_eq_true hw), Option.bind_some]
    rw [show k + 3 + 3 = (k + 2) + 4 by omega, round_eq (k + 2) w x y z hx hy hz hw _ _ 0 17 18 (by decide) (by decide) rfl rfl (by decide), show wrap64 (0 + 1) = 1 from wrap64_id (by decide) (by decide)]
    rw [show k + 2 + 3 = (k + 1) + 4 by omega, round_eq (k + 1) w x y z hx hy hz hw _ _ 1 19 20 (by decide) (by decide) rfl rfl (by decide), show wrap64 (1 + 1) = 2 from wrap64_id (by decide) (by decide)]
    rw [jacquardlaw01_BitsOrder.l0, if_neg (by decide)]
  · rw [if_neg (by simpa using hw)]
end Go.Proofs.Ytanmehdcccldfaa.Pure
