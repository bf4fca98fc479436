import Derived.Test.YtoddafkffchnjaaAg
import Derived.Test.YtoddafkffchnjaaDx
import Derived.Test.YtoddafkffchnjaaPureIntervalApply
/- IntervalAgrees in plain Lean. -/
namespace Go.Proofs.Ytoddafkffchnjaa.Pure
set_option linter.unusedVariables false
set_option linter.unusedSimpArgs false
set_option linter.unusedSectionVars false
open Go.RowKit Go.Proofs.Ytoddafkffchnjaa.P Go.Proofs.YtoddafkffchnjaaW.PrintWords Wd Im Iv Tg Lw0 Ap Cm Cn Ev Rf Aq Ar As At Au Av Aw Sg Ag
theorem wf_u16 (x : Int) : (Lit.int .u16 x).wf = true → 0 ≤ x ∧ x ≤ 65535 := by
  intro h
  simp [Lit.wf, IntKind.min, IntKind.max, IntKind.bits, IntKind.signed] at h
  omega
theorem wu {x : Int} (h : 0 ≤ x ∧ x ≤ 4294967295) : IntKind.u64.wrap x = x := by rw [wrap_u64]; omega
theorem ws {x : Int} (h : -4294967295 ≤ x ∧ x ≤ 4294967295) : wrap64 x = x := by unfold wrap64; omega
theorem IntervalAgrees : jacquardlaw13_IntervalAgrees.Pure := by
  intro a0 a1 b0 b1 w h1 h2 h3 h4 h5
  have h1 := wf_u16 _ h1
  have h2 := wf_u16 _ h2
  have h3 := wf_u16 _ h3
  have h4 := wf_u16 _ h4
  refine ⟨200, ?_⟩
  unfold jacquardlaw13_IntervalAgrees.f
  rw [awake_eq, Option.bind_some, if_pos rfl]
  by_cases c1 : w < 18
  · rw [if_pos c1]
  · rw [if_neg c1]
    by_cases c2 : w > 30
    · rw [if_pos c2]
    · rw [if_neg c2]
      have hw : 18 ≤ w ∧ w ≤ 30 := by omega
      have f1 := mn_facts a0 a1
      have f2 := mx_facts a0 a1
      have f3 := mn_facts b0 b1
      have f4 := mx_facts b0 b1
      have ha : 0 ≤ mn a0 a1 ∧ mn a0 a1 ≤ mx a0 a1 ∧ mx a0 a1 ≤ 65535 := by omega
      have hc : 0 ≤ mn b0 b1 ∧ mn b0 b1 ≤ mx b0 b1 ∧ mx b0 b1 ≤ 65535 := by omega
      clear f1 f2 f3 f4 h1 h2 h3 h4 h5
      generalize mn a0 a1 = a at *
      generalize mx a0 a1 = b at *
      generalize mn b0 b1 = c at *
      generalize mx b0 b1 = d at *
      obtain ⟨ha, hab, hb⟩ := ha
      obtain ⟨hc, hcd, hd⟩ := hc
      have p1 : 0 ≤ a * c ∧ a * c ≤ b * d ∧ b * d ≤ 4294967295 := by
        have q1 : 0 ≤ a * c := Int.mul_nonneg ha hc
        have q2 : a * c ≤ b * c := Int.mul_le_mul_of_nonneg_right hab hc
        have q3 : b * c ≤ b * d := Int.mul_le_mul_of_nonneg_left hcd (by omega)
        have q4 : b * d ≤ 65535 * d := Int.mul_le_mul_of_nonneg_right hb (by omega)
        omega
      simp only [wu (show 0 ≤ a ∧ a ≤ 4294967295 by omega), wu (show 0 ≤ b ∧ b ≤ 4294967295 by omega), wu (show 0 ≤ c ∧ c ≤ 4294967295 by omega), wu (show 0 ≤ d ∧ d ≤ 4294967295 by omega),
        ws (show -4294967295 ≤ a ∧ a ≤ 4294967295 by omega), ws (show -4294967295 ≤ b ∧ b ≤ 4294967295 by omega), ws (show -4294967295 ≤ c ∧ c ≤ 4294967295 by omega), ws (show -4294967295 ≤ d ∧ d ≤ 4294967295 by omega),
        wu (show 0 ≤ a + c ∧ a + c ≤ 4294967295 by omega), wu (show 0 ≤ b + d ∧ b + d ≤ 4294967295 by omega), ws (show -4294967295 ≤ a - d ∧ a - d ≤ 4294967295 by omega), ws (show -4294967295 ≤ b - c ∧ b - c ≤ 4294967295 by omega),
        wu (show 0 ≤ a * c ∧ a * c ≤ 4294967295 by omega), wu (show 0 ≤ b * d ∧ b * d ≤ 4294967295 by omega)]
      have e1 := apply_two hw ha hab hb hc hcd hd (op := 2) (by decide)
      have e2 := apply_two hw ha hab hb hc hcd hd (op := 3) (by decide)
      have e3 := apply_two hw ha hab hb hc hcd hd (op := 4) (by decide)
      obtain ⟨l1, m1, g1⟩ := add_two hw ha hab hb hc hcd hd
      obtain ⟨l2, m2, g2⟩ := sub_two hw ha hab hb hc hcd hd
      rw [g1] at e1
      rw [g2] at e2
      unfold rg at e1 e2
      rw [e1, e2]
      simp only [Option.bind_some]
      rw [if_pos trivial, if_pos trivial, if_pos trivial, if_pos trivial, rmask_eq (by omega) (by decide)]
      by_cases c3 : b * d ≤ 2 ^ nn w - 1
      · obtain ⟨l3, m3, g3⟩ := mul_two hw ha hab hb hc hcd hd c3
        rw [g3] at e3
        unfold rg at e3
        rw [e3]
        simp only [Option.bind_some]
        rw [if_neg (by omega), if_pos trivial]
        simp
      · unfold rg at e3
        rw [e3]
        simp only [Option.bind_some]
        rw [if_pos (by omega)]
end Go.Proofs.Ytoddafkffchnjaa.Pure
