import Derived.Test.YtoddafkffchnjaaSg
import Derived.Test.YtoddafkffchnjaaDf
/- Sums, differences and products of small ranges. -/
namespace Go.Proofs.Ytoddafkffchnjaa.Ag
set_option linter.unusedVariables false
set_option linter.unusedSimpArgs false
set_option linter.unusedSectionVars false
open Go.RowKit Go.Proofs.Ytoddafkffchnjaa.P Go.Proofs.YtoddafkffchnjaaW.PrintWords Wd Im Iv Tg Lw0 Ap Cm Cn Ev Rf Aq Ar As At Au Av Aw Sg

section
variable {w : Int} (hw : 18 ≤ w ∧ w ≤ 30)
include hw
theorem nnw : ((nn w : Nat) : Int) = w := nn_of (by omega) (by omega)
theorem pows : (2 : Int) ^ nn w = 2 * 2 ^ (nn w - 1) ∧ 131072 ≤ (2 : Int) ^ (nn w - 1) := by
  have hn := nnw hw
  have h1 := pow_succ' (n := nn w) (by omega)
  have h2 := pow_mono (a := 17) (b := nn w - 1) (by omega)
  have h3 : (2 : Int) ^ 17 = 131072 := by decide
  omega
/-- A small range is tight. -/
theorem tg_small {lo hi : Int} (h0 : 0 ≤ lo) (h1 : lo ≤ hi) (h2 : hi ≤ 2 ^ (nn w - 1) - 1) : tg w (lo, hi, lo, hi) = (lo, hi, lo, hi, true) := by
  obtain ⟨hp, hP⟩ := pows hw
  have hn := nnw hw
  have hV : Valid w lo hi lo hi := ⟨by omega, h1, by omega, by omega, h1, h2⟩
  have f1 := mx_facts lo 0
  have e1 : mx lo 0 = lo := by omega
  have f2 := mx_facts lo lo
  have e2 : mx lo lo = lo := by omega
  have f3 := mn_facts hi hi
  have e3 : mn hi hi = hi := by omega
  unfold tg
  simp only []
  rw [if_pos hV]
  unfold Tg.tight
  rw [if_pos (.inl h2), if_neg (by omega), e1, e2, e3]
  unfold fin
  rw [if_neg (by omega), sg_lo h0 (by omega) (by omega), sg_lo (by omega) (by omega) (by omega)]
theorem fit_small {lo hi : Int} (h0 : 0 ≤ lo) (h1 : lo ≤ hi) (h2 : hi ≤ 2 ^ (nn w - 1) - 1) : fitr w (lo, hi, lo, hi) = (lo, hi, lo, hi) := by
  unfold fitr
  rw [tg_small hw h0 h1 h2]
  rfl
/-- A range of 16 bits. -/
def rg (lo hi : Int) : S30 := ⟨lo, hi, lo, hi⟩
variable {a b c d : Int} (ha : 0 ≤ a) (hab : a ≤ b) (hb : b ≤ 65535) (hc : 0 ≤ c) (hcd : c ≤ d) (hd : d ≤ 65535)
include ha hab hb hc hcd hd
theorem ap_two (op : Int) : ap op w [w, w] [rg a b, rg c d] 0 = e2 op w w ((a == b) && (c == d)) (rg a b) (rg c d) := by
  obtain ⟨hp, hP⟩ := pows hw
  have h1 : tg w (q (rg a b)) = (a, b, a, b, true) := tg_small hw (lo := a) (hi := b) ha hab (by omega)
  have h2 : tg w (q (rg c d)) = (c, d, c, d, true) := tg_small hw (lo := c) (hi := d) hc hcd (by omega)
  unfold ap g2
  simp only []
  rw [h1, h2]
  simp only [if_true, Bool.true_and]
  rfl
theorem add_two : ∃ l m, ap 2 w [w, w] [rg a b, rg c d] 0 = (a + c, b + d, l, m) := by
  obtain ⟨hp, hP⟩ := pows hw
  rw [ap_two hw ha hab hb hc hcd hd]
  unfold e2
  by_cases h : ((a == b) && (c == d)) = true
  · rw [if_pos h]
    simp only [Bool.and_eq_true, beq_iff_eq] at h
    obtain ⟨rfl, rfl⟩ := h
    rw [if_pos (by decide)]
    have e : bin 2 (nn w) (rg a a).f0 (rg c c).f0 = (a + c) % 2 ^ nn w := rfl
    rw [e, mod_small (by omega) (by omega)]
    unfold one
    rw [mod_small (by omega) (by omega)]
    exact ⟨_, _, rfl⟩
  · rw [if_neg h, core_two (by decide)]
    have hU : U 2 (nn w) a b c d = (a + c, b + d) := by unfold U; rw [if_pos rfl, if_pos (by omega)]
    have hS : S 2 (nn w) a b c d c d = (a + c, b + d) := by unfold S; rw [if_pos rfl, if_pos (by unfold inr; omega)]
    show ∃ l m, fitr w ((U 2 (nn w) a b c d).1, (U 2 (nn w) a b c d).2, (S 2 (nn w) a b c d c d).1, (S 2 (nn w) a b c d c d).2) = _
    rw [hU, hS]
    simp only []
    rw [fit_small hw (by omega) (by omega) (by omega)]
    exact ⟨_, _, rfl⟩
theorem sub_two : ∃ lo hi, ap 3 w [w, w] [rg a b, rg c d] 0 = (lo, hi, a - d, b - c) := by
  obtain ⟨hp, hP⟩ := pows hw
  have hn := nnw hw
  have hn1 : 1 ≤ nn w := by omega
  rw [ap_two hw ha hab hb hc hcd hd]
  unfold e2
  by_cases h : ((a == b) && (c == d)) = true
  · rw [if_pos h]
    simp only [Bool.and_eq_true, beq_iff_eq] at h
    obtain ⟨rfl, rfl⟩ := h
    rw [if_pos (by decide)]
    have e : bin 3 (nn w) (rg a a).f0 (rg c c).f0 = (a - c) % 2 ^ nn w := rfl
    rw [e]
    unfold one
    rw [sg_val hn1 (by unfold inr; omega)]
    exact ⟨_, _, rfl⟩
  · rw [if_neg h, core_two (by decide)]
    have hS : S 3 (nn w) a b c d c d = (a - d, b - c) := by unfold S; rw [if_neg (by decide), if_pos rfl, if_pos (by unfold inr; omega)]
    show ∃ lo hi, fitr w ((U 3 (nn w) a b c d).1, (U 3 (nn w) a b c d).2, (S 3 (nn w) a b c d c d).1, (S 3 (nn w) a b c d c d).2) = _
    rw [hS]
    simp only []
    by_cases c1 : d ≤ a
    · have hU : U 3 (nn w) a b c d = (a - d, b - c) := by unfold U; rw [if_neg (by decide), if_pos rfl, if_pos (.inl c1), mod_small (by omega) (by omega), mod_small (by omega) (by omega)]
      rw [hU]
      simp only []
      rw [fit_small hw (by omega) (by omega) (by omega)]
      exact ⟨_, _, rfl⟩
    · by_cases c2 : b < c
      · have m1 : (a - d) % 2 ^ nn w = a - d + 2 ^ nn w := mod_plus (by omega) (by omega)
        have m2 : (b - c) % 2 ^ nn w = b - c + 2 ^ nn w := mod_plus (by omega) (by omega)
        have hU : U 3 (nn w) a b c d = (a - d + 2 ^ nn w, b - c + 2 ^ nn w) := by unfold U; rw [if_neg (by decide), if_pos rfl, if_pos (.inr c2), m1, m2]
        rw [hU]
        simp only []
        have hV : Valid w (a - d + 2 ^ nn w) (b - c + 2 ^ nn w) (a - d) (b - c) := ⟨by omega, by omega, by omega, by omega, by omega, by omega⟩
        have f1 := mx_facts (a - d + 2 ^ nn w) (a - d + 2 ^ nn w)
        have e1 : mx (a - d + 2 ^ nn w) (a - d + 2 ^ nn w) = a - d + 2 ^ nn w := by omega
        have f2 := mx_facts (a - d + 2 ^ nn w) (2 ^ (nn w - 1))
        have e2 : mx (a - d + 2 ^ nn w) (2 ^ (nn w - 1)) = a - d + 2 ^ nn w := by omega
        have f3 := mn_facts (b - c + 2 ^ nn w) (b - c + 2 ^ nn w)
        have e3 : mn (b - c + 2 ^ nn w) (b - c + 2 ^ nn w) = b - c + 2 ^ nn w := by omega
        have ht : tg w (a - d + 2 ^ nn w, b - c + 2 ^ nn w, a - d, b - c) = (a - d + 2 ^ nn w, b - c + 2 ^ nn w, a - d, b - c, true) := by
          unfold tg
          simp only []
          rw [if_pos hV]
          unfold Tg.tight
          rw [if_neg (by omega), if_pos (.inr (by omega)), if_pos (show b - c < 0 by omega), m1, m2, e1, e2, e3]
          unfold fin
          rw [if_neg (by omega), sg_hi (by omega) (by omega) hn1, sg_hi (by omega) (by omega) hn1]
          simp only [Int.add_sub_cancel]
        unfold fitr
        rw [ht]
        exact ⟨_, _, rfl⟩
      · have hU : U 3 (nn w) a b c d = (0, 2 ^ nn w - 1) := by unfold U; rw [if_neg (by decide), if_pos rfl, if_neg (by omega)]
        rw [hU]
        simp only []
        have hV : Valid w 0 (2 ^ nn w - 1) (a - d) (b - c) := ⟨by omega, by omega, by omega, by omega, by omega, by omega⟩
        have ht : tg w (0, 2 ^ nn w - 1, a - d, b - c) = (0, 2 ^ nn w - 1, a - d, b - c, true) := by
          unfold tg
          simp only []
          rw [if_pos hV]
          unfold Tg.tight
          rw [if_neg (by omega), if_neg (by omega)]
        unfold fitr
        rw [ht]
        exact ⟨_, _, rfl⟩
theorem mul_two (hr : b * d ≤ 2 ^ nn w - 1) : ∃ l m, ap 4 w [w, w] [rg a b, rg c d] 0 = (a * c, b * d, l, m) := by
  obtain ⟨hp, hP⟩ := pows hw
  have hn := nnw hw
  have hn1 : 1 ≤ nn w := by omega
  have p0 : 0 ≤ a * c := Int.mul_nonneg ha hc
  have p1 : a * c ≤ a * d := Int.mul_le_mul_of_nonneg_left hcd ha
  have p2 : a * c ≤ b * c := Int.mul_le_mul_of_nonneg_right hab hc
  have p3 : a * d ≤ b * d := Int.mul_le_mul_of_nonneg_right hab (by omega)
  have p4 : b * c ≤ b * d := Int.mul_le_mul_of_nonneg_left hcd (by omega)
  rw [ap_two hw ha hab hb hc hcd hd]
  unfold e2
  by_cases h : ((a == b) && (c == d)) = true
  · rw [if_pos h]
    simp only [Bool.and_eq_true, beq_iff_eq] at h
    obtain ⟨rfl, rfl⟩ := h
    rw [if_pos (by decide)]
    have e : bin 4 (nn w) (rg a a).f0 (rg c c).f0 = (a * c) % 2 ^ nn w := rfl
    rw [e, mod_small (by omega) (by omega)]
    unfold one
    rw [mod_small (by omega) (by omega)]
    exact ⟨_, _, rfl⟩
  · rw [if_neg h, core_two (by decide)]
    have hU : U 4 (nn w) a b c d = (a * c, b * d) := by unfold U; rw [if_neg (by decide), if_neg (by decide), if_pos rfl, if_pos hr]
    show ∃ l m, fitr w ((U 4 (nn w) a b c d).1, (U 4 (nn w) a b c d).2, (S 4 (nn w) a b c d c d).1, (S 4 (nn w) a b c d c d).2) = _
    rw [hU]
    simp only []
    generalize hpp : a * c = p at *
    generalize hqq : a * d = q1 at *
    generalize hrr : b * c = q2 at *
    generalize hss : b * d = r at *
    by_cases c1 : r ≤ 2 ^ (nn w - 1) - 1
    · have hS : S 4 (nn w) a b c d c d = (p, r) := by
        unfold S
        rw [if_neg (by decide), if_neg (by decide), if_pos rfl, hpp, hqq, hrr, hss, if_pos (by unfold inr; omega)]
        have g1 := mn_facts p q1
        have g2 := mn_facts (mn p q1) q2
        have g3 := mn_facts (mn (mn p q1) q2) r
        have k1 := mx_facts p q1
        have k2 := mx_facts (mx p q1) q2
        have k3 := mx_facts (mx (mx p q1) q2) r
        unfold mn4 mx4
        congr 1 <;> omega
      rw [hS]
      simp only []
      rw [fit_small hw p0 (by omega) c1]
      exact ⟨_, _, rfl⟩
    · have hS : S 4 (nn w) a b c d c d = (-2 ^ (nn w - 1), 2 ^ (nn w - 1) - 1) := by
        unfold S
        rw [if_neg (by decide), if_neg (by decide), if_pos rfl, hpp, hqq, hrr, hss, if_neg (by unfold inr; omega)]
      rw [hS]
      simp only []
      have hV : Valid w p r (-2 ^ (nn w - 1)) (2 ^ (nn w - 1) - 1) := ⟨by omega, by omega, by omega, by omega, by omega, by omega⟩
      have m1 : (-2 ^ (nn w - 1) : Int) % 2 ^ nn w = 2 ^ (nn w - 1) := by rw [mod_plus (by omega) (by omega)]; omega
      have ht : ∃ l m, tg w (p, r, -2 ^ (nn w - 1), 2 ^ (nn w - 1) - 1) = (p, r, l, m, true) := by
        unfold tg
        simp only []
        rw [if_pos hV]
        unfold Tg.tight
        rw [if_neg (by omega)]
        by_cases c2 : 2 ^ (nn w - 1) - 1 < p
        · rw [if_pos (.inl c2), if_neg (show ¬ (2 : Int) ^ (nn w - 1) - 1 < 0 by omega), m1]
          have f1 := mx_facts p (2 ^ (nn w - 1))
          have e1 : mx p (2 ^ (nn w - 1)) = p := by omega
          rw [e1, e1]
          unfold fin
          rw [if_neg (by omega)]
          exact ⟨_, _, rfl⟩
        · rw [if_neg (by omega)]
          exact ⟨_, _, rfl⟩
      obtain ⟨l, m, ht⟩ := ht
      unfold fitr
      rw [ht]
      exact ⟨_, _, rfl⟩
theorem apply_two {op : Int} (ho : 2 ≤ op ∧ op ≤ 14) : interval_Apply.f 200 op w [w, w] [rg a b, rg c d] 0 = some (ap op w [w, w] [rg a b, rg c d] 0) := by
  have hs : shb op w [w, w] = true := by
    have e : okw w = true := by unfold okw; simp; omega
    unfold shb shc
    rw [if_neg (by omega), if_neg (by omega), if_neg (by omega), if_neg (by omega), if_neg (by omega), if_pos ho]
    simp only [e, List.all_cons, List.all_nil, Bool.true_and, Bool.and_true, decide_eq_true_eq]
    exact ⟨rfl, rfl, rfl⟩
  have hwf : ∀ s ∈ [rg a b, rg c d], Wf s := by
    intro s h
    simp at h
    rcases h with rfl | rfl
    · exact ⟨⟨ha, by show a < _; omega⟩, ⟨by show _ ≤ a; omega, by show a < _; omega⟩, ⟨by show _ ≤ b; omega, by show b < _; omega⟩⟩
    · exact ⟨⟨hc, by show c < _; omega⟩, ⟨by show _ ≤ c; omega, by show c < _; omega⟩, ⟨by show _ ≤ d; omega, by show d < _; omega⟩⟩
  unfold interval_Apply.f
  rw [shaped_eq op w [w, w] (by simp) (by decide), Option.bind_some, if_pos hs]
  have hb' : ((([rg a b, rg c d] : List S30).length : Int) != (([w, w] : List Int).length : Int)) = false := rfl
  rw [hb', ap_i (sh_of hs) rfl hwf (by omega) (k := 195) (by decide)]
end
end Go.Proofs.Ytoddafkffchnjaa.Ag
