import Derived.Test.YtoddafkffchnjaaAv
import Derived.Test.YtoddafkffchnjaaDf
/- The result of Apply holds the value of the operator. -/
namespace Go.Proofs.Ytoddafkffchnjaa.Aw
set_option linter.unusedVariables false
set_option linter.unusedSimpArgs false
set_option linter.unusedSectionVars false
open Go.RowKit Go.Proofs.Ytoddafkffchnjaa.P Go.Proofs.YtoddafkffchnjaaW.PrintWords Wd Im Iv Tg Lw0 Ap Cm Cn Ev Rf Aq Ar As At Au Av

/-- A word that a range of a width contains. -/
def Hd (v : Int) (a : S30) (x : Int) : Prop := (0 ≤ x ∧ x < 2 ^ nn v) ∧ InR (nn v) (q a) x
/-- The words that belong to the ranges. -/
def Hds : List Int → List S30 → List Int → Prop
  | [], [], [] => True
  | v :: ws, a :: args, x :: xs => Hd v a x ∧ Hds ws args xs
  | _, _, _ => False
theorem in_one {n : Nat} (hn : 1 ≤ n) {x : Int} (h : 0 ≤ x ∧ x < 2 ^ n) : InR n (one n x) x := by
  unfold InR In one
  rw [mod_small h.1 h.2]
  exact ⟨Int.le_refl _, Int.le_refl _, Int.le_refl _, Int.le_refl _⟩
theorem bd_one {n : Nat} (hn : 1 ≤ n) (x : Int) : BdR n (one n x) := by
  have hm := mod_lt n x
  have hs := sg_inr hn x
  unfold BdR one
  exact ⟨⟨Int.le_refl _, by simp only []; omega, hs.1, Int.le_refl _, hs.2⟩, hm.1⟩
theorem tight_has {v : Int} {a : S30} {x : Int} (hv : 1 ≤ v ∧ v ≤ 64) (hwf : Wf a) (h : Hd v a x) (hok : (tg v (q a)).2.2.2.2 = true) : Ti v (ts (tg v (q a))) ∧ Hd v (ts (tg v (q a))) x := by
  obtain ⟨hx, hin⟩ := h
  have := tg_sound hv (r := q a) hwf.1.1 hx.1 hx.2 hin hok
  exact ⟨⟨hv, this.1⟩, hx, this.2⟩
theorem single_is {v : Int} {a : S30} {x : Int} (h : Hd v (ts (tg v (q a))) x) (e : ((tg v (q a)).1 == (tg v (q a)).2.1) = true) : x = (ts (tg v (q a))).f0 := by
  obtain ⟨_, h1, h2, _⟩ := h
  have e' := beq_iff_eq.1 e
  have h1 : (tg v (q a)).1 ≤ x := h1
  have h2 : x ≤ (tg v (q a)).2.1 := h2
  show x = (tg v (q a)).1
  omega
theorem hds0 {args : List S30} {xs : List Int} (h : Hds [] args xs) : args = [] ∧ xs = [] := by
  cases args <;> cases xs <;> first | exact ⟨rfl, rfl⟩ | exact h.elim
theorem hdsS {v : Int} {ws : List Int} {args : List S30} {xs : List Int} (h : Hds (v :: ws) args xs) : ∃ a l x ys, args = a :: l ∧ xs = x :: ys ∧ Hd v a x ∧ Hds ws l ys := by
  cases args with
  | nil => cases xs <;> exact h.elim
  | cons a l =>
    cases xs with
    | nil => exact h.elim
    | cons x ys => exact ⟨a, l, x, ys, rfl, rfl, h.1, h.2⟩
section
variable {op w num : Int} {ws : List Int} {args : List S30} {xs : List Int} (hs : Sh op w ws) (hwf : ∀ a ∈ args, Wf a) (hnum : 0 ≤ num ∧ num < 18446744073709551616) (hh : Hds ws args xs)
include hs hwf hnum hh
theorem sound_ap {k : Nat} (hk : 66 < k) : ∃ e, jacquardref12_Eval.f k op w ws xs num = some e ∧ (0 ≤ e ∧ e < 2 ^ nn w) ∧ BdR (nn w) (ap op w ws args num) ∧ InR (nn w) (ap op w ws args num) e := by
  obtain ⟨hw, hws, hs⟩ := hs
  have hn := nn_of (w := w) (by omega) hw.2
  have hn1 : 1 ≤ nn w := by omega
  have h64 := nn_le w
  have hwn : w = (nn w : Int) := hn.symm
  have bt := bd_top hn1
  have top_in := fun (e : Int) (h : 0 ≤ e ∧ e < 2 ^ nn w) => in_top hn1 h.1 h.2
  have one_in := fun (e : Int) (h : 0 ≤ e ∧ e < 2 ^ nn w) => And.intro (bd_one hn1 e) (in_one hn1 h)
  rcases hs with ⟨rfl, rfl⟩ | ⟨ho, rfl⟩ | ⟨ho, rfl, v, rfl⟩ | ⟨rfl, rfl⟩ | ⟨ho, v, rfl, hle⟩ | ⟨ho, v, rfl, hle⟩
  · obtain ⟨rfl, rfl⟩ := hds0 hh
    · have hm := mod_lt (nn w) num
      refine ⟨_, eval_const hwn h64 [] [] hnum hk, hm, bd_one hn1 num, ?_⟩
      have h := in_one hn1 hm
      have e : one (nn w) (num % 2 ^ nn w) = one (nn w) num := by unfold one; rw [sg_fit, Int.emod_emod_of_dvd _ (Int.dvd_refl _)]
      rw [e] at h; exact h
  · obtain ⟨a, _, x, _, rfl, rfl, hx, hh⟩ := hdsS hh
    obtain ⟨b, _, y, _, rfl, rfl, hy, hh⟩ := hdsS hh
    obtain ⟨rfl, rfl⟩ := hds0 hh
    · have he := eval_bin hwn hn1 h64 ho [w, w] hx.1 hy.1 num hk
      have hr := bin_range (op := op) hn1 hx.1.1 hx.1.2 hy.1.1 hy.1.2
      refine ⟨_, he, hr, ?_⟩
      show BdR _ (g2 (top (nn w)) (e2 op w w) w w a b) ∧ InR _ (g2 (top (nn w)) (e2 op w w) w w a b) _
      unfold g2
      by_cases c1 : (tg w (q a)).2.2.2.2 = true
      · rw [if_pos c1]
        by_cases c2 : (tg w (q b)).2.2.2.2 = true
        · rw [if_pos c2]
          obtain ⟨ta, ha⟩ := tight_has hw (hwf a (by simp)) hx c1
          obtain ⟨tb, hb⟩ := tight_has hw (hwf b (by simp)) hy c2
          unfold e2
          by_cases s : (true && ((tg w (q a)).1 == (tg w (q a)).2.1) && ((tg w (q b)).1 == (tg w (q b)).2.1)) = true
          · rw [if_pos s, if_pos ho.2]
            simp only [Bool.true_and, Bool.and_eq_true] at s
            rw [← single_is ha s.1, ← single_is hb s.2]
            exact one_in _ hr
          · rw [if_neg s]
            have hsu := su hn1 h64 (alo := (ts (tg w (q a))).f0) (ahi := (ts (tg w (q a))).f1) (al := (ts (tg w (q a))).f2) (am := (ts (tg w (q a))).f3) (blo := (ts (tg w (q b))).f0) (bhi := (ts (tg w (q b))).f1) (bl := (ts (tg w (q b))).f2) (bm := (ts (tg w (q b))).f3) ta.2.2 tb.2.2 ta.2.1 tb.2.1 ho
            have hc := sound_core (op := op) (n := nn w) (m := nn w) (a := q (ts (tg w (q a)))) (b := q (ts (tg w (q b)))) (c := q (ts (tg w (q b)))) (x := x) (y := y) (z := y) (num := num) hn1 hn1 (.inl ⟨ho, rfl, ha.2, hb.2, ta.2, tb.2⟩)
            have ee : ev op (nn w) (nn w) x y y num = bin op (nn w) x y := by unfold ev; rw [if_neg (by omega), if_pos ho.2]
            rw [ee] at hc
            exact fitr_sound hw (by rw [core_two ho]; exact hsu.1) hr.1 hr.2 hc
        · rw [if_neg c2]; exact ⟨bt, top_in _ hr⟩
      · rw [if_neg c1]; exact ⟨bt, top_in _ hr⟩
  · obtain ⟨a, _, x, _, rfl, rfl, hx, hh⟩ := hdsS hh
    obtain ⟨b, _, y, _, rfl, rfl, hy, hh⟩ := hdsS hh
    obtain ⟨rfl, rfl⟩ := hds0 hh
    · have hv : 1 ≤ v ∧ v ≤ 64 := hws v (by simp)
      have hnv := nn_of (w := v) (by omega) hv.2
      have he := eval_cmp ho 1 hnv.symm (by omega) (nn_le v) hx.1 hy.1 num hk
      have e11 : nn 1 = 1 := by decide
      have hr : 0 ≤ bin op (nn v) x y ∧ bin op (nn v) x y < 2 ^ nn 1 := by
        rw [e11]
        obtain rfl | rfl | rfl | rfl | rfl | rfl : op = 15 ∨ op = 16 ∨ op = 17 ∨ op = 18 ∨ op = 19 ∨ op = 20 := by omega
        all_goals (simp only [bin]; simp; split <;> decide)
      refine ⟨_, he, hr, ?_⟩
      show BdR _ (g2 (top (nn 1)) (e2 op 1 v) v v a b) ∧ InR _ (g2 (top (nn 1)) (e2 op 1 v) v v a b) _
      unfold g2
      by_cases c1 : (tg v (q a)).2.2.2.2 = true
      · rw [if_pos c1]
        by_cases c2 : (tg v (q b)).2.2.2.2 = true
        · rw [if_pos c2]
          obtain ⟨ta, ha⟩ := tight_has hv (hwf a (by simp)) hx c1
          obtain ⟨tb, hb⟩ := tight_has hv (hwf b (by simp)) hy c2
          unfold e2
          by_cases s : (true && ((tg v (q a)).1 == (tg v (q a)).2.1) && ((tg v (q b)).1 == (tg v (q b)).2.1)) = true
          · rw [if_pos s, if_neg (by omega)]
            simp only [Bool.true_and, Bool.and_eq_true] at s
            rw [← single_is ha s.1, ← single_is hb s.2]
            exact one_in _ hr
          · rw [if_neg s]
            have hc := sound_core (op := op) (n := 1) (m := nn v) (a := q (ts (tg v (q a)))) (b := q (ts (tg v (q b)))) (c := q (ts (tg v (q b)))) (x := x) (y := y) (z := y) (num := num) (by decide) (by omega) (.inr (.inl ⟨ho, rfl, ha.2, hb.2⟩))
            have ee : ev op 1 (nn v) x y y num = bin op (nn v) x y := by unfold ev; rw [if_neg (by omega), if_neg (by omega), if_pos ho.2]
            rw [ee] at hc
            exact fitr_sound hw (by rw [core_cmp ho]; exact (cmp_range ho _ _ _ _ _ _ _ _).1) hr.1 hr.2 hc
        · rw [if_neg c2]; exact ⟨bt, top_in _ hr⟩
      · rw [if_neg c1]; exact ⟨bt, top_in _ hr⟩
  · obtain ⟨a, _, x, _, rfl, rfl, hx, hh⟩ := hdsS hh
    obtain ⟨b, _, y, _, rfl, rfl, hy, hh⟩ := hdsS hh
    obtain ⟨d, _, z, _, rfl, rfl, hz, hh⟩ := hdsS hh
    obtain ⟨rfl, rfl⟩ := hds0 hh
    · have he := eval_select w [1, w, w] x y z num (k := k) (by omega)
      have hr : 0 ≤ (if x = 1 then y else z) ∧ (if x = 1 then y else z) < 2 ^ nn w := by
        have := hy.1
        have := hz.1
        split <;> omega
      refine ⟨_, he, hr, ?_⟩
      show BdR _ (g3 (top (nn w)) (e3 21 w 1) 1 w w a b d) ∧ InR _ (g3 (top (nn w)) (e3 21 w 1) 1 w w a b d) _
      unfold g3
      by_cases c1 : (tg 1 (q a)).2.2.2.2 = true
      · rw [if_pos c1]
        by_cases c2 : (tg w (q b)).2.2.2.2 = true
        · rw [if_pos c2]
          by_cases c3 : (tg w (q d)).2.2.2.2 = true
          · rw [if_pos c3]
            obtain ⟨ta, ha⟩ := tight_has (v := 1) (by decide) (hwf a (by simp)) hx c1
            obtain ⟨tb, hb⟩ := tight_has hw (hwf b (by simp)) hy c2
            obtain ⟨td, hd⟩ := tight_has hw (hwf d (by simp)) hz c3
            unfold e3
            by_cases s : (true && ((tg 1 (q a)).1 == (tg 1 (q a)).2.1) && ((tg w (q b)).1 == (tg w (q b)).2.1) && ((tg w (q d)).1 == (tg w (q d)).2.1)) = true
            · rw [if_pos s]
              simp only [Bool.true_and, Bool.and_eq_true] at s
              rw [← single_is ha s.1.1, ← single_is hb s.1.2, ← single_is hd s.2]
              exact one_in _ hr
            · rw [if_neg s]
              have e11 : nn 1 = 1 := by decide
              have ha2 := ha.2
              rw [e11] at ha2 ⊢
              have hc := sound_core (op := 21) (n := nn w) (m := 1) (a := q (ts (tg 1 (q a)))) (b := q (ts (tg w (q b)))) (c := q (ts (tg w (q d)))) (x := x) (y := y) (z := z) (num := num) hn1 (by decide) (.inr (.inr (.inl ⟨rfl, rfl, ha2, hb.2, hd.2⟩)))
              have ee : ev 21 (nn w) 1 x y z num = if x = 1 then y else z := by simp [ev]
              rw [ee] at hc
              refine fitr_sound hw ?_ hr.1 hr.2 hc
              have zb := tb.2.2
              have zd := td.2.2
              have f1 := mn_facts (q (ts (tg w (q b)))).1 (q (ts (tg w (q d)))).1
              rw [core_sel]
              split
              · split
                · exact zb
                · exact zd
              · show 0 ≤ mn _ _; omega
          · rw [if_neg c3]; exact ⟨bt, top_in _ hr⟩
        · rw [if_neg c2]; exact ⟨bt, top_in _ hr⟩
      · rw [if_neg c1]; exact ⟨bt, top_in _ hr⟩
  all_goals
    obtain ⟨a, _, x, _, rfl, rfl, hx, hh⟩ := hdsS hh
    obtain ⟨rfl, rfl⟩ := hds0 hh
    · have hv : 1 ≤ v ∧ v ≤ 64 := hws v (by simp)
      have hnv := nn_of (w := v) (by omega) hv.2
      have ho' : (op = 22 ∧ nn v ≤ nn w) ∨ (op = 23 ∧ nn v ≤ nn w) ∨ (op = 24 ∧ nn w ≤ nn v) := by omega
      have he := eval_cast (op := op) (by omega) hwn hn1 h64 hnv.symm (by omega) (nn_le v) hx.1 num hk
      have hr : 0 ≤ castv op (nn w) (nn v) x ∧ castv op (nn w) (nn v) x < 2 ^ nn w := by
        unfold castv; split
        · exact mod_lt _ _
        · exact mod_lt _ _
      refine ⟨_, he, hr, ?_⟩
      show BdR _ (g1 (top (nn w)) (e1 op w v) v a) ∧ InR _ (g1 (top (nn w)) (e1 op w v) v a) _
      unfold g1
      by_cases c1 : (tg v (q a)).2.2.2.2 = true
      · rw [if_pos c1]
        obtain ⟨ta, ha⟩ := tight_has hv (hwf a (by simp)) hx c1
        unfold e1
        by_cases s : (true && ((tg v (q a)).1 == (tg v (q a)).2.1)) = true
        · rw [if_pos s]
          simp only [Bool.true_and] at s
          rw [← single_is ha s]
          exact one_in _ hr
        · rw [if_neg s]
          have hc := sound_core (op := op) (n := nn w) (m := nn v) (a := q (ts (tg v (q a)))) (b := q (ts (tg v (q a)))) (c := q (ts (tg v (q a)))) (x := x) (y := x) (z := x) (num := num) hn1 (by omega) (.inr (.inr (.inr ⟨by omega, ho', ha.2, ta.2⟩)))
          have ee : ev op (nn w) (nn v) x x x num = castv op (nn w) (nn v) x := by unfold ev; rw [if_neg (by omega), if_neg (by omega), if_neg (by omega), if_neg (by omega)]
          rw [ee] at hc
          refine fitr_sound hw ?_ hr.1 hr.2 hc
          rw [core_cast (by omega)]
          rcases cast_range (op := op) hw ta with h | h
          · exact h.1
          · omega
      · rw [if_neg c1]; exact ⟨bt, top_in _ hr⟩
end
end Go.Proofs.Ytoddafkffchnjaa.Aw
