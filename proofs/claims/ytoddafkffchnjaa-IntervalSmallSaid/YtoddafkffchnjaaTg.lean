import Derived.Test.YtoddafkffchnjaaIv
import Derived.Test.YtoddafkffchnjaaDf
/- Tighten: what it comes to, and its laws. -/
namespace Go.Proofs.Ytoddafkffchnjaa.Tg
set_option linter.unusedVariables false
set_option linter.unusedSimpArgs false
set_option linter.unusedSectionVars false
open Go.RowKit Go.Proofs.Ytoddafkffchnjaa.P Go.Proofs.YtoddafkffchnjaaW.PrintWords Wd Im Iv

theorem mx_facts (a b : Int) : (mx a b = a ∧ b ≤ a) ∨ (mx a b = b ∧ a ≤ b) := by unfold mx; split <;> omega
theorem mn_facts (a b : Int) : (mn a b = a ∧ a ≤ b) ∨ (mn a b = b ∧ b ≤ a) := by unfold mn; split <;> omega
theorem sg_lo {n : Nat} {y : Int} (h0 : 0 ≤ y) (h : y < 2 ^ (n - 1)) (hn : 1 ≤ n) : sg n y = y := by
  have := pow_succ' hn
  unfold sg; rw [mod_small h0 (by omega), if_pos h]
theorem sg_hi {n : Nat} {y : Int} (h0 : 2 ^ (n - 1) ≤ y) (h : y < 2 ^ n) (hn : 1 ≤ n) : sg n y = y - 2 ^ n := by
  have := pow_succ' hn
  have := pow_pos (n - 1)
  unfold sg; rw [mod_small (by omega) h, if_neg (by omega)]
theorem mod_neg {n : Nat} {y : Int} (h0 : -2 ^ (n - 1) ≤ y) (h : y < 0) (hn : 1 ≤ n) : y % 2 ^ n = y + 2 ^ n := by
  have := pow_succ' hn
  have := pow_pos (n - 1)
  rw [← Int.add_emod_right]; exact mod_small (by omega) (by omega)
def fin (n : Nat) (a b : Int) : Int × Int × Int × Int × Bool := if a > b then (0, 0, 0, 0, false) else (a, b, sg n a, sg n b, true)
def tight (n : Nat) (lo hi l m : Int) : Int × Int × Int × Int × Bool :=
  if hi ≤ 2 ^ (n - 1) - 1 ∨ 0 ≤ l then (if m < 0 then (0, 0, 0, 0, false) else fin n (mx lo (mx l 0)) (mn hi m))
  else if 2 ^ (n - 1) - 1 < lo ∨ m < 0 then fin n (mx (mx lo (l % 2 ^ n)) (2 ^ (n - 1))) (if m < 0 then mn hi (m % 2 ^ n) else hi)
  else (lo, hi, l, m, true)

/-- Bounds of a valid range, in plain numbers. -/
structure Bd (n : Nat) (lo hi l m : Int) : Prop where
  h1 : lo ≤ hi
  h2 : hi ≤ 2 ^ n - 1
  h3 : -2 ^ (n - 1) ≤ l
  h4 : l ≤ m
  h5 : m ≤ 2 ^ (n - 1) - 1
theorem Bd.of {w lo hi l m : Int} (h : Valid w lo hi l m) : Bd (nn w) lo hi l m := ⟨h.2.1, h.2.2.1, h.2.2.2.1, h.2.2.2.2.1, h.2.2.2.2.2⟩
/-- A range contains a word below 2^n. -/
def In (n : Nat) (lo hi l m x : Int) : Prop := lo ≤ x ∧ x ≤ hi ∧ l ≤ sg n x ∧ sg n x ≤ m
theorem sg_cases {n : Nat} (hn : 1 ≤ n) {x : Int} (h0 : 0 ≤ x) (h : x < 2 ^ n) : (x < 2 ^ (n - 1) ∧ sg n x = x) ∨ (2 ^ (n - 1) ≤ x ∧ sg n x = x - 2 ^ n) := by
  rcases Int.lt_or_le x (2 ^ (n - 1)) with c | c
  · exact .inl ⟨c, sg_lo h0 c hn⟩
  · exact .inr ⟨c, sg_hi c h hn⟩
section
variable {n : Nat} (hn : 1 ≤ n) {lo hi l m : Int} (hlo : 0 ≤ lo) (hv : Bd n lo hi l m)
include hn hlo hv
/-- The three forms of a result. -/
theorem tight_form : (tight n lo hi l m = (0, 0, 0, 0, false) ∧ ∀ x, 0 ≤ x → x < 2 ^ n → ¬ In n lo hi l m x) ∨
    (∃ a b c d, tight n lo hi l m = (a, b, c, d, true) ∧ Bd n a b c d ∧ 0 ≤ a ∧ lo ≤ a ∧ b ≤ hi ∧ l ≤ c ∧ d ≤ m ∧ tight n a b c d = (a, b, c, d, true) ∧ ∀ x, 0 ≤ x → x < 2 ^ n → (In n a b c d x ↔ In n lo hi l m x)) := by
  obtain ⟨h1, h2, h3, h4, h5⟩ := hv
  have hs := pow_succ' hn
  have hp := pow_pos (n - 1)
  have key := fun (x : Int) (h0 : 0 ≤ x) (h : x < 2 ^ n) => sg_cases hn h0 h
  by_cases cA : hi ≤ 2 ^ (n - 1) - 1 ∨ 0 ≤ l
  · by_cases cm : m < 0
    · left
      refine ⟨by unfold tight; rw [if_pos cA, if_pos cm], fun x h0 hx hin => ?_⟩
      obtain ⟨i1, i2, i3, i4⟩ := hin
      have := key x h0 hx
      omega
    · have f1 := mx_facts l 0
      have f2 := mx_facts lo (mx l 0)
      have f3 := mn_facts hi m
      have ht : tight n lo hi l m = fin n (mx lo (mx l 0)) (mn hi m) := by unfold tight; rw [if_pos cA, if_neg cm]
      generalize mx l 0 = l0 at *
      generalize mx lo l0 = a at *
      generalize mn hi m = b at *
      rw [ht]
      unfold fin
      by_cases c : a > b
      · left
        refine ⟨by rw [if_pos c], fun x h0 hx hin => ?_⟩
        obtain ⟨i1, i2, i3, i4⟩ := hin
        have := key x h0 hx
        omega
      · right
        have sa : sg n a = a := sg_lo (by omega) (by omega) hn
        have sb : sg n b = b := sg_lo (by omega) (by omega) hn
        refine ⟨a, b, sg n a, sg n b, by rw [if_neg c], ⟨by omega, by omega, by omega, by omega, by omega⟩, by omega, by omega, by omega, by omega, by omega, ?_, fun x h0 hx => ?_⟩
        · rw [sa, sb]
          have g1 := mx_facts a 0
          have g2 := mx_facts a (mx a 0)
          have g3 := mn_facts b b
          have e1 : mx a (mx a 0) = a := by omega
          have e2 : mn b b = b := by omega
          unfold tight fin
          rw [if_pos (by omega), if_neg (by omega), e1, e2, if_neg (by omega), sa, sb]
        · have := key x h0 hx
          unfold In
          rw [sa, sb]
          omega
  · by_cases cB : 2 ^ (n - 1) - 1 < lo ∨ m < 0
    · have ml := mod_neg h3 (show l < 0 by omega) hn
      have mm : m < 0 → m % 2 ^ n = m + 2 ^ n := fun h => mod_neg (by omega) h hn
      have f1 := mx_facts lo (l % 2 ^ n)
      have f2 := mx_facts (mx lo (l % 2 ^ n)) (2 ^ (n - 1))
      have f3 := mn_facts hi (m % 2 ^ n)
      have ht : tight n lo hi l m = fin n (mx (mx lo (l % 2 ^ n)) (2 ^ (n - 1))) (if m < 0 then mn hi (m % 2 ^ n) else hi) := by unfold tight; rw [if_neg cA, if_pos cB]
      have f4 : (m < 0 ∧ (if m < 0 then mn hi (m % 2 ^ n) else hi) = mn hi (m % 2 ^ n)) ∨ (¬ m < 0 ∧ (if m < 0 then mn hi (m % 2 ^ n) else hi) = hi) := by
        by_cases c : m < 0
        · left; exact ⟨c, by rw [if_pos c]⟩
        · right; exact ⟨c, by rw [if_neg c]⟩
      generalize (if m < 0 then mn hi (m % 2 ^ n) else hi) = b at *
      generalize mx (mx lo (l % 2 ^ n)) (2 ^ (n - 1)) = a at *
      generalize mx lo (l % 2 ^ n) = a0 at *
      generalize mn hi (m % 2 ^ n) = b0 at *
      rw [ht]
      unfold fin
      have mm2 : m < 0 → b0 = hi ∧ hi ≤ m + 2 ^ n ∨ b0 = m + 2 ^ n ∧ m + 2 ^ n ≤ hi := fun h => by have := mm h; omega
      rw [ml] at f1
      clear mm ml f3
      by_cases c : a > b
      · left
        refine ⟨by rw [if_pos c], fun x h0 hx hin => ?_⟩
        obtain ⟨i1, i2, i3, i4⟩ := hin
        have := key x h0 hx
        by_cases cm : m < 0
        · have := mm2 cm
          omega
        · omega
      · right
        have hb : b ≤ hi ∧ (m < 0 → b ≤ m + 2 ^ n) ∧ (b = hi ∨ (m < 0 ∧ b = m + 2 ^ n)) := by
          by_cases cm : m < 0
          · have := mm2 cm
            omega
          · omega
        have sa : sg n a = a - 2 ^ n := sg_hi (by omega) (by omega) hn
        have sb : sg n b = b - 2 ^ n := sg_hi (by omega) (by omega) hn
        refine ⟨a, b, sg n a, sg n b, by rw [if_neg c], ⟨by omega, by omega, by omega, by omega, by omega⟩, by omega, by omega, by omega, by omega, by omega, ?_, fun x h0 hx => ?_⟩
        · rw [sa, sb]
          have e0 : (a - 2 ^ n) % 2 ^ n = a := by rw [Int.sub_emod_right]; exact mod_small (by omega) (by omega)
          have e00 : (b - 2 ^ n) % 2 ^ n = b := by rw [Int.sub_emod_right]; exact mod_small (by omega) (by omega)
          have g1 := mx_facts a a
          have g2 := mx_facts (mx a a) (2 ^ (n - 1))
          have g3 := mn_facts b b
          have e1 : mx (mx a a) (2 ^ (n - 1)) = a := by omega
          have e2 : mn b b = b := by omega
          unfold tight fin
          rw [if_neg (by omega), if_pos (by omega), if_pos (show b - 2 ^ n < 0 by omega), e0, e00, e1, e2, if_neg (by omega), sa, sb]
        · have := key x h0 hx
          unfold In
          rw [sa, sb]
          omega
    · right
      have ht : tight n lo hi l m = (lo, hi, l, m, true) := by unfold tight; rw [if_neg cA, if_neg cB]
      exact ⟨lo, hi, l, m, ht, ⟨h1, h2, h3, h4, h5⟩, hlo, by omega, by omega, by omega, by omega, ht, fun x _ _ => Iff.rfl⟩
end

theorem tighten_eq (w lo hi l m : Int) (hlo : 0 ≤ lo) (hI : -9223372036854775808 ≤ l ∧ m < 9223372036854775808) (k : Nat) :
    interval_Tighten.f (k + 3) w lo hi l m = some (if Valid w lo hi l m then tight (nn w) lo hi l m else (0, 0, 0, 0, false)) := by
  unfold interval_Tighten.f
  rw [valid_eq, Option.bind_some]
  by_cases hv : Valid w lo hi l m
  · rw [if_pos (decide_eq_true hv), ends_eq hv.1, Option.bind_some, if_pos hv]
    have hn := nn_of (w := w) (by have := hv.1; omega) hv.1.2
    have hn1 : 1 ≤ nn w := by have := hv.1; omega
    have hs := pow_succ' hn1
    have hp := pow_pos (nn w - 1)
    have hp64 := pow_le (nn_le w)
    obtain ⟨h1, h2, h3, h4, h5⟩ := Bd.of hv
    have ht : IntKind.u64.wrap (2 ^ (nn w - 1) - 1) = 2 ^ (nn w - 1) - 1 := by rw [wrap_u64]; omega
    simp only [ht]
    have J2 : ∀ k a b, 0 ≤ a → b ≤ 2 ^ nn w - 1 → interval_Tighten.j2 (k + 1) w a b = some (fin (nn w) a b) := by
      intro k a b ha hb
      rw [interval_Tighten.j2]
      unfold fin
      by_cases c : a > b
      · rw [if_pos c, if_pos c]
      · rw [if_neg c, if_neg c, signed_eq w (by omega), Option.bind_some, signed_eq w (by omega), Option.bind_some]
    have J0t : hi ≤ 2 ^ (nn w - 1) - 1 ∨ 0 ≤ l → interval_Tighten.j0 (k + 3) w (2 ^ (nn w - 1) - 1) lo hi true lo hi l m = some (tight (nn w) lo hi l m) := by
      intro cA
      rw [interval_Tighten.j0, if_pos rfl]
      unfold tight
      rw [if_pos cA]
      by_cases cm : m < 0
      · rw [if_pos cm, if_pos cm]
      · have f1 := mx_facts l 0
        have f2 := mx_facts lo (mx l 0)
        have f3 := mn_facts hi m
        have e1 : IntKind.u64.wrap (mx l 0) = mx l 0 := by rw [wrap_u64]; omega
        have e2 : IntKind.u64.wrap m = m := by rw [wrap_u64]; omega
        rw [if_neg cm, if_neg cm, e1, e2]
        exact J2 _ _ _ (by omega) (by omega)
    have J0f : ¬ (hi ≤ 2 ^ (nn w - 1) - 1 ∨ 0 ≤ l) → interval_Tighten.j0 (k + 3) w (2 ^ (nn w - 1) - 1) lo hi false lo hi l m = some (tight (nn w) lo hi l m) := by
      intro cA
      rw [interval_Tighten.j0, if_neg (by decide)]
      unfold tight
      rw [if_neg cA]
      have J1 : ∀ b, b = decide (2 ^ (nn w - 1) - 1 < lo ∨ m < 0) → interval_Tighten.j1 (k + 2) w (2 ^ (nn w - 1) - 1) lo hi b lo hi l m = some (if 2 ^ (nn w - 1) - 1 < lo ∨ m < 0 then fin (nn w) (mx (mx lo (l % 2 ^ nn w)) (2 ^ (nn w - 1))) (if m < 0 then mn hi (m % 2 ^ nn w) else hi) else (lo, hi, l, m, true)) := by
        intro b hb
        rw [interval_Tighten.j1]
        by_cases cB : 2 ^ (nn w - 1) - 1 < lo ∨ m < 0
        · rw [decide_eq_true cB] at hb
          have e1 : IntKind.u64.wrap (2 ^ (nn w - 1) - 1 + 1) = 2 ^ (nn w - 1) := by rw [wrap_u64]; omega
          have r1 := mod_lt (nn w) l
          have r2 := mod_lt (nn w) m
          have f1 := mx_facts lo (l % 2 ^ nn w)
          have f2 := mx_facts (mx lo (l % 2 ^ nn w)) (2 ^ (nn w - 1))
          have f3 := mn_facts hi (m % 2 ^ nn w)
          rw [if_pos hb, if_pos cB, from_eq, Option.bind_some, e1]
          by_cases cm : m < 0
          · rw [if_pos cm, if_pos cm, from_eq, Option.bind_some]
            exact J2 _ _ _ (by omega) (by omega)
          · rw [if_neg cm, if_neg cm]
            exact J2 _ _ _ (by omega) (by omega)
        · rw [decide_eq_false cB] at hb
          rw [if_neg (by rw [hb]; decide), if_neg cB]
      by_cases c1 : lo > 2 ^ (nn w - 1) - 1
      · rw [if_pos c1]; exact J1 true (by rw [decide_eq_true (Or.inl c1)])
      · rw [if_neg c1]; exact J1 _ (by rw [Bool.eq_iff_iff]; simp; omega)
    by_cases c1 : hi ≤ 2 ^ (nn w - 1) - 1
    · rw [if_pos c1]; exact J0t (.inl c1)
    · rw [if_neg c1]
      by_cases c2 : 0 ≤ l
      · rw [decide_eq_true (show l ≥ 0 from c2)]; exact J0t (.inr c2)
      · rw [decide_eq_false (show ¬ l ≥ 0 from c2)]; exact J0f (by omega)
  · rw [if_neg (by simpa using hv), if_neg hv]
theorem rtighten_eq (w lo hi l m : Int) (hlo : 0 ≤ lo) (hI : -9223372036854775808 ≤ l ∧ m < 9223372036854775808) {k : Nat} (hk : 70 < k) :
    jacquardref13_Tighten.f k w lo hi l m = some (if Valid w lo hi l m then tight (nn w) lo hi l m else (0, 0, 0, 0, false)) := by
  obtain ⟨k, rfl⟩ : ∃ j, k = j + 2 := ⟨k - 2, by omega⟩
  unfold jacquardref13_Tighten.f
  rw [rvalid_eq w lo hi l m (by omega), Option.bind_some]
  by_cases hv : Valid w lo hi l m
  · rw [if_pos (decide_eq_true hv), smax_eq hv.1 (by omega), Option.bind_some, if_pos hv]
    have hn := nn_of (w := w) (by have := hv.1; omega) hv.1.2
    have hn1 : 1 ≤ nn w := by have := hv.1; omega
    have hs := pow_succ' hn1
    have hp := pow_pos (nn w - 1)
    have hp64 := pow_le (nn_le w)
    obtain ⟨h1, h2, h3, h4, h5⟩ := Bd.of hv
    have ht : IntKind.u64.wrap (2 ^ (nn w - 1) - 1) = 2 ^ (nn w - 1) - 1 := by rw [wrap_u64]; omega
    simp only [ht]
    have S : ∀ k a b, 66 < k → 0 ≤ a → b ≤ 2 ^ nn w - 1 → jacquardref13_same.f k w a b = some (fin (nn w) a b) := by
      intro k a b hk ha hb
      unfold jacquardref13_same.f fin
      by_cases c : a > b
      · rw [if_pos c, if_pos c]
      · rw [if_neg c, if_neg c, rsg_eq hv.1 ha (by omega) (by omega), Option.bind_some, rsg_eq hv.1 (by omega) (by omega) (by omega), Option.bind_some]
    have eta : ∀ t : Int × Int × Int × Int × Bool, (t.1, t.2.1, t.2.2.1, t.2.2.2.1, t.2.2.2.2) = t := fun t => rfl
    have J0t : hi ≤ 2 ^ (nn w - 1) - 1 ∨ 0 ≤ l → jacquardref13_Tighten.j0 (k + 2) w (2 ^ (nn w - 1) - 1) true lo hi l m = some (tight (nn w) lo hi l m) := by
      intro cA
      rw [jacquardref13_Tighten.j0, if_pos rfl]
      unfold tight
      rw [if_pos cA]
      by_cases cm : m < 0
      · rw [if_pos cm, if_pos cm]
      · have f1 := mx_facts l 0
        have f2 := mx_facts lo (mx l 0)
        have f3 := mn_facts hi m
        have f4 := mx_facts lo l
        have e2 : IntKind.u64.wrap m = m := by rw [wrap_u64]; omega
        rw [if_neg cm, if_neg cm, e2]
        by_cases c0 : l > 0
        · have e1 : IntKind.u64.wrap l = l := by rw [wrap_u64]; omega
          have e3 : mx l 0 = l := by omega
          rw [if_pos c0, e1, e3, S _ _ _ (by omega) (by omega) (by omega), Option.bind_some]
        · have e3 : mx lo (mx l 0) = lo := by omega
          rw [if_neg c0, e3, S _ _ _ (by omega) (by omega) (by omega), Option.bind_some]
    have J0f : ¬ (hi ≤ 2 ^ (nn w - 1) - 1 ∨ 0 ≤ l) → jacquardref13_Tighten.j0 (k + 2) w (2 ^ (nn w - 1) - 1) false lo hi l m = some (tight (nn w) lo hi l m) := by
      intro cA
      rw [jacquardref13_Tighten.j0, if_neg (by decide)]
      unfold tight
      rw [if_neg cA]
      have J1 : ∀ b, b = decide (2 ^ (nn w - 1) - 1 < lo ∨ m < 0) → jacquardref13_Tighten.j1 (k + 1) w (2 ^ (nn w - 1) - 1) b lo hi l m = some (if 2 ^ (nn w - 1) - 1 < lo ∨ m < 0 then fin (nn w) (mx (mx lo (l % 2 ^ nn w)) (2 ^ (nn w - 1))) (if m < 0 then mn hi (m % 2 ^ nn w) else hi) else (lo, hi, l, m, true)) := by
        intro b hb
        rw [jacquardref13_Tighten.j1]
        by_cases cB : 2 ^ (nn w - 1) - 1 < lo ∨ m < 0
        · rw [decide_eq_true cB] at hb
          have e1 : IntKind.u64.wrap (2 ^ (nn w - 1) - 1 + 1) = 2 ^ (nn w - 1) := by rw [wrap_u64]; omega
          have r1 := mod_lt (nn w) l
          have r2 := mod_lt (nn w) m
          have f1 := mx_facts lo (l % 2 ^ nn w)
          have f2 := mx_facts (mx lo (l % 2 ^ nn w)) (2 ^ (nn w - 1))
          have f3 := mn_facts hi (m % 2 ^ nn w)
          have g1 := mx_facts lo (2 ^ (nn w - 1))
          have g2 := mx_facts (mx lo (2 ^ (nn w - 1))) (l % 2 ^ nn w)
          have b1 : Go.bits .and .u64 (IntKind.u64.wrap l) (2 ^ nn w - 1) = l % 2 ^ nn w := by rw [and_mask (nn_le w) (by rw [wrap_u64]; omega), wrap_mod (nn_le w)]
          have b2 : Go.bits .and .u64 (IntKind.u64.wrap m) (2 ^ nn w - 1) = m % 2 ^ nn w := by rw [and_mask (nn_le w) (by rw [wrap_u64]; omega), wrap_mod (nn_le w)]
          have em : mx (mx lo (2 ^ (nn w - 1))) (l % 2 ^ nn w) = mx (mx lo (l % 2 ^ nn w)) (2 ^ (nn w - 1)) := by omega
          rw [if_pos hb, if_pos cB, umax_eq (by have := hv.1; omega) (by omega), Option.bind_some, e1, b1, b2, em]
          by_cases cm : m < 0
          · rw [if_pos cm, if_pos cm, S _ _ _ (by omega) (by omega) (by omega), Option.bind_some]
          · rw [if_neg cm, if_neg cm, S _ _ _ (by omega) (by omega) (by omega), Option.bind_some]
        · rw [decide_eq_false cB] at hb
          rw [if_neg (by rw [hb]; decide), if_neg cB]
      by_cases c1 : lo > 2 ^ (nn w - 1) - 1
      · rw [if_pos c1]; exact J1 true (by rw [decide_eq_true (Or.inl c1)])
      · rw [if_neg c1]; exact J1 _ (by rw [Bool.eq_iff_iff]; simp; omega)
    by_cases c1 : hi ≤ 2 ^ (nn w - 1) - 1
    · rw [if_pos c1]; exact J0t (.inl c1)
    · rw [if_neg c1]
      by_cases c2 : 0 ≤ l
      · rw [decide_eq_true (show l ≥ 0 from c2)]; exact J0t (.inr c2)
      · rw [decide_eq_false (show ¬ l ≥ 0 from c2)]; exact J0f (by omega)
  · rw [if_neg (by simpa using hv), if_neg hv]
end Go.Proofs.Ytoddafkffchnjaa.Tg
