import Derived.Test.YtanmehdcccldfaaTg
import Derived.Test.YtanmehdcccldfaaPx10
import Derived.Test.YtanmehdcccldfaaPx2
import Derived.Test.YtanmehdcccldfaaPx9
/- Leq, Join and Meet are as specified; a join is above both ranges, a meet below both; and both keep the words that they should. -/
namespace Go.Proofs.Ytanmehdcccldfaa.Pure
set_option linter.unusedVariables false
set_option linter.unusedSimpArgs false
set_option linter.unusedSectionVars false
open Go.RowKit Go.Proofs.Ytanmehdcccldfaa.P Go.Proofs.YtanmehdcccldfaaW.PrintWords Wd Im Iv Tg

theorem lawake_eq : jacquardlaw13_awake.f = some true := by
  unfold jacquardlaw13_awake.f
  rw [top_eq, of_eq 4 (by decide)]
  decide +kernel
theorem lleq_eq (a b c d a' b' c' d' : Int) : interval_Leq.f a b c d a' b' c' d' = some (decide (a ≥ a' ∧ b ≤ b' ∧ c ≥ c' ∧ d ≤ d')) := by
  unfold interval_Leq.f
  by_cases h1 : a ≥ a' <;> by_cases h2 : b ≤ b' <;> by_cases h3 : c ≥ c' <;> by_cases h4 : d ≤ d' <;> simp [h1, h2, h3, h4]
/-- One round of the walk over the widths. -/
def Okay (w x : Int) (ok : Bool) (a b c d a' b' c' d' ja jb jc jd ma mb mc md : Int) : Prop :=
  (Contains w a b c d x → Contains w ja jb jc jd x) ∧ (Contains w a' b' c' d' x → Contains w ja jb jc jd x) ∧
  ((Contains w a b c d x ∧ Contains w a' b' c' d' x) ↔ (Contains w a b c d x ∧ ok = true ∧ Contains w ma mb mc md x))
theorem lround {x : Int} (hx : 0 ≤ x ∧ x < 18446744073709551616) (ok : Bool) {a b c d a' b' c' d' ja jb jc jd ma mb mc md : Int} (L : List Int) (i : Nat) (hi : i < L.length) (hL : L.length < 100)
    (h : Okay (rd L i) x ok a b c d a' b' c' d' ja jb jc jd ma mb mc md) (k : Nat) :
    jacquardlaw13_IntervalLattice.l0 (k + 1) x ok L (L.length : Int) i a b c d a' b' c' d' ja jb jc jd ma mb mc md = jacquardlaw13_IntervalLattice.l0 k x ok L (L.length : Int) ((i + 1 : Nat) : Int) a b c d a' b' c' d' ja jb jc jd ma mb mc md := by
  obtain ⟨o1, o2, o3⟩ := h
  rw [jacquardlaw13_IntervalLattice.l0, if_pos (by omega), if_pos (by omega), if_pos (by omega)]
  simp only [contains_eq _ _ _ _ _ hx, Option.bind_some]
  rw [wrap64_id (by omega) (by omega), show (i : Int) + 1 = ((i + 1 : Nat) : Int) by omega]
  by_cases c1 : Contains (rd L i) a b c d x <;> by_cases c2 : Contains (rd L i) a' b' c' d' x <;> by_cases c3 : Contains (rd L i) ja jb jc jd x <;> by_cases c4 : Contains (rd L i) ma mb mc md x <;> cases ok <;> simp_all
theorem IntervalLattice : jacquardlaw13_IntervalLattice.Pure := by
  intro a b c d a' b' c' d' x ha hb hc hd ha' hb' hc' hd' hx
  rw [wf_u64] at hx
  refine ⟨0 + 100, ?_⟩
  generalize 0 = k
  have r1 : ∀ p q r s p' q' r' s', jacquardref13_Leq.f p q r s p' q' r' s' = interval_Leq.f p q r s p' q' r' s' := fun _ _ _ _ _ _ _ _ => rfl
  have r2 : ∀ p q r s p' q' r' s', jacquardref13_Join.f p q r s p' q' r' s' = interval_Join.f p q r s p' q' r' s' := fun _ _ _ _ _ _ _ _ => rfl
  have r3 : ∀ p q r s p' q' r' s', jacquardref13_Meet.f p q r s p' q' r' s' = interval_Meet.f p q r s p' q' r' s' := fun _ _ _ _ _ _ _ _ => rfl
  have j1 : interval_Join.f a b c d a' b' c' d' = some (mn a a', mx b b', mn c c', mx d d') := rfl
  have m1 : interval_Meet.f a b c d a' b' c' d' = if (mx a a') > (mn b b') then (some (0, 0, 0, 0, false)) else (if (mx c c') > (mn d d') then (some (0, 0, 0, 0, false)) else (some (mx a a', mn b b', mx c c', mn d d', true))) := rfl
  unfold jacquardlaw13_IntervalLattice.f
  rw [lawake_eq, Option.bind_some, if_pos rfl, r3, r2, r1, j1, Option.bind_some]
  have f1 := mn_facts a a'
  have f2 := mx_facts b b'
  have f3 := mn_facts c c'
  have f4 := mx_facts d d'
  have g1 := mx_facts a a'
  have g2 := mn_facts b b'
  have g3 := mx_facts c c'
  have g4 := mn_facts d d'
  generalize mn a a' = ja at *
  generalize mx b b' = jb at *
  generalize mn c c' = jc at *
  generalize mx d d' = jd at *
  generalize mx a a' = ma at *
  generalize mn b b' = mb at *
  generalize mx c c' = mc at *
  generalize mn d d' = md at *
  have fin : ∀ (ok : Bool) (na nb nc nd : Int), (ok = true → na = ma ∧ nb = mb ∧ nc = mc ∧ nd = md) → (ok = false → ma > mb ∨ mc > md) →
      jacquardlaw13_IntervalLattice.j0 (k + 100) x ok false a b c d a' b' c' d' ja jb jc jd na nb nc nd = some true := by
    intro ok na nb nc nd ht hf
    have O : ∀ w, Okay w x ok a b c d a' b' c' d' ja jb jc jd na nb nc nd := by
      intro w
      refine ⟨fun ⟨p1, p2, p3⟩ => ⟨p1, p2, by omega⟩, fun ⟨p1, p2, p3⟩ => ⟨p1, p2, by omega⟩, ?_⟩
      constructor
      · rintro ⟨⟨p1, p2, p3⟩, ⟨_, _, p4⟩⟩
        refine ⟨⟨p1, p2, p3⟩, ?_⟩
        cases ok with
        | false => have := hf rfl; omega
        | true => obtain ⟨e1, e2, e3, e4⟩ := ht rfl; exact ⟨rfl, p1, p2, by omega⟩
      · rintro ⟨⟨p1, p2, p3⟩, ho, ⟨_, _, p4⟩⟩
        obtain ⟨e1, e2, e3, e4⟩ := ht ho
        exact ⟨⟨p1, p2, p3⟩, ⟨p1, p2, by omega⟩⟩
    have J1 : jacquardlaw13_IntervalLattice.j1 (k + 99) x ok false a b c d a' b' c' d' ja jb jc jd na nb nc nd = some true := by
      have e0 : (0 : Int) = ((0 : Nat) : Int) := rfl
      rw [show k + 99 = k + 95 + 4 by omega, jacquardlaw13_IntervalLattice.j1, if_neg (by decide), Option.bind_some, e0]
      rw [lround hx ok [1, 4, 64] 0 (by decide) (by decide) (O _), lround hx ok [1, 4, 64] 1 (by decide) (by decide) (O _), lround hx ok [1, 4, 64] 2 (by decide) (by decide) (O _)]
      rw [jacquardlaw13_IntervalLattice.l0, if_neg (by decide)]
    rw [show k + 100 = (k + 99) + 1 by omega, jacquardlaw13_IntervalLattice.j0, if_neg (by decide), lleq_eq, Option.bind_some, if_pos (decide_eq_true (by omega)), lleq_eq, Option.bind_some, if_pos (decide_eq_true (by omega))]
    cases ok with
    | false => rw [if_neg (by decide)]; exact J1
    | true =>
      obtain ⟨e1, e2, e3, e4⟩ := ht rfl
      rw [if_pos rfl, lleq_eq, Option.bind_some, if_pos (decide_eq_true (by omega)), lleq_eq, Option.bind_some, decide_eq_true (by omega)]
      exact J1
  rw [m1]
  generalize hm : (if ma > mb then (some (0, 0, 0, 0, false)) else (if mc > md then (some (0, 0, 0, 0, false)) else (some (ma, mb, mc, md, true))) : Option (Int × Int × Int × Int × Bool)) = M
  obtain ⟨t, rfl, h1, h2⟩ : ∃ t, M = some t ∧ (t.2.2.2.2 = true → t.1 = ma ∧ t.2.1 = mb ∧ t.2.2.1 = mc ∧ t.2.2.2.1 = md) ∧ (t.2.2.2.2 = false → ma > mb ∨ mc > md) := by
    subst hm
    by_cases c1 : ma > mb
    · exact ⟨_, if_pos c1, by simp, fun _ => .inl c1⟩
    · rw [if_neg c1]
      by_cases c2 : mc > md
      · exact ⟨_, if_pos c2, by simp, fun _ => .inr c2⟩
      · exact ⟨_, if_neg c2, fun _ => ⟨rfl, rfl, rfl, rfl⟩, by simp⟩
  rw [lleq_eq]
  simp only [Option.bind_some]
  rw [if_neg (by simp), if_neg (by simp), if_neg (by simp), show (t.2.2.2.2 != t.2.2.2.2) = false by simp]
  exact fin _ _ _ _ _ h1 h2
end Go.Proofs.Ytanmehdcccldfaa.Pure
