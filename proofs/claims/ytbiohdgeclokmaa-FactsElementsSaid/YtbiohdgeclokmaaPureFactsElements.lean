import Derived.Test.YtbiohdgeclokmaaIe
import Derived.Test.YtbiohdgeclokmaaPx10
import Derived.Test.YtbiohdgeclokmaaPx2
/- Top, Of, Valid, Contains, Leq, Join and Meet are as specified; a join contains what either contains, a meet what both do. -/
namespace Go.Proofs.Ytbiohdgeclokmaa.Pure
set_option linter.unusedVariables false
set_option linter.unusedSimpArgs false
set_option linter.unusedSectionVars false
open Go.RowKit Go.Proofs.Ytbiohdgeclokmaa.P Go.Proofs.YtbiohdgeclokmaaW.PrintWords Wd Im Iv Tg Ft

theorem feawake_eq : jacquardlaw14_awake.f = some true := by decide +kernel
theorem fe_last {w : Int} {z o z' o' x : Nat} {lo hi l m lo' hi' l' m' : Int} (hz : z < 18446744073709551616) (ho : o < 18446744073709551616) (hz' : z' < 18446744073709551616) (ho' : o' < 18446744073709551616) (hx : x < 18446744073709551616)
    {zz oo : Nat} (hzz : zz < 18446744073709551616) (hoo : oo < 18446744073709551616) (ok : Bool) (a b c d : Int) (h : (FC w z o lo hi l m x ∧ FC w z' o' lo' hi' l' m' x) ↔ (ok = true ∧ FC w zz oo a b c d x)) (k : Nat) :
    jacquardlaw14_FactsElements.j2 (k + 1) w x ok false z o lo hi l m z' o' lo' hi' l' m' zz oo a b c d = some true := by
  have hJ := fun h => fjoin_has hz ho hz' ho' (w := w) (lo := lo) (hi := hi) (l := l) (m := m) (lo' := lo') (hi' := hi') (l' := l') (m' := m') (x := x) h
  have l1 : z &&& z' < 18446744073709551616 := Nat.lt_of_le_of_lt Nat.and_le_left hz
  have l2 : o &&& o' < 18446744073709551616 := Nat.lt_of_le_of_lt Nat.and_le_left ho
  rw [jacquardlaw14_FactsElements.j2, if_neg (by decide)]
  simp only [fcontains_eq hz ho w _ _ _ _ hx, fcontains_eq hz' ho' w _ _ _ _ hx, fcontains_eq hzz hoo w _ _ _ _ hx, fjoin_eq hz ho hz' ho', Option.bind_some, fcontains_eq l1 l2 w _ _ _ _ hx]
  by_cases h1 : FC w z o lo hi l m x
  · rw [if_pos (decide_eq_true h1), if_pos (decide_eq_true (hJ (.inl h1)))]
    cases ok with
    | false =>
      rw [if_neg (by decide), decide_eq_false (fun h2 => by have := h.1 ⟨h1, h2⟩; simp at this)]; rfl
    | true =>
      rw [if_pos rfl]
      have : decide (FC w z' o' lo' hi' l' m' x) = decide (FC w zz oo a b c d x) := by rw [Bool.eq_iff_iff]; simp only [decide_eq_true_eq]; exact ⟨fun h2 => (h.1 ⟨h1, h2⟩).2, fun h2 => (h.2 ⟨rfl, h2⟩).2⟩
      rw [this]; simp
  · rw [if_neg (by simpa using h1)]
    have hm : ok = true → decide (FC w zz oo a b c d x) = false := fun e => decide_eq_false (fun h2 => h1 (h.2 ⟨e, h2⟩).1)
    by_cases h2 : FC w z' o' lo' hi' l' m' x
    · rw [if_pos (decide_eq_true h2), if_pos (decide_eq_true (hJ (.inr h2)))]
      cases ok with
      | false => rfl
      | true => rw [if_pos rfl, hm rfl]; rfl
    · rw [if_neg (by simpa using h2)]
      cases ok with
      | false => rfl
      | true => rw [if_pos rfl, hm rfl]; rfl
theorem FactsElements : jacquardlaw14_FactsElements.Pure := by
  intro w z o lo hi l m z' o' lo' hi' l' m' x _ hz ho hlo hhi hl hm hz' ho' hlo' hhi' hl' hm' hx
  rw [wf_u64] at hz ho hlo hz' ho' hx
  obtain ⟨z, rfl⟩ := Int.eq_ofNat_of_zero_le hz.1
  obtain ⟨o, rfl⟩ := Int.eq_ofNat_of_zero_le ho.1
  obtain ⟨z', rfl⟩ := Int.eq_ofNat_of_zero_le hz'.1
  obtain ⟨o', rfl⟩ := Int.eq_ofNat_of_zero_le ho'.1
  obtain ⟨x, rfl⟩ := Int.eq_ofNat_of_zero_le hx.1
  have hz : z < 18446744073709551616 := by omega
  have ho : o < 18446744073709551616 := by omega
  have hz' : z' < 18446744073709551616 := by omega
  have ho' : o' < 18446744073709551616 := by omega
  have hx : x < 18446744073709551616 := by omega
  refine ⟨0 + 302, ?_⟩
  generalize 0 = k
  obtain ⟨r, e1, e2, hP⟩ := meet_main hz ho hz' ho' w (lo := lo) (hi := hi) (l := l) (m := m) (lo' := lo') (hi' := hi') (l' := l') (m' := m') hlo.1 (fun _ _ => trivial) k
  have J0 : jacquardlaw14_FactsElements.j0 (k + 301 + 1) w x false z o lo hi l m z' o' lo' hi' l' m' = some true := by
    rw [jacquardlaw14_FactsElements.j0, if_neg (by decide), e1, Option.bind_some, e2, Option.bind_some, if_neg (by simp), show (r.2.2.2.2.2.2 != r.2.2.2.2.2.2) = false by simp, show k + 301 = (k + 299) + 1 + 1 by omega, jacquardlaw14_FactsElements.j1, if_neg (by decide), rfvalid_eq hz ho w lo hi l m (by omega), Option.bind_some, rfvalid_eq hz' ho' w lo' hi' l' m' (by omega), Option.bind_some]
    have T : ∀ ok a b c d e f, jacquardlaw14_FactsElements.j2 (k + 299 + 1) w x ok true z o lo hi l m z' o' lo' hi' l' m' a b c d e f = some true := fun ok a b c d e f => by rw [jacquardlaw14_FactsElements.j2, if_pos rfl]
    by_cases v1 : FV w z o lo hi l m
    · rw [if_pos (decide_eq_true v1)]
      by_cases v2 : FV w z' o' lo' hi' l' m'
      · rw [decide_eq_true v2]
        rcases hP v1 v2 with ⟨rfl, hn⟩ | ⟨zz, oo, a, b, c, d, rfl, q1, q2, q3⟩
        · exact fe_last (zz := 0) (oo := 0) hz ho hz' ho' hx (by omega) (by omega) false 0 0 0 0 ⟨fun h => absurd h (hn x hx), fun h => absurd h.1 (by decide)⟩ _
        · exact fe_last hz ho hz' ho' hx q1 q2 true a b c d ⟨fun h => ⟨rfl, (q3 x hx).2 h⟩, fun h => (q3 x hx).1 h.2⟩ _
      · rw [decide_eq_false v2]; exact T _ _ _ _ _ _ _
    · rw [if_neg (by simpa using v1)]; exact T _ _ _ _ _ _ _
  obtain ⟨t1, a1, a2⟩ := ftop_eq w (k := k + 302) (by omega)
  obtain ⟨t2, b1, b2⟩ := fof_eq w hx (k := k + 302) (by omega)
  obtain ⟨t3, c1⟩ := leq_some z o lo hi l m z' o' lo' hi' l' m'
  unfold jacquardlaw14_FactsElements.f
  rw [feawake_eq, Option.bind_some, if_pos rfl, a1, Option.bind_some, a2, Option.bind_some, if_neg (by simp), b1, Option.bind_some, b2, Option.bind_some, if_neg (by simp), fvalid_eq hz ho, Option.bind_some, rfvalid_eq hz ho w lo hi l m (by omega), Option.bind_some, if_neg (by simp), fcontains_eq hz ho w lo hi l m hx, Option.bind_some, rfcontains_eq hz ho w lo hi l m hx (by omega), Option.bind_some, if_neg (by simp), rleq_same, c1, Option.bind_some, Option.bind_some, if_neg (by simp), rjoin_same, fjoin_eq hz ho hz' ho', Option.bind_some, Option.bind_some]
  have := J0
  simpa using this
end Go.Proofs.Ytbiohdgeclokmaa.Pure
