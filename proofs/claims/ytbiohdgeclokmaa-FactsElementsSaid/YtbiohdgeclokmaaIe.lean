import Derived.Test.YtbiohdgeclokmaaFu
import Derived.Test.YtbiohdgeclokmaaPx7
import Derived.Test.YtbiohdgeclokmaaPx2
import Derived.Test.YtbiohdgeclokmaaPx6
import Derived.Test.YtbiohdgeclokmaaPx8
import Derived.Test.YtbiohdgeclokmaaPx9
/- facts: Top, Of, Contains, Join and Meet: the fast form and the plain one come to the same. -/
namespace Go.Proofs.Ytbiohdgeclokmaa.Ft
set_option linter.unusedVariables false
set_option linter.unusedSimpArgs false
set_option linter.unusedSectionVars false
open Go.RowKit Go.Proofs.Ytbiohdgeclokmaa.P Go.Proofs.YtbiohdgeclokmaaW.PrintWords Wd Im Iv Tg

theorem rcontains_eq (w lo hi l m : Int) {x : Int} (hx : 0 ≤ x ∧ x < 18446744073709551616) {k : Nat} (hk : 66 < k) : jacquardref13_Contains.f k w lo hi l m x = some (decide (Contains w lo hi l m x)) := by
  unfold jacquardref13_Contains.f
  by_cases c1 : w < 1
  · rw [if_pos c1, decide_eq_false (fun h => by have := h.1; omega)]
  rw [if_neg c1]
  by_cases c2 : w > 64
  · rw [if_pos c2, decide_eq_false (fun h => by have := h.1; omega)]
  have h : 1 ≤ w ∧ w ≤ 64 := by omega
  rw [if_neg c2, umax_eq (by omega) (by omega), Option.bind_some]
  by_cases c3 : x > 2 ^ nn w - 1
  · rw [if_pos c3, decide_eq_false (fun h => by have := h.2.1; omega)]
  rw [if_neg c3, rsg_eq h hx.1 (by omega) (by omega), Option.bind_some]
  have c3' : x ≤ 2 ^ nn w - 1 := by omega
  by_cases h2 : lo ≤ x <;> by_cases h3 : x ≤ hi <;> by_cases h4 : l ≤ sg (nn w) x <;> simp [Contains, h, c3', h2, h3, h4]
theorem rtop_eq (w : Int) {k : Nat} (hk : 66 < k) : jacquardref13_Top.f k w = some (if 1 ≤ w ∧ w ≤ 64 then (0, 2 ^ nn w - 1, -2 ^ (nn w - 1), 2 ^ (nn w - 1) - 1) else (0, 0, 0, 0)) := by
  obtain ⟨k, rfl⟩ : ∃ j, k = j + 1 := ⟨k - 1, by omega⟩
  unfold jacquardref13_Top.f
  by_cases c1 : w < 1
  · rw [if_pos c1, jacquardref13_Top.j0, if_pos rfl, if_neg (by omega)]
  rw [if_neg c1]
  by_cases c2 : w > 64
  · rw [decide_eq_true c2, jacquardref13_Top.j0, if_pos rfl, if_neg (by omega)]
  have h : 1 ≤ w ∧ w ≤ 64 := by omega
  rw [decide_eq_false c2, jacquardref13_Top.j0, if_neg (by decide), umax_eq (by omega) (by omega), Option.bind_some, smin_eq h (by omega), Option.bind_some, smax_eq h (by omega), Option.bind_some, if_pos h]
theorem rof_eq (w : Int) {x : Int} (hx : 0 ≤ x ∧ x < 18446744073709551616) {k : Nat} (hk : 66 < k) : jacquardref13_Of.f k w x = some (if 1 ≤ w ∧ w ≤ 64 then (x % 2 ^ nn w, x % 2 ^ nn w, sg (nn w) x, sg (nn w) x) else (0, 0, 0, 0)) := by
  obtain ⟨k, rfl⟩ : ∃ j, k = j + 1 := ⟨k - 1, by omega⟩
  unfold jacquardref13_Of.f
  by_cases c1 : w < 1
  · rw [if_pos c1, jacquardref13_Of.j0, if_pos rfl, if_neg (by omega)]
  rw [if_neg c1]
  by_cases c2 : w > 64
  · rw [decide_eq_true c2, jacquardref13_Of.j0, if_pos rfl, if_neg (by omega)]
  have h : 1 ≤ w ∧ w ≤ 64 := by omega
  have hm := mod_lt (nn w) x
  rw [decide_eq_false c2, jacquardref13_Of.j0, if_neg (by decide), umax_eq (by omega) (by omega), Option.bind_some, and_mask (nn_le w) hx, rsg_eq h hm.1 hm.2 (by omega), Option.bind_some, if_pos h, sg_fit]
theorem ftop_eq (w : Int) {k : Nat} (hk : 66 < k) : ∃ t, facts_Top.f w = some t ∧ jacquardref14_Top.f k w = some t := by
  unfold facts_Top.f jacquardref14_Top.f
  rw [top_eq, rtop_eq w hk]
  exact ⟨_, rfl, rfl⟩
theorem fof_eq (w : Int) {x : Nat} (hx : x < 18446744073709551616) {k : Nat} (hk : 70 < k) : ∃ t, facts_Of.f w x = some t ∧ jacquardref14_Of.f k w x = some t := by
  obtain ⟨k, rfl⟩ : ∃ j, k = j + 1 := ⟨k - 1, by omega⟩
  unfold facts_Of.f jacquardref14_Of.f knownbits_Of.f
  rw [kgood_eq, of_eq w (by omega)]
  simp only [Option.bind_some]
  by_cases h : 1 ≤ w ∧ w ≤ 64
  · have hF := fmask_lt w
    have h1 : 18446744073709551615 ^^^ x < 18446744073709551616 := Nat.xor_lt_two_pow (n := 64) (by omega) hx
    have e1 := nxor (a := 18446744073709551615) (b := x) (by omega) hx
    have e : (18446744073709551615 ^^^ x) &&& (2 ^ nn w - 1) = ndiff (2 ^ nn w - 1) x := by
      apply Nat.eq_of_testBit_eq
      intro j
      rw [Nat.testBit_and, Nat.testBit_xor, tb_ndiff, show (18446744073709551615 : Nat) = 2 ^ 64 - 1 from rfl, tb_F, tb_F]
      by_cases h4 : j < nn w
      · have := nn_le w
        rw [decide_eq_true (show j < 64 by omega)]; simp [h4]
      · simp [h4]
    rw [if_pos (decide_eq_true h), kmask_eq h, if_pos h, if_neg (show ¬ w < 1 by omega), decide_eq_false (show ¬ w > 64 by omega), jacquardref14_Of.j0, if_neg (by decide), jacquardref12_Of.f, rmask_eq (by omega) (by omega), rof_eq w (by omega) (by omega), if_pos h, mnat, show (18446744073709551615 : Int) = ((18446744073709551615 : Nat) : Int) from rfl, e1]
    simp only [Option.bind_some, nand h1 hF, nandn hF hx, e]
    exact ⟨_, rfl, rfl⟩
  · have hd : ¬ (decide (1 ≤ w ∧ w ≤ 64) = true) := by simpa using h
    rw [if_neg hd, if_neg h]
    have : (if w < 1 then jacquardref14_Of.j0 (k + 1) w x true else jacquardref14_Of.j0 (k + 1) w x (decide (w > 64))) = some (0, 0, 0, 0, 0, 0) := by
      by_cases c : w < 1
      · rw [if_pos c, jacquardref14_Of.j0, if_pos rfl]
      · rw [if_neg c, decide_eq_true (by omega), jacquardref14_Of.j0, if_pos rfl]
    rw [this]
    exact ⟨_, rfl, rfl⟩
section
variable {z o : Nat} (hz : z < 18446744073709551616) (ho : o < 18446744073709551616)
include hz ho
theorem rfcontains_eq (w lo hi l m : Int) {x : Nat} (hx : x < 18446744073709551616) {k : Nat} (hk : 66 < k) : jacquardref14_Contains.f k w z o lo hi l m x = some (decide (FC w z o lo hi l m x)) := by
  rw [← fcontains_eq hz ho w lo hi l m hx]
  unfold jacquardref14_Contains.f facts_Contains.f
  simp only [facts_known.f, facts_span.f, jacquardref14_bits.f, jacquardref14_span.f, Option.bind_some, rcontains_eq w lo hi l m (show 0 ≤ (x : Int) ∧ (x : Int) < 18446744073709551616 by omega) hk, contains_eq w lo hi l m (show 0 ≤ (x : Int) ∧ (x : Int) < 18446744073709551616 by omega)]
  rfl
variable {z' o' : Nat} (hz' : z' < 18446744073709551616) (ho' : o' < 18446744073709551616)
include hz' ho'
theorem fjoin_eq (lo hi l m lo' hi' l' m' : Int) : facts_Join.f z o lo hi l m z' o' lo' hi' l' m' = some (((z &&& z' : Nat) : Int), ((o &&& o' : Nat) : Int), mn lo lo', mx hi hi', mn l l', mx m m') := by
  have e : facts_Join.f z o lo hi l m z' o' lo' hi' l' m' = some (Go.bits .and .u64 z z', Go.bits .and .u64 o o', mn lo lo', mx hi hi', mn l l', mx m m') := rfl
  rw [e, nand hz hz', nand ho ho']
theorem fjoin_has {w lo hi l m lo' hi' l' m' : Int} {x : Nat} (h : FC w z o lo hi l m x ∨ FC w z' o' lo' hi' l' m' x) : FC w (z &&& z') (o &&& o') (mn lo lo') (mx hi hi') (mn l l') (mx m m') x := by
  have f1 := mn_facts lo lo'
  have f2 := mx_facts hi hi'
  have f3 := mn_facts l l'
  have f4 := mx_facts m m'
  rcases h with ⟨h1, h2, h3, h4, h5⟩ | ⟨h1, h2, h3, h4, h5⟩ <;> rw [disj] at h1 <;> rw [subs] at h2
  · refine ⟨disj.2 fun i hi => ?_, subs.2 fun i hi => ?_, h3, h4, by omega⟩
    · rw [Nat.testBit_and] at hi; simp at hi; exact h1 i ⟨hi.1, hi.2.1⟩
    · rw [Nat.testBit_and] at hi; simp at hi; exact h2 i hi.1
  · refine ⟨disj.2 fun i hi => ?_, subs.2 fun i hi => ?_, h3, h4, by omega⟩
    · rw [Nat.testBit_and] at hi; simp at hi; exact h1 i ⟨hi.1, hi.2.2⟩
    · rw [Nat.testBit_and] at hi; simp at hi; exact h2 i hi.2
theorem both {w lo hi l m lo' hi' l' m' : Int} {x : Nat} : FC w z o lo hi l m x ∧ FC w z' o' lo' hi' l' m' x ↔ FC w (z ||| z') (o ||| o') (mx lo lo') (mn hi hi') (mx l l') (mn m m') x := by
  have f1 := mx_facts lo lo'
  have f2 := mn_facts hi hi'
  have f3 := mx_facts l l'
  have f4 := mn_facts m m'
  unfold FC
  rw [disj, disj, disj, subs, subs, subs]
  constructor
  · rintro ⟨⟨h1, h2, h3, h4, h5⟩, ⟨g1, g2, g3, g4, g5⟩⟩
    refine ⟨fun i hi => ?_, fun i hi => ?_, h3, h4, by omega⟩
    · rw [Nat.testBit_or] at hi; simp at hi
      rcases hi with ⟨a, b | b⟩
      · exact h1 i ⟨a, b⟩
      · exact g1 i ⟨a, b⟩
    · rw [Nat.testBit_or] at hi; simp at hi
      rcases hi with a | a
      · exact h2 i a
      · exact g2 i a
  · rintro ⟨h1, h2, h3, h4, h5⟩
    refine ⟨⟨fun i hi => h1 i ⟨hi.1, by rw [Nat.testBit_or, hi.2]; rfl⟩, fun i hi => h2 i (by rw [Nat.testBit_or, hi]; rfl), h3, h4, by omega⟩, ⟨fun i hi => h1 i ⟨hi.1, by rw [Nat.testBit_or, hi.2]; simp⟩, fun i hi => h2 i (by rw [Nat.testBit_or, hi]; simp), h3, h4, by omega⟩⟩
theorem meet_main (w : Int) {lo hi l m lo' hi' l' m' : Int} (hlo : 0 ≤ lo) (hv : FV w z o lo hi l m → FV w z' o' lo' hi' l' m' → True) (k : Nat) :
    ∃ r, facts_Meet.f (k + 301) w z o lo hi l m z' o' lo' hi' l' m' = some r ∧ jacquardref14_Meet.f (k + 301) w z o lo hi l m z' o' lo' hi' l' m' = some r ∧
      (FV w z o lo hi l m → FV w z' o' lo' hi' l' m' → (r = (0, 0, 0, 0, 0, 0, false) ∧ ∀ x : Nat, x < 18446744073709551616 → ¬ (FC w z o lo hi l m x ∧ FC w z' o' lo' hi' l' m' x)) ∨
        ∃ (zz oo : Nat) (a b c d : Int), r = ((zz : Int), (oo : Int), a, b, c, d, true) ∧ zz < 18446744073709551616 ∧ oo < 18446744073709551616 ∧ ∀ x : Nat, x < 18446744073709551616 → (FC w zz oo a b c d x ↔ FC w z o lo hi l m x ∧ FC w z' o' lo' hi' l' m' x)) := by
  have hZ : z ||| z' < 18446744073709551616 := or_lt (n := 64) hz hz'
  have hO : o ||| o' < 18446744073709551616 := or_lt (n := 64) ho ho'
  have hb := fun x : Nat => both hz ho hz' ho' (w := w) (lo := lo) (hi := hi) (l := l) (m := m) (lo' := lo') (hi' := hi') (l' := l') (m' := m') (x := x)
  have im : interval_Meet.f lo hi l m lo' hi' l' m' = if mx lo lo' > mn hi hi' then some (0, 0, 0, 0, false) else (if mx l l' > mn m m' then some (0, 0, 0, 0, false) else some (mx lo lo', mn hi hi', mx l l', mn m m', true)) := rfl
  have rm : jacquardref13_Meet.f lo hi l m lo' hi' l' m' = if mx lo lo' > mn hi hi' then some (0, 0, 0, 0, false) else (if mx l l' > mn m m' then some (0, 0, 0, 0, false) else some (mx lo lo', mn hi hi', mx l l', mn m m', true)) := rfl
  have f1 := mx_facts lo lo'
  have f2 := mn_facts hi hi'
  have f3 := mx_facts l l'
  have f4 := mn_facts m m'
  obtain ⟨r, e1, e2, hP⟩ := tighten_main w (lo := mx lo lo') (hi := mn hi hi') (l := mx l l') (m := mn m m') hZ hO (by omega) k
  have A : facts_Meet.f (k + 301) w z o lo hi l m z' o' lo' hi' l' m' = if (z ||| z') &&& (o ||| o') = 0 ∧ ¬ (mx lo lo' > mn hi hi') ∧ ¬ (mx l l' > mn m m') then some r else some (0, 0, 0, 0, 0, 0, false) := by
    have T : ∀ a b c d e f, facts_Meet.j0 (k + 301) w true a b c d e f = some (0, 0, 0, 0, 0, 0, false) := fun a b c d e f => by rw [facts_Meet.j0, if_pos rfl]
    unfold facts_Meet.f knownbits_Meet.f
    simp only [facts_known.f, facts_span.f, Option.bind_some, im, nor hz hz', nor ho ho', nand hZ hO]
    by_cases c : (z ||| z') &&& (o ||| o') = 0 ∧ ¬ (mx lo lo' > mn hi hi') ∧ ¬ (mx l l' > mn m m')
    · rw [if_pos c]
      obtain ⟨c1, c2, c3⟩ := c
      rw [if_pos (izero.2 c1), Option.bind_some, if_neg c2, if_neg c3, Option.bind_some, if_pos rfl]
      show facts_Meet.j0 (k + 300 + 1) w false ((z ||| z' : Nat) : Int) ((o ||| o' : Nat) : Int) (mx lo lo') (mn hi hi') (mx l l') (mn m m') = _
      rw [facts_Meet.j0, if_neg (by decide), facts_fact.f, Option.bind_some, e1, Option.bind_some]
    · rw [if_neg c]
      by_cases c1 : (z ||| z') &&& (o ||| o') = 0
      · rw [if_pos (izero.2 c1), Option.bind_some]
        by_cases c2 : mx lo lo' > mn hi hi'
        · rw [if_pos c2, Option.bind_some, if_pos rfl]; exact T _ _ _ _ _ _
        · rw [if_neg c2]
          by_cases c3 : mx l l' > mn m m'
          · rw [if_pos c3, Option.bind_some, if_pos rfl]; exact T _ _ _ _ _ _
          · exact absurd ⟨c1, c2, c3⟩ c
      · rw [if_neg (fun h => c1 (izero.1 h)), Option.bind_some]
        by_cases c2 : mx lo lo' > mn hi hi'
        · rw [if_pos c2, Option.bind_some, if_neg (by decide)]; exact T _ _ _ _ _ _
        · rw [if_neg c2]
          by_cases c3 : mx l l' > mn m m'
          · rw [if_pos c3, Option.bind_some, if_neg (by decide)]; exact T _ _ _ _ _ _
          · rw [if_neg c3, Option.bind_some, if_neg (by decide)]; exact T _ _ _ _ _ _
  have B : jacquardref14_Meet.f (k + 301) w z o lo hi l m z' o' lo' hi' l' m' = if (z ||| z') &&& (o ||| o') = 0 ∧ ¬ (mx lo lo' > mn hi hi') ∧ ¬ (mx l l' > mn m m') then some r else some (0, 0, 0, 0, 0, 0, false) := by
    have T : ∀ a b c d e f, jacquardref14_Meet.j0 (k + 301) w true a b c d e f = some (0, 0, 0, 0, 0, 0, false) := fun a b c d e f => by rw [jacquardref14_Meet.j0, if_pos rfl]
    unfold jacquardref14_Meet.f
    simp only [jacquardref14_span.f, Option.bind_some, rm, nor hz hz', nor ho ho', nand hZ hO]
    by_cases c : (z ||| z') &&& (o ||| o') = 0 ∧ ¬ (mx lo lo' > mn hi hi') ∧ ¬ (mx l l' > mn m m')
    · rw [if_pos c]
      obtain ⟨c1, c2, c3⟩ := c
      rw [if_neg c2, if_neg c3, Option.bind_some, if_pos rfl, c1]
      show jacquardref14_Meet.j0 (k + 300 + 1) w false ((z ||| z' : Nat) : Int) ((o ||| o' : Nat) : Int) (mx lo lo') (mn hi hi') (mx l l') (mn m m') = _
      rw [jacquardref14_Meet.j0, if_neg (by decide), jacquardref14_fact.f, Option.bind_some, e2, Option.bind_some]
    · rw [if_neg c]
      by_cases c2 : mx lo lo' > mn hi hi'
      · rw [if_pos c2, Option.bind_some, if_neg (by decide)]; exact T _ _ _ _ _ _
      · rw [if_neg c2]
        by_cases c3 : mx l l' > mn m m'
        · rw [if_pos c3, Option.bind_some, if_neg (by decide)]; exact T _ _ _ _ _ _
        · rw [if_neg c3, Option.bind_some, if_pos rfl]
          by_cases c1 : (z ||| z') &&& (o ||| o') = 0
          · exact absurd ⟨c1, c2, c3⟩ c
          · rw [show (((((z ||| z') &&& (o ||| o') : Nat) : Int)) != 0) = true by simpa using fun h => c1 (by omega)]; exact T _ _ _ _ _ _
  by_cases c : (z ||| z') &&& (o ||| o') = 0 ∧ ¬ (mx lo lo' > mn hi hi') ∧ ¬ (mx l l' > mn m m')
  · rw [if_pos c] at A B
    refine ⟨r, A, B, fun h1 h2 => ?_⟩
    obtain ⟨⟨k1, k2, k3, k4⟩, v0, v1, v2, v3, v4, v5⟩ := h1
    obtain ⟨⟨_, k2', k3', k4'⟩, _, v1', v2', v3', v4', v5'⟩ := h2
    have hFV : FV w (z ||| z') (o ||| o') (mx lo lo') (mn hi hi') (mx l l') (mn m m') := ⟨⟨k1, or_lt k2 k2', or_lt k3 k3', c.1⟩, k1, by omega, by omega, by omega, by omega, by omega⟩
    rcases hP.2 hFV with ⟨q1, q2⟩ | ⟨zz, oo, a, b, c', d, q1, q2, q3, _, _, _, _, _, _, q4⟩
    · exact .inl ⟨q1, fun x hx h => q2 x hx ((hb x).1 h)⟩
    · exact .inr ⟨zz, oo, a, b, c', d, q1, up (nn_le w) q2, up (nn_le w) q3, fun x hx => (q4 x hx).trans (hb x).symm⟩
  · rw [if_neg c] at A B
    refine ⟨_, A, B, fun h1 h2 => .inl ⟨rfl, fun x hx h => c ?_⟩⟩
    obtain ⟨g1, g2, g3, g4, g5⟩ := (hb x).1 h
    rw [disj] at g1
    rw [subs] at g2
    exact ⟨disj.2 fun i hi => g1 i ⟨g2 i hi.2, hi.1⟩, by omega, by omega⟩
end
theorem rleq_same (a b c d e f a' b' c' d' e' f' : Int) : jacquardref14_Leq.f a b c d e f a' b' c' d' e' f' = facts_Leq.f a b c d e f a' b' c' d' e' f' := rfl
theorem rjoin_same (a b c d e f a' b' c' d' e' f' : Int) : jacquardref14_Join.f a b c d e f a' b' c' d' e' f' = facts_Join.f a b c d e f a' b' c' d' e' f' := rfl
theorem leq_some (a b c d e f a' b' c' d' e' f' : Int) : ∃ t, facts_Leq.f a b c d e f a' b' c' d' e' f' = some t := by
  unfold facts_Leq.f knownbits_Leq.f
  simp only [facts_known.f, facts_span.f, Option.bind_some, tleq_eq]
  by_cases c1 : Go.bits .andNot .u64 a' a = 0
  · rw [if_pos c1, Option.bind_some]
    cases (Go.bits .andNot .u64 b' b == 0)
    · exact ⟨_, rfl⟩
    · exact ⟨_, rfl⟩
  · rw [if_neg c1]; exact ⟨_, rfl⟩
end Go.Proofs.Ytbiohdgeclokmaa.Ft
