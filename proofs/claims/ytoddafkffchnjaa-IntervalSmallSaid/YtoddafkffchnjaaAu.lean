import Derived.Test.YtoddafkffchnjaaAt
import Derived.Test.YtoddafkffchnjaaDf
/- Apply, by both packages: one result. -/
namespace Go.Proofs.Ytoddafkffchnjaa.Au
set_option linter.unusedVariables false
set_option linter.unusedSimpArgs false
set_option linter.unusedSectionVars false
open Go.RowKit Go.Proofs.Ytoddafkffchnjaa.P Go.Proofs.YtoddafkffchnjaaW.PrintWords Wd Im Iv Tg Lw0 Ap Cm Cn Ev Rf Aq Ar As At

/-- What the rounds end in. -/
def e1 (op w v : Int) (s : Bool) (a : S30) : R := if s = true then one (nn w) (castv op (nn w) (nn v) a.f0) else fitr w (core op (nn w) (nn v) (q a) (q a) (q a))
def e2 (op w v : Int) (s : Bool) (a b : S30) : R := if s = true then one (nn w) (if op ≤ 14 then bin op (nn w) a.f0 b.f0 else bin op (nn v) a.f0 b.f0) else fitr w (core op (nn w) (nn v) (q a) (q b) (q b))
def e3 (op w v : Int) (s : Bool) (a b d : S30) : R := if s = true then one (nn w) (if a.f0 = 1 then b.f0 else d.f0) else fitr w (core op (nn w) (nn v) (q a) (q b) (q d))
def ap (op w : Int) (ws : List Int) (args : List S30) (num : Int) : R :=
  match ws, args with
  | [v], [a] => g1 (top (nn w)) (e1 op w v) v a
  | [v, u], [a, b] => g2 (top (nn w)) (e2 op w v) v u a b
  | [v, u, x], [a, b, d] => g3 (top (nn w)) (e3 op w v) v u x a b d
  | _, _ => one (nn w) num
theorem core_two {op : Int} (ho : 2 ≤ op ∧ op ≤ 14) (n m : Nat) (a b c : R) : core op n m a b c = ((U op n a.1 a.2.1 b.1 b.2.1).1, (U op n a.1 a.2.1 b.1 b.2.1).2, (S op n a.2.2.1 a.2.2.2 b.2.2.1 b.2.2.2 b.1 b.2.1).1, (S op n a.2.2.1 a.2.2.2 b.2.2.1 b.2.2.2 b.1 b.2.1).2) := by
  unfold core; rw [if_neg (by omega), if_neg (by omega), if_neg (by omega)]
theorem core_cmp {op : Int} (ho : 15 ≤ op ∧ op ≤ 20) (n m : Nat) (a b c : R) : core op n m a b c = cmp op a.1 a.2.1 a.2.2.1 a.2.2.2 b.1 b.2.1 b.2.2.1 b.2.2.2 := by
  unfold core; rw [if_pos ho]
theorem core_cast {op : Int} (ho : 22 ≤ op) (n m : Nat) (a b c : R) : core op n m a b c = cast op n m a.1 a.2.1 a.2.2.1 a.2.2.2 := by
  unfold core; rw [if_neg (by omega), if_neg (by omega), if_pos ho]
theorem core_sel (n m : Nat) (a b c : R) : core 21 n m a b c = if a.1 = a.2.1 then (if a.1 = 1 then b else c) else join b c := by
  unfold core; rw [if_neg (by omega), if_pos rfl]
theorem bin_word {op : Int} {v : Int} (hv : 1 ≤ v ∧ v ≤ 64) {a b : S30} (ha : Ti v a) (hb : Ti v b) : 0 ≤ bin op (nn v) a.f0 b.f0 ∧ bin op (nn v) a.f0 b.f0 < 18446744073709551616 := by
  have hn := nn_of (w := v) (by omega) hv.2
  have h1 := word_of ha
  have h2 := word_of hb
  have := bin_range (op := op) (n := nn v) (by omega) h1.1 h1.2 h2.1 h2.2
  have := pow_le (nn_le v)
  omega
theorem bd_I {v : Int} {a : S30} (ha : Ti v a) : I64 a.f2 ∧ I64 a.f3 := by
  obtain ⟨hv, hb, _⟩ := ha
  exact bd_i64 (nn_le v) hb
theorem cast_range {op w v : Int} (hw : 1 ≤ w ∧ w ≤ 64) {a : S30} (ha : Ti v a) : 0 ≤ (cast op (nn w) (nn v) a.f0 a.f1 a.f2 a.f3).1 ∧ I64 (cast op (nn w) (nn v) a.f0 a.f1 a.f2 a.f3).2.2.1 ∧ I64 (cast op (nn w) (nn v) a.f0 a.f1 a.f2 a.f3).2.2.2 ∨ (op = 22 ∧ nn w < nn v) := by
  have hi := bd_I ha
  obtain ⟨hv, hb, h0⟩ := ha
  have hnw := nn_of (w := w) (by omega) hw.2
  have hp := pow_le63 (n := nn w - 1) (by have := nn_le w; omega)
  have hpp := pow_pos (nn w - 1)
  have h0 : 0 ≤ a.f0 := h0
  have hb : Bd (nn v) a.f0 a.f1 a.f2 a.f3 := hb
  unfold Ap.cast
  by_cases c : nn w = nn v
  · rw [if_pos c]; exact .inl ⟨h0, hi.1, hi.2⟩
  · rw [if_neg c]
    by_cases c2 : op = 22
    · rw [if_pos c2]
      rcases Nat.lt_or_ge (nn w) (nn v) with h | h
      · exact .inr ⟨c2, h⟩
      · left
        have := pow_le63 (n := nn v) (by have := nn_le w; omega)
        have h1 := hb.h1
        have h2 := hb.h2
        exact ⟨h0, by unfold I64; simp only []; omega, by unfold I64; simp only []; omega⟩
    · rw [if_neg c2]
      left
      by_cases c3 : op = 23
      · rw [if_pos c3]; exact ⟨Int.le_refl 0, hi.1, hi.2⟩
      · rw [if_neg c3]
        refine ⟨?_, ?_, ?_⟩
        · simp only []; split
          · exact h0
          · exact Int.le_refl 0
        · simp only []; split
          · exact hi.1
          · unfold I64; omega
        · simp only []; split
          · exact hi.2
          · unfold I64; omega
section
variable {op w num : Int} {ws : List Int} {args : List S30} (hs : Sh op w ws) (hl : args.length = ws.length) (hwf : ∀ a ∈ args, Wf a) (hnum : 0 ≤ num ∧ num < 18446744073709551616)
include hs hl hwf hnum
theorem ap_i {k : Nat} (hk : 100 < k) : interval_Apply.j0 (k + 5) op w ws args num false = some (ap op w ws args num) := by
  obtain ⟨hw, hws, hs⟩ := hs
  have hn := nn_of (w := w) (by omega) hw.2
  have h64 := nn_le w
  have hwn : w = (nn w : Int) := hn.symm
  rw [interval_Apply.j0, if_neg (by decide)]
  rcases hs with ⟨rfl, rfl⟩ | ⟨ho, rfl⟩ | ⟨ho, rfl, v, rfl⟩ | ⟨rfl, rfl⟩ | ⟨ho, v, rfl, hle⟩ | ⟨ho, v, rfl, hle⟩
  · rw [if_pos rfl, of_i hw hnum]
    match args, hl with
    | [], _ => rfl
  · match args, hl with
    | [a, b], _ =>
      rw [if_neg (by omega)]
      have hh : ∀ s a' b', Ti w a' → Ti w b' → interval_Apply.l0 (k + 2) op w [w, w] s [a', b'] [a, b] 2 2 = some (e2 op w w s a' b') := ?_
      · exact two_i (op := op) hw hw hw (hwf a (by simp)) (hwf b (by simp)) (k := k + 2) (by omega) hh
      intro s a' b' ha hb
      unfold e2
      cases s
      · have hsu := su (n := nn w) (by omega) h64 (alo := a'.f0) (blo := b'.f0) ha.2.2 hb.2.2 ha.2.1 hb.2.1 ho
        have e := fin_many_i hw (op := op) (ws := [w, w]) (args := [a, b]) (acc := [a', b']) (i := 2) (by simp) (k := k + 1) (by omega) (by
          obtain ⟨k, rfl⟩ : ∃ m, k = m + 12 := ⟨k - 12, by omega⟩
          exact two_eq hwn (by omega) h64 ho [w, w] a' b' ha.2 hb.2 (k + 1)) hsu.1 hsu.2
        refine (show _ = _ from e).trans ?_
        rw [if_neg (by decide), core_two ho]; rfl
      · have hv := value_two (op := op) (w := w) hw (by omega) ha hb (k := k + 1) (by omega)
        have e := fin_one_i hw (op := op) (ws := [w, w]) (args := [a, b]) (acc := [a', b']) (i := 2) (by simp) hv (bin_word hw ha hb)
        refine (show _ = _ from e).trans ?_
        rw [if_pos rfl, if_pos ho.2]
  · match args, hl with
    | [a, b], _ =>
      have hv : 1 ≤ v ∧ v ≤ 64 := hws v (by simp)
      rw [if_neg (by omega)]
      have hh : ∀ s a' b', Ti v a' → Ti v b' → interval_Apply.l0 (k + 2) op 1 [v, v] s [a', b'] [a, b] 2 2 = some (e2 op 1 v s a' b') := ?_
      · exact two_i (op := op) hw hv hv (hwf a (by simp)) (hwf b (by simp)) (k := k + 2) (by omega) hh
      intro s a' b' ha hb
      unfold e2
      cases s
      · have hr := cmp_range ho a'.f0 a'.f1 a'.f2 a'.f3 b'.f0 b'.f1 b'.f2 b'.f3
        have e := fin_many_i hw (op := op) (ws := [v, v]) (args := [a, b]) (acc := [a', b']) (i := 2) (by simp) (k := k + 1) (by omega) (by
          obtain ⟨k, rfl⟩ : ∃ m, k = m + 12 := ⟨k - 12, by omega⟩
          exact comp_cmp ho [v, v] a' b' (k + 1)) hr.1 hr.2
        refine (show _ = _ from e).trans ?_
        rw [if_neg (by decide), core_cmp ho]; rfl
      · have hv2 := value_two (op := op) (w := 1) hv (by omega) ha hb (k := k + 1) (by omega)
        have e := fin_one_i hw (op := op) (ws := [v, v]) (args := [a, b]) (acc := [a', b']) (i := 2) (by simp) hv2 (bin_word hv ha hb)
        refine (show _ = _ from e).trans ?_
        rw [if_pos rfl, if_neg (by omega)]
  · match args, hl with
    | [a, b, d], _ =>
      rw [if_neg (by decide)]
      have hh : ∀ s a' b' d', Ti 1 a' → Ti w b' → Ti w d' → interval_Apply.l0 (k + 1) 21 w [1, w, w] s [a', b', d'] [a, b, d] 3 3 = some (e3 21 w 1 s a' b' d') := ?_
      · exact three_i (op := 21) (v := 1) hw (by decide) hw hw (hwf a (by simp)) (hwf b (by simp)) (hwf d (by simp)) (k := k + 1) (by omega) hh
      intro s a' b' d' ha hb hd
      unfold e3
      cases s
      · have hr : 0 ≤ (core 21 (nn w) 1 (q a') (q b') (q d')).1 ∧ I64 (core 21 (nn w) 1 (q a') (q b') (q d')).2.2.1 ∧ I64 (core 21 (nn w) 1 (q a') (q b') (q d')).2.2.2 := by
          have ib := bd_I hb
          have id := bd_I hd
          have zb := hb.2.2
          have zd := hd.2.2
          have f1 := mn_facts b'.f0 d'.f0
          have f3 := mn_facts b'.f2 d'.f2
          have f4 := mx_facts b'.f3 d'.f3
          rw [core_sel]
          split
          · split
            · exact ⟨zb, ib.1, ib.2⟩
            · exact ⟨zd, id.1, id.2⟩
          · unfold I64 at *
            simp only [join, q] at *
            omega
        have e := fin_many_i hw (op := 21) (ws := [1, w, w]) (args := [a, b, d]) (acc := [a', b', d']) (i := 3) (by simp) (k := k) (by omega) (by
          obtain ⟨k, rfl⟩ : ∃ m, k = m + 12 := ⟨k - 12, by omega⟩
          exact comp_sel [1, w, w] a' b' d' k) hr.1 hr.2
        refine (show _ = _ from e).trans ?_
        rw [if_neg (by decide)]; rfl
      · have hv2 := value_sel (w := w) (ws := [1, w, w]) (b := b') (c := d') ha k
        have zb := word_of hb
        have zd := word_of hd
        have := pow_le (nn_le w)
        have e := fin_one_i hw (op := 21) (ws := [1, w, w]) (args := [a, b, d]) (acc := [a', b', d']) (i := 3) (by simp) hv2 (by split <;> omega)
        refine (show _ = _ from e).trans ?_
        rw [if_pos rfl]
  all_goals
    match args, hl with
    | [a], _ =>
      have hv : 1 ≤ v ∧ v ≤ 64 := hws v (by simp)
      have hnv := nn_of (w := v) (by omega) hv.2
      rw [if_neg (by omega)]
      have hh : ∀ s a', Ti v a' → interval_Apply.l0 (k + 3) op w [v] s [a'] [a] 1 1 = some (e1 op w v s a') := ?_
      · exact one_i (op := op) hw hv (hwf a (by simp)) (k := k + 3) (by omega) hh
      intro s a' ha
      unfold e1
      have ho' : (op = 22 ∧ nn v ≤ nn w) ∨ (op = 23 ∧ nn v ≤ nn w) ∨ (op = 24 ∧ nn w ≤ nn v) := by omega
      cases s
      · have hr : 0 ≤ (cast op (nn w) (nn v) a'.f0 a'.f1 a'.f2 a'.f3).1 ∧ I64 (cast op (nn w) (nn v) a'.f0 a'.f1 a'.f2 a'.f3).2.2.1 ∧ I64 (cast op (nn w) (nn v) a'.f0 a'.f1 a'.f2 a'.f3).2.2.2 := by
          rcases cast_range (op := op) hw ha with h | h
          · exact h
          · omega
        have e := fin_many_i hw (op := op) (ws := [v]) (args := [a]) (acc := [a']) (i := 1) (by simp) (k := k + 2) (by omega) (by
          obtain ⟨k, rfl⟩ : ∃ m, k = m + 12 := ⟨k - 12, by omega⟩
          exact comp_cast hwn hnv.symm (by omega) (by omega) h64 ho' a' ha.2 (k + 2)) hr.1 hr.2
        refine (show _ = _ from e).trans ?_
        rw [if_neg (by decide), core_cast (by omega)]; rfl
      · obtain ⟨x, h1, h2, h3⟩ := value_cast (op := op) (v := v) hw (by omega) ha (k := k + 2) (by omega)
        have e := fin_one_i hw (op := op) (ws := [v]) (args := [a]) (acc := [a']) (i := 1) (by simp) h1 h2
        refine (show _ = _ from e).trans ?_
        rw [if_pos rfl, h3]
end
end Go.Proofs.Ytoddafkffchnjaa.Au
