import Derived.Test.YtoddafkffchnjaaAu
import Derived.Test.YtoddafkffchnjaaDf
/- Apply of the reference: the same result. -/
namespace Go.Proofs.Ytoddafkffchnjaa.Av
set_option linter.unusedVariables false
set_option linter.unusedSimpArgs false
set_option linter.unusedSectionVars false
open Go.RowKit Go.Proofs.Ytoddafkffchnjaa.P Go.Proofs.YtoddafkffchnjaaW.PrintWords Wd Im Iv Tg Lw0 Ap Cm Cn Ev Rf Aq Ar As At Au

section
variable {op w num : Int} {ws : List Int} {args : List S30} (hs : Sh op w ws) (hl : args.length = ws.length) (hwf : ∀ a ∈ args, Wf a) (hnum : 0 ≤ num ∧ num < 18446744073709551616)
include hs hl hwf hnum
theorem ap_r {k : Nat} (hk : 120 < k) : jacquardref13_Apply.j0 (k + 9) op w ws args num false = some (ap op w ws args num) := by
  obtain ⟨hw, hws, hs⟩ := hs
  have hn := nn_of (w := w) (by omega) hw.2
  have h64 := nn_le w
  have hwn : w = (nn w : Int) := hn.symm
  have hpw := pow_le h64
  rw [jacquardref13_Apply.j0, if_neg (by decide)]
  rcases hs with ⟨rfl, rfl⟩ | ⟨ho, rfl⟩ | ⟨ho, rfl, v, rfl⟩ | ⟨rfl, rfl⟩ | ⟨ho, v, rfl, hle⟩ | ⟨ho, v, rfl, hle⟩
  · match args, hl with
    | [], _ =>
      have e := fin_one_r hw (op := 1) (ws := []) (args := []) (acc := []) (words := []) (num := num) (i := 0) (by simp) (k := k + 7) (by omega) (eval_const hwn h64 [] [] hnum (by omega)) (mod_U h64 num)
      refine (show _ = _ from e).trans ?_
      show some (one (nn w) (num % 2 ^ nn w)) = some (one (nn w) num)
      unfold one; rw [sg_fit, Int.emod_emod_of_dvd _ (Int.dvd_refl _)]
  · match args, hl with
    | [a, b], _ =>
      have hh : ∀ s a' b', Ti w a' → Ti w b' → jacquardref13_Apply.l0 (k + 6) op w [w, w] [a, b] num [a', b'] [a'.f0, b'.f0] s 2 = some (e2 op w w s a' b') := ?_
      · exact two_r (op := op) hw hw hw (hwf a (by simp)) (hwf b (by simp)) (k := k + 6) (by omega) hh
      intro s a' b' ha hb
      unfold e2
      cases s
      · have hsu := su (n := nn w) (by omega) h64 (alo := a'.f0) (ahi := a'.f1) (al := a'.f2) (am := a'.f3) (blo := b'.f0) (bhi := b'.f1) (bl := b'.f2) (bm := b'.f3) ha.2.2 hb.2.2 ha.2.1 hb.2.1 ho
        have hU := unsigned_eq hwn (by omega) h64 (alo := a'.f0) (ahi := a'.f1) (al := a'.f2) (am := a'.f3) (blo := b'.f0) (bhi := b'.f1) (bl := b'.f2) (bm := b'.f3) ha.2.2 hb.2.2 ha.2.1 hb.2.1 (k := k + 3) (by omega) ho
        have hS := signed_eq' hwn (by omega) h64 (alo := a'.f0) (ahi := a'.f1) (al := a'.f2) (am := a'.f3) (blo := b'.f0) (bhi := b'.f1) (bl := b'.f2) (bm := b'.f3) ha.2.2 hb.2.2 ha.2.1 hb.2.1 (k := k + 3) (by omega) ho
        have hj : ∀ b, b = false → jacquardref13_Apply.j2 (k + 5) op w [w, w] [a', b'] b = some (fitr w (core op (nn w) (nn w) (q a') (q b') (q b'))) := by
          intro b hb
          subst hb
          rw [jacquardref13_Apply.j2, if_neg (by decide), if_neg (by omega), jacquardref13_Apply.j3, if_neg (by decide), if_neg (by omega), if_neg (by simp), if_pos (by simp), if_pos (by simp), show rd_T30 [a', b'] 0 = a' from rfl, show rd_T30 [a', b'] 1 = b' from rfl, hU, Option.bind_some, hS, Option.bind_some]
          have e := fit_r hw (r := ((U op (nn w) a'.f0 a'.f1 b'.f0 b'.f1).1, (U op (nn w) a'.f0 a'.f1 b'.f0 b'.f1).2, (S op (nn w) a'.f2 a'.f3 b'.f2 b'.f3 b'.f0 b'.f1).1, (S op (nn w) a'.f2 a'.f3 b'.f2 b'.f3 b'.f0 b'.f1).2)) hsu.1 hsu.2 (k := k + 2) (by omega)
          rw [core_two ho]
          exact e
        rw [jacquardref13_Apply.l0, if_neg (by simp), if_neg (by decide), if_neg (by omega), if_neg (by decide), hj _ rfl]
      · have e := fin_one_r hw (op := op) (ws := [w, w]) (args := [a, b]) (acc := [a', b']) (words := [a'.f0, b'.f0]) (num := num) (i := 2) (by simp) (k := k + 5) (by omega) (eval_bin hwn (by omega) h64 ho [w, w] (word_of ha) (word_of hb) num (by omega)) (bin_word hw ha hb)
        refine (show _ = _ from e).trans ?_
        rw [if_pos rfl, if_pos ho.2]
  · match args, hl with
    | [a, b], _ =>
      have hv : 1 ≤ v ∧ v ≤ 64 := hws v (by simp)
      have hnv := nn_of (w := v) (by omega) hv.2
      have hh : ∀ s a' b', Ti v a' → Ti v b' → jacquardref13_Apply.l0 (k + 6) op 1 [v, v] [a, b] num [a', b'] [a'.f0, b'.f0] s 2 = some (e2 op 1 v s a' b') := ?_
      · exact two_r (op := op) hw hv hv (hwf a (by simp)) (hwf b (by simp)) (k := k + 6) (by omega) hh
      intro s a' b' ha hb
      unfold e2
      cases s
      · rw [jacquardref13_Apply.l0, if_neg (by simp), if_neg (by decide), if_pos (show op ≥ 15 from ho.1), decide_eq_true ho.2, jacquardref13_Apply.j2, if_pos rfl, if_pos (by simp), if_pos (by simp), show rd_T30 [a', b'] 0 = a' from rfl, show rd_T30 [a', b'] 1 = b' from rfl, rcompare ho _ _ _ _ _ _ _ _ (by omega), Option.bind_some, if_neg (by decide), core_cmp ho]
        have e1 : nn 1 = 1 := by decide
        exact congrArg some (fit_cmp ho _ _ _ _ _ _ _ _).symm
      · have e := fin_one_r hw (op := op) (ws := [v, v]) (args := [a, b]) (acc := [a', b']) (words := [a'.f0, b'.f0]) (num := num) (i := 2) (by simp) (k := k + 5) (by omega) (eval_cmp ho 1 hnv.symm (by omega) (nn_le v) (word_of ha) (word_of hb) num (by omega)) (bin_word hv ha hb)
        refine (show _ = _ from e).trans ?_
        rw [if_pos rfl, if_neg (by omega)]
  · match args, hl with
    | [a, b, d], _ =>
      have hh : ∀ s a' b' d', Ti 1 a' → Ti w b' → Ti w d' → jacquardref13_Apply.l0 (k + 5) 21 w [1, w, w] [a, b, d] num [a', b', d'] [a'.f0, b'.f0, d'.f0] s 3 = some (e3 21 w 1 s a' b' d') := ?_
      · exact three_r (op := 21) (v := 1) hw (by decide) hw hw (hwf a (by simp)) (hwf b (by simp)) (hwf d (by simp)) (k := k + 5) (by omega) hh
      intro s a' b' d' ha hb hd
      unfold e3
      have ib := bd_I hb
      have id := bd_I hd
      have zb := hb.2.2
      have zd := hd.2.2
      cases s
      · have wa := word_of ha
        have e1 : nn 1 = 1 := by decide
        rw [e1] at wa
        have hx : a'.f0 = 0 ∨ a'.f0 = 1 := by omega
        rw [jacquardref13_Apply.l0, if_neg (by simp), if_neg (by decide), if_pos (by decide), show decide ((21 : Int) ≤ 20) = false from rfl, jacquardref13_Apply.j2, if_neg (by decide), if_pos rfl, if_pos (by simp), show rd_T30 [a', b', d'] 0 = a' from rfl, jacquardref13_Apply.j3, if_neg (show ¬ (false = true) by decide), core_sel]
        by_cases c : a'.f0 = a'.f1
        · rw [if_pos (by simpa using c), if_pos (by simp), show rd_T30 [a', b', d'] 0 = a' from rfl]
          show _ = some (fitr w (if a'.f0 = a'.f1 then (if a'.f0 = 1 then q b' else q d') else join (q b') (q d')))
          rw [if_pos c]
          rcases hx with hx | hx
          · rw [hx, show wrap64 (2 - wrap64 0) = 2 by decide +kernel, if_pos (by decide), if_pos (by simp), show rd_T30 [a', b', d'] 2 = d' from rfl, if_neg (by decide)]
            exact fit_r hw (r := q d') zd id (k := k + 1) (by omega)
          · rw [hx, show wrap64 (2 - wrap64 1) = 1 by decide +kernel, if_pos (by decide), if_pos (by simp), show rd_T30 [a', b', d'] 1 = b' from rfl, if_pos rfl]
            exact fit_r hw (r := q b') zb ib (k := k + 1) (by omega)
        · rw [if_neg (by simpa using c), if_pos rfl, if_pos (by simp), if_pos (by simp), show rd_T30 [a', b', d'] 1 = b' from rfl, show rd_T30 [a', b', d'] 2 = d' from rfl]
          show _ = some (fitr w (if a'.f0 = a'.f1 then (if a'.f0 = 1 then q b' else q d') else join (q b') (q d')))
          rw [if_neg c]
          have f1 := mn_facts b'.f0 d'.f0
          have f3 := mn_facts b'.f2 d'.f2
          have f4 := mx_facts b'.f3 d'.f3
          have hr : 0 ≤ (join (q b') (q d')).1 ∧ I64 (join (q b') (q d')).2.2.1 ∧ I64 (join (q b') (q d')).2.2.2 := by
            unfold I64 at *
            simp only [join, q] at *
            omega
          exact fit_r hw (r := join (q b') (q d')) hr.1 hr.2 (k := k + 1) (by omega)
      · have wb := word_of hb
        have wd := word_of hd
        have e := fin_one_r hw (op := 21) (ws := [1, w, w]) (args := [a, b, d]) (acc := [a', b', d']) (words := [a'.f0, b'.f0, d'.f0]) (num := num) (i := 3) (by simp) (k := k + 4) (by omega) (eval_select w [1, w, w] a'.f0 b'.f0 d'.f0 num (by omega)) (by split <;> omega)
        refine (show _ = _ from e).trans ?_
        rw [if_pos rfl]
  all_goals
    match args, hl with
    | [a], _ =>
      have hv : 1 ≤ v ∧ v ≤ 64 := hws v (by simp)
      have hnv := nn_of (w := v) (by omega) hv.2
      have hh : ∀ s a', Ti v a' → jacquardref13_Apply.l0 (k + 7) op w [v] [a] num [a'] [a'.f0] s 1 = some (e1 op w v s a') := ?_
      · exact one_r (op := op) hw hv (hwf a (by simp)) (k := k + 7) (by omega) hh
      intro s a' ha
      unfold e1
      have ho' : (op = 22 ∧ nn v ≤ nn w) ∨ (op = 23 ∧ nn v ≤ nn w) ∨ (op = 24 ∧ nn w ≤ nn v) := by omega
      cases s
      · have hr : 0 ≤ (cast op (nn w) (nn v) a'.f0 a'.f1 a'.f2 a'.f3).1 ∧ I64 (cast op (nn w) (nn v) a'.f0 a'.f1 a'.f2 a'.f3).2.2.1 ∧ I64 (cast op (nn w) (nn v) a'.f0 a'.f1 a'.f2 a'.f3).2.2.2 := by
          rcases cast_range (op := op) hw ha with h | h
          · exact h
          · omega
        rw [jacquardref13_Apply.l0, if_neg (by simp), if_neg (by decide), if_pos (by omega), decide_eq_false (by omega), jacquardref13_Apply.j2, if_neg (by decide), if_neg (by omega), jacquardref13_Apply.j3, if_neg (by decide), if_neg (by omega), if_pos (by simp), if_pos (by simp), if_pos (by simp), show rd [v] 0 = v from rfl, show rd_T30 [a'] 0 = a' from rfl, rcast hwn hnv.symm (by omega) (by omega) h64 ho' (alo := a'.f0) (ahi := a'.f1) (al := a'.f2) (am := a'.f3) ha.2.2 ha.2.1 (by omega), Option.bind_some, if_neg (by decide), core_cast (by omega)]
        exact fit_r hw (r := cast op (nn w) (nn v) a'.f0 a'.f1 a'.f2 a'.f3) hr.1 hr.2 (k := k + 3) (by omega)
      · have hc : 0 ≤ castv op (nn w) (nn v) a'.f0 ∧ castv op (nn w) (nn v) a'.f0 < 18446744073709551616 := by
          unfold castv; split
          · exact mod_U h64 _
          · exact mod_U h64 _
        have e := fin_one_r hw (op := op) (ws := [v]) (args := [a]) (acc := [a']) (words := [a'.f0]) (num := num) (i := 1) (by simp) (k := k + 6) (by omega) (eval_cast (by omega) hwn (by omega) h64 hnv.symm (by omega) (nn_le v) (word_of ha) num (by omega)) hc
        refine (show _ = _ from e).trans ?_
        rw [if_pos rfl]
end
/-- The range of a width that is none. -/
def topx (w : Int) : R := if 1 ≤ w ∧ w ≤ 64 then top (nn w) else (0, 0, 0, 0)
theorem topx_i (w : Int) : interval_Top.f w = some (topx w) := top_eq w
theorem topx_r (w : Int) {k : Nat} (hk : 72 < k) : jacquardref13_Top.f k w = some (topx w) := by
  obtain ⟨k, rfl⟩ : ∃ m, k = m + 1 := ⟨k - 1, by omega⟩
  unfold topx
  by_cases c : 1 ≤ w ∧ w ≤ 64
  · have hn := nn_of (w := w) (by omega) c.2
    rw [if_pos c, rtop (w := w) (n := nn w) hn.symm (by omega) (nn_le w) (by omega)]
  · rw [if_neg c]
    unfold jacquardref13_Top.f
    by_cases c1 : w < 1
    · rw [if_pos c1, jacquardref13_Top.j0, if_pos rfl]
    · rw [if_neg c1, decide_eq_true (show w > 64 by omega), jacquardref13_Top.j0, if_pos rfl]
/-- Apply of both packages. -/
theorem both {op w num : Int} {ws : List Int} {args : List S30} (h1 : ws.length ≤ 8) (h2 : args.length ≤ 8) (hwf : ∀ a ∈ args, Wf a) (hnum : 0 ≤ num ∧ num < 18446744073709551616) :
    ∃ r, interval_Apply.f 200 op w ws args num = some r ∧ jacquardref13_Apply.f 200 op w ws args num = some r := by
  unfold interval_Apply.f jacquardref13_Apply.f
  rw [shaped_eq op w ws h1 (by decide), rshape_eq op w ws h1 (by decide), Option.bind_some, Option.bind_some]
  have it : interval_Apply.j0 200 op w ws args num true = some (topx w) := by rw [interval_Apply.j0, if_pos rfl, topx_i]; rfl
  have rt : jacquardref13_Apply.j0 200 op w ws args num true = some (topx w) := by rw [jacquardref13_Apply.j0, if_pos rfl, topx_r w (by decide)]; rfl
  by_cases c : shb op w ws = true
  · rw [if_pos c, if_pos c]
    by_cases c2 : args.length = ws.length
    · have e : ((args.length : Int) != (ws.length : Int)) = false := by rw [c2]; simp
      rw [e]
      exact ⟨_, ap_i (sh_of c) c2 hwf hnum (k := 195) (by decide), ap_r (sh_of c) c2 hwf hnum (k := 191) (by decide)⟩
    · have e : ((args.length : Int) != (ws.length : Int)) = true := by rw [bne_iff_ne]; omega
      rw [e]; exact ⟨_, it, rt⟩
  · rw [if_neg c, if_neg c]; exact ⟨_, it, rt⟩
end Go.Proofs.Ytoddafkffchnjaa.Av
