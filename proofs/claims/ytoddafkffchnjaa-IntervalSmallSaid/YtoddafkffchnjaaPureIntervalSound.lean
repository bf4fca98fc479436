import Derived.Test.YtoddafkffchnjaaAw
import Derived.Test.YtoddafkffchnjaaPureIntervalApply
import Derived.Test.YtoddafkffchnjaaDf
/- IntervalSound in plain Lean. -/
namespace Go.Proofs.Ytoddafkffchnjaa.Pure
set_option linter.unusedVariables false
set_option linter.unusedSimpArgs false
set_option linter.unusedSectionVars false
open Go.RowKit Go.Proofs.Ytoddafkffchnjaa.P Go.Proofs.YtoddafkffchnjaaW.PrintWords Wd Im Iv Tg Lw0 Ap Cm Cn Ev Rf Aq Ar As At Au Av Aw
theorem rcontains_eq (w lo hi l m : Int) {x : Int} (hx : 0 ≤ x ∧ x < 18446744073709551616) {k : Nat} (hk : 66 < k) : jacquardref13_Contains.f k w lo hi l m x = some (decide (Contains w lo hi l m x)) := by
  unfold jacquardref13_Contains.f
  by_cases c1 : w < 1
  · rw [if_pos c1, decide_eq_false (fun h => by have := h.1; omega)]
  rw [if_neg c1]
  by_cases c2 : w > 64
  · rw [if_pos c2, decide_eq_false (fun h => by have := h.1; omega)]
  have h : 1 ≤ w ∧ w ≤ 64 := by omega
  rw [if_neg c2, umax_eq (by omega) (by omega), Option.bind_some]
  by_cases c3 : x > 2 ^ nn w - 1
  · rw [if_pos c3, decide_eq_false (fun h => by have := h.2.1; omega)]
  rw [if_neg c3, rsg_eq h hx.1 (by omega) (by omega), Option.bind_some]
  have c3' : x ≤ 2 ^ nn w - 1 := by omega
  by_cases h2 : lo ≤ x <;> by_cases h3 : x ≤ hi <;> by_cases h4 : l ≤ sg (nn w) x <;> simp [Contains, h, c3', h2, h3, h4]
theorem hd_of {v x : Int} {a : S30} (hx : 0 ≤ x) (h : Contains v a.f0 a.f1 a.f2 a.f3 x) : Hd v a x := by
  obtain ⟨_, h1, h2, h3, h4, h5⟩ := h
  exact ⟨⟨hx, by omega⟩, h2, h3, h4, h5⟩
/-- The word that is picked, and whether the range holds it. -/
theorem word_eq {v : Int} {a : S30} (hv : 1 ≤ v ∧ v ≤ 64) (ha : Wf a) (h1 : 0 ≤ a.f1 ∧ a.f1 < 18446744073709551616) {p : Int} (hp : 0 ≤ p ∧ p < 18446744073709551616) {k : Nat} (hk : 66 < k) :
    ∃ x b, jacquardlaw13_word.f k v a.f0 a.f1 a.f2 a.f3 p = some (x, b) ∧ (b = true → Hd v a x) := by
  have e64 : nn 64 = 64 := by decide
  have m64 : jacquardref12_Mask.f k 64 = some 18446744073709551615 := by rw [rmask_eq (by decide) (by omega), e64]; rfl
  unfold jacquardlaw13_word.f
  rw [rmask_eq (w := v) (by omega) (by omega), Option.bind_some, m64, Option.bind_some]
  by_cases c : IntKind.u64.wrap (a.f1 - a.f0) < 18446744073709551615
  · have hs : IntKind.u64.wrap (IntKind.u64.wrap (a.f1 - a.f0) + 1) = IntKind.u64.wrap (a.f1 - a.f0) + 1 := by
      rw [wrap_u64] at c ⊢; rw [wrap_u64]; omega
    have h0 : 0 ≤ IntKind.u64.wrap (a.f1 - a.f0) := by rw [wrap_u64]; omega
    rw [if_pos c, hs, if_neg (by omega)]
    have hx : 0 ≤ IntKind.u64.wrap (a.f0 + Int.tmod p (IntKind.u64.wrap (a.f1 - a.f0) + 1)) ∧ IntKind.u64.wrap (a.f0 + Int.tmod p (IntKind.u64.wrap (a.f1 - a.f0) + 1)) < 18446744073709551616 := by rw [wrap_u64]; omega
    rw [rcontains_eq _ _ _ _ _ hx hk, Option.bind_some]
    exact ⟨_, _, rfl, fun h => hd_of hx.1 (of_decide_eq_true h)⟩
  · rw [if_neg c, and_mask (nn_le v) hp]
    have hm := mod_lt (nn v) p
    have hU := mod_U (nn_le v) p
    rw [rcontains_eq _ _ _ _ _ hU hk, Option.bind_some]
    exact ⟨_, _, rfl, fun h => hd_of hm.1 (of_decide_eq_true h)⟩
theorem rd_T {args : List S30} {i : Nat} (h : i < args.length) : rd_T30 args (i : Int) = args[i] := by
  unfold rd_T30; rw [Int.toNat_natCast, List.getD_eq_getElem?_getD, List.getElem?_eq_getElem h]; rfl
/-- What 'right' says. -/
def Rt (op w : Int) (ws : List Int) (args : List S30) : Prop := (ws.length ≤ 8 ∧ args.length ≤ 8) ∧ shb op w ws = true ∧ args.length = ws.length ∧ ∀ (i : Nat) (h : i < args.length) (h2 : i < ws.length), Valid ws[i] args[i].f0 args[i].f1 args[i].f2 args[i].f3
theorem right_loop {op w num : Int} {ws : List Int} {args : List S30} (hl : args.length = ws.length) (h8 : args.length ≤ 8) (d : Nat) : ∀ (k i : Nat), i + d = args.length → d + 70 < k →
    ∃ b, jacquardlaw13_right.l0 k args (args.length : Int) i op w ws args num = some b ∧ (b = true → ∀ (j : Nat) (h : j < args.length) (h2 : j < ws.length), i ≤ j → Valid ws[j] args[j].f0 args[j].f1 args[j].f2 args[j].f3) := by
  induction d with
  | zero =>
    intro k i hi hk
    obtain ⟨k, rfl⟩ : ∃ m, k = m + 1 := ⟨k - 1, by omega⟩
    rw [jacquardlaw13_right.l0, if_neg (by omega)]
    exact ⟨true, rfl, fun _ j h _ hij => by omega⟩
  | succ d ih =>
    intro k i hi hk
    obtain ⟨k, rfl⟩ : ∃ m, k = m + 1 := ⟨k - 1, by omega⟩
    have hlt : i < args.length := by omega
    have hlt2 : i < ws.length := by omega
    rw [jacquardlaw13_right.l0, if_pos (by omega), if_pos (by omega), if_pos (by omega), if_pos (by omega), rd_at hlt2, rd_T hlt, rvalid_eq _ _ _ _ _ (by omega), Option.bind_some]
    by_cases c : Valid ws[i] args[i].f0 args[i].f1 args[i].f2 args[i].f3
    · rw [if_pos (decide_eq_true c), show wrap64 ((i : Int) + 1) = ((i + 1 : Nat) : Int) by rw [wrap64_id (by omega) (by omega)]; omega]
      obtain ⟨b, e, hb⟩ := ih k (i + 1) (by omega) (by omega)
      refine ⟨b, e, fun h j hj hj2 hij => ?_⟩
      rcases Nat.lt_or_ge i j with h3 | h3
      · exact hb h j hj hj2 h3
      · obtain rfl : i = j := by omega
        exact c
    · rw [if_neg (by simpa using c)]
      exact ⟨false, rfl, fun h => by cases h⟩
theorem right_eq {op w num : Int} {ws : List Int} {args : List S30} (m : Nat) : ∃ b, jacquardlaw13_right.f (m + 200) op w ws args num = some b ∧ (b = true → Rt op w ws args) := by
  unfold jacquardlaw13_right.f
  rw [few_eq, Option.bind_some]
  have bad : jacquardlaw13_right.j0 (m + 200) true op w ws args num = some false := by rw [jacquardlaw13_right.j0, if_pos rfl]
  by_cases c : (ws.length : Int) ≤ 8 ∧ (args.length : Int) ≤ 8
  · rw [if_pos (decide_eq_true c), rshape_eq op w ws (by omega) (by omega), Option.bind_some]
    by_cases c2 : shb op w ws = true
    · rw [if_pos c2]
      by_cases c3 : args.length = ws.length
      · rw [show ((args.length : Int) != (ws.length : Int)) = false by rw [c3]; simp, jacquardlaw13_right.j0, if_neg (by decide)]
        obtain ⟨b, e, hb⟩ := right_loop (op := op) (w := w) (num := num) (ws := ws) (args := args) c3 (by omega) args.length (m + 199) 0 (by omega) (by omega)
        exact ⟨b, e, fun h => ⟨by omega, c2, c3, fun i h1 h2 => hb h i h1 h2 (Nat.zero_le _)⟩⟩
      · rw [show ((args.length : Int) != (ws.length : Int)) = true by rw [bne_iff_ne]; omega]
        exact ⟨false, bad, fun h => by cases h⟩
    · rw [if_neg c2]; exact ⟨false, bad, fun h => by cases h⟩
  · rw [if_neg (by simpa using c)]; exact ⟨false, bad, fun h => by cases h⟩
theorem hds_snoc : ∀ {ws : List Int} {args : List S30} {xs : List Int} {v : Int} {a : S30} {x : Int}, Hds ws args xs → Hd v a x → Hds (ws ++ [v]) (args ++ [a]) (xs ++ [x])
  | [], args, xs, v, a, x, h, hx => by obtain ⟨rfl, rfl⟩ := hds0 h; exact ⟨hx, trivial⟩
  | u :: ws, args, xs, v, a, x, h, hx => by
    obtain ⟨b, l, y, ys, rfl, rfl, h1, h2⟩ := hdsS h
    exact ⟨h1, hds_snoc h2 hx⟩
theorem hds_len : ∀ {ws : List Int} {args : List S30} {xs : List Int}, Hds ws args xs → xs.length = ws.length
  | [], args, xs, h => by obtain ⟨rfl, rfl⟩ := hds0 h; rfl
  | u :: ws, args, xs, h => by
    obtain ⟨b, l, y, ys, rfl, rfl, h1, h2⟩ := hdsS h
    simp [hds_len h2]
section
variable {op w num : Int} {ws : List Int} {args : List S30} {picks : List Int} (hr : Rt op w ws args) (hwf : ∀ a ∈ args, Wf a) (hw1 : ∀ a ∈ args, 0 ≤ a.f1 ∧ a.f1 < 18446744073709551616) (hnum : 0 ≤ num ∧ num < 18446744073709551616) (hpk : ∀ p ∈ picks, 0 ≤ p ∧ p < 18446744073709551616) (hpl : picks.length ≤ 140737488351232)
include hr hwf hw1 hnum hpk hpl
theorem sound_end {xs : List Int} (h : Hds ws args xs) {i : Int} (hi : ¬ i < (args.length : Int)) : jacquardlaw13_IntervalSound.l0 201 picks xs args (args.length : Int) i op w ws args num = some true := by
  obtain ⟨⟨h8, h8'⟩, hsb, hl, hv⟩ := hr
  have hs := sh_of hsb
  obtain ⟨e, he, h0, hb, hin⟩ := sound_ap hs hwf hnum h (k := 200) (by decide)
  have hA : interval_Apply.f 200 op w ws args num = some (ap op w ws args num) := by
    unfold interval_Apply.f
    rw [shaped_eq op w ws h8 (by decide), Option.bind_some, if_pos hsb, show ((args.length : Int) != (ws.length : Int)) = false by rw [hl]; simp]
    exact ap_i hs hl hwf hnum (k := 195) (by decide)
  have hw := hs.1
  have hn := nn_of (w := w) (by omega) hw.2
  have hp := pow_le (nn_le w)
  rw [jacquardlaw13_IntervalSound.l0, if_neg hi, hA, Option.bind_some, valid_eq, Option.bind_some]
  generalize ap op w ws args num = r at *
  obtain ⟨hb, hz⟩ := hb
  have hV : Valid w r.1 r.2.1 r.2.2.1 r.2.2.2 := ⟨hw, hb.h1, hb.h2, hb.h3, hb.h4, hb.h5⟩
  have hC : Contains w r.1 r.2.1 r.2.2.1 r.2.2.2 e := ⟨hw, by omega, hin.1, hin.2.1, hin.2.2.1, hin.2.2.2⟩
  rw [if_pos (decide_eq_true hV), he, Option.bind_some, contains_eq _ _ _ _ _ (by omega), Option.bind_some, decide_eq_true hC]
theorem sound_loop (d : Nat) : ∀ (i : Nat) (xs : List Int), i + d = args.length → Hds (ws.take i) (args.take i) xs → jacquardlaw13_IntervalSound.l0 (d + 201) picks xs args (args.length : Int) i op w ws args num = some true := by
  have hr' := hr
  obtain ⟨⟨h8, h8'⟩, hsb, hl, hv⟩ := hr'
  induction d with
  | zero =>
    intro i xs hi h
    rw [List.take_of_length_le (by omega), List.take_of_length_le (by omega)] at h
    exact sound_end hr hwf hw1 hnum hpk hpl h (by omega)
  | succ d ih =>
    intro i xs hi h
    have hlt : i < args.length := by omega
    have hlt2 : i < ws.length := by omega
    have hmem : args[i] ∈ args := List.getElem_mem hlt
    have hvi := hv i hlt hlt2
    have hlen := hds_len h
    rw [List.length_take] at hlen
    have nxt : ∀ x, Hd ws[i] args[i] x → jacquardlaw13_IntervalSound.l0 (d + 201) picks (xs ++ [x]) args (args.length : Int) (wrap64 ((i : Int) + 1)) op w ws args num = some true := by
      intro x hx
      rw [show wrap64 ((i : Int) + 1) = ((i + 1 : Nat) : Int) by rw [wrap64_id (by omega) (by omega)]; omega]
      refine ih (i + 1) (xs ++ [x]) (by omega) ?_
      rw [List.take_succ_eq_append_getElem hlt, List.take_succ_eq_append_getElem hlt2]
      exact hds_snoc h hx
    rw [show d + 1 + 201 = (d + 201) + 1 by omega, jacquardlaw13_IntervalSound.l0, if_pos (by omega), if_pos (by omega), if_pos (by omega), rd_T hlt]
    by_cases c : (i : Int) < (picks.length : Int)
    · have hc : i < picks.length := by omega
      obtain ⟨x, b, e, hb⟩ := word_eq (v := ws[i]) (a := args[i]) hvi.1 (hwf _ hmem) (hw1 _ hmem) (p := picks[i]) (hpk _ (List.getElem_mem hc)) (k := d + 201) (by omega)
      rw [if_pos c, if_pos (by omega), rd_at hlt2, rd_at hc, e, Option.bind_some]
      cases b
      · rw [if_neg (by simp)]
      · rw [if_pos rfl, if_pos (by omega)]; exact nxt x (hb rfl)
    · obtain ⟨x, b, e, hb⟩ := word_eq (v := ws[i]) (a := args[i]) hvi.1 (hwf _ hmem) (hw1 _ hmem) (p := 0) (by decide) (k := d + 201) (by omega)
      rw [if_neg c, if_pos (by omega), rd_at hlt2, e, Option.bind_some]
      cases b
      · rw [if_neg (by simp)]
      · rw [if_pos rfl, if_pos (by omega)]; exact nxt x (hb rfl)
end
theorem IntervalSound : jacquardlaw13_IntervalSound.Pure := by
  intro op w ws args num picks h1 h2 h3 h4 h5 h6
  have hwf : ∀ a ∈ args, Wf a := fun a ha => by
    obtain ⟨p0, p1, p2, p3⟩ := h4.2 a ha
    exact ⟨(wf_u64 _).1 p0, (wf_i64 _).1 p2, (wf_i64 _).1 p3⟩
  have hw1 : ∀ a ∈ args, 0 ≤ a.f1 ∧ a.f1 < 18446744073709551616 := fun a ha => (wf_u64 _).1 (h4.2 a ha).2.1
  by_cases c : ∃ b, jacquardlaw13_right.f (0 + 200) op w ws args num = some b ∧ b = false
  · obtain ⟨b, e, rfl⟩ := c
    refine ⟨200, ?_⟩
    unfold jacquardlaw13_IntervalSound.f
    rw [awake_eq, Option.bind_some, if_pos rfl, show (200 : Nat) = 0 + 200 from rfl, e, Option.bind_some, if_neg (by decide)]
  · obtain ⟨b, e, hb⟩ := right_eq (op := op) (w := w) (num := num) (ws := ws) (args := args) 0
    obtain ⟨b2, e2, hb2⟩ := right_eq (op := op) (w := w) (num := num) (ws := ws) (args := args) (args.length + 1)
    cases b
    · exact absurd ⟨false, e, rfl⟩ c
    have hr := hb rfl
    refine ⟨args.length + 1 + 200, ?_⟩
    unfold jacquardlaw13_IntervalSound.f
    rw [awake_eq, Option.bind_some, if_pos rfl, e2, Option.bind_some]
    cases b2
    · rw [if_neg (by decide)]
    rw [if_pos rfl, show args.length + 1 + 200 = args.length + 201 by omega]
    exact sound_loop hr hwf hw1 ((wf_u64 _).1 h5) (fun p hp => (wf_u64 _).1 (h6.2 p hp)) (by have := h6.1; omega) args.length 0 [] (by omega) trivial
end Go.Proofs.Ytoddafkffchnjaa.Pure
