import Derived.Test.YtoddafkffchnjaaPureIntervalSound
import Derived.Test.YtoddafkffchnjaaDf
/- Every word that the operands hold gives a word that the result holds. -/
namespace Go.Proofs.Ytoddafkffchnjaa.Sm
set_option linter.unusedVariables false
set_option linter.unusedSimpArgs false
set_option linter.unusedSectionVars false
open Go.RowKit Go.Proofs.Ytoddafkffchnjaa.P Go.Proofs.YtoddafkffchnjaaW.PrintWords Wd Im Iv Tg Lw0 Ap Cm Cn Ev Rf Aq Ar As At Au Av Aw _root_.Go.Proofs.Ytoddafkffchnjaa.Pure
theorem small_facts {op w num : Int} {ws : List Int} {args : List S30} (hr : Rt op w ws args) (hwf : ∀ a ∈ args, Wf a) (hnum : 0 ≤ num ∧ num < 18446744073709551616) :
    interval_Apply.f 200 op w ws args num = some (ap op w ws args num) ∧
    ∀ xs, Hds ws args xs → ∃ e, jacquardref12_Eval.f 200 op w ws xs num = some e ∧ interval_Contains.f w (ap op w ws args num).1 (ap op w ws args num).2.1 (ap op w ws args num).2.2.1 (ap op w ws args num).2.2.2 e = some true := by
  obtain ⟨⟨h8, h8'⟩, hsb, hl, hv⟩ := hr
  have hs := sh_of hsb
  refine ⟨?_, fun xs h => ?_⟩
  · unfold interval_Apply.f
    rw [shaped_eq op w ws h8 (by decide), Option.bind_some, if_pos hsb, show ((args.length : Int) != (ws.length : Int)) = false by rw [hl]; simp]
    exact ap_i hs hl hwf hnum (k := 195) (by decide)
  · obtain ⟨e, he, h0, hb, hin⟩ := sound_ap hs hwf hnum h (k := 200) (by decide)
    have hw := hs.1
    have hn := nn_of (w := w) (by omega) hw.2
    have hp := pow_le (nn_le w)
    refine ⟨e, he, ?_⟩
    generalize ap op w ws args num = r at *
    obtain ⟨hb, hz⟩ := hb
    have hC : Contains w r.1 r.2.1 r.2.2.1 r.2.2.2 e := ⟨hw, by omega, hin.1, hin.2.1, hin.2.2.1, hin.2.2.2⟩
    rw [contains_eq _ _ _ _ _ (by omega), decide_eq_true hC]
/-- The lists of operands that Apply takes. -/
theorem forms {op w : Int} {ws : List Int} {args : List S30} (hr : Rt op w ws args) : (∀ v ∈ ws, 1 ≤ v ∧ v ≤ 64) ∧ ((ws = [] ∧ args = []) ∨ (∃ v a, ws = [v] ∧ args = [a]) ∨ (∃ v u a b, ws = [v, u] ∧ args = [a, b]) ∨ ∃ v u x a b c, ws = [v, u, x] ∧ args = [a, b, c]) := by
  obtain ⟨_, hsb, hl, _⟩ := hr
  obtain ⟨hw, hws, hs⟩ := sh_of hsb
  refine ⟨hws, ?_⟩
  have h3 : ws.length ≤ 3 := by
    rcases hs with ⟨rfl, rfl⟩ | ⟨ho, rfl⟩ | ⟨ho, rfl, v, rfl⟩ | ⟨rfl, rfl⟩ | ⟨ho, v, rfl, hle⟩ | ⟨ho, v, rfl, hle⟩ <;> simp
  match ws, args, hl, h3 with
  | [], [], _, _ => exact .inl ⟨rfl, rfl⟩
  | [v], [a], _, _ => exact .inr (.inl ⟨v, a, rfl, rfl⟩)
  | [v, u], [a, b], _, _ => exact .inr (.inr (.inl ⟨v, u, a, b, rfl, rfl⟩))
  | [v, u, x], [a, b, c], _, _ => exact .inr (.inr (.inr ⟨v, u, x, a, b, c, rfl, rfl⟩))
  | _ :: _ :: _ :: _ :: _, _, _, h => simp at h
theorem contains_word {v : Int} {a : S30} {n : Int} (h0 : 0 ≤ n) (h1 : n ≤ 16) {k : Nat} (hk : 66 < k) : ∃ b, jacquardref13_Contains.f k v a.f0 a.f1 a.f2 a.f3 n = some b ∧ (b = true → Hd v a n) :=
  ⟨_, rcontains_eq _ _ _ _ _ (by omega) hk, fun h => hd_of h0 (of_decide_eq_true h)⟩
end Go.Proofs.Ytoddafkffchnjaa.Sm
