/- IntervalSmall: what a call of the law's function does. -/
import Derived.Test.YtoddafkffchnjaaS
import Derived.Test.YtoddafkffchnjaaMe
import Derived.Test.YtoddafkffchnjaaSm
namespace Go.Vm
open Go.Proofs Go.Proofs.Ytoddafkffchnjaa Go.Proofs.Ytoddafkffchnjaa.P Go.RowKit Go.Proofs.YtoddafkffchnjaaW.PrintWords Go.Proofs.YtoddafkffchnjaaW.PrintLast Go.Proofs.YtoddafkffchnjaaW.PrintMore Wd Im Iv Tg Lw0 Ap Cm Cn Ev Rf Aq Ar As At Au Av Aw Sm
set_option linter.unusedVariables false
set_option linter.unusedSimpArgs false
theorem sm_shl {v : Int} (h1 : 1 ≤ v) (h4 : v ≤ 4) : real.op .shl .u64 1 v ≤ 16 := by
  obtain rfl | rfl | rfl | rfl : v = 1 ∨ v = 2 ∨ v = 3 ∨ v = 4 := by omega
  all_goals decide
theorem sm_con {v : Int} (h1 : 1 ≤ v) (a : S30) : v ≤ 4 → ∀ n, 0 ≤ n → n < real.op .shl .u64 1 v → ∃ b, jacquardref13_Contains.F v a.f0 a.f1 a.f2 a.f3 n = some b ∧ (b = true → Hd v a n) := by
  intro h4 n h0 hn
  have := sm_shl h1 h4
  obtain ⟨b, hb, hp⟩ := contains_word (v := v) (a := a) h0 (by omega) (k := 70) (by decide)
  exact ⟨b, jacquardref13_Contains.le _ _ _ _ _ _ 70 _ hb, hp⟩
theorem sm_ev (op w num : Int) (ws : List Int) (args : List S30) (hwf : ∀ a ∈ args, Wf a) (hnum : 0 ≤ num ∧ num < 18446744073709551616) :
    evFn ⟨tys, real, rounds⟩ 28 (orcs [(8, jacquardlaw13_awake.o), (16, jacquardlaw13_right.o), (20, jacquardref13_Contains.o), (10, interval_Apply.o), (15, jacquardref12_Eval.o), (19, interval_Contains.o)]) h7 Try.f7 [V.agg [V.sc (.int .i64 op), V.sc (.int .i64 w), V.sl false (ws.map fun x : Int => [V.sc (.int .i64 x)]), V.sl false (args.map fun x : S30 => [V.sc (.int .u64 x.f0), V.sc (.int .u64 x.f1), V.sc (.int .i64 x.f2), V.sc (.int .i64 x.f3)]), V.sc (.int .u64 num)]] [] = some (V.sc (.bool true), []) := by
  obtain ⟨b, hb, hR⟩ := Pure.right_eq (op := op) (w := w) (num := num) (ws := ws) (args := args) 0
  have hb := jacquardlaw13_right.le _ _ _ _ _ 200 _ hb
  cases b with
  | false => exact jacquardlaw13_IntervalSmall.evn rfl (fun _ _ _ => rfl) (fun _ _ => rfl) 20 _ op w num ws args _ rfl Pure.awake_eq jacquardlaw13_right.F (fun cl2 l2 hl2 cl3 l3 hl3 _ _ _ => by simp only [orcs, reduceIte, Nat.reduceEqDiff, eq_self, jacquardlaw13_right.o, hl2, hl3, Option.bind_some]) hb
  | true =>
    have hr := hR rfl
    obtain ⟨hA, hF⟩ := small_facts hr hwf hnum
    have hA := interval_Apply.le _ _ _ _ _ 200 _ hA
    obtain ⟨hv, hform⟩ := forms hr
    clear hR hr hwf
    generalize ap op w ws args num = r at hA hF
    rcases hform with ⟨rfl, rfl⟩ | ⟨v, a, rfl, rfl⟩ | ⟨v, u, a, b, rfl, rfl⟩ | ⟨v, u, x, a, b, c, rfl, rfl⟩
    · exact jacquardlaw13_IntervalSmall.ev0 (op := real.op) rfl (fun _ _ _ => rfl) (fun _ _ => rfl) 20 _ (by decide) op w num  r.1 r.2.1 r.2.2.1 r.2.2.2 _ rfl Pure.awake_eq jacquardlaw13_right.F (fun cl2 l2 hl2 cl3 l3 hl3 _ _ _ => by simp only [orcs, reduceIte, Nat.reduceEqDiff, eq_self, jacquardlaw13_right.o, hl2, hl3, Option.bind_some]) hb jacquardref13_Contains.F (fun _ _ _ _ _ _ => rfl) interval_Apply.F (fun cl2 l2 hl2 cl3 l3 hl3 _ _ _ => by simp only [orcs, reduceIte, Nat.reduceEqDiff, eq_self, interval_Apply.o, hl2, hl3, Option.bind_some]) hA jacquardref12_Eval.F (fun cl2 l2 hl2 cl3 l3 hl3 _ _ _ => by simp only [orcs, reduceIte, Nat.reduceEqDiff, eq_self, jacquardref12_Eval.o, hl2, hl3, Option.bind_some]) interval_Contains.f (fun _ _ _ _ _ _ => rfl) (fun _ => True) (fun _ => True) (fun _ => True) trivial trivial trivial (fun x0 x1 x2 p0 p1 p2 => by obtain ⟨e, h1, h2⟩ := hF [] trivial; exact ⟨e, jacquardref12_Eval.le _ _ _ _ _ 200 _ h1, h2⟩)
    · exact jacquardlaw13_IntervalSmall.ev1 (op := real.op) rfl (fun _ _ _ => rfl) (fun _ _ => rfl) 20 _ (by decide) op w num v a.f0 a.f1 a.f2 a.f3 r.1 r.2.1 r.2.2.1 r.2.2.2 _ rfl Pure.awake_eq jacquardlaw13_right.F (fun cl2 l2 hl2 cl3 l3 hl3 _ _ _ => by simp only [orcs, reduceIte, Nat.reduceEqDiff, eq_self, jacquardlaw13_right.o, hl2, hl3, Option.bind_some]) hb jacquardref13_Contains.F (fun _ _ _ _ _ _ => rfl) interval_Apply.F (fun cl2 l2 hl2 cl3 l3 hl3 _ _ _ => by simp only [orcs, reduceIte, Nat.reduceEqDiff, eq_self, interval_Apply.o, hl2, hl3, Option.bind_some]) hA jacquardref12_Eval.F (fun cl2 l2 hl2 cl3 l3 hl3 _ _ _ => by simp only [orcs, reduceIte, Nat.reduceEqDiff, eq_self, jacquardref12_Eval.o, hl2, hl3, Option.bind_some]) interval_Contains.f (fun _ _ _ _ _ _ => rfl) (Hd v a) (fun _ => True) (fun _ => True) (hv v (by simp)).1 (sm_shl (hv v (by simp)).1) (sm_con (hv v (by simp)).1 a) trivial trivial (fun x0 x1 x2 p0 p1 p2 => by obtain ⟨e, h1, h2⟩ := hF [x0] ⟨p0, trivial⟩; exact ⟨e, jacquardref12_Eval.le _ _ _ _ _ 200 _ h1, h2⟩)
    · exact jacquardlaw13_IntervalSmall.ev2 (op := real.op) rfl (fun _ _ _ => rfl) (fun _ _ => rfl) 20 _ (by decide) op w num v u a.f0 a.f1 a.f2 a.f3 b.f0 b.f1 b.f2 b.f3 r.1 r.2.1 r.2.2.1 r.2.2.2 _ rfl Pure.awake_eq jacquardlaw13_right.F (fun cl2 l2 hl2 cl3 l3 hl3 _ _ _ => by simp only [orcs, reduceIte, Nat.reduceEqDiff, eq_self, jacquardlaw13_right.o, hl2, hl3, Option.bind_some]) hb jacquardref13_Contains.F (fun _ _ _ _ _ _ => rfl) interval_Apply.F (fun cl2 l2 hl2 cl3 l3 hl3 _ _ _ => by simp only [orcs, reduceIte, Nat.reduceEqDiff, eq_self, interval_Apply.o, hl2, hl3, Option.bind_some]) hA jacquardref12_Eval.F (fun cl2 l2 hl2 cl3 l3 hl3 _ _ _ => by simp only [orcs, reduceIte, Nat.reduceEqDiff, eq_self, jacquardref12_Eval.o, hl2, hl3, Option.bind_some]) interval_Contains.f (fun _ _ _ _ _ _ => rfl) (Hd v a) (Hd u b) (fun _ => True) (hv v (by simp)).1 (sm_shl (hv v (by simp)).1) (sm_con (hv v (by simp)).1 a) (hv u (by simp)).1 (sm_shl (hv u (by simp)).1) (sm_con (hv u (by simp)).1 b) trivial (fun x0 x1 x2 p0 p1 p2 => by obtain ⟨e, h1, h2⟩ := hF [x0, x1] ⟨p0, ⟨p1, trivial⟩⟩; exact ⟨e, jacquardref12_Eval.le _ _ _ _ _ 200 _ h1, h2⟩)
    · exact jacquardlaw13_IntervalSmall.ev3 (op := real.op) rfl (fun _ _ _ => rfl) (fun _ _ => rfl) 20 _ (by decide) op w num v u x a.f0 a.f1 a.f2 a.f3 b.f0 b.f1 b.f2 b.f3 c.f0 c.f1 c.f2 c.f3 r.1 r.2.1 r.2.2.1 r.2.2.2 _ rfl Pure.awake_eq jacquardlaw13_right.F (fun cl2 l2 hl2 cl3 l3 hl3 _ _ _ => by simp only [orcs, reduceIte, Nat.reduceEqDiff, eq_self, jacquardlaw13_right.o, hl2, hl3, Option.bind_some]) hb jacquardref13_Contains.F (fun _ _ _ _ _ _ => rfl) interval_Apply.F (fun cl2 l2 hl2 cl3 l3 hl3 _ _ _ => by simp only [orcs, reduceIte, Nat.reduceEqDiff, eq_self, interval_Apply.o, hl2, hl3, Option.bind_some]) hA jacquardref12_Eval.F (fun cl2 l2 hl2 cl3 l3 hl3 _ _ _ => by simp only [orcs, reduceIte, Nat.reduceEqDiff, eq_self, jacquardref12_Eval.o, hl2, hl3, Option.bind_some]) interval_Contains.f (fun _ _ _ _ _ _ => rfl) (Hd v a) (Hd u b) (Hd x c) (hv v (by simp)).1 (sm_shl (hv v (by simp)).1) (sm_con (hv v (by simp)).1 a) (hv u (by simp)).1 (sm_shl (hv u (by simp)).1) (sm_con (hv u (by simp)).1 b) (hv x (by simp)).1 (sm_shl (hv x (by simp)).1) (sm_con (hv x (by simp)).1 c) (fun x0 x1 x2 p0 p1 p2 => by obtain ⟨e, h1, h2⟩ := hF [x0, x1, x2] ⟨p0, ⟨p1, ⟨p2, trivial⟩⟩⟩; exact ⟨e, jacquardref12_Eval.le _ _ _ _ _ 200 _ h1, h2⟩)
theorem jacquardlaw13_IntervalSmall.law (op w : Int) (ws : List Int) (args : List S30) (num : Int) (hwf : ∀ x ∈ args, ((Lit.int .u64 x.f0).wf = true) ∧ ((Lit.int .u64 x.f1).wf = true) ∧ ((Lit.int .i64 x.f2).wf = true) ∧ ((Lit.int .i64 x.f3).wf = true)) (hnum : (Lit.int .u64 num).wf = true) (W : World) (xs : List Value) (hA : RepL W (limOf W) [V.agg [V.sc (.int .i64 op), V.sc (.int .i64 w), V.sl false (ws.map fun x : Int => [V.sc (.int .i64 x)]), V.sl false (args.map fun x : S30 => [V.sc (.int .u64 x.f0), V.sc (.int .u64 x.f1), V.sc (.int .i64 x.f2), V.sc (.int .i64 x.f3)]), V.sc (.int .u64 num)]] [] xs nil0) :
    Calls Try.prog 7 xs.toArray W fun e w' => e = .returned (.bool true) ∧ Below W.heap.size W w' := by
  have hw : ∀ a ∈ args, Wf a := fun a ha => by
    obtain ⟨p0, _, p2, p3⟩ := hwf a ha
    exact ⟨(wf_u64 _).1 p0, (wf_i64 _).1 p2, (wf_i64 _).1 p3⟩
  refine (fn_calls tys_ok (Sound.cons jacquardlaw13_awake.sound (Sound.cons jacquardlaw13_right.sound (Sound.cons jacquardref13_Contains.sound (Sound.cons interval_Apply.sound (Sound.cons jacquardref12_Eval.sound (Sound.cons interval_Contains.sound Sound.nil)))))) mixed_ok Try.func7 (by kernel_rfl) h7_ok (sm_ev op w num ws args hw ((wf_u64 _).1 hnum)) W (limOf W) [] xs nil0 nil0 hA (by simp [RepH, nil0]) (fun _ => by simp [nil0]) (fun b hb => by simp [nil0] at hb)).2.mono fun e w' ⟨x, he, l', rv, rh', hR, _, _, hX, _⟩ => ⟨?_, law_below hX⟩
  simp only [Rep] at hR
  rw [he, hR.1]
end Go.Vm
