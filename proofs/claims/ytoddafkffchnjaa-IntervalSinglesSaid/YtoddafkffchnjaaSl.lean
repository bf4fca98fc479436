/- IntervalSingles: what a call of the law's function does. -/
import Derived.Test.YtoddafkffchnjaaS
import Derived.Test.YtoddafkffchnjaaSe
import Derived.Test.YtoddafkffchnjaaSg
import Derived.Test.YtoddafkffchnjaaPureIntervalApply
namespace Go.Vm
open Go.Proofs Go.Proofs.Ytoddafkffchnjaa Go.Proofs.Ytoddafkffchnjaa.P Go.RowKit Go.Proofs.YtoddafkffchnjaaW.PrintWords Go.Proofs.YtoddafkffchnjaaW.PrintLast Go.Proofs.YtoddafkffchnjaaW.PrintMore Wd Im Iv Tg Lw0 Ap Cm Cn Ev Rf Aq Ar As At Au Av Aw Sg
set_option linter.unusedVariables false
set_option linter.unusedSimpArgs false
theorem sg_fact (op w num : Int) (ws ns : List Int) (h8 : ws.length ≤ 8) (hl : ns.length = ws.length) (hnum : 0 ≤ num ∧ num < 18446744073709551616) :
    jacquardref12_Shape.F op w ws = some false ∨ jacquardref12_Shape.F op w ws = some true ∧ (1 ≤ w ∧ w ≤ 64) ∧ (∀ v ∈ ws, 1 ≤ v ∧ v ≤ 64) ∧ ∃ e, (0 ≤ e ∧ e < 18446744073709551616) ∧ jacquardref12_Eval.F op w ws (List.zipWith (fun v n => n % 2 ^ nn v) ws ns) num = some e ∧ interval_Apply.F op w ws (List.zipWith o1 ws ns) num = some (Ap.one (nn w) e) := by
  have hs := jacquardref12_Shape.le op w ws 14 _ (rshape_eq op w ws h8 (by decide))
  by_cases c : shb op w ws = true
  · obtain ⟨hw, hv, e, he, h1, h2⟩ := single (ns := ns) h8 hl hnum c
    rw [c] at hs
    exact .inr ⟨hs, hw, hv, e, he, jacquardref12_Eval.le _ _ _ _ _ 200 _ h1, interval_Apply.le _ _ _ _ _ 200 _ h2⟩
  · rw [Bool.not_eq_true] at c
    rw [c] at hs
    exact .inl hs
theorem sg_mask {v : Int} (hv : 1 ≤ v ∧ v ≤ 64) : jacquardref12_Mask.F v = some (2 ^ nn v - 1) := jacquardref12_Mask.le _ 65 _ (rmask_eq (by omega) (by decide))
theorem sg_of {v : Int} (hv : 1 ≤ v ∧ v ≤ 64) {n : Int} (hn : 0 ≤ n ∧ n < 18446744073709551616) : interval_Of.f v n = some (n % 2 ^ nn v, n % 2 ^ nn v, sg (nn v) n, sg (nn v) n) := of_i hv hn
theorem sg_and {v : Int} {n : Int} (hn : 0 ≤ n ∧ n < 18446744073709551616) : real.op .and .u64 n (2 ^ nn v - 1) = n % 2 ^ nn v := and_mask (nn_le v) hn
open Go.ChangeShapes Go.WideShapes in
theorem opens_array {H : Type} {enc : TypeId × Value → H} {P : Program} {w : World} {base : Nat} {spare : Nat → Bool} {held : Bool} {t : TypeId} {k : Nat} {e : TypeId} {l : List (TypeId × Nat)} {α : Type} {n : Nat} {d : α → List V} {W : α → Prop} (ht : P.underlying t = some (.array k e)) (hl : l = (List.range k).map (fun i => (e, i * P.cellsOf e))) (hsz : P.cellsOf t = n) (h : OpensFs enc P w base spare held l 0 n d W) :
    Opens enc P w base spare held t n d W := by
  obtain ⟨hn, hlen, h⟩ := h
  refine ⟨hn, hlen, fun fuel cs y hy hz => ?_⟩
  obtain ⟨xs, q, _, rfl, hcl, hxl, hf⟩ := DataW.trod_array ht hy
  have := h q cs (by omega) (fun f hf' => by
    rw [hl] at hf'
    obtain ⟨i, hi, rfl⟩ := List.mem_map.1 hf'
    have hi' : i < k := by simpa using hi
    have := hf i hi'
    rw [List.getElem?_eq_getElem (show i < xs.length by omega)] at this
    refine ⟨_, this, fun n hn => hz n ?_⟩
    simp only [DataW.weights, ht]
    exact weights_all (List.mem_map_of_mem (List.getElem_mem (show i < xs.length by omega))) n hn)
  simpa using this
theorem jacquardlaw13_IntervalSingles.law (a0 a1 n0 n1 n2 n3 : Int) (h0 : 0 ≤ n0 ∧ n0 < 18446744073709551616) (h1 : 0 ≤ n1 ∧ n1 < 18446744073709551616) (h2 : 0 ≤ n2 ∧ n2 < 18446744073709551616) (h3 : 0 ≤ n3 ∧ n3 < 18446744073709551616) (w : World) (xs : List Value) (hA : RepL w (limOf w) [V.sc (.int .i64 a0), V.sc (.int .i64 a1), V.agg [V.sc (.int .u64 n0), V.sc (.int .u64 n1), V.sc (.int .u64 n2), V.sc (.int .u64 n3)]] [] xs nil0) :
    Calls Try.prog 4 xs.toArray w fun e w' => e = .returned (.bool true) ∧ Below w.heap.size w w' := by
  obtain ⟨v, hv⟩ : ∃ v, real.op .add .i64 (real.wrap .i64 (real.op .rem .u64 n3 64)) 1 = v := ⟨_, rfl⟩
  have H0 := sg_fact a0 a1 n3 ([] : List Int) ([] : List Int) (by simp) rfl h3
  have H1 := sg_fact a0 a1 n3 ([a1] : List Int) ([n0] : List Int) (by simp) rfl h3
  have H2 := sg_fact a0 a1 n3 ([a1, a1] : List Int) ([n0, n1] : List Int) (by simp) rfl h3
  have H3 := sg_fact a0 a1 n3 ([1, a1, a1] : List Int) ([n0, n1, n2] : List Int) (by simp) rfl h3
  have H4 := sg_fact a0 a1 n3 ([v] : List Int) ([n0] : List Int) (by simp) rfl h3
  have H5 := sg_fact a0 a1 n3 ([v, v] : List Int) ([n0, n1] : List Int) (by simp) rfl h3
  refine (fn_calls tys_ok (Sound.cons jacquardlaw13_awake.sound (Sound.cons jacquardref12_Shape.sound (Sound.cons jacquardref12_Mask.sound (Sound.cons interval_Of.sound (Sound.cons interval_Apply.sound (Sound.cons jacquardref12_Eval.sound Sound.nil)))))) mixed_ok Try.func4 (by kernel_rfl) h4_ok (jacquardlaw13_IntervalSingles.ev (op := real.op) rfl (fun _ _ _ => rfl) (fun _ _ => rfl) 0 _ a0 a1 n0 n1 n2 n3 v
      _ rfl Pure.awake_eq
      jacquardref12_Shape.F (fun cl2 l2 hl2 _ _ => by simp only [orcs, reduceIte, Nat.reduceEqDiff, eq_self, jacquardref12_Shape.o, hl2, Option.bind_some])
      jacquardref12_Mask.F (fun _ => rfl)
      interval_Of.f (fun _ _ => rfl)
      interval_Apply.F (fun cl2 l2 hl2 cl3 l3 hl3 _ _ _ => by simp only [orcs, reduceIte, Nat.reduceEqDiff, eq_self, interval_Apply.o, hl2, hl3, Option.bind_some])
      jacquardref12_Eval.F (fun cl2 l2 hl2 cl3 l3 hl3 _ _ _ => by simp only [orcs, reduceIte, Nat.reduceEqDiff, eq_self, jacquardref12_Eval.o, hl2, hl3, Option.bind_some])
      hv
      (H0.imp id fun ⟨ht, hW, hV, e, he, hE, hP⟩ => ⟨ht, e, _, _, _, _, hP, (by exact hE), sg_of hW he⟩)
      (H1.imp id fun ⟨ht, hW, hV, e, he, hE, hP⟩ => ⟨ht, _, _, _, _, _, e, _, _, _, _, sg_mask (hV a1 (by simp)), sg_of (hV a1 (by simp)) h0, hP, (by rw [sg_and h0]; exact hE), sg_of hW he⟩)
      (H2.imp id fun ⟨ht, hW, hV, e, he, hE, hP⟩ => ⟨ht, _, _, _, _, _, _, _, _, _, e, _, _, _, _, sg_mask (hV a1 (by simp)), sg_of (hV a1 (by simp)) h0, sg_of (hV a1 (by simp)) h1, hP, (by rw [sg_and h0, sg_and h1]; exact hE), sg_of hW he⟩)
      (H3.imp id fun ⟨ht, hW, hV, e, he, hE, hP⟩ => ⟨ht, _, _, _, _, _, _, _, _, _, _, _, _, _, _, e, _, _, _, _, sg_mask (hV 1 (by simp)), sg_mask (hV a1 (by simp)), sg_of (hV 1 (by simp)) h0, sg_of (hV a1 (by simp)) h1, sg_of (hV a1 (by simp)) h2, hP, (by rw [sg_and h0, sg_and h1, sg_and h2]; exact hE), sg_of hW he⟩)
      (H4.imp id fun ⟨ht, hW, hV, e, he, hE, hP⟩ => ⟨ht, _, _, _, _, _, e, _, _, _, _, sg_mask (hV v (by simp)), sg_of (hV v (by simp)) h0, hP, (by rw [sg_and h0]; exact hE), sg_of hW he⟩)
      (H5.imp id fun ⟨ht, hW, hV, e, he, hE, hP⟩ => ⟨ht, _, _, _, _, _, _, _, _, _, e, _, _, _, _, sg_mask (hV v (by simp)), sg_of (hV v (by simp)) h0, sg_of (hV v (by simp)) h1, hP, (by rw [sg_and h0, sg_and h1]; exact hE), sg_of hW he⟩)
      ) w (limOf w) [] xs nil0 nil0 hA (by simp [RepH, nil0]) (fun _ => by simp [nil0]) (fun b hb => by simp [nil0] at hb)).2.mono fun e w' ⟨x, he, l', rv, rh', hR, _, _, hX, _⟩ => ⟨?_, law_below hX⟩
  simp only [Rep] at hR
  rw [he, hR.1]
end Go.Vm
