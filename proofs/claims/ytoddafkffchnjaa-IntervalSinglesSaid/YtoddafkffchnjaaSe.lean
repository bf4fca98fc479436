/- IntervalSingles: what the evaluator makes of its code. -/
import Derived.Test.YtoddafkffchnjaaO
namespace Go.Vm
open Go.Proofs Go.Proofs.Ytoddafkffchnjaa Go.Proofs.Ytoddafkffchnjaa.P Go.RowKit Go.Proofs.YtoddafkffchnjaaW.PrintWords Go.Proofs.YtoddafkffchnjaaW.PrintLast Go.Proofs.YtoddafkffchnjaaW.PrintMore
set_option linter.unusedVariables false
set_option linter.unusedSimpArgs false
def h4 : Hints := ⟨fun n => match n with | 0 => [hz, hz] | 1 => [hz, hz] | 2 => [hz] | 3 => [hz, hz, hz, hz, hz, hz] | 4 => [hz, hz, hz, hz, hz, hz, hz, hz, hz, hz, hz, hz, hz, hz, hz, hz, hz] | 5 => [hz] | 6 => [hz, hz, hz] | 7 => [hz, hz, hz, hz, hz] | 8 => [hz] | 9 => [hz] | 10 => [hz, hz, hz] | 11 => [hz] | 12 => [hz, hz, hz, hz, hz] | 13 => [(true, none, true), ht, ht, hz, ht, ht, hz, hz, hz, hz] | 14 => [ha, hz, hz, hz, hz, hz, hz, hz, hz] | 15 => [hz, hz] | 16 => [ht, ht, ht, ht, ht, hz, ht, ht, ht, ht, ht, ht, ht, hz, hz, hz, hz] | 17 => [hz] | 18 => [hz, hz] | 19 => [hz] | _ => [], fun n => match n with | 5 => [0, 1, 5, 6, 35, 36, 37] | 11 => [0, 1, 5, 6, 9, 10, 11, 35, 36, 37, 46, 47, 48] | _ => []⟩
theorem h4_ok : fnOk h4 Try.f4 = true := by kernel_rfl
set_option linter.unusedVariables false
set_option linter.unusedSimpArgs false
section
variable {op : BinOp → IntKind → Int → Int → Int} {ok : BinOp → Int → Bool} {cmp : BinOp → Int → Int → Bool} {neg not wrap : IntKind → Int → Int} {mn' mx' : Int → Int → Int} {idx : Int → Option Nat}
  {len : List (List V) → Int} {get : List (List V) → Int → Option (List V)} {cut : Nat → List (List V) → Option V → Option V → Option (List (List V))} {app : Nat → Nat → List (List V) → List (List V) → Option (List (List V))} {byte : ByteArray → Int → Option Int}
  {lp : (St → Option (Ex × St)) → Nat → List Nat → Nat → St → Option (Ex × St)} {c2 : BinOp → Int → Int → Bool} {ok2 : BinOp → Int → Bool}
variable (hA : (⟨tys, ⟨op, ok, cmp, neg, not, wrap, mn', mx', idx, len, get, cut, app, byte⟩, lp⟩ : En) = ⟨tys, real, rounds⟩) (hc2 : ∀ o a b, cmp o a b = c2 o a b) (hok2 : ∀ o a, ok o a = ok2 o a) (k : Nat) (K : Oracle)
include hA hc2 hok2


set_option maxRecDepth 100000 in
set_option maxHeartbeats 40000000 in
theorem jacquardlaw13_IntervalSingles.ev (a0 w n0 n1 n2 n3 v : Int) (g8 : Option Bool) (h8 : jacquardlaw13_awake.Is K g8) (e8 : g8 = some true) (g12 : _) (h12 : jacquardref12_Shape.Is K g12) (g13 : _) (h13 : jacquardref12_Mask.Is K g13) (g14 : _) (h14 : interval_Of.Is K g14) (g10 : _) (h10 : interval_Apply.Is K g10) (g15 : _) (h15 : jacquardref12_Eval.Is K g15)
  (hv : op .add .i64 (wrap .i64 (op .rem .u64 n3 64)) 1 = v)
  (H0 : g12 a0 w [] = some false ∨ g12 a0 w [] = some true ∧ ∃ e r0 r1 r2 r3 : Int, g10 a0 w [] [] n3 = some (r0, r1, r2, r3) ∧ g15 a0 w [] [] n3 = some e ∧ g14 w e = some (r0, r1, r2, r3))
  (H1 : g12 a0 w [w] = some false ∨ g12 a0 w [w] = some true ∧ ∃ mw o00 o01 o02 o03 e r0 r1 r2 r3 : Int, g13 w = some mw ∧ g14 w n0 = some (o00, o01, o02, o03) ∧ g10 a0 w [w] [(⟨o00, o01, o02, o03⟩ : S30)] n3 = some (r0, r1, r2, r3) ∧ g15 a0 w [w] [op .and .u64 n0 mw] n3 = some e ∧ g14 w e = some (r0, r1, r2, r3))
  (H2 : g12 a0 w [w, w] = some false ∨ g12 a0 w [w, w] = some true ∧ ∃ mw o00 o01 o02 o03 o10 o11 o12 o13 e r0 r1 r2 r3 : Int, g13 w = some mw ∧ g14 w n0 = some (o00, o01, o02, o03) ∧ g14 w n1 = some (o10, o11, o12, o13) ∧ g10 a0 w [w, w] [(⟨o00, o01, o02, o03⟩ : S30), (⟨o10, o11, o12, o13⟩ : S30)] n3 = some (r0, r1, r2, r3) ∧ g15 a0 w [w, w] [op .and .u64 n0 mw, op .and .u64 n1 mw] n3 = some e ∧ g14 w e = some (r0, r1, r2, r3))
  (H3 : g12 a0 w [1, w, w] = some false ∨ g12 a0 w [1, w, w] = some true ∧ ∃ mo mw o00 o01 o02 o03 o10 o11 o12 o13 o20 o21 o22 o23 e r0 r1 r2 r3 : Int, g13 1 = some mo ∧ g13 w = some mw ∧ g14 1 n0 = some (o00, o01, o02, o03) ∧ g14 w n1 = some (o10, o11, o12, o13) ∧ g14 w n2 = some (o20, o21, o22, o23) ∧ g10 a0 w [1, w, w] [(⟨o00, o01, o02, o03⟩ : S30), (⟨o10, o11, o12, o13⟩ : S30), (⟨o20, o21, o22, o23⟩ : S30)] n3 = some (r0, r1, r2, r3) ∧ g15 a0 w [1, w, w] [op .and .u64 n0 mo, op .and .u64 n1 mw, op .and .u64 n2 mw] n3 = some e ∧ g14 w e = some (r0, r1, r2, r3))
  (H4 : g12 a0 w [v] = some false ∨ g12 a0 w [v] = some true ∧ ∃ mv o00 o01 o02 o03 e r0 r1 r2 r3 : Int, g13 v = some mv ∧ g14 v n0 = some (o00, o01, o02, o03) ∧ g10 a0 w [v] [(⟨o00, o01, o02, o03⟩ : S30)] n3 = some (r0, r1, r2, r3) ∧ g15 a0 w [v] [op .and .u64 n0 mv] n3 = some e ∧ g14 w e = some (r0, r1, r2, r3))
  (H5 : g12 a0 w [v, v] = some false ∨ g12 a0 w [v, v] = some true ∧ ∃ mv o00 o01 o02 o03 o10 o11 o12 o13 e r0 r1 r2 r3 : Int, g13 v = some mv ∧ g14 v n0 = some (o00, o01, o02, o03) ∧ g14 v n1 = some (o10, o11, o12, o13) ∧ g10 a0 w [v, v] [(⟨o00, o01, o02, o03⟩ : S30), (⟨o10, o11, o12, o13⟩ : S30)] n3 = some (r0, r1, r2, r3) ∧ g15 a0 w [v, v] [op .and .u64 n0 mv, op .and .u64 n1 mv] n3 = some e ∧ g14 w e = some (r0, r1, r2, r3))
  : evFn ⟨tys, ⟨op, ok, cmp, neg, not, wrap, mn', mx', idx, len, get, cut, app, byte⟩, lp⟩ (k + 8) K h4 Try.f4 [V.sc (.int .i64 a0), V.sc (.int .i64 w), V.agg [V.sc (.int .u64 n0), V.sc (.int .u64 n1), V.sc (.int .u64 n2), V.sc (.int .u64 n3)]] [] = some (V.sc (.bool true), []) := by
  generalize hR : some (V.sc (.bool true), ([] : Heap)) = R
  have hcm := rcm hA hc2
  have hokm := rok hA hok2
  have hop : op = real.op := (eqsA hA).1
  have hlen : len = real.len := (eqsA hA).2.2.2.2.2.2.2.2.2
  have hidx : idx = real.idx := (eqsA hA).2.2.2.2.2.2.2.2.1
  have hok : ok .rem 64 = true := by rw [(eqsA hA).2.1]; rfl
  have hadd0 : op .add .i64 0 1 = 1 := by rw [hop]; rfl
  have hadd1 : op .add .i64 1 1 = 2 := by rw [hop]; rfl
  have hadd2 : op .add .i64 2 1 = 3 := by rw [hop]; rfl
  have hadd3 : op .add .i64 3 1 = 4 := by rw [hop]; rfl
  have hadd4 : op .add .i64 4 1 = 5 := by rw [hop]; rfl
  have hadd5 : op .add .i64 5 1 = 6 := by rw [hop]; rfl
  have hidx0 : idx 0 = some 0 := by rw [hidx]; rfl
  have hidx1 : idx 1 = some 1 := by rw [hidx]; rfl
  have hidx2 : idx 2 = some 2 := by rw [hidx]; rfl
  have hlen0 : len [] = 0 := by rw [hlen]; exact rfl
  have hlen1 : ∀ a, len [a] = 1 := by rw [hlen]; intros; exact rfl
  have hlen2 : ∀ a b, len [a, b] = 2 := by rw [hlen]; intros; exact rfl
  have hlen3 : ∀ a b c, len [a, b, c] = 3 := by rw [hlen]; intros; exact rfl
  have hlen6 : ∀ a b c d e f, len [a, b, c, d, e, f] = 6 := by rw [hlen]; intros; exact rfl
  have hget10 : ∀ a, get [a] 0 = some a := by rw [get_eq hA]; intros; exact rfl
  have hget20 : ∀ a b, get [a, b] 0 = some a := by rw [get_eq hA]; intros; exact rfl
  have hget21 : ∀ a b, get [a, b] 1 = some b := by rw [get_eq hA]; intros; exact rfl
  have hget30 : ∀ a b c, get [a, b, c] 0 = some a := by rw [get_eq hA]; intros; exact rfl
  have hget31 : ∀ a b c, get [a, b, c] 1 = some b := by rw [get_eq hA]; intros; exact rfl
  have hget32 : ∀ a b c, get [a, b, c] 2 = some c := by rw [get_eq hA]; intros; exact rfl
  have hget60 : ∀ a b c d e f, get [a, b, c, d, e, f] 0 = some a := by rw [get_eq hA]; intros; exact rfl
  have hget61 : ∀ a b c d e f, get [a, b, c, d, e, f] 1 = some b := by rw [get_eq hA]; intros; exact rfl
  have hget62 : ∀ a b c d e f, get [a, b, c, d, e, f] 2 = some c := by rw [get_eq hA]; intros; exact rfl
  have hget63 : ∀ a b c d e f, get [a, b, c, d, e, f] 3 = some d := by rw [get_eq hA]; intros; exact rfl
  have hget64 : ∀ a b c d e f, get [a, b, c, d, e, f] 4 = some e := by rw [get_eq hA]; intros; exact rfl
  have hget65 : ∀ a b c d e f, get [a, b, c, d, e, f] 5 = some f := by rw [get_eq hA]; intros; exact rfl
  have happi0 : ∀ t : Int, app 1 8 [] [[V.sc (.int .u64 t)]] = some [[V.sc (.int .u64 t)]] := by rw [app_eq hA]; intros; exact rfl
  have happs0 : ∀  t0 t1 t2 t3 : Int, app 4 32 [] [[V.sc (.int .u64 t0), V.sc (.int .u64 t1), V.sc (.int .i64 t2), V.sc (.int .i64 t3)]] = some [[V.sc (.int .u64 t0), V.sc (.int .u64 t1), V.sc (.int .i64 t2), V.sc (.int .i64 t3)]] := by rw [app_eq hA]; intros; exact rfl
  have happi1 : ∀ a t : Int, app 1 8 [[V.sc (.int .u64 a)]] [[V.sc (.int .u64 t)]] = some [[V.sc (.int .u64 a)], [V.sc (.int .u64 t)]] := by rw [app_eq hA]; intros; exact rfl
  have happs1 : ∀ a0 a1 a2 a3 t0 t1 t2 t3 : Int, app 4 32 [[V.sc (.int .u64 a0), V.sc (.int .u64 a1), V.sc (.int .i64 a2), V.sc (.int .i64 a3)]] [[V.sc (.int .u64 t0), V.sc (.int .u64 t1), V.sc (.int .i64 t2), V.sc (.int .i64 t3)]] = some [[V.sc (.int .u64 a0), V.sc (.int .u64 a1), V.sc (.int .i64 a2), V.sc (.int .i64 a3)], [V.sc (.int .u64 t0), V.sc (.int .u64 t1), V.sc (.int .i64 t2), V.sc (.int .i64 t3)]] := by rw [app_eq hA]; intros; exact rfl
  have happi2 : ∀ a b t : Int, app 1 8 [[V.sc (.int .u64 a)], [V.sc (.int .u64 b)]] [[V.sc (.int .u64 t)]] = some [[V.sc (.int .u64 a)], [V.sc (.int .u64 b)], [V.sc (.int .u64 t)]] := by rw [app_eq hA]; intros; exact rfl
  have happs2 : ∀ a0 a1 a2 a3 b0 b1 b2 b3 t0 t1 t2 t3 : Int, app 4 32 [[V.sc (.int .u64 a0), V.sc (.int .u64 a1), V.sc (.int .i64 a2), V.sc (.int .i64 a3)], [V.sc (.int .u64 b0), V.sc (.int .u64 b1), V.sc (.int .i64 b2), V.sc (.int .i64 b3)]] [[V.sc (.int .u64 t0), V.sc (.int .u64 t1), V.sc (.int .i64 t2), V.sc (.int .i64 t3)]] = some [[V.sc (.int .u64 a0), V.sc (.int .u64 a1), V.sc (.int .i64 a2), V.sc (.int .i64 a3)], [V.sc (.int .u64 b0), V.sc (.int .u64 b1), V.sc (.int .i64 b2), V.sc (.int .i64 b3)], [V.sc (.int .u64 t0), V.sc (.int .u64 t1), V.sc (.int .i64 t2), V.sc (.int .i64 t3)]] := by rw [app_eq hA]; intros; exact rfl
  obtain ⟨lp2, hlp2, hlp⟩ : ∃ lp2, lp2 = rounds ∧ ∀ b n0 kp L st, lp b n0 kp L st = lp2 b n0 kp L st := ⟨lp, lp_eq hA, fun _ _ _ _ _ => rfl⟩
  have hun : ∀ b n0 kp m st, lp b n0 kp (m + 1) st = roundN b (lp b n0 kp m) n0 kp st := by rw [lp_eq hA]; intros; rfl
  subst e8
  cbv
  rewrite [h8]; cbv
  rewrite [hok]; cbv
  rewrite [hv]; cbv
  rewrite [hlen6]; cbv
  rewrite [hlp]; generalize hl : lp2 _ _ _ _ _ = o; revert o
  refine loop_rule hlp2 (fun (y : Int) st => ⟨st.s.set 37 (V.sc (.int .i64 y)), st.h⟩) (fun n y => 0 ≤ y ∧ y ≤ 6 ∧ (7 - y).toNat ≤ n) (n := k + 8) (x := 0) ?hst (fun y h => by omega) ?hq ?hn ?hs
  case hst => exact rfl
  case hq => omega
  case hn => omega
  case hs =>
    clear hlp
    intro m nx y hnx h
    obtain rfl | rfl | rfl | rfl | rfl | rfl | rfl : y = 0 ∨ y = 1 ∨ y = 2 ∨ y = 3 ∨ y = 4 ∨ y = 5 ∨ y = 6 := by omega
    · cbv
      (rewrite [hc2]; generalize hq : c2 _ _ _ = o; cases o <;> (rewrite [hcm] at hq; simp only [rc] at hq) <;> first | (exfalso; omega) | (exact absurd trivial hq) | cbv)
      rewrite [hget60]; cbv
      rewrite [h12 _ _ (unI_0 ..)]
      rcases H0 with hs | ⟨hs, e, r0, r1, r2, r3, ha, he, hr⟩
      all_goals rewrite [hs]; cbv
      all_goals repeat' (first
        | (rewrite [h10 _ _ (unI_0 ..) _ _ (unk30_0 ..), ha]; cbv)
        | (rewrite [h15 _ _ (unI_0 ..) _ _ (unI_0 ..), he]; cbv)
        | (rewrite [h14, hr]; cbv)
        | (rewrite [hadd0]; cbv)
        | (rewrite [hlen0]; cbv)
        | (rewrite [hc2]; generalize hq : c2 _ _ _ = o; cases o <;> (rewrite [hcm] at hq; simp only [rc] at hq) <;> first | (exfalso; omega) | (exact absurd trivial hq) | cbv)
        | (rewrite [hun]; cbv))
      all_goals exact hnx 1 ⟨by omega, by omega, by omega⟩
    · cbv
      (rewrite [hc2]; generalize hq : c2 _ _ _ = o; cases o <;> (rewrite [hcm] at hq; simp only [rc] at hq) <;> first | (exfalso; omega) | (exact absurd trivial hq) | cbv)
      rewrite [hget61]; cbv
      rewrite [h12 _ _ (unI_1 ..)]
      rcases H1 with hs | ⟨hs, mw, o00, o01, o02, o03, e, r0, r1, r2, r3, hmw, ho0, ha, he, hr⟩
      all_goals rewrite [hs]; cbv
      all_goals repeat' (first
        | (rewrite [h13, hmw]; cbv)
        | (rewrite [h14, ho0]; cbv)
        | (rewrite [h10 _ _ (unI_1 ..) _ _ (unk30_1 ..), ha]; cbv)
        | (rewrite [h15 _ _ (unI_1 ..) _ _ (unI_1 ..), he]; cbv)
        | (rewrite [h14, hr]; cbv)
        | (rewrite [hadd1]; cbv)
        | (rewrite [hadd0]; cbv)
        | (rewrite [hlen1]; cbv)
        | (rewrite [hget10]; cbv)
        | (rewrite [hidx0]; cbv)
        | (rewrite [happi0]; cbv)
        | (rewrite [happs0]; cbv)
        | (rewrite [hc2]; generalize hq : c2 _ _ _ = o; cases o <;> (rewrite [hcm] at hq; simp only [rc] at hq) <;> first | (exfalso; omega) | (exact absurd trivial hq) | cbv)
        | (rewrite [hun]; cbv))
      all_goals exact hnx 2 ⟨by omega, by omega, by omega⟩
    · cbv
      (rewrite [hc2]; generalize hq : c2 _ _ _ = o; cases o <;> (rewrite [hcm] at hq; simp only [rc] at hq) <;> first | (exfalso; omega) | (exact absurd trivial hq) | cbv)
      rewrite [hget62]; cbv
      rewrite [h12 _ _ (unI_2 ..)]
      rcases H2 with hs | ⟨hs, mw, o00, o01, o02, o03, o10, o11, o12, o13, e, r0, r1, r2, r3, hmw, ho0, ho1, ha, he, hr⟩
      all_goals rewrite [hs]; cbv
      all_goals repeat' (first
        | (rewrite [h13, hmw]; cbv)
        | (rewrite [h14, ho0]; cbv)
        | (rewrite [h14, ho1]; cbv)
        | (rewrite [h10 _ _ (unI_2 ..) _ _ (unk30_2 ..), ha]; cbv)
        | (rewrite [h15 _ _ (unI_2 ..) _ _ (unI_2 ..), he]; cbv)
        | (rewrite [h14, hr]; cbv)
        | (rewrite [hadd2]; cbv)
        | (rewrite [hadd0]; cbv)
        | (rewrite [hadd1]; cbv)
        | (rewrite [hlen2]; cbv)
        | (rewrite [hget20]; cbv)
        | (rewrite [hidx0]; cbv)
        | (rewrite [happi0]; cbv)
        | (rewrite [happs0]; cbv)
        | (rewrite [hget21]; cbv)
        | (rewrite [hidx1]; cbv)
        | (rewrite [happi1]; cbv)
        | (rewrite [happs1]; cbv)
        | (rewrite [hc2]; generalize hq : c2 _ _ _ = o; cases o <;> (rewrite [hcm] at hq; simp only [rc] at hq) <;> first | (exfalso; omega) | (exact absurd trivial hq) | cbv)
        | (rewrite [hun]; cbv))
      all_goals exact hnx 3 ⟨by omega, by omega, by omega⟩
    · cbv
      (rewrite [hc2]; generalize hq : c2 _ _ _ = o; cases o <;> (rewrite [hcm] at hq; simp only [rc] at hq) <;> first | (exfalso; omega) | (exact absurd trivial hq) | cbv)
      rewrite [hget63]; cbv
      rewrite [h12 _ _ (unI_3 ..)]
      rcases H3 with hs | ⟨hs, mo, mw, o00, o01, o02, o03, o10, o11, o12, o13, o20, o21, o22, o23, e, r0, r1, r2, r3, hmo, hmw, ho0, ho1, ho2, ha, he, hr⟩
      all_goals rewrite [hs]; cbv
      all_goals repeat' (first
        | (rewrite [h13, hmo]; cbv)
        | (rewrite [h13, hmw]; cbv)
        | (rewrite [h14, ho0]; cbv)
        | (rewrite [h14, ho1]; cbv)
        | (rewrite [h14, ho2]; cbv)
        | (rewrite [h10 _ _ (unI_3 ..) _ _ (unk30_3 ..), ha]; cbv)
        | (rewrite [h15 _ _ (unI_3 ..) _ _ (unI_3 ..), he]; cbv)
        | (rewrite [h14, hr]; cbv)
        | (rewrite [hadd3]; cbv)
        | (rewrite [hadd0]; cbv)
        | (rewrite [hadd1]; cbv)
        | (rewrite [hadd2]; cbv)
        | (rewrite [hlen3]; cbv)
        | (rewrite [hget30]; cbv)
        | (rewrite [hidx0]; cbv)
        | (rewrite [happi0]; cbv)
        | (rewrite [happs0]; cbv)
        | (rewrite [hget31]; cbv)
        | (rewrite [hidx1]; cbv)
        | (rewrite [happi1]; cbv)
        | (rewrite [happs1]; cbv)
        | (rewrite [hget32]; cbv)
        | (rewrite [hidx2]; cbv)
        | (rewrite [happi2]; cbv)
        | (rewrite [happs2]; cbv)
        | (rewrite [hc2]; generalize hq : c2 _ _ _ = o; cases o <;> (rewrite [hcm] at hq; simp only [rc] at hq) <;> first | (exfalso; omega) | (exact absurd trivial hq) | cbv)
        | (rewrite [hun]; cbv))
      all_goals exact hnx 4 ⟨by omega, by omega, by omega⟩
    · cbv
      (rewrite [hc2]; generalize hq : c2 _ _ _ = o; cases o <;> (rewrite [hcm] at hq; simp only [rc] at hq) <;> first | (exfalso; omega) | (exact absurd trivial hq) | cbv)
      rewrite [hget64]; cbv
      rewrite [h12 _ _ (unI_1 ..)]
      rcases H4 with hs | ⟨hs, mv, o00, o01, o02, o03, e, r0, r1, r2, r3, hmv, ho0, ha, he, hr⟩
      all_goals rewrite [hs]; cbv
      all_goals repeat' (first
        | (rewrite [h13, hmv]; cbv)
        | (rewrite [h14, ho0]; cbv)
        | (rewrite [h10 _ _ (unI_1 ..) _ _ (unk30_1 ..), ha]; cbv)
        | (rewrite [h15 _ _ (unI_1 ..) _ _ (unI_1 ..), he]; cbv)
        | (rewrite [h14, hr]; cbv)
        | (rewrite [hadd4]; cbv)
        | (rewrite [hadd0]; cbv)
        | (rewrite [hlen1]; cbv)
        | (rewrite [hget10]; cbv)
        | (rewrite [hidx0]; cbv)
        | (rewrite [happi0]; cbv)
        | (rewrite [happs0]; cbv)
        | (rewrite [hc2]; generalize hq : c2 _ _ _ = o; cases o <;> (rewrite [hcm] at hq; simp only [rc] at hq) <;> first | (exfalso; omega) | (exact absurd trivial hq) | cbv)
        | (rewrite [hun]; cbv))
      all_goals exact hnx 5 ⟨by omega, by omega, by omega⟩
    · cbv
      (rewrite [hc2]; generalize hq : c2 _ _ _ = o; cases o <;> (rewrite [hcm] at hq; simp only [rc] at hq) <;> first | (exfalso; omega) | (exact absurd trivial hq) | cbv)
      rewrite [hget65]; cbv
      rewrite [h12 _ _ (unI_2 ..)]
      rcases H5 with hs | ⟨hs, mv, o00, o01, o02, o03, o10, o11, o12, o13, e, r0, r1, r2, r3, hmv, ho0, ho1, ha, he, hr⟩
      all_goals rewrite [hs]; cbv
      all_goals repeat' (first
        | (rewrite [h13, hmv]; cbv)
        | (rewrite [h14, ho0]; cbv)
        | (rewrite [h14, ho1]; cbv)
        | (rewrite [h10 _ _ (unI_2 ..) _ _ (unk30_2 ..), ha]; cbv)
        | (rewrite [h15 _ _ (unI_2 ..) _ _ (unI_2 ..), he]; cbv)
        | (rewrite [h14, hr]; cbv)
        | (rewrite [hadd5]; cbv)
        | (rewrite [hadd0]; cbv)
        | (rewrite [hadd1]; cbv)
        | (rewrite [hlen2]; cbv)
        | (rewrite [hget20]; cbv)
        | (rewrite [hidx0]; cbv)
        | (rewrite [happi0]; cbv)
        | (rewrite [happs0]; cbv)
        | (rewrite [hget21]; cbv)
        | (rewrite [hidx1]; cbv)
        | (rewrite [happi1]; cbv)
        | (rewrite [happs1]; cbv)
        | (rewrite [hc2]; generalize hq : c2 _ _ _ = o; cases o <;> (rewrite [hcm] at hq; simp only [rc] at hq) <;> first | (exfalso; omega) | (exact absurd trivial hq) | cbv)
        | (rewrite [hun]; cbv))
      all_goals exact hnx 6 ⟨by omega, by omega, by omega⟩
    · cbv
      (rewrite [hc2]; generalize hq : c2 _ _ _ = o; cases o <;> (rewrite [hcm] at hq; simp only [rc] at hq) <;> first | (exfalso; omega) | (exact absurd trivial hq) | cbv)
      exact hR
end
end Go.Vm
