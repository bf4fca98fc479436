/- What the evaluator makes of the functions' code (199 s). -/
import Derived.Test.YtoddafkffchnjaaO
namespace Go.Vm
open Go.Proofs Go.Proofs.Ytoddafkffchnjaa Go.Proofs.Ytoddafkffchnjaa.P Go.RowKit Go.Proofs.YtoddafkffchnjaaW.PrintWords Go.Proofs.YtoddafkffchnjaaW.PrintLast Go.Proofs.YtoddafkffchnjaaW.PrintMore
set_option linter.unusedVariables false
set_option linter.unusedSimpArgs false
set_option linter.unusedSectionVars false
set_option linter.unusedVariables false
set_option linter.unusedSimpArgs false
section
variable {op : BinOp → IntKind → Int → Int → Int} {ok : BinOp → Int → Bool} {cmp : BinOp → Int → Int → Bool} {neg not wrap : IntKind → Int → Int} {mn' mx' : Int → Int → Int} {idx : Int → Option Nat}
  {len : List (List V) → Int} {get : List (List V) → Int → Option (List V)} {cut : Nat → List (List V) → Option V → Option V → Option (List (List V))} {app : Nat → Nat → List (List V) → List (List V) → Option (List (List V))} {byte : ByteArray → Int → Option Int}
  {lp : (St → Option (Ex × St)) → Nat → List Nat → Nat → St → Option (Ex × St)} {c2 : BinOp → Int → Int → Bool} {ok2 : BinOp → Int → Bool}
variable (hA : (⟨tys, ⟨op, ok, cmp, neg, not, wrap, mn', mx', idx, len, get, cut, app, byte⟩, lp⟩ : En) = ⟨tys, real, rounds⟩) (hc2 : ∀ o a b, cmp o a b = c2 o a b) (hok2 : ∀ o a, ok o a = ok2 o a) (k : Nat) (K : Oracle)
include hA hc2 hok2
set_option maxRecDepth 100000 in
set_option maxHeartbeats 40000000 in
theorem jacquardref13_signed.ev (a0 : Int) (a1 : Int) (a2_0 : Int) (a2_1 : Int) (a2_2 : Int) (a2_3 : Int) (a3_0 : Int) (a3_1 : Int) (a3_2 : Int) (a3_3 : Int) (r : Int × Int) (H : jacquardref13_signed.f k a0 a1 a2_0 a2_1 a2_2 a2_3 a3_0 a3_1 a3_2 a3_3 = some r)
  (g62 : _) (e62 : g62 = jacquardref13_Smin.F) (h62 : jacquardref13_Smin.Is K g62)
  (g63 : _) (e63 : g63 = jacquardref13_Smax.F) (h63 : jacquardref13_Smax.Is K g63)
  (g71 : _) (e71 : g71 = jacquardref13_four.f) (h71 : jacquardref13_four.Is K g71)
  (g68 : _) (e68 : g68 = jacquardref13_plus.F) (h68 : jacquardref13_plus.Is K g68)
  (g69 : _) (e69 : g69 = jacquardref13_minus.F) (h69 : jacquardref13_minus.Is K g69)
  (g70 : _) (e70 : g70 = jacquardref13_times.F) (h70 : jacquardref13_times.Is K g70)
  (g72 : _) (e72 : g72 = jacquardref13_within.f) (h72 : jacquardref13_within.Is K g72)
  : evFn ⟨tys, ⟨op, ok, cmp, neg, not, wrap, mn', mx', idx, len, get, cut, app, byte⟩, lp⟩ (k + 8) K h35 Try.f35 [V.sc (.int .i64 a0), V.sc (.int .i64 a1), V.agg [V.sc (.int .u64 a2_0), V.sc (.int .u64 a2_1), V.sc (.int .i64 a2_2), V.sc (.int .i64 a2_3)], V.agg [V.sc (.int .u64 a3_0), V.sc (.int .u64 a3_1), V.sc (.int .i64 a3_2), V.sc (.int .i64 a3_3)]] [] = some (V.tup [V.sc (.int .i64 r.1), V.sc (.int .i64 r.2)], []) := by
  generalize hR : some (V.tup [V.sc (.int .i64 r.1), V.sc (.int .i64 r.2)], ([] : Heap)) = R
  have hcm := rcm hA hc2
  have hokm := rok hA hok2
  all_goals cbv
  all_goals repeat' (first
    | (rewrite [h62, hq62]; cbv)
    | (rewrite [h62]; generalize hq62 : g62 _ = o; rcases o with _ | _ <;> cbv)
    | (rewrite [h63, hq63]; cbv)
    | (rewrite [h63]; generalize hq63 : g63 _ = o; rcases o with _ | _ <;> cbv)
    | (rewrite [h71, hq71]; cbv)
    | (rewrite [h71]; generalize hq71 : g71 _ _ _ _ = o; rcases o with _ | ⟨_, _⟩ <;> cbv)
    | (rewrite [h68, hq68]; cbv)
    | (rewrite [h68]; generalize hq68 : g68 _ _ _ = o; rcases o with _ | ⟨_, (_ | _)⟩ <;> cbv)
    | (rewrite [h69, hq69]; cbv)
    | (rewrite [h69]; generalize hq69 : g69 _ _ _ = o; rcases o with _ | ⟨_, (_ | _)⟩ <;> cbv)
    | (rewrite [h70, hq70]; cbv)
    | (rewrite [h70]; generalize hq70 : g70 _ _ _ = o; rcases o with _ | ⟨_, (_ | _)⟩ <;> cbv)
    | (rewrite [h72, hq72]; cbv)
    | (rewrite [h72]; generalize hq72 : g72 _ _ _ _ _ = o; rcases o with _ | _ | _ <;> cbv)
    | (rewrite [hok2]; generalize hq : ok2 _ _ = o; cases o <;> cbv)
    | (rewrite [hc2]; generalize hq : c2 _ _ _ = o; cases o <;> (rewrite [hcm] at hq; simp only [rc] at hq) <;> first | (exfalso; omega) | cbv))
  all_goals
    obtain rfl := c2_eq hcm
    obtain rfl := ok2_eq hokm
    subst e62 e63 e71 e68 e69 e70 e72 hR
    clear h62 h63 h71 h68 h69 h70 h72 hc2 hok2 hcm hokm
    obtain ⟨rfl, rfl, rfl, rfl, rfl, rfl, rfl, rfl, rfl, rfl⟩ := eqsA hA
    clear hA
    try simp only [rl] at *
    try subst_vars
    try replace H := up8 (fun k => jacquardref13_signed.mono _ _ _ _ _ _ _ _ _ _ k) k _ H
    try simp only [jacquardref13_signed.f, beq_dec, bne_dec] at H
    repeat (first
      | (with_reducible first | replace H := le_bind (jacquardref13_Smin.le ..) H | replace H := le_ap (jacquardref13_Smin.le ..) H)
      | (with_reducible first | replace H := le_bind (jacquardref13_Smax.le ..) H | replace H := le_ap (jacquardref13_Smax.le ..) H)
      | (with_reducible first | replace H := le_bind (jacquardref13_plus.le ..) H | replace H := le_ap (jacquardref13_plus.le ..) H)
      | (with_reducible first | replace H := le_bind (jacquardref13_minus.le ..) H | replace H := le_ap (jacquardref13_minus.le ..) H)
      | (with_reducible first | replace H := le_bind (jacquardref13_times.le ..) H | replace H := le_ap (jacquardref13_times.le ..) H)
      | (simp [jacquardref13_signed.j0, jacquardref13_signed.j1, jacquardref13_signed.j2, jacquardref13_signed.j3, jacquardref13_signed.j4, beq_dec, bne_dec, *] at H; done)
      | (simp [jacquardref13_signed.j0, jacquardref13_signed.j1, jacquardref13_signed.j2, jacquardref13_signed.j3, jacquardref13_signed.j4, beq_dec, bne_dec, *] at H)
      | (rw [if_pos (by omega)] at H)
      | (rw [if_neg (by omega)] at H)
      | (have hc := And.left H; replace H := And.right H; try (exfalso; clear H; omega)))
  all_goals first
    | (subst H; rfl)
    | (subst H; simp; done)
    | (cases H; rfl)
    | (exfalso; clear H; omega)
    | (subst H; simp [beq_dec, bne_dec, *]; done)
    | (simp_all [beq_dec, bne_dec]; done)
    | (simp_all [beq_dec, bne_dec]; subst H; first | rfl | (simp; done) | (simp [*]; done))
end
end Go.Vm
