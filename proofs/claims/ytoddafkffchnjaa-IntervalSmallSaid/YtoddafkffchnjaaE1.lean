/- What the evaluator makes of the functions' code (100 s). -/
import Derived.Test.YtoddafkffchnjaaO
namespace Go.Vm
open Go.Proofs Go.Proofs.Ytoddafkffchnjaa Go.Proofs.Ytoddafkffchnjaa.P Go.RowKit Go.Proofs.YtoddafkffchnjaaW.PrintWords Go.Proofs.YtoddafkffchnjaaW.PrintLast Go.Proofs.YtoddafkffchnjaaW.PrintMore
set_option linter.unusedVariables false
set_option linter.unusedSimpArgs false
set_option linter.unusedSectionVars false
set_option linter.unusedVariables false
set_option linter.unusedSimpArgs false
section
variable {op : BinOp → IntKind → Int → Int → Int} {ok : BinOp → Int → Bool} {cmp : BinOp → Int → Int → Bool} {neg not wrap : IntKind → Int → Int} {mn' mx' : Int → Int → Int} {idx : Int → Option Nat}
  {len : List (List V) → Int} {get : List (List V) → Int → Option (List V)} {cut : Nat → List (List V) → Option V → Option V → Option (List (List V))} {app : Nat → Nat → List (List V) → List (List V) → Option (List (List V))} {byte : ByteArray → Int → Option Int}
  {lp : (St → Option (Ex × St)) → Nat → List Nat → Nat → St → Option (Ex × St)} {c2 : BinOp → Int → Int → Bool} {ok2 : BinOp → Int → Bool}
variable (hA : (⟨tys, ⟨op, ok, cmp, neg, not, wrap, mn', mx', idx, len, get, cut, app, byte⟩, lp⟩ : En) = ⟨tys, real, rounds⟩) (hc2 : ∀ o a b, cmp o a b = c2 o a b) (hok2 : ∀ o a, ok o a = ok2 o a) (k : Nat) (K : Oracle)
include hA hc2 hok2
set_option maxRecDepth 100000 in
set_option maxHeartbeats 40000000 in
theorem jacquardref12_Eval.ev (a0 : Int) (a1 : Int) (l2 : List Int) (l3 : List Int) (a4 : Int) (r : Int) (H : jacquardref12_Eval.f k a0 a1 l2 l3 a4 = some r)
  (g13 : _) (e13 : g13 = jacquardref12_Mask.F) (h13 : jacquardref12_Mask.Is K g13)
  (g39 : _) (e39 : g39 = jacquardref12_divide.F) (h39 : jacquardref12_divide.Is K g39)
  (g40 : _) (e40 : g40 = jacquardref12_shift.F) (h40 : jacquardref12_shift.Is K g40)
  (g41 : _) (e41 : g41 = jacquardref12_Bit.f) (h41 : jacquardref12_Bit.Is K g41)
  (g42 : _) (e42 : g42 = jacquardref12_truth.f) (h42 : jacquardref12_truth.Is K g42)
  (g43 : _) (e43 : g43 = jacquardref12_Signed.F) (h43 : jacquardref12_Signed.Is K g43)
  : evFn ⟨tys, ⟨op, ok, cmp, neg, not, wrap, mn', mx', idx, len, get, cut, app, byte⟩, lp⟩ (k + 8) K h15 Try.f15 [V.sc (.int .i64 a0), V.sc (.int .i64 a1), V.sl false (l2.map fun x : Int => [V.sc (.int .i64 x)]), V.sl false (l3.map fun x : Int => [V.sc (.int .u64 x)]), V.sc (.int .u64 a4)] [] = some (V.sc (.int .u64 r), []) := by
  generalize hR : some (V.sc (.int .u64 r), ([] : Heap)) = R
  have hcm := rcm hA hc2
  have hokm := rok hA hok2
  obtain ⟨cl2, bl2, pl2_0, hcl2, hbl2, hpl2_0, hgl2, hul2⟩ := li_int .i64 (get_eq hA) l2
  rw [← hcl2]
  obtain ⟨cl3, bl3, pl3_0, hcl3, hbl3, hpl3_0, hgl3, hul3⟩ := li_int .u64 (get_eq hA) l3
  rw [← hcl3]
  all_goals cbv
  all_goals repeat' (first
    | (rewrite [h13, hq13]; cbv)
    | (rewrite [h13]; generalize hq13 : g13 _ = o; rcases o with _ | _ <;> cbv)
    | (rewrite [h39, hq39]; cbv)
    | (rewrite [h39]; generalize hq39 : g39 _ _ _ = o; rcases o with _ | ⟨_, _⟩ <;> cbv)
    | (rewrite [h40, hq40]; cbv)
    | (rewrite [h40]; generalize hq40 : g40 _ _ _ _ = o; rcases o with _ | _ <;> cbv)
    | (rewrite [h41, hq41]; cbv)
    | (rewrite [h41]; generalize hq41 : g41 _ _ = o; rcases o with _ | _ <;> cbv)
    | (rewrite [h42, hq42]; cbv)
    | (rewrite [h42]; generalize hq42 : g42 _ = o; rcases o with _ | _ <;> cbv)
    | (rewrite [h43, hq43]; cbv)
    | (rewrite [h43]; generalize hq43 : g43 _ _ = o; rcases o with _ | _ <;> cbv)
    | (rewrite [hgl2]; generalize hq : bl2 _ = o; cases o <;> first | (exact absurd (hq.symm.trans (by assumption : bl2 _ = true)) Bool.false_ne_true) | (exact absurd (hq.symm.trans (by assumption : bl2 _ = false)) (fun h => Bool.false_ne_true h.symm)) | cbv)
    | (rewrite [hgl3]; generalize hq : bl3 _ = o; cases o <;> first | (exact absurd (hq.symm.trans (by assumption : bl3 _ = true)) Bool.false_ne_true) | (exact absurd (hq.symm.trans (by assumption : bl3 _ = false)) (fun h => Bool.false_ne_true h.symm)) | cbv)
    | (rewrite [hok2]; generalize hq : ok2 _ _ = o; cases o <;> cbv)
    | (rewrite [hc2]; generalize hq : c2 _ _ _ = o; cases o <;> (rewrite [hcm] at hq; simp only [rc] at hq) <;> first | (exfalso; omega) | cbv))
  all_goals
    obtain rfl := c2_eq hcm
    obtain rfl := ok2_eq hokm
    subst e13 e39 e40 e41 e42 e43 hR
    clear h13 h39 h40 h41 h42 h43 hc2 hok2 hcm hokm hul2 hgl2 hul3 hgl3
    subst hcl2 hbl2 hpl2_0 hcl3 hbl3 hpl3_0
    obtain ⟨rfl, rfl, rfl, rfl, rfl, rfl, rfl, rfl, rfl, rfl⟩ := eqsA hA
    clear hA
    try simp only [rl] at *
    try subst_vars
    try simp [beq_dec, bne_dec, *] at hq42
    try replace H := up8 (fun k => jacquardref12_Eval.mono _ _ _ _ _ k) k _ H
    try simp only [jacquardref12_Eval.f, beq_dec, bne_dec] at H
    repeat (first
      | (with_reducible first | replace H := le_bind (jacquardref12_Mask.le ..) H | replace H := le_ap (jacquardref12_Mask.le ..) H)
      | (with_reducible first | replace H := le_bind (jacquardref12_divide.le ..) H | replace H := le_ap (jacquardref12_divide.le ..) H)
      | (with_reducible first | replace H := le_bind (jacquardref12_shift.le ..) H | replace H := le_ap (jacquardref12_shift.le ..) H)
      | (with_reducible first | replace H := le_bind (jacquardref12_Signed.le ..) H | replace H := le_ap (jacquardref12_Signed.le ..) H)
      | (simp [jacquardref12_Eval.j0, beq_dec, bne_dec, *] at H; done)
      | (simp [jacquardref12_Eval.j0, beq_dec, bne_dec, *] at H)
      | (rw [if_pos (by omega)] at H)
      | (rw [if_neg (by omega)] at H)
      | (have hc := And.left H; replace H := And.right H; try (exfalso; clear H; omega)))
  all_goals first
    | (subst H; rfl)
    | (subst H; simp; done)
    | (cases H; rfl)
    | (exfalso; clear H; omega)
    | (subst H; simp [beq_dec, bne_dec, *]; done)
    | (simp_all [beq_dec, bne_dec]; done)
    | (simp_all [beq_dec, bne_dec]; subst H; first | rfl | (simp; done) | (simp [*]; done))
end
end Go.Vm
