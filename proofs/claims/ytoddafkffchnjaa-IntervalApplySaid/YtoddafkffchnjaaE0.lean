/- What the evaluator makes of the functions' code (300 s). -/
import Derived.Test.YtoddafkffchnjaaO
namespace Go.Vm
open Go.Proofs Go.Proofs.Ytoddafkffchnjaa Go.Proofs.Ytoddafkffchnjaa.P Go.RowKit Go.Proofs.YtoddafkffchnjaaW.PrintWords Go.Proofs.YtoddafkffchnjaaW.PrintLast Go.Proofs.YtoddafkffchnjaaW.PrintMore
set_option linter.unusedVariables false
set_option linter.unusedSimpArgs false
set_option linter.unusedSectionVars false
set_option linter.unusedVariables false
set_option linter.unusedSimpArgs false
section
variable {op : BinOp → IntKind → Int → Int → Int} {ok : BinOp → Int → Bool} {cmp : BinOp → Int → Int → Bool} {neg not wrap : IntKind → Int → Int} {mn' mx' : Int → Int → Int} {idx : Int → Option Nat}
  {len : List (List V) → Int} {get : List (List V) → Int → Option (List V)} {cut : Nat → List (List V) → Option V → Option V → Option (List (List V))} {app : Nat → Nat → List (List V) → List (List V) → Option (List (List V))} {byte : ByteArray → Int → Option Int}
  {lp : (St → Option (Ex × St)) → Nat → List Nat → Nat → St → Option (Ex × St)} {c2 : BinOp → Int → Int → Bool} {ok2 : BinOp → Int → Bool}
variable (hA : (⟨tys, ⟨op, ok, cmp, neg, not, wrap, mn', mx', idx, len, get, cut, app, byte⟩, lp⟩ : En) = ⟨tys, real, rounds⟩) (hc2 : ∀ o a b, cmp o a b = c2 o a b) (hok2 : ∀ o a, ok o a = ok2 o a) (k : Nat) (K : Oracle)
include hA hc2 hok2
set_option maxRecDepth 100000 in
set_option maxHeartbeats 40000000 in
theorem jacquardref13_Apply.ev (a0 : Int) (a1 : Int) (l2 : List Int) (l3 : List (S30)) (a4 : Int) (r : Int × Int × Int × Int) (H : jacquardref13_Apply.f k a0 a1 l2 l3 a4 = some r)
  (g28 : _) (e28 : g28 = jacquardref13_Top.F) (h28 : jacquardref13_Top.Is K g28)
  (g29 : _) (e29 : g29 = jacquardref13_Tighten.F) (h29 : jacquardref13_Tighten.Is K g29)
  (g15 : _) (e15 : g15 = jacquardref12_Eval.F) (h15 : jacquardref12_Eval.Is K g15)
  (g30 : _) (e30 : g30 = jacquardref13_Of.F) (h30 : jacquardref13_Of.Is K g30)
  (g31 : _) (e31 : g31 = jacquardref13_compare.F) (h31 : jacquardref13_compare.Is K g31)
  (g32 : _) (e32 : g32 = jacquardref13_Join.f) (h32 : jacquardref13_Join.Is K g32)
  (g33 : _) (e33 : g33 = jacquardref13_cast.F) (h33 : jacquardref13_cast.Is K g33)
  (g34 : _) (e34 : g34 = jacquardref13_unsigned.F) (h34 : jacquardref13_unsigned.Is K g34)
  (g35 : _) (e35 : g35 = jacquardref13_signed.F) (h35 : jacquardref13_signed.Is K g35)
  (g12 : _) (e12 : g12 = jacquardref12_Shape.F) (h12 : jacquardref12_Shape.Is K g12)
  : evFn ⟨tys, ⟨op, ok, cmp, neg, not, wrap, mn', mx', idx, len, get, cut, app, byte⟩, lp⟩ (k + 8) K h11 Try.f11 [V.sc (.int .i64 a0), V.sc (.int .i64 a1), V.sl false (l2.map fun x : Int => [V.sc (.int .i64 x)]), V.sl false (l3.map fun x : S30 => [V.sc (.int .u64 x.f0), V.sc (.int .u64 x.f1), V.sc (.int .i64 x.f2), V.sc (.int .i64 x.f3)]), V.sc (.int .u64 a4)] [] = some (V.agg [V.sc (.int .u64 r.1), V.sc (.int .u64 r.2.1), V.sc (.int .i64 r.2.2.1), V.sc (.int .i64 r.2.2.2)], []) := by
  generalize hR : some (V.agg [V.sc (.int .u64 r.1), V.sc (.int .u64 r.2.1), V.sc (.int .i64 r.2.2.1), V.sc (.int .i64 r.2.2.2)], ([] : Heap)) = R
  have hcm := rcm hA hc2
  have hokm := rok hA hok2
  obtain ⟨lp2, hlp2, hlp⟩ : ∃ lp2, lp2 = rounds ∧ ∀ b n0 kp L st, lp b n0 kp L st = lp2 b n0 kp L st := ⟨lp, lp_eq hA, fun _ _ _ _ _ => rfl⟩
  obtain ⟨cl2, bl2, pl2_0, hcl2, hbl2, hpl2_0, hgl2, hul2⟩ := li_int .i64 (get_eq hA) l2
  rw [← hcl2]
  obtain ⟨cl3, bl3, pl3_0, pl3_1, pl3_2, pl3_3, hcl3, hbl3, hpl3_0, hpl3_1, hpl3_2, hpl3_3, hgl3, hul3⟩ := li_k30 (get_eq hA) l3
  rw [← hcl3]
  all_goals cbv
  all_goals repeat' (first
    | (rewrite [h28, hq28]; cbv)
    | (rewrite [h28]; generalize hq28 : g28 _ = o; rcases o with _ | ⟨_, _, _, _⟩ <;> cbv)
    | (rewrite [h29, hq29]; cbv)
    | (rewrite [h29]; generalize hq29 : g29 _ _ _ _ _ = o; rcases o with _ | ⟨_, _, _, _, (_ | _)⟩ <;> cbv)
    | (rewrite [(h15 _ _ hul2 _ _ hux12_2), hq15]; cbv)
    | (rewrite [(h15 _ _ hul2 _ _ hux12_2)]; generalize hq15 : g15 _ _ _ _ _ = o; rcases o with _ | _ <;> cbv)
    | (rewrite [(h15 _ _ hul2 _ _ (unI_1 ..)), hq15]; cbv)
    | (rewrite [(h15 _ _ hul2 _ _ (unI_1 ..))]; generalize hq15 : g15 _ _ _ _ _ = o; rcases o with _ | _ <;> cbv)
    | (rewrite [(h15 _ _ hul2 _ _ (unI_2 ..)), hq15]; cbv)
    | (rewrite [(h15 _ _ hul2 _ _ (unI_2 ..))]; generalize hq15 : g15 _ _ _ _ _ = o; rcases o with _ | _ <;> cbv)
    | (rewrite [(h15 _ _ hul2 _ _ (unI_3 ..)), hq15]; cbv)
    | (rewrite [(h15 _ _ hul2 _ _ (unI_3 ..))]; generalize hq15 : g15 _ _ _ _ _ = o; rcases o with _ | _ <;> cbv)
    | (rewrite [(h15 _ _ hul2 _ _ (unI_4 ..)), hq15]; cbv)
    | (rewrite [(h15 _ _ hul2 _ _ (unI_4 ..))]; generalize hq15 : g15 _ _ _ _ _ = o; rcases o with _ | _ <;> cbv)
    | (rewrite [(h15 _ _ hul2 _ _ (unI_5 ..)), hq15]; cbv)
    | (rewrite [(h15 _ _ hul2 _ _ (unI_5 ..))]; generalize hq15 : g15 _ _ _ _ _ = o; rcases o with _ | _ <;> cbv)
    | (rewrite [(h15 _ _ (unI_1 ..) _ _ hux12_2), hq15]; cbv)
    | (rewrite [(h15 _ _ (unI_1 ..) _ _ hux12_2)]; generalize hq15 : g15 _ _ _ _ _ = o; rcases o with _ | _ <;> cbv)
    | (rewrite [(h15 _ _ (unI_1 ..) _ _ (unI_1 ..)), hq15]; cbv)
    | (rewrite [(h15 _ _ (unI_1 ..) _ _ (unI_1 ..))]; generalize hq15 : g15 _ _ _ _ _ = o; rcases o with _ | _ <;> cbv)
    | (rewrite [(h15 _ _ (unI_1 ..) _ _ (unI_2 ..)), hq15]; cbv)
    | (rewrite [(h15 _ _ (unI_1 ..) _ _ (unI_2 ..))]; generalize hq15 : g15 _ _ _ _ _ = o; rcases o with _ | _ <;> cbv)
    | (rewrite [(h15 _ _ (unI_1 ..) _ _ (unI_3 ..)), hq15]; cbv)
    | (rewrite [(h15 _ _ (unI_1 ..) _ _ (unI_3 ..))]; generalize hq15 : g15 _ _ _ _ _ = o; rcases o with _ | _ <;> cbv)
    | (rewrite [(h15 _ _ (unI_1 ..) _ _ (unI_4 ..)), hq15]; cbv)
    | (rewrite [(h15 _ _ (unI_1 ..) _ _ (unI_4 ..))]; generalize hq15 : g15 _ _ _ _ _ = o; rcases o with _ | _ <;> cbv)
    | (rewrite [(h15 _ _ (unI_1 ..) _ _ (unI_5 ..)), hq15]; cbv)
    | (rewrite [(h15 _ _ (unI_1 ..) _ _ (unI_5 ..))]; generalize hq15 : g15 _ _ _ _ _ = o; rcases o with _ | _ <;> cbv)
    | (rewrite [(h15 _ _ (unI_2 ..) _ _ hux12_2), hq15]; cbv)
    | (rewrite [(h15 _ _ (unI_2 ..) _ _ hux12_2)]; generalize hq15 : g15 _ _ _ _ _ = o; rcases o with _ | _ <;> cbv)
    | (rewrite [(h15 _ _ (unI_2 ..) _ _ (unI_1 ..)), hq15]; cbv)
    | (rewrite [(h15 _ _ (unI_2 ..) _ _ (unI_1 ..))]; generalize hq15 : g15 _ _ _ _ _ = o; rcases o with _ | _ <;> cbv)
    | (rewrite [(h15 _ _ (unI_2 ..) _ _ (unI_2 ..)), hq15]; cbv)
    | (rewrite [(h15 _ _ (unI_2 ..) _ _ (unI_2 ..))]; generalize hq15 : g15 _ _ _ _ _ = o; rcases o with _ | _ <;> cbv)
    | (rewrite [(h15 _ _ (unI_2 ..) _ _ (unI_3 ..)), hq15]; cbv)
    | (rewrite [(h15 _ _ (unI_2 ..) _ _ (unI_3 ..))]; generalize hq15 : g15 _ _ _ _ _ = o; rcases o with _ | _ <;> cbv)
    | (rewrite [(h15 _ _ (unI_2 ..) _ _ (unI_4 ..)), hq15]; cbv)
    | (rewrite [(h15 _ _ (unI_2 ..) _ _ (unI_4 ..))]; generalize hq15 : g15 _ _ _ _ _ = o; rcases o with _ | _ <;> cbv)
    | (rewrite [(h15 _ _ (unI_2 ..) _ _ (unI_5 ..)), hq15]; cbv)
    | (rewrite [(h15 _ _ (unI_2 ..) _ _ (unI_5 ..))]; generalize hq15 : g15 _ _ _ _ _ = o; rcases o with _ | _ <;> cbv)
    | (rewrite [(h15 _ _ (unI_3 ..) _ _ hux12_2), hq15]; cbv)
    | (rewrite [(h15 _ _ (unI_3 ..) _ _ hux12_2)]; generalize hq15 : g15 _ _ _ _ _ = o; rcases o with _ | _ <;> cbv)
    | (rewrite [(h15 _ _ (unI_3 ..) _ _ (unI_1 ..)), hq15]; cbv)
    | (rewrite [(h15 _ _ (unI_3 ..) _ _ (unI_1 ..))]; generalize hq15 : g15 _ _ _ _ _ = o; rcases o with _ | _ <;> cbv)
    | (rewrite [(h15 _ _ (unI_3 ..) _ _ (unI_2 ..)), hq15]; cbv)
    | (rewrite [(h15 _ _ (unI_3 ..) _ _ (unI_2 ..))]; generalize hq15 : g15 _ _ _ _ _ = o; rcases o with _ | _ <;> cbv)
    | (rewrite [(h15 _ _ (unI_3 ..) _ _ (unI_3 ..)), hq15]; cbv)
    | (rewrite [(h15 _ _ (unI_3 ..) _ _ (unI_3 ..))]; generalize hq15 : g15 _ _ _ _ _ = o; rcases o with _ | _ <;> cbv)
    | (rewrite [(h15 _ _ (unI_3 ..) _ _ (unI_4 ..)), hq15]; cbv)
    | (rewrite [(h15 _ _ (unI_3 ..) _ _ (unI_4 ..))]; generalize hq15 : g15 _ _ _ _ _ = o; rcases o with _ | _ <;> cbv)
    | (rewrite [(h15 _ _ (unI_3 ..) _ _ (unI_5 ..)), hq15]; cbv)
    | (rewrite [(h15 _ _ (unI_3 ..) _ _ (unI_5 ..))]; generalize hq15 : g15 _ _ _ _ _ = o; rcases o with _ | _ <;> cbv)
    | (rewrite [(h15 _ _ (unI_4 ..) _ _ hux12_2), hq15]; cbv)
    | (rewrite [(h15 _ _ (unI_4 ..) _ _ hux12_2)]; generalize hq15 : g15 _ _ _ _ _ = o; rcases o with _ | _ <;> cbv)
    | (rewrite [(h15 _ _ (unI_4 ..) _ _ (unI_1 ..)), hq15]; cbv)
    | (rewrite [(h15 _ _ (unI_4 ..) _ _ (unI_1 ..))]; generalize hq15 : g15 _ _ _ _ _ = o; rcases o with _ | _ <;> cbv)
    | (rewrite [(h15 _ _ (unI_4 ..) _ _ (unI_2 ..)), hq15]; cbv)
    | (rewrite [(h15 _ _ (unI_4 ..) _ _ (unI_2 ..))]; generalize hq15 : g15 _ _ _ _ _ = o; rcases o with _ | _ <;> cbv)
    | (rewrite [(h15 _ _ (unI_4 ..) _ _ (unI_3 ..)), hq15]; cbv)
    | (rewrite [(h15 _ _ (unI_4 ..) _ _ (unI_3 ..))]; generalize hq15 : g15 _ _ _ _ _ = o; rcases o with _ | _ <;> cbv)
    | (rewrite [(h15 _ _ (unI_4 ..) _ _ (unI_4 ..)), hq15]; cbv)
    | (rewrite [(h15 _ _ (unI_4 ..) _ _ (unI_4 ..))]; generalize hq15 : g15 _ _ _ _ _ = o; rcases o with _ | _ <;> cbv)
    | (rewrite [(h15 _ _ (unI_4 ..) _ _ (unI_5 ..)), hq15]; cbv)
    | (rewrite [(h15 _ _ (unI_4 ..) _ _ (unI_5 ..))]; generalize hq15 : g15 _ _ _ _ _ = o; rcases o with _ | _ <;> cbv)
    | (rewrite [(h15 _ _ (unI_5 ..) _ _ hux12_2), hq15]; cbv)
    | (rewrite [(h15 _ _ (unI_5 ..) _ _ hux12_2)]; generalize hq15 : g15 _ _ _ _ _ = o; rcases o with _ | _ <;> cbv)
    | (rewrite [(h15 _ _ (unI_5 ..) _ _ (unI_1 ..)), hq15]; cbv)
    | (rewrite [(h15 _ _ (unI_5 ..) _ _ (unI_1 ..))]; generalize hq15 : g15 _ _ _ _ _ = o; rcases o with _ | _ <;> cbv)
    | (rewrite [(h15 _ _ (unI_5 ..) _ _ (unI_2 ..)), hq15]; cbv)
    | (rewrite [(h15 _ _ (unI_5 ..) _ _ (unI_2 ..))]; generalize hq15 : g15 _ _ _ _ _ = o; rcases o with _ | _ <;> cbv)
    | (rewrite [(h15 _ _ (unI_5 ..) _ _ (unI_3 ..)), hq15]; cbv)
    | (rewrite [(h15 _ _ (unI_5 ..) _ _ (unI_3 ..))]; generalize hq15 : g15 _ _ _ _ _ = o; rcases o with _ | _ <;> cbv)
    | (rewrite [(h15 _ _ (unI_5 ..) _ _ (unI_4 ..)), hq15]; cbv)
    | (rewrite [(h15 _ _ (unI_5 ..) _ _ (unI_4 ..))]; generalize hq15 : g15 _ _ _ _ _ = o; rcases o with _ | _ <;> cbv)
    | (rewrite [(h15 _ _ (unI_5 ..) _ _ (unI_5 ..)), hq15]; cbv)
    | (rewrite [(h15 _ _ (unI_5 ..) _ _ (unI_5 ..))]; generalize hq15 : g15 _ _ _ _ _ = o; rcases o with _ | _ <;> cbv)
    | (rewrite [h30, hq30]; cbv)
    | (rewrite [h30]; generalize hq30 : g30 _ _ = o; rcases o with _ | ⟨_, _, _, _⟩ <;> cbv)
    | (rewrite [h31, hq31]; cbv)
    | (rewrite [h31]; generalize hq31 : g31 _ _ _ _ _ _ _ _ _ = o; rcases o with _ | ⟨_, _, _, _⟩ <;> cbv)
    | (rewrite [h32, hq32]; cbv)
    | (rewrite [h32]; generalize hq32 : g32 _ _ _ _ _ _ _ _ = o; rcases o with _ | ⟨_, _, _, _⟩ <;> cbv)
    | (rewrite [h33, hq33]; cbv)
    | (rewrite [h33]; generalize hq33 : g33 _ _ _ _ _ _ _ = o; rcases o with _ | ⟨_, _, _, _⟩ <;> cbv)
    | (rewrite [h34, hq34]; cbv)
    | (rewrite [h34]; generalize hq34 : g34 _ _ _ _ _ _ _ _ _ _ = o; rcases o with _ | ⟨_, _⟩ <;> cbv)
    | (rewrite [h35, hq35]; cbv)
    | (rewrite [h35]; generalize hq35 : g35 _ _ _ _ _ _ _ _ _ _ = o; rcases o with _ | ⟨_, _⟩ <;> cbv)
    | (rewrite [(h12 _ _ hul2), hq12]; cbv)
    | (rewrite [(h12 _ _ hul2)]; generalize hq12 : g12 _ _ _ = o; rcases o with _ | _ | _ <;> cbv)
    | (rewrite [(h12 _ _ (unI_1 ..)), hq12]; cbv)
    | (rewrite [(h12 _ _ (unI_1 ..))]; generalize hq12 : g12 _ _ _ = o; rcases o with _ | _ | _ <;> cbv)
    | (rewrite [(h12 _ _ (unI_2 ..)), hq12]; cbv)
    | (rewrite [(h12 _ _ (unI_2 ..))]; generalize hq12 : g12 _ _ _ = o; rcases o with _ | _ | _ <;> cbv)
    | (rewrite [(h12 _ _ (unI_3 ..)), hq12]; cbv)
    | (rewrite [(h12 _ _ (unI_3 ..))]; generalize hq12 : g12 _ _ _ = o; rcases o with _ | _ | _ <;> cbv)
    | (rewrite [(h12 _ _ (unI_4 ..)), hq12]; cbv)
    | (rewrite [(h12 _ _ (unI_4 ..))]; generalize hq12 : g12 _ _ _ = o; rcases o with _ | _ | _ <;> cbv)
    | (rewrite [(h12 _ _ (unI_5 ..)), hq12]; cbv)
    | (rewrite [(h12 _ _ (unI_5 ..))]; generalize hq12 : g12 _ _ _ = o; rcases o with _ | _ | _ <;> cbv)
    | (rewrite [hgl2]; generalize hq : bl2 _ = o; cases o <;> first | (exact absurd (hq.symm.trans (by assumption : bl2 _ = true)) Bool.false_ne_true) | (exact absurd (hq.symm.trans (by assumption : bl2 _ = false)) (fun h => Bool.false_ne_true h.symm)) | cbv)
    | (rewrite [hgl3]; generalize hq : bl3 _ = o; cases o <;> first | (exact absurd (hq.symm.trans (by assumption : bl3 _ = true)) Bool.false_ne_true) | (exact absurd (hq.symm.trans (by assumption : bl3 _ = false)) (fun h => Bool.false_ne_true h.symm)) | cbv)
    | (rewrite [hgx11_2]; generalize hq : bx11_2 _ = o; cases o <;> first | (exact absurd (hq.symm.trans (by assumption : bx11_2 _ = true)) Bool.false_ne_true) | (exact absurd (hq.symm.trans (by assumption : bx11_2 _ = false)) (fun h => Bool.false_ne_true h.symm)) | cbv)
    | (rewrite [hax11_2]; generalize hq : bax11_2 = o; cases o <;> cbv)
    | (rewrite [hgx12_2]; generalize hq : bx12_2 _ = o; cases o <;> first | (exact absurd (hq.symm.trans (by assumption : bx12_2 _ = true)) Bool.false_ne_true) | (exact absurd (hq.symm.trans (by assumption : bx12_2 _ = false)) (fun h => Bool.false_ne_true h.symm)) | cbv)
    | (rewrite [hax12_2]; generalize hq : bax12_2 = o; cases o <;> cbv)
    | (rewrite [hok2]; generalize hq : ok2 _ _ = o; cases o <;> cbv)
    | (rewrite [hc2]; generalize hq : c2 _ _ _ = o; cases o <;> (rewrite [hcm] at hq; simp only [rc] at hq) <;> first | (exfalso; omega) | cbv)
    | (rewrite [hlp]; generalize hl : lp2 _ _ _ _ _ = o; revert o
       refine loop_rule hlp2 (fun (y : List (S30) × List Int × Bool × Int × Int × Int × Int × Int) st => ⟨((((st.s.set 13 (V.sc (.bool y.2.2.1))).set 14 (V.sc (.int .i64 y.2.2.2.1))).set 11 (V.sl true (y.1.map fun x : S30 => [V.sc (.int .u64 x.f0), V.sc (.int .u64 x.f1), V.sc (.int .i64 x.f2), V.sc (.int .i64 x.f3)]))).set 12 (V.sl true (y.2.1.map fun x : Int => [V.sc (.int .u64 x)]))), (st.h.set 0 [V.sc (.int .u64 y.2.2.2.2.1), V.sc (.int .u64 y.2.2.2.2.2.1), V.sc (.int .i64 y.2.2.2.2.2.2.1), V.sc (.int .i64 y.2.2.2.2.2.2.2)])⟩) (fun n y => jacquardref13_Apply.l0 n a0 a1 l2 l3 a4 y.1 y.2.1 y.2.2.1 y.2.2.2.1 = some r) (n := k + 8) (x := ([], [], ?x13_2, ?x14_2, ?x940000_2, ?x940001_2, ?x940002_2, ?x940003_2)) ?hst (fun y h => by simp [jacquardref13_Apply.l0] at h) ?hq ?hn ?hs
       case hst => exact rfl
       case hq =>
         obtain rfl := c2_eq hcm
         obtain rfl := ok2_eq hokm
         subst e28 e29 e15 e30 e31 e32 e33 e34 e35 e12 hR
         clear h28 h29 h15 h30 h31 h32 h33 h34 h35 h12 hc2 hok2 hcm hokm hul2 hgl2 hul3 hgl3 hlp
         subst hcl2 hbl2 hpl2_0 hcl3 hbl3 hpl3_0 hpl3_1 hpl3_2 hpl3_3
         try clear hux11_2 hgx11_2 hax11_2
         try clear hux12_2 hgx12_2 hax12_2
         try subst hcx11_2 hbx11_2 hpx11_2_0 hpx11_2_1 hpx11_2_2 hpx11_2_3 hbax11_2 hcax11_2
         try subst hcx12_2 hbx12_2 hpx12_2_0 hbax12_2 hcax12_2
         obtain ⟨rfl, rfl, rfl, rfl, rfl, rfl, rfl, rfl, rfl, rfl⟩ := eqsA hA
         clear hA
         try simp only [rl] at *
         try subst_vars
         try replace H := up8 (fun k => jacquardref13_Apply.mono _ _ _ _ _ k) k _ H
         try simp only [jacquardref13_Apply.f, beq_dec, bne_dec] at H
         repeat (first
           | (with_reducible first | replace H := le_bind (jacquardref13_Top.le ..) H | replace H := le_ap (jacquardref13_Top.le ..) H)
           | (with_reducible first | replace H := le_bind (jacquardref13_Tighten.le ..) H | replace H := le_ap (jacquardref13_Tighten.le ..) H)
           | (with_reducible first | replace H := le_bind (jacquardref12_Eval.le ..) H | replace H := le_ap (jacquardref12_Eval.le ..) H)
           | (with_reducible first | replace H := le_bind (jacquardref13_Of.le ..) H | replace H := le_ap (jacquardref13_Of.le ..) H)
           | (with_reducible first | replace H := le_bind (jacquardref13_compare.le ..) H | replace H := le_ap (jacquardref13_compare.le ..) H)
           | (with_reducible first | replace H := le_bind (jacquardref13_cast.le ..) H | replace H := le_ap (jacquardref13_cast.le ..) H)
           | (with_reducible first | replace H := le_bind (jacquardref13_unsigned.le ..) H | replace H := le_ap (jacquardref13_unsigned.le ..) H)
           | (with_reducible first | replace H := le_bind (jacquardref13_signed.le ..) H | replace H := le_ap (jacquardref13_signed.le ..) H)
           | (with_reducible first | replace H := le_bind (jacquardref12_Shape.le ..) H | replace H := le_ap (jacquardref12_Shape.le ..) H)
           | (simp [jacquardref13_Apply.j0, jacquardref13_Apply.j2, jacquardref13_Apply.j3, jacquardref13_Apply.j4, beq_dec, bne_dec, *] at H; done)
           | (simp [jacquardref13_Apply.j0, jacquardref13_Apply.j2, jacquardref13_Apply.j3, jacquardref13_Apply.j4, beq_dec, bne_dec, *] at H)
           | (rw [if_pos (by omega)] at H)
           | (rw [if_neg (by omega)] at H)
           | (have hc := And.left H; replace H := And.right H; try (exfalso; clear H; omega)))
         all_goals first | exact H | exact le_ap (le_of_le (g := fun k => jacquardref13_Apply.l0 k _ _ _ _ _ _ _ _ _) (fun k => (jacquardref13_Apply.mono_l k).2.1 _ _ _ _ _ _ _ _ _) (by omega)) H | (rw [hq]; exact le_ap (le_of_le (g := fun k => jacquardref13_Apply.l0 k _ _ _ _ _ _ _ _ _) (fun k => (jacquardref13_Apply.mono_l k).2.1 _ _ _ _ _ _ _ _ _) (by omega)) H) | (simp_all; done)
       case hn => omega
       case' hs =>
         clear H
         intro m nx ⟨x11_2, x12_2, x13_2, x14_2, x940000_2, x940001_2, x940002_2, x940003_2⟩ hnx H
         obtain ⟨cx11_2, bx11_2, px11_2_0, px11_2_1, px11_2_2, px11_2_3, hcx11_2, hbx11_2, hpx11_2_0, hpx11_2_1, hpx11_2_2, hpx11_2_3, hgx11_2, hux11_2⟩ := li_k30 (get_eq hA) x11_2
         simp only [← hcx11_2]
         obtain ⟨bax11_2, hbax11_2⟩ : ∃ b, b = decide (x11_2.length < 4398046511104) := ⟨_, rfl⟩
         obtain ⟨cax11_2, hcax11_2⟩ : ∃ p, p = fun (t0 : Int) (t1 : Int) (t2 : Int) (t3 : Int) => ((x11_2 ++ [(⟨t0, t1, t2, t3⟩ : S30)]).map fun x : S30 => [V.sc (.int .u64 x.f0), V.sc (.int .u64 x.f1), V.sc (.int .i64 x.f2), V.sc (.int .i64 x.f3)]) := ⟨_, rfl⟩
         have hax11_2 : ∀ t0 t1 t2 t3, app 4 32 cx11_2 [[V.sc (.int .u64 t0), V.sc (.int .u64 t1), V.sc (.int .i64 t2), V.sc (.int .i64 t3)]] = if bax11_2 then some (cax11_2 t0 t1 t2 t3) else none := by rw [app_eq hA]; subst hcx11_2 hbax11_2 hcax11_2; exact fun t0 t1 t2 t3 => app_map _ 4 32 x11_2 (⟨t0, t1, t2, t3⟩ : S30) rfl (fun _ => rfl) (by decide)
         obtain ⟨cx12_2, bx12_2, px12_2_0, hcx12_2, hbx12_2, hpx12_2_0, hgx12_2, hux12_2⟩ := li_int .u64 (get_eq hA) x12_2
         simp only [← hcx12_2]
         obtain ⟨bax12_2, hbax12_2⟩ : ∃ b, b = decide (x12_2.length < 17592186044416) := ⟨_, rfl⟩
         obtain ⟨cax12_2, hcax12_2⟩ : ∃ p, p = fun (t0 : Int) => ((x12_2 ++ [t0]).map fun x : Int => [V.sc (.int .u64 x)]) := ⟨_, rfl⟩
         have hax12_2 : ∀ t0, app 1 8 cx12_2 [[V.sc (.int .u64 t0)]] = if bax12_2 then some (cax12_2 t0) else none := by rw [app_eq hA]; subst hcx12_2 hbax12_2 hcax12_2; exact fun t0 => app_map _ 1 8 x12_2 t0 rfl (fun _ => rfl) (by decide)
         rcases x13_2 with _ | _
         all_goals cbv))
  all_goals
    obtain rfl := c2_eq hcm
    obtain rfl := ok2_eq hokm
    subst e28 e29 e15 e30 e31 e32 e33 e34 e35 e12 hR
    clear h28 h29 h15 h30 h31 h32 h33 h34 h35 h12 hc2 hok2 hcm hokm hul2 hgl2 hul3 hgl3 hlp
    subst hcl2 hbl2 hpl2_0 hcl3 hbl3 hpl3_0 hpl3_1 hpl3_2 hpl3_3
    try clear hux11_2 hgx11_2 hax11_2
    try clear hux12_2 hgx12_2 hax12_2
    try subst hcx11_2 hbx11_2 hpx11_2_0 hpx11_2_1 hpx11_2_2 hpx11_2_3 hbax11_2 hcax11_2
    try subst hcx12_2 hbx12_2 hpx12_2_0 hbax12_2 hcax12_2
    obtain ⟨rfl, rfl, rfl, rfl, rfl, rfl, rfl, rfl, rfl, rfl⟩ := eqsA hA
    clear hA
    try simp only [rl] at *
    try (exact hnx (_, _, _, _, _, _, _, _) H)
    try replace hnx : Go.RowKit.Hid _ := hnx
    try subst_vars
    try replace H := up8 (fun k => jacquardref13_Apply.mono _ _ _ _ _ k) k _ H
    try simp only [jacquardref13_Apply.f, beq_dec, bne_dec] at H
    try simp only [jacquardref13_Apply.l0, beq_dec, bne_dec] at H
    repeat (first
      | (with_reducible replace H := le_ap (up8 (g := fun k => jacquardref13_Apply.j0 k _ _ _ _ _ _) (fun k => (jacquardref13_Apply.mono_l k).1 _ _ _ _ _ _) m) H)
      | (with_reducible replace H := le_ap (up8 (g := fun k => jacquardref13_Apply.j2 k _ _ _ _ _) (fun k => (jacquardref13_Apply.mono_l k).2.2.2.1 _ _ _ _ _) m) H)
      | (with_reducible replace H := le_ap (up8 (g := fun k => jacquardref13_Apply.j3 k _ _ _ _ _) (fun k => (jacquardref13_Apply.mono_l k).2.2.2.2 _ _ _ _ _) m) H)
      | (with_reducible replace H := le_ap (up8 (g := fun k => jacquardref13_Apply.j4 k _ _ _ _ _) (fun k => (jacquardref13_Apply.mono_l k).2.2.1 _ _ _ _ _) m) H)
      | (with_reducible first | replace H := le_bind (jacquardref13_Top.le ..) H | replace H := le_ap (jacquardref13_Top.le ..) H)
      | (with_reducible first | replace H := le_bind (jacquardref13_Tighten.le ..) H | replace H := le_ap (jacquardref13_Tighten.le ..) H)
      | (with_reducible first | replace H := le_bind (jacquardref12_Eval.le ..) H | replace H := le_ap (jacquardref12_Eval.le ..) H)
      | (with_reducible first | replace H := le_bind (jacquardref13_Of.le ..) H | replace H := le_ap (jacquardref13_Of.le ..) H)
      | (with_reducible first | replace H := le_bind (jacquardref13_compare.le ..) H | replace H := le_ap (jacquardref13_compare.le ..) H)
      | (with_reducible first | replace H := le_bind (jacquardref13_cast.le ..) H | replace H := le_ap (jacquardref13_cast.le ..) H)
      | (with_reducible first | replace H := le_bind (jacquardref13_unsigned.le ..) H | replace H := le_ap (jacquardref13_unsigned.le ..) H)
      | (with_reducible first | replace H := le_bind (jacquardref13_signed.le ..) H | replace H := le_ap (jacquardref13_signed.le ..) H)
      | (with_reducible first | replace H := le_bind (jacquardref12_Shape.le ..) H | replace H := le_ap (jacquardref12_Shape.le ..) H)
      | (simp [beq_dec, bne_dec, *] at H; done)
      | (simp [beq_dec, bne_dec, *] at H)
      | (rw [if_pos (by omega)] at H)
      | (rw [if_neg (by omega)] at H)
      | (simp [jacquardref13_Apply.j0, jacquardref13_Apply.j2, jacquardref13_Apply.j3, jacquardref13_Apply.j4, beq_dec, bne_dec, *] at H; done)
      | (simp [jacquardref13_Apply.j0, jacquardref13_Apply.j2, jacquardref13_Apply.j3, jacquardref13_Apply.j4, beq_dec, bne_dec, *] at H)
      | (rw [if_pos (by omega)] at H)
      | (rw [if_neg (by omega)] at H)
      | (have hc := And.left H; replace H := And.right H; try (exfalso; clear H; (try clear hnx); omega)))
  all_goals first
    | (exact hnx.out (_, _, _, _, _, _, _, _) H)
    | (rw [← hq] at H; exact hnx.out (_, _, _, _, _, _, _, _) H)
    | (subst H; rfl)
    | (subst H; simp; done)
    | (cases H; rfl)
    | (exfalso; clear H; (try clear hnx); omega)
    | (exfalso; clear H; (try clear hnx); simp only [natCast_eq] at *; omega)
    | (simp only [*] at hq28; simp [*] at H; done)
    | (simp only [*] at hq28; simp [*] at H; subst H; first | rfl | (simp; done))
    | (simp only [*] at hq29; simp [*] at H; done)
    | (simp only [*] at hq29; simp [*] at H; subst H; first | rfl | (simp; done))
    | (simp only [*] at hq15; simp [*] at H; done)
    | (simp only [*] at hq15; simp [*] at H; subst H; first | rfl | (simp; done))
    | (simp only [*] at hq30; simp [*] at H; done)
    | (simp only [*] at hq30; simp [*] at H; subst H; first | rfl | (simp; done))
    | (simp only [*] at hq31; simp [*] at H; done)
    | (simp only [*] at hq31; simp [*] at H; subst H; first | rfl | (simp; done))
    | (simp only [*] at hq32; simp [*] at H; done)
    | (simp only [*] at hq32; simp [*] at H; subst H; first | rfl | (simp; done))
    | (simp only [*] at hq33; simp [*] at H; done)
    | (simp only [*] at hq33; simp [*] at H; subst H; first | rfl | (simp; done))
    | (simp only [*] at hq34; simp [*] at H; done)
    | (simp only [*] at hq34; simp [*] at H; subst H; first | rfl | (simp; done))
    | (simp only [*] at hq35; simp [*] at H; done)
    | (simp only [*] at hq35; simp [*] at H; subst H; first | rfl | (simp; done))
    | (simp only [*] at hq12; simp [*] at H; done)
    | (simp only [*] at hq12; simp [*] at H; subst H; first | rfl | (simp; done))
    | (simp only [*] at hq28; simp [*] at H; (with_reducible first | replace H := le_bind (jacquardref13_Top.le ..) H | replace H := le_bind (jacquardref13_Tighten.le ..) H | replace H := le_bind (jacquardref12_Eval.le ..) H | replace H := le_bind (jacquardref13_Of.le ..) H | replace H := le_bind (jacquardref13_compare.le ..) H | replace H := le_bind (jacquardref13_cast.le ..) H | replace H := le_bind (jacquardref13_unsigned.le ..) H | replace H := le_bind (jacquardref13_signed.le ..) H | replace H := le_bind (jacquardref12_Shape.le ..) H); simp [*] at H; done)
    | (simp only [*] at hq28; simp [*] at H; (with_reducible first | replace H := le_bind (jacquardref13_Top.le ..) H | replace H := le_bind (jacquardref13_Tighten.le ..) H | replace H := le_bind (jacquardref12_Eval.le ..) H | replace H := le_bind (jacquardref13_Of.le ..) H | replace H := le_bind (jacquardref13_compare.le ..) H | replace H := le_bind (jacquardref13_cast.le ..) H | replace H := le_bind (jacquardref13_unsigned.le ..) H | replace H := le_bind (jacquardref13_signed.le ..) H | replace H := le_bind (jacquardref12_Shape.le ..) H); simp [*] at H; subst H; first | rfl | (simp; done))
    | (simp only [*] at hq29; simp [*] at H; (with_reducible first | replace H := le_bind (jacquardref13_Top.le ..) H | replace H := le_bind (jacquardref13_Tighten.le ..) H | replace H := le_bind (jacquardref12_Eval.le ..) H | replace H := le_bind (jacquardref13_Of.le ..) H | replace H := le_bind (jacquardref13_compare.le ..) H | replace H := le_bind (jacquardref13_cast.le ..) H | replace H := le_bind (jacquardref13_unsigned.le ..) H | replace H := le_bind (jacquardref13_signed.le ..) H | replace H := le_bind (jacquardref12_Shape.le ..) H); simp [*] at H; done)
    | (simp only [*] at hq29; simp [*] at H; (with_reducible first | replace H := le_bind (jacquardref13_Top.le ..) H | replace H := le_bind (jacquardref13_Tighten.le ..) H | replace H := le_bind (jacquardref12_Eval.le ..) H | replace H := le_bind (jacquardref13_Of.le ..) H | replace H := le_bind (jacquardref13_compare.le ..) H | replace H := le_bind (jacquardref13_cast.le ..) H | replace H := le_bind (jacquardref13_unsigned.le ..) H | replace H := le_bind (jacquardref13_signed.le ..) H | replace H := le_bind (jacquardref12_Shape.le ..) H); simp [*] at H; subst H; first | rfl | (simp; done))
    | (simp only [*] at hq15; simp [*] at H; (with_reducible first | replace H := le_bind (jacquardref13_Top.le ..) H | replace H := le_bind (jacquardref13_Tighten.le ..) H | replace H := le_bind (jacquardref12_Eval.le ..) H | replace H := le_bind (jacquardref13_Of.le ..) H | replace H := le_bind (jacquardref13_compare.le ..) H | replace H := le_bind (jacquardref13_cast.le ..) H | replace H := le_bind (jacquardref13_unsigned.le ..) H | replace H := le_bind (jacquardref13_signed.le ..) H | replace H := le_bind (jacquardref12_Shape.le ..) H); simp [*] at H; done)
    | (simp only [*] at hq15; simp [*] at H; (with_reducible first | replace H := le_bind (jacquardref13_Top.le ..) H | replace H := le_bind (jacquardref13_Tighten.le ..) H | replace H := le_bind (jacquardref12_Eval.le ..) H | replace H := le_bind (jacquardref13_Of.le ..) H | replace H := le_bind (jacquardref13_compare.le ..) H | replace H := le_bind (jacquardref13_cast.le ..) H | replace H := le_bind (jacquardref13_unsigned.le ..) H | replace H := le_bind (jacquardref13_signed.le ..) H | replace H := le_bind (jacquardref12_Shape.le ..) H); simp [*] at H; subst H; first | rfl | (simp; done))
    | (simp only [*] at hq30; simp [*] at H; (with_reducible first | replace H := le_bind (jacquardref13_Top.le ..) H | replace H := le_bind (jacquardref13_Tighten.le ..) H | replace H := le_bind (jacquardref12_Eval.le ..) H | replace H := le_bind (jacquardref13_Of.le ..) H | replace H := le_bind (jacquardref13_compare.le ..) H | replace H := le_bind (jacquardref13_cast.le ..) H | replace H := le_bind (jacquardref13_unsigned.le ..) H | replace H := le_bind (jacquardref13_signed.le ..) H | replace H := le_bind (jacquardref12_Shape.le ..) H); simp [*] at H; done)
    | (simp only [*] at hq30; simp [*] at H; (with_reducible first | replace H := le_bind (jacquardref13_Top.le ..) H | replace H := le_bind (jacquardref13_Tighten.le ..) H | replace H := le_bind (jacquardref12_Eval.le ..) H | replace H := le_bind (jacquardref13_Of.le ..) H | replace H := le_bind (jacquardref13_compare.le ..) H | replace H := le_bind (jacquardref13_cast.le ..) H | replace H := le_bind (jacquardref13_unsigned.le ..) H | replace H := le_bind (jacquardref13_signed.le ..) H | replace H := le_bind (jacquardref12_Shape.le ..) H); simp [*] at H; subst H; first | rfl | (simp; done))
    | (simp only [*] at hq31; simp [*] at H; (with_reducible first | replace H := le_bind (jacquardref13_Top.le ..) H | replace H := le_bind (jacquardref13_Tighten.le ..) H | replace H := le_bind (jacquardref12_Eval.le ..) H | replace H := le_bind (jacquardref13_Of.le ..) H | replace H := le_bind (jacquardref13_compare.le ..) H | replace H := le_bind (jacquardref13_cast.le ..) H | replace H := le_bind (jacquardref13_unsigned.le ..) H | replace H := le_bind (jacquardref13_signed.le ..) H | replace H := le_bind (jacquardref12_Shape.le ..) H); simp [*] at H; done)
    | (simp only [*] at hq31; simp [*] at H; (with_reducible first | replace H := le_bind (jacquardref13_Top.le ..) H | replace H := le_bind (jacquardref13_Tighten.le ..) H | replace H := le_bind (jacquardref12_Eval.le ..) H | replace H := le_bind (jacquardref13_Of.le ..) H | replace H := le_bind (jacquardref13_compare.le ..) H | replace H := le_bind (jacquardref13_cast.le ..) H | replace H := le_bind (jacquardref13_unsigned.le ..) H | replace H := le_bind (jacquardref13_signed.le ..) H | replace H := le_bind (jacquardref12_Shape.le ..) H); simp [*] at H; subst H; first | rfl | (simp; done))
    | (simp only [*] at hq32; simp [*] at H; (with_reducible first | replace H := le_bind (jacquardref13_Top.le ..) H | replace H := le_bind (jacquardref13_Tighten.le ..) H | replace H := le_bind (jacquardref12_Eval.le ..) H | replace H := le_bind (jacquardref13_Of.le ..) H | replace H := le_bind (jacquardref13_compare.le ..) H | replace H := le_bind (jacquardref13_cast.le ..) H | replace H := le_bind (jacquardref13_unsigned.le ..) H | replace H := le_bind (jacquardref13_signed.le ..) H | replace H := le_bind (jacquardref12_Shape.le ..) H); simp [*] at H; done)
    | (simp only [*] at hq32; simp [*] at H; (with_reducible first | replace H := le_bind (jacquardref13_Top.le ..) H | replace H := le_bind (jacquardref13_Tighten.le ..) H | replace H := le_bind (jacquardref12_Eval.le ..) H | replace H := le_bind (jacquardref13_Of.le ..) H | replace H := le_bind (jacquardref13_compare.le ..) H | replace H := le_bind (jacquardref13_cast.le ..) H | replace H := le_bind (jacquardref13_unsigned.le ..) H | replace H := le_bind (jacquardref13_signed.le ..) H | replace H := le_bind (jacquardref12_Shape.le ..) H); simp [*] at H; subst H; first | rfl | (simp; done))
    | (simp only [*] at hq33; simp [*] at H; (with_reducible first | replace H := le_bind (jacquardref13_Top.le ..) H | replace H := le_bind (jacquardref13_Tighten.le ..) H | replace H := le_bind (jacquardref12_Eval.le ..) H | replace H := le_bind (jacquardref13_Of.le ..) H | replace H := le_bind (jacquardref13_compare.le ..) H | replace H := le_bind (jacquardref13_cast.le ..) H | replace H := le_bind (jacquardref13_unsigned.le ..) H | replace H := le_bind (jacquardref13_signed.le ..) H | replace H := le_bind (jacquardref12_Shape.le ..) H); simp [*] at H; done)
    | (simp only [*] at hq33; simp [*] at H; (with_reducible first | replace H := le_bind (jacquardref13_Top.le ..) H | replace H := le_bind (jacquardref13_Tighten.le ..) H | replace H := le_bind (jacquardref12_Eval.le ..) H | replace H := le_bind (jacquardref13_Of.le ..) H | replace H := le_bind (jacquardref13_compare.le ..) H | replace H := le_bind (jacquardref13_cast.le ..) H | replace H := le_bind (jacquardref13_unsigned.le ..) H | replace H := le_bind (jacquardref13_signed.le ..) H | replace H := le_bind (jacquardref12_Shape.le ..) H); simp [*] at H; subst H; first | rfl | (simp; done))
    | (simp only [*] at hq34; simp [*] at H; (with_reducible first | replace H := le_bind (jacquardref13_Top.le ..) H | replace H := le_bind (jacquardref13_Tighten.le ..) H | replace H := le_bind (jacquardref12_Eval.le ..) H | replace H := le_bind (jacquardref13_Of.le ..) H | replace H := le_bind (jacquardref13_compare.le ..) H | replace H := le_bind (jacquardref13_cast.le ..) H | replace H := le_bind (jacquardref13_unsigned.le ..) H | replace H := le_bind (jacquardref13_signed.le ..) H | replace H := le_bind (jacquardref12_Shape.le ..) H); simp [*] at H; done)
    | (simp only [*] at hq34; simp [*] at H; (with_reducible first | replace H := le_bind (jacquardref13_Top.le ..) H | replace H := le_bind (jacquardref13_Tighten.le ..) H | replace H := le_bind (jacquardref12_Eval.le ..) H | replace H := le_bind (jacquardref13_Of.le ..) H | replace H := le_bind (jacquardref13_compare.le ..) H | replace H := le_bind (jacquardref13_cast.le ..) H | replace H := le_bind (jacquardref13_unsigned.le ..) H | replace H := le_bind (jacquardref13_signed.le ..) H | replace H := le_bind (jacquardref12_Shape.le ..) H); simp [*] at H; subst H; first | rfl | (simp; done))
    | (simp only [*] at hq35; simp [*] at H; (with_reducible first | replace H := le_bind (jacquardref13_Top.le ..) H | replace H := le_bind (jacquardref13_Tighten.le ..) H | replace H := le_bind (jacquardref12_Eval.le ..) H | replace H := le_bind (jacquardref13_Of.le ..) H | replace H := le_bind (jacquardref13_compare.le ..) H | replace H := le_bind (jacquardref13_cast.le ..) H | replace H := le_bind (jacquardref13_unsigned.le ..) H | replace H := le_bind (jacquardref13_signed.le ..) H | replace H := le_bind (jacquardref12_Shape.le ..) H); simp [*] at H; done)
    | (simp only [*] at hq35; simp [*] at H; (with_reducible first | replace H := le_bind (jacquardref13_Top.le ..) H | replace H := le_bind (jacquardref13_Tighten.le ..) H | replace H := le_bind (jacquardref12_Eval.le ..) H | replace H := le_bind (jacquardref13_Of.le ..) H | replace H := le_bind (jacquardref13_compare.le ..) H | replace H := le_bind (jacquardref13_cast.le ..) H | replace H := le_bind (jacquardref13_unsigned.le ..) H | replace H := le_bind (jacquardref13_signed.le ..) H | replace H := le_bind (jacquardref12_Shape.le ..) H); simp [*] at H; subst H; first | rfl | (simp; done))
    | (simp only [*] at hq12; simp [*] at H; (with_reducible first | replace H := le_bind (jacquardref13_Top.le ..) H | replace H := le_bind (jacquardref13_Tighten.le ..) H | replace H := le_bind (jacquardref12_Eval.le ..) H | replace H := le_bind (jacquardref13_Of.le ..) H | replace H := le_bind (jacquardref13_compare.le ..) H | replace H := le_bind (jacquardref13_cast.le ..) H | replace H := le_bind (jacquardref13_unsigned.le ..) H | replace H := le_bind (jacquardref13_signed.le ..) H | replace H := le_bind (jacquardref12_Shape.le ..) H); simp [*] at H; done)
    | (simp only [*] at hq12; simp [*] at H; (with_reducible first | replace H := le_bind (jacquardref13_Top.le ..) H | replace H := le_bind (jacquardref13_Tighten.le ..) H | replace H := le_bind (jacquardref12_Eval.le ..) H | replace H := le_bind (jacquardref13_Of.le ..) H | replace H := le_bind (jacquardref13_compare.le ..) H | replace H := le_bind (jacquardref13_cast.le ..) H | replace H := le_bind (jacquardref13_unsigned.le ..) H | replace H := le_bind (jacquardref13_signed.le ..) H | replace H := le_bind (jacquardref12_Shape.le ..) H); simp [*] at H; subst H; first | rfl | (simp; done))
    | (subst H; simp [beq_dec, bne_dec, *]; done)
    | (simp_all [beq_dec, bne_dec]; done)
    | (simp_all [beq_dec, bne_dec]; subst H; first | rfl | (simp; done) | (simp [*]; done))
end
end Go.Vm
