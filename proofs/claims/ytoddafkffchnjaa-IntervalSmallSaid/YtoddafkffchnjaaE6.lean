/- What the evaluator makes of the functions' code (97 s). -/
import Derived.Test.YtoddafkffchnjaaO
namespace Go.Vm
open Go.Proofs Go.Proofs.Ytoddafkffchnjaa Go.Proofs.Ytoddafkffchnjaa.P Go.RowKit Go.Proofs.YtoddafkffchnjaaW.PrintWords Go.Proofs.YtoddafkffchnjaaW.PrintLast Go.Proofs.YtoddafkffchnjaaW.PrintMore
set_option linter.unusedVariables false
set_option linter.unusedSimpArgs false
set_option linter.unusedSectionVars false
set_option linter.unusedVariables false
set_option linter.unusedSimpArgs false
section
variable {op : BinOp → IntKind → Int → Int → Int} {ok : BinOp → Int → Bool} {cmp : BinOp → Int → Int → Bool} {neg not wrap : IntKind → Int → Int} {mn' mx' : Int → Int → Int} {idx : Int → Option Nat}
  {len : List (List V) → Int} {get : List (List V) → Int → Option (List V)} {cut : Nat → List (List V) → Option V → Option V → Option (List (List V))} {app : Nat → Nat → List (List V) → List (List V) → Option (List (List V))} {byte : ByteArray → Int → Option Int}
  {lp : (St → Option (Ex × St)) → Nat → List Nat → Nat → St → Option (Ex × St)} {c2 : BinOp → Int → Int → Bool} {ok2 : BinOp → Int → Bool}
variable (hA : (⟨tys, ⟨op, ok, cmp, neg, not, wrap, mn', mx', idx, len, get, cut, app, byte⟩, lp⟩ : En) = ⟨tys, real, rounds⟩) (hc2 : ∀ o a b, cmp o a b = c2 o a b) (hok2 : ∀ o a, ok o a = ok2 o a) (k : Nat) (K : Oracle)
include hA hc2 hok2
set_option maxRecDepth 100000 in
set_option maxHeartbeats 40000000 in
theorem interval_Apply.ev (a0 : Int) (a1 : Int) (l2 : List Int) (l3 : List (S30)) (a4 : Int) (r : Int × Int × Int × Int) (H : interval_Apply.f k a0 a1 l2 l3 a4 = some r)
  (g21 : _) (e21 : g21 = interval_Top.f) (h21 : interval_Top.Is K g21)
  (g14 : _) (e14 : g14 = interval_Of.f) (h14 : interval_Of.Is K g14)
  (g23 : _) (e23 : g23 = interval_Tighten.F) (h23 : interval_Tighten.Is K g23)
  (g24 : _) (e24 : g24 = interval_value.F) (h24 : interval_value.Is K g24)
  (g25 : _) (e25 : g25 = interval_ends.f) (h25 : interval_ends.Is K g25)
  (g26 : _) (e26 : g26 = bits_Mask.f) (h26 : bits_Mask.Is K g26)
  (g27 : _) (e27 : g27 = interval_computer_compute.F) (h27 : interval_computer_compute.Is K g27)
  (g22 : _) (e22 : g22 = interval_shaped.F) (h22 : interval_shaped.Is K g22)
  : evFn ⟨tys, ⟨op, ok, cmp, neg, not, wrap, mn', mx', idx, len, get, cut, app, byte⟩, lp⟩ (k + 8) K h10 Try.f10 [V.sc (.int .i64 a0), V.sc (.int .i64 a1), V.sl false (l2.map fun x : Int => [V.sc (.int .i64 x)]), V.sl false (l3.map fun x : S30 => [V.sc (.int .u64 x.f0), V.sc (.int .u64 x.f1), V.sc (.int .i64 x.f2), V.sc (.int .i64 x.f3)]), V.sc (.int .u64 a4)] [] = some (V.agg [V.sc (.int .u64 r.1), V.sc (.int .u64 r.2.1), V.sc (.int .i64 r.2.2.1), V.sc (.int .i64 r.2.2.2)], []) := by
  generalize hR : some (V.agg [V.sc (.int .u64 r.1), V.sc (.int .u64 r.2.1), V.sc (.int .i64 r.2.2.1), V.sc (.int .i64 r.2.2.2)], ([] : Heap)) = R
  have hcm := rcm hA hc2
  have hokm := rok hA hok2
  obtain ⟨lp2, hlp2, hlp⟩ : ∃ lp2, lp2 = rounds ∧ ∀ b n0 kp L st, lp b n0 kp L st = lp2 b n0 kp L st := ⟨lp, lp_eq hA, fun _ _ _ _ _ => rfl⟩
  obtain ⟨cl2, bl2, pl2_0, hcl2, hbl2, hpl2_0, hgl2, hul2⟩ := li_int .i64 (get_eq hA) l2
  rw [← hcl2]
  obtain ⟨cl3, bl3, pl3_0, pl3_1, pl3_2, pl3_3, hcl3, hbl3, hpl3_0, hpl3_1, hpl3_2, hpl3_3, hgl3, hul3⟩ := li_k30 (get_eq hA) l3
  rw [← hcl3]
  all_goals cbv
  all_goals repeat' (first
    | (rewrite [h21, hq21]; cbv)
    | (rewrite [h21]; generalize hq21 : g21 _ = o; rcases o with _ | ⟨_, _, _, _⟩ <;> cbv)
    | (rewrite [h14, hq14]; cbv)
    | (rewrite [h14]; generalize hq14 : g14 _ _ = o; rcases o with _ | ⟨_, _, _, _⟩ <;> cbv)
    | (rewrite [h23, hq23]; cbv)
    | (rewrite [h23]; generalize hq23 : g23 _ _ _ _ _ = o; rcases o with _ | ⟨_, _, _, _, (_ | _)⟩ <;> cbv)
    | (rewrite [(h24 _ _ hul2 _ _ hul3), hq24]; cbv)
    | (rewrite [(h24 _ _ hul2 _ _ hul3)]; generalize hq24 : g24 _ _ _ _ = o; rcases o with _ | _ <;> cbv)
    | (rewrite [(h24 _ _ hul2 _ _ hux12_2), hq24]; cbv)
    | (rewrite [(h24 _ _ hul2 _ _ hux12_2)]; generalize hq24 : g24 _ _ _ _ = o; rcases o with _ | _ <;> cbv)
    | (rewrite [(h24 _ _ hul2 _ _ (unk30_1 ..)), hq24]; cbv)
    | (rewrite [(h24 _ _ hul2 _ _ (unk30_1 ..))]; generalize hq24 : g24 _ _ _ _ = o; rcases o with _ | _ <;> cbv)
    | (rewrite [(h24 _ _ hul2 _ _ (unk30_2 ..)), hq24]; cbv)
    | (rewrite [(h24 _ _ hul2 _ _ (unk30_2 ..))]; generalize hq24 : g24 _ _ _ _ = o; rcases o with _ | _ <;> cbv)
    | (rewrite [(h24 _ _ hul2 _ _ (unk30_3 ..)), hq24]; cbv)
    | (rewrite [(h24 _ _ hul2 _ _ (unk30_3 ..))]; generalize hq24 : g24 _ _ _ _ = o; rcases o with _ | _ <;> cbv)
    | (rewrite [(h24 _ _ (unI_1 ..) _ _ hul3), hq24]; cbv)
    | (rewrite [(h24 _ _ (unI_1 ..) _ _ hul3)]; generalize hq24 : g24 _ _ _ _ = o; rcases o with _ | _ <;> cbv)
    | (rewrite [(h24 _ _ (unI_1 ..) _ _ hux12_2), hq24]; cbv)
    | (rewrite [(h24 _ _ (unI_1 ..) _ _ hux12_2)]; generalize hq24 : g24 _ _ _ _ = o; rcases o with _ | _ <;> cbv)
    | (rewrite [(h24 _ _ (unI_1 ..) _ _ (unk30_1 ..)), hq24]; cbv)
    | (rewrite [(h24 _ _ (unI_1 ..) _ _ (unk30_1 ..))]; generalize hq24 : g24 _ _ _ _ = o; rcases o with _ | _ <;> cbv)
    | (rewrite [(h24 _ _ (unI_1 ..) _ _ (unk30_2 ..)), hq24]; cbv)
    | (rewrite [(h24 _ _ (unI_1 ..) _ _ (unk30_2 ..))]; generalize hq24 : g24 _ _ _ _ = o; rcases o with _ | _ <;> cbv)
    | (rewrite [(h24 _ _ (unI_1 ..) _ _ (unk30_3 ..)), hq24]; cbv)
    | (rewrite [(h24 _ _ (unI_1 ..) _ _ (unk30_3 ..))]; generalize hq24 : g24 _ _ _ _ = o; rcases o with _ | _ <;> cbv)
    | (rewrite [(h24 _ _ (unI_2 ..) _ _ hul3), hq24]; cbv)
    | (rewrite [(h24 _ _ (unI_2 ..) _ _ hul3)]; generalize hq24 : g24 _ _ _ _ = o; rcases o with _ | _ <;> cbv)
    | (rewrite [(h24 _ _ (unI_2 ..) _ _ hux12_2), hq24]; cbv)
    | (rewrite [(h24 _ _ (unI_2 ..) _ _ hux12_2)]; generalize hq24 : g24 _ _ _ _ = o; rcases o with _ | _ <;> cbv)
    | (rewrite [(h24 _ _ (unI_2 ..) _ _ (unk30_1 ..)), hq24]; cbv)
    | (rewrite [(h24 _ _ (unI_2 ..) _ _ (unk30_1 ..))]; generalize hq24 : g24 _ _ _ _ = o; rcases o with _ | _ <;> cbv)
    | (rewrite [(h24 _ _ (unI_2 ..) _ _ (unk30_2 ..)), hq24]; cbv)
    | (rewrite [(h24 _ _ (unI_2 ..) _ _ (unk30_2 ..))]; generalize hq24 : g24 _ _ _ _ = o; rcases o with _ | _ <;> cbv)
    | (rewrite [(h24 _ _ (unI_2 ..) _ _ (unk30_3 ..)), hq24]; cbv)
    | (rewrite [(h24 _ _ (unI_2 ..) _ _ (unk30_3 ..))]; generalize hq24 : g24 _ _ _ _ = o; rcases o with _ | _ <;> cbv)
    | (rewrite [(h24 _ _ (unI_3 ..) _ _ hul3), hq24]; cbv)
    | (rewrite [(h24 _ _ (unI_3 ..) _ _ hul3)]; generalize hq24 : g24 _ _ _ _ = o; rcases o with _ | _ <;> cbv)
    | (rewrite [(h24 _ _ (unI_3 ..) _ _ hux12_2), hq24]; cbv)
    | (rewrite [(h24 _ _ (unI_3 ..) _ _ hux12_2)]; generalize hq24 : g24 _ _ _ _ = o; rcases o with _ | _ <;> cbv)
    | (rewrite [(h24 _ _ (unI_3 ..) _ _ (unk30_1 ..)), hq24]; cbv)
    | (rewrite [(h24 _ _ (unI_3 ..) _ _ (unk30_1 ..))]; generalize hq24 : g24 _ _ _ _ = o; rcases o with _ | _ <;> cbv)
    | (rewrite [(h24 _ _ (unI_3 ..) _ _ (unk30_2 ..)), hq24]; cbv)
    | (rewrite [(h24 _ _ (unI_3 ..) _ _ (unk30_2 ..))]; generalize hq24 : g24 _ _ _ _ = o; rcases o with _ | _ <;> cbv)
    | (rewrite [(h24 _ _ (unI_3 ..) _ _ (unk30_3 ..)), hq24]; cbv)
    | (rewrite [(h24 _ _ (unI_3 ..) _ _ (unk30_3 ..))]; generalize hq24 : g24 _ _ _ _ = o; rcases o with _ | _ <;> cbv)
    | (rewrite [(h24 _ _ (unI_4 ..) _ _ hul3), hq24]; cbv)
    | (rewrite [(h24 _ _ (unI_4 ..) _ _ hul3)]; generalize hq24 : g24 _ _ _ _ = o; rcases o with _ | _ <;> cbv)
    | (rewrite [(h24 _ _ (unI_4 ..) _ _ hux12_2), hq24]; cbv)
    | (rewrite [(h24 _ _ (unI_4 ..) _ _ hux12_2)]; generalize hq24 : g24 _ _ _ _ = o; rcases o with _ | _ <;> cbv)
    | (rewrite [(h24 _ _ (unI_4 ..) _ _ (unk30_1 ..)), hq24]; cbv)
    | (rewrite [(h24 _ _ (unI_4 ..) _ _ (unk30_1 ..))]; generalize hq24 : g24 _ _ _ _ = o; rcases o with _ | _ <;> cbv)
    | (rewrite [(h24 _ _ (unI_4 ..) _ _ (unk30_2 ..)), hq24]; cbv)
    | (rewrite [(h24 _ _ (unI_4 ..) _ _ (unk30_2 ..))]; generalize hq24 : g24 _ _ _ _ = o; rcases o with _ | _ <;> cbv)
    | (rewrite [(h24 _ _ (unI_4 ..) _ _ (unk30_3 ..)), hq24]; cbv)
    | (rewrite [(h24 _ _ (unI_4 ..) _ _ (unk30_3 ..))]; generalize hq24 : g24 _ _ _ _ = o; rcases o with _ | _ <;> cbv)
    | (rewrite [(h24 _ _ (unI_5 ..) _ _ hul3), hq24]; cbv)
    | (rewrite [(h24 _ _ (unI_5 ..) _ _ hul3)]; generalize hq24 : g24 _ _ _ _ = o; rcases o with _ | _ <;> cbv)
    | (rewrite [(h24 _ _ (unI_5 ..) _ _ hux12_2), hq24]; cbv)
    | (rewrite [(h24 _ _ (unI_5 ..) _ _ hux12_2)]; generalize hq24 : g24 _ _ _ _ = o; rcases o with _ | _ <;> cbv)
    | (rewrite [(h24 _ _ (unI_5 ..) _ _ (unk30_1 ..)), hq24]; cbv)
    | (rewrite [(h24 _ _ (unI_5 ..) _ _ (unk30_1 ..))]; generalize hq24 : g24 _ _ _ _ = o; rcases o with _ | _ <;> cbv)
    | (rewrite [(h24 _ _ (unI_5 ..) _ _ (unk30_2 ..)), hq24]; cbv)
    | (rewrite [(h24 _ _ (unI_5 ..) _ _ (unk30_2 ..))]; generalize hq24 : g24 _ _ _ _ = o; rcases o with _ | _ <;> cbv)
    | (rewrite [(h24 _ _ (unI_5 ..) _ _ (unk30_3 ..)), hq24]; cbv)
    | (rewrite [(h24 _ _ (unI_5 ..) _ _ (unk30_3 ..))]; generalize hq24 : g24 _ _ _ _ = o; rcases o with _ | _ <;> cbv)
    | (rewrite [h25, hq25]; cbv)
    | (rewrite [h25]; generalize hq25 : g25 _ = o; rcases o with _ | ⟨_, _⟩ <;> cbv)
    | (rewrite [h26, hq26]; cbv)
    | (rewrite [h26]; generalize hq26 : g26 _ = o; rcases o with _ | _ <;> cbv)
    | (rewrite [(h27 _ _ hul2 _ _ hul3), hq27]; cbv)
    | (rewrite [(h27 _ _ hul2 _ _ hul3)]; generalize hq27 : g27 _ _ _ _ _ _ _ _ _ _ _ = o; rcases o with _ | ⟨_, _, _, _, _, _, _, _⟩ <;> cbv)
    | (rewrite [(h27 _ _ hul2 _ _ hux12_2), hq27]; cbv)
    | (rewrite [(h27 _ _ hul2 _ _ hux12_2)]; generalize hq27 : g27 _ _ _ _ _ _ _ _ _ _ _ = o; rcases o with _ | ⟨_, _, _, _, _, _, _, _⟩ <;> cbv)
    | (rewrite [(h27 _ _ hul2 _ _ (unk30_1 ..)), hq27]; cbv)
    | (rewrite [(h27 _ _ hul2 _ _ (unk30_1 ..))]; generalize hq27 : g27 _ _ _ _ _ _ _ _ _ _ _ = o; rcases o with _ | ⟨_, _, _, _, _, _, _, _⟩ <;> cbv)
    | (rewrite [(h27 _ _ hul2 _ _ (unk30_2 ..)), hq27]; cbv)
    | (rewrite [(h27 _ _ hul2 _ _ (unk30_2 ..))]; generalize hq27 : g27 _ _ _ _ _ _ _ _ _ _ _ = o; rcases o with _ | ⟨_, _, _, _, _, _, _, _⟩ <;> cbv)
    | (rewrite [(h27 _ _ hul2 _ _ (unk30_3 ..)), hq27]; cbv)
    | (rewrite [(h27 _ _ hul2 _ _ (unk30_3 ..))]; generalize hq27 : g27 _ _ _ _ _ _ _ _ _ _ _ = o; rcases o with _ | ⟨_, _, _, _, _, _, _, _⟩ <;> cbv)
    | (rewrite [(h27 _ _ (unI_1 ..) _ _ hul3), hq27]; cbv)
    | (rewrite [(h27 _ _ (unI_1 ..) _ _ hul3)]; generalize hq27 : g27 _ _ _ _ _ _ _ _ _ _ _ = o; rcases o with _ | ⟨_, _, _, _, _, _, _, _⟩ <;> cbv)
    | (rewrite [(h27 _ _ (unI_1 ..) _ _ hux12_2), hq27]; cbv)
    | (rewrite [(h27 _ _ (unI_1 ..) _ _ hux12_2)]; generalize hq27 : g27 _ _ _ _ _ _ _ _ _ _ _ = o; rcases o with _ | ⟨_, _, _, _, _, _, _, _⟩ <;> cbv)
    | (rewrite [(h27 _ _ (unI_1 ..) _ _ (unk30_1 ..)), hq27]; cbv)
    | (rewrite [(h27 _ _ (unI_1 ..) _ _ (unk30_1 ..))]; generalize hq27 : g27 _ _ _ _ _ _ _ _ _ _ _ = o; rcases o with _ | ⟨_, _, _, _, _, _, _, _⟩ <;> cbv)
    | (rewrite [(h27 _ _ (unI_1 ..) _ _ (unk30_2 ..)), hq27]; cbv)
    | (rewrite [(h27 _ _ (unI_1 ..) _ _ (unk30_2 ..))]; generalize hq27 : g27 _ _ _ _ _ _ _ _ _ _ _ = o; rcases o with _ | ⟨_, _, _, _, _, _, _, _⟩ <;> cbv)
    | (rewrite [(h27 _ _ (unI_1 ..) _ _ (unk30_3 ..)), hq27]; cbv)
    | (rewrite [(h27 _ _ (unI_1 ..) _ _ (unk30_3 ..))]; generalize hq27 : g27 _ _ _ _ _ _ _ _ _ _ _ = o; rcases o with _ | ⟨_, _, _, _, _, _, _, _⟩ <;> cbv)
    | (rewrite [(h27 _ _ (unI_2 ..) _ _ hul3), hq27]; cbv)
    | (rewrite [(h27 _ _ (unI_2 ..) _ _ hul3)]; generalize hq27 : g27 _ _ _ _ _ _ _ _ _ _ _ = o; rcases o with _ | ⟨_, _, _, _, _, _, _, _⟩ <;> cbv)
    | (rewrite [(h27 _ _ (unI_2 ..) _ _ hux12_2), hq27]; cbv)
    | (rewrite [(h27 _ _ (unI_2 ..) _ _ hux12_2)]; generalize hq27 : g27 _ _ _ _ _ _ _ _ _ _ _ = o; rcases o with _ | ⟨_, _, _, _, _, _, _, _⟩ <;> cbv)
    | (rewrite [(h27 _ _ (unI_2 ..) _ _ (unk30_1 ..)), hq27]; cbv)
    | (rewrite [(h27 _ _ (unI_2 ..) _ _ (unk30_1 ..))]; generalize hq27 : g27 _ _ _ _ _ _ _ _ _ _ _ = o; rcases o with _ | ⟨_, _, _, _, _, _, _, _⟩ <;> cbv)
    | (rewrite [(h27 _ _ (unI_2 ..) _ _ (unk30_2 ..)), hq27]; cbv)
    | (rewrite [(h27 _ _ (unI_2 ..) _ _ (unk30_2 ..))]; generalize hq27 : g27 _ _ _ _ _ _ _ _ _ _ _ = o; rcases o with _ | ⟨_, _, _, _, _, _, _, _⟩ <;> cbv)
    | (rewrite [(h27 _ _ (unI_2 ..) _ _ (unk30_3 ..)), hq27]; cbv)
    | (rewrite [(h27 _ _ (unI_2 ..) _ _ (unk30_3 ..))]; generalize hq27 : g27 _ _ _ _ _ _ _ _ _ _ _ = o; rcases o with _ | ⟨_, _, _, _, _, _, _, _⟩ <;> cbv)
    | (rewrite [(h27 _ _ (unI_3 ..) _ _ hul3), hq27]; cbv)
    | (rewrite [(h27 _ _ (unI_3 ..) _ _ hul3)]; generalize hq27 : g27 _ _ _ _ _ _ _ _ _ _ _ = o; rcases o with _ | ⟨_, _, _, _, _, _, _, _⟩ <;> cbv)
    | (rewrite [(h27 _ _ (unI_3 ..) _ _ hux12_2), hq27]; cbv)
    | (rewrite [(h27 _ _ (unI_3 ..) _ _ hux12_2)]; generalize hq27 : g27 _ _ _ _ _ _ _ _ _ _ _ = o; rcases o with _ | ⟨_, _, _, _, _, _, _, _⟩ <;> cbv)
    | (rewrite [(h27 _ _ (unI_3 ..) _ _ (unk30_1 ..)), hq27]; cbv)
    | (rewrite [(h27 _ _ (unI_3 ..) _ _ (unk30_1 ..))]; generalize hq27 : g27 _ _ _ _ _ _ _ _ _ _ _ = o; rcases o with _ | ⟨_, _, _, _, _, _, _, _⟩ <;> cbv)
    | (rewrite [(h27 _ _ (unI_3 ..) _ _ (unk30_2 ..)), hq27]; cbv)
    | (rewrite [(h27 _ _ (unI_3 ..) _ _ (unk30_2 ..))]; generalize hq27 : g27 _ _ _ _ _ _ _ _ _ _ _ = o; rcases o with _ | ⟨_, _, _, _, _, _, _, _⟩ <;> cbv)
    | (rewrite [(h27 _ _ (unI_3 ..) _ _ (unk30_3 ..)), hq27]; cbv)
    | (rewrite [(h27 _ _ (unI_3 ..) _ _ (unk30_3 ..))]; generalize hq27 : g27 _ _ _ _ _ _ _ _ _ _ _ = o; rcases o with _ | ⟨_, _, _, _, _, _, _, _⟩ <;> cbv)
    | (rewrite [(h27 _ _ (unI_4 ..) _ _ hul3), hq27]; cbv)
    | (rewrite [(h27 _ _ (unI_4 ..) _ _ hul3)]; generalize hq27 : g27 _ _ _ _ _ _ _ _ _ _ _ = o; rcases o with _ | ⟨_, _, _, _, _, _, _, _⟩ <;> cbv)
    | (rewrite [(h27 _ _ (unI_4 ..) _ _ hux12_2), hq27]; cbv)
    | (rewrite [(h27 _ _ (unI_4 ..) _ _ hux12_2)]; generalize hq27 : g27 _ _ _ _ _ _ _ _ _ _ _ = o; rcases o with _ | ⟨_, _, _, _, _, _, _, _⟩ <;> cbv)
    | (rewrite [(h27 _ _ (unI_4 ..) _ _ (unk30_1 ..)), hq27]; cbv)
    | (rewrite [(h27 _ _ (unI_4 ..) _ _ (unk30_1 ..))]; generalize hq27 : g27 _ _ _ _ _ _ _ _ _ _ _ = o; rcases o with _ | ⟨_, _, _, _, _, _, _, _⟩ <;> cbv)
    | (rewrite [(h27 _ _ (unI_4 ..) _ _ (unk30_2 ..)), hq27]; cbv)
    | (rewrite [(h27 _ _ (unI_4 ..) _ _ (unk30_2 ..))]; generalize hq27 : g27 _ _ _ _ _ _ _ _ _ _ _ = o; rcases o with _ | ⟨_, _, _, _, _, _, _, _⟩ <;> cbv)
    | (rewrite [(h27 _ _ (unI_4 ..) _ _ (unk30_3 ..)), hq27]; cbv)
    | (rewrite [(h27 _ _ (unI_4 ..) _ _ (unk30_3 ..))]; generalize hq27 : g27 _ _ _ _ _ _ _ _ _ _ _ = o; rcases o with _ | ⟨_, _, _, _, _, _, _, _⟩ <;> cbv)
    | (rewrite [(h27 _ _ (unI_5 ..) _ _ hul3), hq27]; cbv)
    | (rewrite [(h27 _ _ (unI_5 ..) _ _ hul3)]; generalize hq27 : g27 _ _ _ _ _ _ _ _ _ _ _ = o; rcases o with _ | ⟨_, _, _, _, _, _, _, _⟩ <;> cbv)
    | (rewrite [(h27 _ _ (unI_5 ..) _ _ hux12_2), hq27]; cbv)
    | (rewrite [(h27 _ _ (unI_5 ..) _ _ hux12_2)]; generalize hq27 : g27 _ _ _ _ _ _ _ _ _ _ _ = o; rcases o with _ | ⟨_, _, _, _, _, _, _, _⟩ <;> cbv)
    | (rewrite [(h27 _ _ (unI_5 ..) _ _ (unk30_1 ..)), hq27]; cbv)
    | (rewrite [(h27 _ _ (unI_5 ..) _ _ (unk30_1 ..))]; generalize hq27 : g27 _ _ _ _ _ _ _ _ _ _ _ = o; rcases o with _ | ⟨_, _, _, _, _, _, _, _⟩ <;> cbv)
    | (rewrite [(h27 _ _ (unI_5 ..) _ _ (unk30_2 ..)), hq27]; cbv)
    | (rewrite [(h27 _ _ (unI_5 ..) _ _ (unk30_2 ..))]; generalize hq27 : g27 _ _ _ _ _ _ _ _ _ _ _ = o; rcases o with _ | ⟨_, _, _, _, _, _, _, _⟩ <;> cbv)
    | (rewrite [(h27 _ _ (unI_5 ..) _ _ (unk30_3 ..)), hq27]; cbv)
    | (rewrite [(h27 _ _ (unI_5 ..) _ _ (unk30_3 ..))]; generalize hq27 : g27 _ _ _ _ _ _ _ _ _ _ _ = o; rcases o with _ | ⟨_, _, _, _, _, _, _, _⟩ <;> cbv)
    | (rewrite [(h22 _ _ hul2), hq22]; cbv)
    | (rewrite [(h22 _ _ hul2)]; generalize hq22 : g22 _ _ _ = o; rcases o with _ | _ | _ <;> cbv)
    | (rewrite [(h22 _ _ (unI_1 ..)), hq22]; cbv)
    | (rewrite [(h22 _ _ (unI_1 ..))]; generalize hq22 : g22 _ _ _ = o; rcases o with _ | _ | _ <;> cbv)
    | (rewrite [(h22 _ _ (unI_2 ..)), hq22]; cbv)
    | (rewrite [(h22 _ _ (unI_2 ..))]; generalize hq22 : g22 _ _ _ = o; rcases o with _ | _ | _ <;> cbv)
    | (rewrite [(h22 _ _ (unI_3 ..)), hq22]; cbv)
    | (rewrite [(h22 _ _ (unI_3 ..))]; generalize hq22 : g22 _ _ _ = o; rcases o with _ | _ | _ <;> cbv)
    | (rewrite [(h22 _ _ (unI_4 ..)), hq22]; cbv)
    | (rewrite [(h22 _ _ (unI_4 ..))]; generalize hq22 : g22 _ _ _ = o; rcases o with _ | _ | _ <;> cbv)
    | (rewrite [(h22 _ _ (unI_5 ..)), hq22]; cbv)
    | (rewrite [(h22 _ _ (unI_5 ..))]; generalize hq22 : g22 _ _ _ = o; rcases o with _ | _ | _ <;> cbv)
    | (rewrite [hgl2]; generalize hq : bl2 _ = o; cases o <;> first | (exact absurd (hq.symm.trans (by assumption : bl2 _ = true)) Bool.false_ne_true) | (exact absurd (hq.symm.trans (by assumption : bl2 _ = false)) (fun h => Bool.false_ne_true h.symm)) | cbv)
    | (rewrite [hgl3]; generalize hq : bl3 _ = o; cases o <;> first | (exact absurd (hq.symm.trans (by assumption : bl3 _ = true)) Bool.false_ne_true) | (exact absurd (hq.symm.trans (by assumption : bl3 _ = false)) (fun h => Bool.false_ne_true h.symm)) | cbv)
    | (rewrite [hgx12_2]; generalize hq : bx12_2 _ = o; cases o <;> first | (exact absurd (hq.symm.trans (by assumption : bx12_2 _ = true)) Bool.false_ne_true) | (exact absurd (hq.symm.trans (by assumption : bx12_2 _ = false)) (fun h => Bool.false_ne_true h.symm)) | cbv)
    | (rewrite [hax12_2]; generalize hq : bax12_2 = o; cases o <;> cbv)
    | (rewrite [hok2]; generalize hq : ok2 _ _ = o; cases o <;> cbv)
    | (rewrite [hc2]; generalize hq : c2 _ _ _ = o; cases o <;> (rewrite [hcm] at hq; simp only [rc] at hq) <;> first | (exfalso; omega) | cbv)
    | (rewrite [hlp]; generalize hl : lp2 _ _ _ _ _ = o; revert o
       refine loop_rule hlp2 (fun (y : Bool × List (S30) × Int × Int × Int × Int × Int) st => ⟨(((st.s.set 11 (V.sc (.bool y.1))).set 43 (V.sc (.int .i64 y.2.2.1))).set 12 (V.sl true (y.2.1.map fun x : S30 => [V.sc (.int .u64 x.f0), V.sc (.int .u64 x.f1), V.sc (.int .i64 x.f2), V.sc (.int .i64 x.f3)]))), (st.h.set 0 [V.sc (.int .u64 y.2.2.2.1), V.sc (.int .u64 y.2.2.2.2.1), V.sc (.int .i64 y.2.2.2.2.2.1), V.sc (.int .i64 y.2.2.2.2.2.2)])⟩) (fun n y => interval_Apply.l0 n a0 a1 l2 y.1 y.2.1 l3 (l3.length : Int) y.2.2.1 = some r) (n := k + 8) (x := (?x11_2, [], ?x43_2, ?x670000_2, ?x670001_2, ?x670002_2, ?x670003_2)) ?hst (fun y h => by simp [interval_Apply.l0] at h) ?hq ?hn ?hs
       case hst => exact rfl
       case hq =>
         obtain rfl := c2_eq hcm
         obtain rfl := ok2_eq hokm
         subst e21 e14 e23 e24 e25 e26 e27 e22 hR
         clear h21 h14 h23 h24 h25 h26 h27 h22 hc2 hok2 hcm hokm hul2 hgl2 hul3 hgl3 hlp
         subst hcl2 hbl2 hpl2_0 hcl3 hbl3 hpl3_0 hpl3_1 hpl3_2 hpl3_3
         try clear hux12_2 hgx12_2 hax12_2
         try subst hcx12_2 hbx12_2 hpx12_2_0 hpx12_2_1 hpx12_2_2 hpx12_2_3 hbax12_2 hcax12_2
         obtain ⟨rfl, rfl, rfl, rfl, rfl, rfl, rfl, rfl, rfl, rfl⟩ := eqsA hA
         clear hA
         try simp only [rl] at *
         try subst_vars
         try replace H := up8 (fun k => interval_Apply.mono _ _ _ _ _ k) k _ H
         try simp only [interval_Apply.f, beq_dec, bne_dec] at H
         repeat (first
           | (with_reducible first | replace H := le_bind (interval_Tighten.le ..) H | replace H := le_ap (interval_Tighten.le ..) H)
           | (with_reducible first | replace H := le_bind (interval_value.le ..) H | replace H := le_ap (interval_value.le ..) H)
           | (with_reducible first | replace H := le_bind (interval_computer_compute.le ..) H | replace H := le_ap (interval_computer_compute.le ..) H)
           | (with_reducible first | replace H := le_bind (interval_shaped.le ..) H | replace H := le_ap (interval_shaped.le ..) H)
           | (simp [interval_Apply.j0, beq_dec, bne_dec, *] at H; done)
           | (simp [interval_Apply.j0, beq_dec, bne_dec, *] at H)
           | (rw [if_pos (by omega)] at H)
           | (rw [if_neg (by omega)] at H)
           | (have hc := And.left H; replace H := And.right H; try (exfalso; clear H; omega)))
         all_goals first | exact H | exact le_ap (le_of_le (g := fun k => interval_Apply.l0 k _ _ _ _ _ _ _ _) (fun k => (interval_Apply.mono_l k).2 _ _ _ _ _ _ _ _) (by omega)) H | (rw [hq]; exact le_ap (le_of_le (g := fun k => interval_Apply.l0 k _ _ _ _ _ _ _ _) (fun k => (interval_Apply.mono_l k).2 _ _ _ _ _ _ _ _) (by omega)) H) | (simp_all; done)
       case hn => omega
       case' hs =>
         clear H
         intro m nx ⟨x11_2, x12_2, x43_2, x670000_2, x670001_2, x670002_2, x670003_2⟩ hnx H
         obtain ⟨cx12_2, bx12_2, px12_2_0, px12_2_1, px12_2_2, px12_2_3, hcx12_2, hbx12_2, hpx12_2_0, hpx12_2_1, hpx12_2_2, hpx12_2_3, hgx12_2, hux12_2⟩ := li_k30 (get_eq hA) x12_2
         simp only [← hcx12_2]
         obtain ⟨bax12_2, hbax12_2⟩ : ∃ b, b = decide (x12_2.length < 4398046511104) := ⟨_, rfl⟩
         obtain ⟨cax12_2, hcax12_2⟩ : ∃ p, p = fun (t0 : Int) (t1 : Int) (t2 : Int) (t3 : Int) => ((x12_2 ++ [(⟨t0, t1, t2, t3⟩ : S30)]).map fun x : S30 => [V.sc (.int .u64 x.f0), V.sc (.int .u64 x.f1), V.sc (.int .i64 x.f2), V.sc (.int .i64 x.f3)]) := ⟨_, rfl⟩
         have hax12_2 : ∀ t0 t1 t2 t3, app 4 32 cx12_2 [[V.sc (.int .u64 t0), V.sc (.int .u64 t1), V.sc (.int .i64 t2), V.sc (.int .i64 t3)]] = if bax12_2 then some (cax12_2 t0 t1 t2 t3) else none := by rw [app_eq hA]; subst hcx12_2 hbax12_2 hcax12_2; exact fun t0 t1 t2 t3 => app_map _ 4 32 x12_2 (⟨t0, t1, t2, t3⟩ : S30) rfl (fun _ => rfl) (by decide)
         rcases x11_2 with _ | _
         all_goals cbv))
  all_goals
    obtain rfl := c2_eq hcm
    obtain rfl := ok2_eq hokm
    subst e21 e14 e23 e24 e25 e26 e27 e22 hR
    clear h21 h14 h23 h24 h25 h26 h27 h22 hc2 hok2 hcm hokm hul2 hgl2 hul3 hgl3 hlp
    subst hcl2 hbl2 hpl2_0 hcl3 hbl3 hpl3_0 hpl3_1 hpl3_2 hpl3_3
    try clear hux12_2 hgx12_2 hax12_2
    try subst hcx12_2 hbx12_2 hpx12_2_0 hpx12_2_1 hpx12_2_2 hpx12_2_3 hbax12_2 hcax12_2
    obtain ⟨rfl, rfl, rfl, rfl, rfl, rfl, rfl, rfl, rfl, rfl⟩ := eqsA hA
    clear hA
    try simp only [rl] at *
    try (exact hnx (_, _, _, _, _, _, _) H)
    try replace hnx : Go.RowKit.Hid _ := hnx
    try subst_vars
    try replace H := up8 (fun k => interval_Apply.mono _ _ _ _ _ k) k _ H
    try simp only [interval_Apply.f, beq_dec, bne_dec] at H
    try simp only [interval_Apply.l0, beq_dec, bne_dec] at H
    repeat (first
      | (with_reducible replace H := le_ap (up8 (g := fun k => interval_Apply.j0 k _ _ _ _ _ _) (fun k => (interval_Apply.mono_l k).1 _ _ _ _ _ _) m) H)
      | (with_reducible first | replace H := le_bind (interval_Tighten.le ..) H | replace H := le_ap (interval_Tighten.le ..) H)
      | (with_reducible first | replace H := le_bind (interval_value.le ..) H | replace H := le_ap (interval_value.le ..) H)
      | (with_reducible first | replace H := le_bind (interval_computer_compute.le ..) H | replace H := le_ap (interval_computer_compute.le ..) H)
      | (with_reducible first | replace H := le_bind (interval_shaped.le ..) H | replace H := le_ap (interval_shaped.le ..) H)
      | (simp [beq_dec, bne_dec, *] at H; done)
      | (simp [beq_dec, bne_dec, *] at H)
      | (rw [if_pos (by omega)] at H)
      | (rw [if_neg (by omega)] at H)
      | (simp [interval_Apply.j0, beq_dec, bne_dec, *] at H; done)
      | (simp [interval_Apply.j0, beq_dec, bne_dec, *] at H)
      | (rw [if_pos (by omega)] at H)
      | (rw [if_neg (by omega)] at H)
      | (have hc := And.left H; replace H := And.right H; try (exfalso; clear H; (try clear hnx); omega)))
  all_goals first
    | (exact hnx.out (_, _, _, _, _, _, _) H)
    | (rw [← hq] at H; exact hnx.out (_, _, _, _, _, _, _) H)
    | (subst H; rfl)
    | (subst H; simp; done)
    | (cases H; rfl)
    | (exfalso; clear H; (try clear hnx); omega)
    | (exfalso; clear H; (try clear hnx); simp only [natCast_eq] at *; omega)
    | (simp only [*] at hq21; simp [*] at H; done)
    | (simp only [*] at hq21; simp [*] at H; subst H; first | rfl | (simp; done))
    | (simp only [*] at hq14; simp [*] at H; done)
    | (simp only [*] at hq14; simp [*] at H; subst H; first | rfl | (simp; done))
    | (simp only [*] at hq23; simp [*] at H; done)
    | (simp only [*] at hq23; simp [*] at H; subst H; first | rfl | (simp; done))
    | (simp only [*] at hq24; simp [*] at H; done)
    | (simp only [*] at hq24; simp [*] at H; subst H; first | rfl | (simp; done))
    | (simp only [*] at hq25; simp [*] at H; done)
    | (simp only [*] at hq25; simp [*] at H; subst H; first | rfl | (simp; done))
    | (simp only [*] at hq26; simp [*] at H; done)
    | (simp only [*] at hq26; simp [*] at H; subst H; first | rfl | (simp; done))
    | (simp only [*] at hq27; simp [*] at H; done)
    | (simp only [*] at hq27; simp [*] at H; subst H; first | rfl | (simp; done))
    | (simp only [*] at hq22; simp [*] at H; done)
    | (simp only [*] at hq22; simp [*] at H; subst H; first | rfl | (simp; done))
    | (simp only [*] at hq21; simp [*] at H; (with_reducible first | replace H := le_bind (interval_Tighten.le ..) H | replace H := le_bind (interval_value.le ..) H | replace H := le_bind (interval_computer_compute.le ..) H | replace H := le_bind (interval_shaped.le ..) H); simp [*] at H; done)
    | (simp only [*] at hq21; simp [*] at H; (with_reducible first | replace H := le_bind (interval_Tighten.le ..) H | replace H := le_bind (interval_value.le ..) H | replace H := le_bind (interval_computer_compute.le ..) H | replace H := le_bind (interval_shaped.le ..) H); simp [*] at H; subst H; first | rfl | (simp; done))
    | (simp only [*] at hq14; simp [*] at H; (with_reducible first | replace H := le_bind (interval_Tighten.le ..) H | replace H := le_bind (interval_value.le ..) H | replace H := le_bind (interval_computer_compute.le ..) H | replace H := le_bind (interval_shaped.le ..) H); simp [*] at H; done)
    | (simp only [*] at hq14; simp [*] at H; (with_reducible first | replace H := le_bind (interval_Tighten.le ..) H | replace H := le_bind (interval_value.le ..) H | replace H := le_bind (interval_computer_compute.le ..) H | replace H := le_bind (interval_shaped.le ..) H); simp [*] at H; subst H; first | rfl | (simp; done))
    | (simp only [*] at hq23; simp [*] at H; (with_reducible first | replace H := le_bind (interval_Tighten.le ..) H | replace H := le_bind (interval_value.le ..) H | replace H := le_bind (interval_computer_compute.le ..) H | replace H := le_bind (interval_shaped.le ..) H); simp [*] at H; done)
    | (simp only [*] at hq23; simp [*] at H; (with_reducible first | replace H := le_bind (interval_Tighten.le ..) H | replace H := le_bind (interval_value.le ..) H | replace H := le_bind (interval_computer_compute.le ..) H | replace H := le_bind (interval_shaped.le ..) H); simp [*] at H; subst H; first | rfl | (simp; done))
    | (simp only [*] at hq24; simp [*] at H; (with_reducible first | replace H := le_bind (interval_Tighten.le ..) H | replace H := le_bind (interval_value.le ..) H | replace H := le_bind (interval_computer_compute.le ..) H | replace H := le_bind (interval_shaped.le ..) H); simp [*] at H; done)
    | (simp only [*] at hq24; simp [*] at H; (with_reducible first | replace H := le_bind (interval_Tighten.le ..) H | replace H := le_bind (interval_value.le ..) H | replace H := le_bind (interval_computer_compute.le ..) H | replace H := le_bind (interval_shaped.le ..) H); simp [*] at H; subst H; first | rfl | (simp; done))
    | (simp only [*] at hq25; simp [*] at H; (with_reducible first | replace H := le_bind (interval_Tighten.le ..) H | replace H := le_bind (interval_value.le ..) H | replace H := le_bind (interval_computer_compute.le ..) H | replace H := le_bind (interval_shaped.le ..) H); simp [*] at H; done)
    | (simp only [*] at hq25; simp [*] at H; (with_reducible first | replace H := le_bind (interval_Tighten.le ..) H | replace H := le_bind (interval_value.le ..) H | replace H := le_bind (interval_computer_compute.le ..) H | replace H := le_bind (interval_shaped.le ..) H); simp [*] at H; subst H; first | rfl | (simp; done))
    | (simp only [*] at hq26; simp [*] at H; (with_reducible first | replace H := le_bind (interval_Tighten.le ..) H | replace H := le_bind (interval_value.le ..) H | replace H := le_bind (interval_computer_compute.le ..) H | replace H := le_bind (interval_shaped.le ..) H); simp [*] at H; done)
    | (simp only [*] at hq26; simp [*] at H; (with_reducible first | replace H := le_bind (interval_Tighten.le ..) H | replace H := le_bind (interval_value.le ..) H | replace H := le_bind (interval_computer_compute.le ..) H | replace H := le_bind (interval_shaped.le ..) H); simp [*] at H; subst H; first | rfl | (simp; done))
    | (simp only [*] at hq27; simp [*] at H; (with_reducible first | replace H := le_bind (interval_Tighten.le ..) H | replace H := le_bind (interval_value.le ..) H | replace H := le_bind (interval_computer_compute.le ..) H | replace H := le_bind (interval_shaped.le ..) H); simp [*] at H; done)
    | (simp only [*] at hq27; simp [*] at H; (with_reducible first | replace H := le_bind (interval_Tighten.le ..) H | replace H := le_bind (interval_value.le ..) H | replace H := le_bind (interval_computer_compute.le ..) H | replace H := le_bind (interval_shaped.le ..) H); simp [*] at H; subst H; first | rfl | (simp; done))
    | (simp only [*] at hq22; simp [*] at H; (with_reducible first | replace H := le_bind (interval_Tighten.le ..) H | replace H := le_bind (interval_value.le ..) H | replace H := le_bind (interval_computer_compute.le ..) H | replace H := le_bind (interval_shaped.le ..) H); simp [*] at H; done)
    | (simp only [*] at hq22; simp [*] at H; (with_reducible first | replace H := le_bind (interval_Tighten.le ..) H | replace H := le_bind (interval_value.le ..) H | replace H := le_bind (interval_computer_compute.le ..) H | replace H := le_bind (interval_shaped.le ..) H); simp [*] at H; subst H; first | rfl | (simp; done))
    | (subst H; simp [beq_dec, bne_dec, *]; done)
    | (simp_all [beq_dec, bne_dec]; done)
    | (simp_all [beq_dec, bne_dec]; subst H; first | rfl | (simp; done) | (simp [*]; done))
set_option maxRecDepth 100000 in
set_option maxHeartbeats 40000000 in
theorem interval_computer_shift.ev (s0_0 : Int) (s0_1 : Int) (s0_2 : Int) (s0_3 : Int) (s0_4 : Int) (s0_5 : Int) (s0_6 : Int) (s0_7 : Int) (a1 : Int) (a2_0 : Int) (a2_1 : Int) (a2_2 : Int) (a2_3 : Int) (a3_0 : Int) (a3_1 : Int) (a3_2 : Int) (a3_3 : Int) (r : Int × Int × Int × Int × Int × Int × Int × Int) (H : interval_computer_shift.f k s0_0 s0_1 s0_2 s0_3 s0_4 s0_5 s0_6 s0_7 a1 a2_0 a2_1 a2_2 a2_3 a3_0 a3_1 a3_2 a3_3 = some r)
  (g56 : _) (e56 : g56 = interval_computer_u.f) (h56 : interval_computer_u.Is K g56)
  (g83 : _) (e83 : g83 = interval_computer_corners.F) (h83 : interval_computer_corners.Is K g83)
  (g79 : _) (e79 : g79 = interval_computer_s.f) (h79 : interval_computer_s.Is K g79)
  : evFn ⟨tys, ⟨op, ok, cmp, neg, not, wrap, mn', mx', idx, len, get, cut, app, byte⟩, lp⟩ (k + 8) K h58 Try.f58 [V.ptr 0 0, V.sc (.int .i64 a1), V.agg [V.sc (.int .u64 a2_0), V.sc (.int .u64 a2_1), V.sc (.int .i64 a2_2), V.sc (.int .i64 a2_3)], V.agg [V.sc (.int .u64 a3_0), V.sc (.int .u64 a3_1), V.sc (.int .i64 a3_2), V.sc (.int .i64 a3_3)]] [[V.sc (.int .i64 s0_0), V.sc (.int .u64 s0_1), V.sc (.int .i64 s0_2), V.sc (.int .i64 s0_3), V.sc (.int .u64 s0_4), V.sc (.int .u64 s0_5), V.sc (.int .i64 s0_6), V.sc (.int .i64 s0_7)]] = some (V.tup [], [[V.sc (.int .i64 r.1), V.sc (.int .u64 r.2.1), V.sc (.int .i64 r.2.2.1), V.sc (.int .i64 r.2.2.2.1), V.sc (.int .u64 r.2.2.2.2.1), V.sc (.int .u64 r.2.2.2.2.2.1), V.sc (.int .i64 r.2.2.2.2.2.2.1), V.sc (.int .i64 r.2.2.2.2.2.2.2)]]) := by
  generalize hR : some (V.tup [], [[V.sc (.int .i64 r.1), V.sc (.int .u64 r.2.1), V.sc (.int .i64 r.2.2.1), V.sc (.int .i64 r.2.2.2.1), V.sc (.int .u64 r.2.2.2.2.1), V.sc (.int .u64 r.2.2.2.2.2.1), V.sc (.int .i64 r.2.2.2.2.2.2.1), V.sc (.int .i64 r.2.2.2.2.2.2.2)]]) = R
  have hcm := rcm hA hc2
  have hokm := rok hA hok2
  all_goals cbv
  all_goals repeat' (first
    | (rewrite [h56, hq56]; cbv)
    | (rewrite [h56]; generalize hq56 : g56 _ _ _ _ _ _ _ _ _ _ = o; rcases o with _ | ⟨_, _, _, _, _, _, _, _⟩ <;> cbv)
    | (rewrite [(h83 _ _ (unI_1 ..)), hq83]; cbv)
    | (rewrite [(h83 _ _ (unI_1 ..))]; generalize hq83 : g83 _ _ _ _ _ _ _ _ _ _ = o; rcases o with _ | ⟨_, _, _, _, _, _, _, _⟩ <;> cbv)
    | (rewrite [(h83 _ _ (unI_2 ..)), hq83]; cbv)
    | (rewrite [(h83 _ _ (unI_2 ..))]; generalize hq83 : g83 _ _ _ _ _ _ _ _ _ _ = o; rcases o with _ | ⟨_, _, _, _, _, _, _, _⟩ <;> cbv)
    | (rewrite [(h83 _ _ (unI_3 ..)), hq83]; cbv)
    | (rewrite [(h83 _ _ (unI_3 ..))]; generalize hq83 : g83 _ _ _ _ _ _ _ _ _ _ = o; rcases o with _ | ⟨_, _, _, _, _, _, _, _⟩ <;> cbv)
    | (rewrite [(h83 _ _ (unI_4 ..)), hq83]; cbv)
    | (rewrite [(h83 _ _ (unI_4 ..))]; generalize hq83 : g83 _ _ _ _ _ _ _ _ _ _ = o; rcases o with _ | ⟨_, _, _, _, _, _, _, _⟩ <;> cbv)
    | (rewrite [(h83 _ _ (unI_5 ..)), hq83]; cbv)
    | (rewrite [(h83 _ _ (unI_5 ..))]; generalize hq83 : g83 _ _ _ _ _ _ _ _ _ _ = o; rcases o with _ | ⟨_, _, _, _, _, _, _, _⟩ <;> cbv)
    | (rewrite [h79, hq79]; cbv)
    | (rewrite [h79]; generalize hq79 : g79 _ _ _ _ _ _ _ _ _ _ = o; rcases o with _ | ⟨_, _, _, _, _, _, _, _⟩ <;> cbv)
    | (rewrite [hok2]; generalize hq : ok2 _ _ = o; cases o <;> cbv)
    | (rewrite [hc2]; generalize hq : c2 _ _ _ = o; cases o <;> (rewrite [hcm] at hq; simp only [rc] at hq) <;> first | (exfalso; omega) | cbv))
  all_goals
    obtain rfl := c2_eq hcm
    obtain rfl := ok2_eq hokm
    subst e56 e83 e79 hR
    clear h56 h83 h79 hc2 hok2 hcm hokm
    obtain ⟨rfl, rfl, rfl, rfl, rfl, rfl, rfl, rfl, rfl, rfl⟩ := eqsA hA
    clear hA
    try simp only [rl] at *
    try subst_vars
    try replace H := up8 (fun k => interval_computer_shift.mono _ _ _ _ _ _ _ _ _ _ _ _ _ _ _ _ _ k) k _ H
    try simp only [interval_computer_shift.f, beq_dec, bne_dec] at H
    repeat (first
      | (with_reducible first | replace H := le_bind (interval_computer_corners.le ..) H | replace H := le_ap (interval_computer_corners.le ..) H)
      | (simp [beq_dec, bne_dec, *] at H; done)
      | (simp [beq_dec, bne_dec, *] at H)
      | (rw [if_pos (by omega)] at H)
      | (rw [if_neg (by omega)] at H)
      | (have hc := And.left H; replace H := And.right H; try (exfalso; clear H; omega)))
  all_goals first
    | (subst H; rfl)
    | (subst H; simp; done)
    | (cases H; rfl)
    | (exfalso; clear H; omega)
    | (subst H; simp [beq_dec, bne_dec, *]; done)
    | (simp_all [beq_dec, bne_dec]; done)
    | (simp_all [beq_dec, bne_dec]; subst H; first | rfl | (simp; done) | (simp [*]; done))
set_option maxRecDepth 100000 in
set_option maxHeartbeats 40000000 in
theorem bits_Len64.ev (a0 : Int) (r : Int) (H : bits_Len64.f k a0 = some r)
  : evFn ⟨tys, ⟨op, ok, cmp, neg, not, wrap, mn', mx', idx, len, get, cut, app, byte⟩, lp⟩ (k + 8) K h57 Try.f57 [V.sc (.int .u64 a0)] [] = some (V.sc (.int .i64 r), []) := by
  generalize hR : some (V.sc (.int .i64 r), ([] : Heap)) = R
  have hcm := rcm hA hc2
  have hokm := rok hA hok2
  obtain ⟨bb, hbb⟩ : ∃ b, b = fun (s : ByteArray) (i : Int) => decide (0 ≤ i ∧ i < s.size) := ⟨_, rfl⟩
  obtain ⟨bv, hbv⟩ : ∃ b, b = fun (s : ByteArray) (i : Int) => bt s i := ⟨_, rfl⟩
  have hby : ∀ s i, byte s i = if bb s i then some (bv s i) else none := by rw [byte_eq hA]; subst hbb hbv; exact byte_bt
  all_goals cbv
  all_goals repeat' (first
    | (rewrite [hby]; generalize hq : bb _ _ = o; cases o <;> cbv)
    | (rewrite [hok2]; generalize hq : ok2 _ _ = o; cases o <;> cbv)
    | (rewrite [hc2]; generalize hq : c2 _ _ _ = o; cases o <;> (rewrite [hcm] at hq; simp only [rc] at hq) <;> first | (exfalso; omega) | cbv))
  all_goals
    obtain rfl := c2_eq hcm
    obtain rfl := ok2_eq hokm
    subst  hR
    clear hc2 hok2 hcm hokm hby
    subst hbb hbv
    obtain ⟨rfl, rfl, rfl, rfl, rfl, rfl, rfl, rfl, rfl, rfl⟩ := eqsA hA
    clear hA
    try simp only [rl] at *
    try subst_vars
    try replace H := up8 (fun k => bits_Len64.mono _ k) k _ H
    try simp only [bits_Len64.f, beq_dec, bne_dec] at H
    repeat (first
      | (simp [bits_Len64.j0, beq_dec, bne_dec, *] at H; done)
      | (simp [bits_Len64.j0, beq_dec, bne_dec, *] at H)
      | (rw [if_pos (by omega)] at H)
      | (rw [if_neg (by omega)] at H)
      | (have hc := And.left H; replace H := And.right H; try (exfalso; clear H; omega)))
  all_goals first
    | (subst H; rfl)
    | (subst H; simp; done)
    | (cases H; rfl)
    | (exfalso; clear H; omega)
    | (exfalso; simp [ByteArray.size] at hq; omega)
    | (subst H; simp [beq_dec, bne_dec, *]; done)
    | (simp_all [beq_dec, bne_dec]; done)
    | (simp_all [beq_dec, bne_dec]; subst H; first | rfl | (simp; done) | (simp [*]; done))
set_option maxRecDepth 100000 in
set_option maxHeartbeats 40000000 in
theorem jacquardref13_Valid.ev (a0 : Int) (a1_0 : Int) (a1_1 : Int) (a1_2 : Int) (a1_3 : Int) (r : Bool) (H : jacquardref13_Valid.f k a0 a1_0 a1_1 a1_2 a1_3 = some r)
  (g45 : _) (e45 : g45 = jacquardref13_Umax.F) (h45 : jacquardref13_Umax.Is K g45)
  (g62 : _) (e62 : g62 = jacquardref13_Smin.F) (h62 : jacquardref13_Smin.Is K g62)
  (g63 : _) (e63 : g63 = jacquardref13_Smax.F) (h63 : jacquardref13_Smax.Is K g63)
  : evFn ⟨tys, ⟨op, ok, cmp, neg, not, wrap, mn', mx', idx, len, get, cut, app, byte⟩, lp⟩ (k + 8) K h44 Try.f44 [V.sc (.int .i64 a0), V.agg [V.sc (.int .u64 a1_0), V.sc (.int .u64 a1_1), V.sc (.int .i64 a1_2), V.sc (.int .i64 a1_3)]] [] = some (V.sc (.bool r), []) := by
  generalize hR : some (V.sc (.bool r), ([] : Heap)) = R
  have hcm := rcm hA hc2
  have hokm := rok hA hok2
  all_goals cbv
  all_goals repeat' (first
    | (rewrite [h45, hq45]; cbv)
    | (rewrite [h45]; generalize hq45 : g45 _ = o; rcases o with _ | _ <;> cbv)
    | (rewrite [h62, hq62]; cbv)
    | (rewrite [h62]; generalize hq62 : g62 _ = o; rcases o with _ | _ <;> cbv)
    | (rewrite [h63, hq63]; cbv)
    | (rewrite [h63]; generalize hq63 : g63 _ = o; rcases o with _ | _ <;> cbv)
    | (rewrite [hok2]; generalize hq : ok2 _ _ = o; cases o <;> cbv)
    | (rewrite [hc2]; generalize hq : c2 _ _ _ = o; cases o <;> (rewrite [hcm] at hq; simp only [rc] at hq) <;> first | (exfalso; omega) | cbv))
  all_goals
    obtain rfl := c2_eq hcm
    obtain rfl := ok2_eq hokm
    subst e45 e62 e63 hR
    clear h45 h62 h63 hc2 hok2 hcm hokm
    obtain ⟨rfl, rfl, rfl, rfl, rfl, rfl, rfl, rfl, rfl, rfl⟩ := eqsA hA
    clear hA
    try simp only [rl] at *
    try subst_vars
    try replace H := up8 (fun k => jacquardref13_Valid.mono _ _ _ _ _ k) k _ H
    try simp only [jacquardref13_Valid.f, beq_dec, bne_dec] at H
    repeat (first
      | (with_reducible first | replace H := le_bind (jacquardref13_Umax.le ..) H | replace H := le_ap (jacquardref13_Umax.le ..) H)
      | (with_reducible first | replace H := le_bind (jacquardref13_Smin.le ..) H | replace H := le_ap (jacquardref13_Smin.le ..) H)
      | (with_reducible first | replace H := le_bind (jacquardref13_Smax.le ..) H | replace H := le_ap (jacquardref13_Smax.le ..) H)
      | (simp [beq_dec, bne_dec, *] at H; done)
      | (simp [beq_dec, bne_dec, *] at H)
      | (rw [if_pos (by omega)] at H)
      | (rw [if_neg (by omega)] at H)
      | (have hc := And.left H; replace H := And.right H; try (exfalso; clear H; omega)))
  all_goals first
    | (subst H; rfl)
    | (subst H; simp; done)
    | (cases H; rfl)
    | (exfalso; clear H; omega)
    | (subst H; simp [beq_dec, bne_dec, *]; done)
    | (simp_all [beq_dec, bne_dec]; done)
    | (simp_all [beq_dec, bne_dec]; subst H; first | rfl | (simp; done) | (simp [*]; done))
set_option maxRecDepth 100000 in
set_option maxHeartbeats 40000000 in
theorem interval_computer_corners.ev (s0_0 : Int) (s0_1 : Int) (s0_2 : Int) (s0_3 : Int) (s0_4 : Int) (s0_5 : Int) (s0_6 : Int) (s0_7 : Int) (a1 : Int) (l2 : List Int) (r : Int × Int × Int × Int × Int × Int × Int × Int) (H : interval_computer_corners.f k s0_0 s0_1 s0_2 s0_3 s0_4 s0_5 s0_6 s0_7 a1 l2 = some r)
  (g79 : _) (e79 : g79 = interval_computer_s.f) (h79 : interval_computer_s.Is K g79)
  : evFn ⟨tys, ⟨op, ok, cmp, neg, not, wrap, mn', mx', idx, len, get, cut, app, byte⟩, lp⟩ (k + 8) K h83 Try.f83 [V.ptr 0 0, V.sc (.int .i64 a1), V.sl false (l2.map fun x : Int => [V.sc (.int .i64 x)])] [[V.sc (.int .i64 s0_0), V.sc (.int .u64 s0_1), V.sc (.int .i64 s0_2), V.sc (.int .i64 s0_3), V.sc (.int .u64 s0_4), V.sc (.int .u64 s0_5), V.sc (.int .i64 s0_6), V.sc (.int .i64 s0_7)]] = some (V.tup [], [[V.sc (.int .i64 r.1), V.sc (.int .u64 r.2.1), V.sc (.int .i64 r.2.2.1), V.sc (.int .i64 r.2.2.2.1), V.sc (.int .u64 r.2.2.2.2.1), V.sc (.int .u64 r.2.2.2.2.2.1), V.sc (.int .i64 r.2.2.2.2.2.2.1), V.sc (.int .i64 r.2.2.2.2.2.2.2)]]) := by
  generalize hR : some (V.tup [], [[V.sc (.int .i64 r.1), V.sc (.int .u64 r.2.1), V.sc (.int .i64 r.2.2.1), V.sc (.int .i64 r.2.2.2.1), V.sc (.int .u64 r.2.2.2.2.1), V.sc (.int .u64 r.2.2.2.2.2.1), V.sc (.int .i64 r.2.2.2.2.2.2.1), V.sc (.int .i64 r.2.2.2.2.2.2.2)]]) = R
  have hcm := rcm hA hc2
  have hokm := rok hA hok2
  obtain ⟨lp2, hlp2, hlp⟩ : ∃ lp2, lp2 = rounds ∧ ∀ b n0 kp L st, lp b n0 kp L st = lp2 b n0 kp L st := ⟨lp, lp_eq hA, fun _ _ _ _ _ => rfl⟩
  obtain ⟨cl2, bl2, pl2_0, hcl2, hbl2, hpl2_0, hgl2, hul2⟩ := li_int .i64 (get_eq hA) l2
  rw [← hcl2]
  all_goals cbv
  all_goals repeat' (first
    | (rewrite [h79, hq79]; cbv)
    | (rewrite [h79]; generalize hq79 : g79 _ _ _ _ _ _ _ _ _ _ = o; rcases o with _ | ⟨_, _, _, _, _, _, _, _⟩ <;> cbv)
    | (rewrite [hgl2]; generalize hq : bl2 _ = o; cases o <;> first | (exact absurd (hq.symm.trans (by assumption : bl2 _ = true)) Bool.false_ne_true) | (exact absurd (hq.symm.trans (by assumption : bl2 _ = false)) (fun h => Bool.false_ne_true h.symm)) | cbv)
    | (rewrite [hok2]; generalize hq : ok2 _ _ = o; cases o <;> cbv)
    | (rewrite [hc2]; generalize hq : c2 _ _ _ = o; cases o <;> (rewrite [hcm] at hq; simp only [rc] at hq) <;> first | (exfalso; omega) | cbv)
    | (rewrite [hlp]; generalize hl : lp2 _ _ _ _ _ = o; revert o
       refine loop_rule hlp2 (fun (y : Int × Int × Int) st => ⟨(((st.s.set 6 (V.sc (.int .i64 y.1))).set 7 (V.sc (.int .i64 y.2.1))).set 14 (V.sc (.int .i64 y.2.2))), st.h⟩) (fun n y => interval_computer_corners.l0 n y.1 y.2.1 l2 (l2.length : Int) y.2.2 s0_0 s0_1 s0_2 s0_3 s0_4 s0_5 s0_6 s0_7 = some r) (n := k + 8) (x := (?x6_1, ?x7_1, ?x14_1)) ?hst (fun y h => by simp [interval_computer_corners.l0] at h) ?hq ?hn ?hs
       case hst => exact rfl
       case hq =>
         obtain rfl := c2_eq hcm
         obtain rfl := ok2_eq hokm
         subst e79 hR
         clear h79 hc2 hok2 hcm hokm hul2 hgl2 hlp
         subst hcl2 hbl2 hpl2_0
         obtain ⟨rfl, rfl, rfl, rfl, rfl, rfl, rfl, rfl, rfl, rfl⟩ := eqsA hA
         clear hA
         try simp only [rl] at *
         try subst_vars
         try replace H := up8 (fun k => interval_computer_corners.mono _ _ _ _ _ _ _ _ _ _ k) k _ H
         try simp only [interval_computer_corners.f, beq_dec, bne_dec] at H
         repeat (first
           | (simp [beq_dec, bne_dec, *] at H; done)
           | (simp [beq_dec, bne_dec, *] at H)
           | (rw [if_pos (by omega)] at H)
           | (rw [if_neg (by omega)] at H)
           | (have hc := And.left H; replace H := And.right H; try (exfalso; clear H; omega)))
         all_goals first | exact H | exact le_ap (le_of_le (g := fun k => interval_computer_corners.l0 k _ _ _ _ _ _ _ _ _ _ _ _ _) (fun k => (interval_computer_corners.mono_l k) _ _ _ _ _ _ _ _ _ _ _ _ _) (by omega)) H | (rw [hq]; exact le_ap (le_of_le (g := fun k => interval_computer_corners.l0 k _ _ _ _ _ _ _ _ _ _ _ _ _) (fun k => (interval_computer_corners.mono_l k) _ _ _ _ _ _ _ _ _ _ _ _ _) (by omega)) H) | (simp_all; done)
       case hn => omega
       case' hs =>
         clear H
         intro m nx ⟨x6_1, x7_1, x14_1⟩ hnx H
         all_goals cbv))
  all_goals
    obtain rfl := c2_eq hcm
    obtain rfl := ok2_eq hokm
    subst e79 hR
    clear h79 hc2 hok2 hcm hokm hul2 hgl2 hlp
    subst hcl2 hbl2 hpl2_0
    obtain ⟨rfl, rfl, rfl, rfl, rfl, rfl, rfl, rfl, rfl, rfl⟩ := eqsA hA
    clear hA
    try simp only [rl] at *
    try (exact hnx (_, _, _) H)
    try replace hnx : Go.RowKit.Hid _ := hnx
    try subst_vars
    try replace H := up8 (fun k => interval_computer_corners.mono _ _ _ _ _ _ _ _ _ _ k) k _ H
    try simp only [interval_computer_corners.f, beq_dec, bne_dec] at H
    try simp only [interval_computer_corners.l0, beq_dec, bne_dec] at H
    repeat (first
      | (simp [beq_dec, bne_dec, *] at H; done)
      | (simp [beq_dec, bne_dec, *] at H)
      | (rw [if_pos (by omega)] at H)
      | (rw [if_neg (by omega)] at H)
      | (have hc := And.left H; replace H := And.right H; try (exfalso; clear H; (try clear hnx); omega)))
  all_goals first
    | (exact hnx.out (_, _, _) H)
    | (rw [← hq] at H; exact hnx.out (_, _, _) H)
    | (subst H; rfl)
    | (subst H; simp; done)
    | (cases H; rfl)
    | (exfalso; clear H; (try clear hnx); omega)
    | (exfalso; clear H; (try clear hnx); simp only [natCast_eq] at *; omega)
    | (simp only [*] at hq79; simp [*] at H; done)
    | (simp only [*] at hq79; simp [*] at H; subst H; first | rfl | (simp; done))
    | (subst H; simp [beq_dec, bne_dec, *]; done)
    | (simp_all [beq_dec, bne_dec]; done)
    | (simp_all [beq_dec, bne_dec]; subst H; first | rfl | (simp; done) | (simp [*]; done))
set_option maxRecDepth 100000 in
set_option maxHeartbeats 40000000 in
theorem jacquardlaw13_awake.ev  (r : Bool) (H : jacquardlaw13_awake.f  = some r)
  (g21 : _) (e21 : g21 = interval_Top.f) (h21 : interval_Top.Is K g21)
  (g14 : _) (e14 : g14 = interval_Of.f) (h14 : interval_Of.Is K g14)
  : evFn ⟨tys, ⟨op, ok, cmp, neg, not, wrap, mn', mx', idx, len, get, cut, app, byte⟩, lp⟩ (k + 8) K h8 Try.f8 [] [] = some (V.sc (.bool r), []) := by
  generalize hR : some (V.sc (.bool r), ([] : Heap)) = R
  have hcm := rcm hA hc2
  have hokm := rok hA hok2
  all_goals cbv
  all_goals repeat' (first
    | (rewrite [h21, hq21]; cbv)
    | (rewrite [h21]; generalize hq21 : g21 _ = o; rcases o with _ | ⟨_, _, _, _⟩ <;> cbv)
    | (rewrite [h14, hq14]; cbv)
    | (rewrite [h14]; generalize hq14 : g14 _ _ = o; rcases o with _ | ⟨_, _, _, _⟩ <;> cbv)
    | (rewrite [hok2]; generalize hq : ok2 _ _ = o; cases o <;> cbv)
    | (rewrite [hc2]; generalize hq : c2 _ _ _ = o; cases o <;> (rewrite [hcm] at hq; simp only [rc] at hq) <;> first | (exfalso; omega) | cbv))
  all_goals
    obtain rfl := c2_eq hcm
    obtain rfl := ok2_eq hokm
    subst e21 e14 hR
    clear h21 h14 hc2 hok2 hcm hokm
    obtain ⟨rfl, rfl, rfl, rfl, rfl, rfl, rfl, rfl, rfl, rfl⟩ := eqsA hA
    clear hA
    try simp only [rl] at *
    try subst_vars
    try simp only [jacquardlaw13_awake.f, beq_dec, bne_dec] at H
    repeat (first
      | (simp [beq_dec, bne_dec, *] at H; done)
      | (simp [beq_dec, bne_dec, *] at H)
      | (rw [if_pos (by omega)] at H)
      | (rw [if_neg (by omega)] at H)
      | (have hc := And.left H; replace H := And.right H; try (exfalso; clear H; omega)))
  all_goals first
    | (subst H; rfl)
    | (subst H; simp; done)
    | (cases H; rfl)
    | (exfalso; clear H; omega)
    | (subst H; simp [beq_dec, bne_dec, *]; done)
    | (simp_all [beq_dec, bne_dec]; done)
    | (simp_all [beq_dec, bne_dec]; subst H; first | rfl | (simp; done) | (simp [*]; done))
set_option maxRecDepth 100000 in
set_option maxHeartbeats 40000000 in
theorem interval_Top.ev (a0 : Int) (r : Int × Int × Int × Int) (H : interval_Top.f a0 = some r)
  (g36 : _) (e36 : g36 = interval_good.f) (h36 : interval_good.Is K g36)
  (g25 : _) (e25 : g25 = interval_ends.f) (h25 : interval_ends.Is K g25)
  (g26 : _) (e26 : g26 = bits_Mask.f) (h26 : bits_Mask.Is K g26)
  : evFn ⟨tys, ⟨op, ok, cmp, neg, not, wrap, mn', mx', idx, len, get, cut, app, byte⟩, lp⟩ (k + 8) K h21 Try.f21 [V.sc (.int .i64 a0)] [] = some (V.agg [V.sc (.int .u64 r.1), V.sc (.int .u64 r.2.1), V.sc (.int .i64 r.2.2.1), V.sc (.int .i64 r.2.2.2)], []) := by
  generalize hR : some (V.agg [V.sc (.int .u64 r.1), V.sc (.int .u64 r.2.1), V.sc (.int .i64 r.2.2.1), V.sc (.int .i64 r.2.2.2)], ([] : Heap)) = R
  have hcm := rcm hA hc2
  have hokm := rok hA hok2
  all_goals cbv
  all_goals repeat' (first
    | (rewrite [h36, hq36]; cbv)
    | (rewrite [h36]; generalize hq36 : g36 _ = o; rcases o with _ | _ | _ <;> cbv)
    | (rewrite [h25, hq25]; cbv)
    | (rewrite [h25]; generalize hq25 : g25 _ = o; rcases o with _ | ⟨_, _⟩ <;> cbv)
    | (rewrite [h26, hq26]; cbv)
    | (rewrite [h26]; generalize hq26 : g26 _ = o; rcases o with _ | _ <;> cbv)
    | (rewrite [hok2]; generalize hq : ok2 _ _ = o; cases o <;> cbv)
    | (rewrite [hc2]; generalize hq : c2 _ _ _ = o; cases o <;> (rewrite [hcm] at hq; simp only [rc] at hq) <;> first | (exfalso; omega) | cbv))
  all_goals
    obtain rfl := c2_eq hcm
    obtain rfl := ok2_eq hokm
    subst e36 e25 e26 hR
    clear h36 h25 h26 hc2 hok2 hcm hokm
    obtain ⟨rfl, rfl, rfl, rfl, rfl, rfl, rfl, rfl, rfl, rfl⟩ := eqsA hA
    clear hA
    try simp only [rl] at *
    try subst_vars
    try simp only [interval_Top.f, beq_dec, bne_dec] at H
    repeat (first
      | (simp [beq_dec, bne_dec, *] at H; done)
      | (simp [beq_dec, bne_dec, *] at H)
      | (rw [if_pos (by omega)] at H)
      | (rw [if_neg (by omega)] at H)
      | (have hc := And.left H; replace H := And.right H; try (exfalso; clear H; omega)))
  all_goals first
    | (subst H; rfl)
    | (subst H; simp; done)
    | (cases H; rfl)
    | (exfalso; clear H; omega)
    | (subst H; simp [beq_dec, bne_dec, *]; done)
    | (simp_all [beq_dec, bne_dec]; done)
    | (simp_all [beq_dec, bne_dec]; subst H; first | rfl | (simp; done) | (simp [*]; done))
set_option maxRecDepth 100000 in
set_option maxHeartbeats 40000000 in
theorem jacquardref12_Bit.ev (a0 : Int) (a1 : Int) (r : Int) (H : jacquardref12_Bit.f a0 a1 = some r)
  : evFn ⟨tys, ⟨op, ok, cmp, neg, not, wrap, mn', mx', idx, len, get, cut, app, byte⟩, lp⟩ (k + 8) K h41 Try.f41 [V.sc (.int .u64 a0), V.sc (.int .i64 a1)] [] = some (V.sc (.int .i64 r), []) := by
  generalize hR : some (V.sc (.int .i64 r), ([] : Heap)) = R
  have hcm := rcm hA hc2
  have hokm := rok hA hok2
  all_goals cbv
  all_goals repeat' (first
    | (rewrite [hok2]; generalize hq : ok2 _ _ = o; cases o <;> cbv)
    | (rewrite [hc2]; generalize hq : c2 _ _ _ = o; cases o <;> (rewrite [hcm] at hq; simp only [rc] at hq) <;> first | (exfalso; omega) | cbv))
  all_goals
    obtain rfl := c2_eq hcm
    obtain rfl := ok2_eq hokm
    subst  hR
    clear hc2 hok2 hcm hokm
    obtain ⟨rfl, rfl, rfl, rfl, rfl, rfl, rfl, rfl, rfl, rfl⟩ := eqsA hA
    clear hA
    try simp only [rl] at *
    try subst_vars
    try simp only [jacquardref12_Bit.f, beq_dec, bne_dec] at H
    repeat (first
      | (simp [beq_dec, bne_dec, *] at H; done)
      | (simp [beq_dec, bne_dec, *] at H)
      | (rw [if_pos (by omega)] at H)
      | (rw [if_neg (by omega)] at H)
      | (have hc := And.left H; replace H := And.right H; try (exfalso; clear H; omega)))
  all_goals first
    | (subst H; rfl)
    | (subst H; simp; done)
    | (cases H; rfl)
    | (exfalso; clear H; omega)
    | (subst H; simp [beq_dec, bne_dec, *]; done)
    | (simp_all [beq_dec, bne_dec]; done)
    | (simp_all [beq_dec, bne_dec]; subst H; first | rfl | (simp; done) | (simp [*]; done))
set_option maxRecDepth 100000 in
set_option maxHeartbeats 40000000 in
theorem interval_computer_u.ev (s0_0 : Int) (s0_1 : Int) (s0_2 : Int) (s0_3 : Int) (s0_4 : Int) (s0_5 : Int) (s0_6 : Int) (s0_7 : Int) (a1 : Int) (a2 : Int) (r : Int × Int × Int × Int × Int × Int × Int × Int) (H : interval_computer_u.f s0_0 s0_1 s0_2 s0_3 s0_4 s0_5 s0_6 s0_7 a1 a2 = some r)
  : evFn ⟨tys, ⟨op, ok, cmp, neg, not, wrap, mn', mx', idx, len, get, cut, app, byte⟩, lp⟩ (k + 8) K h56 Try.f56 [V.ptr 0 0, V.sc (.int .u64 a1), V.sc (.int .u64 a2)] [[V.sc (.int .i64 s0_0), V.sc (.int .u64 s0_1), V.sc (.int .i64 s0_2), V.sc (.int .i64 s0_3), V.sc (.int .u64 s0_4), V.sc (.int .u64 s0_5), V.sc (.int .i64 s0_6), V.sc (.int .i64 s0_7)]] = some (V.tup [], [[V.sc (.int .i64 r.1), V.sc (.int .u64 r.2.1), V.sc (.int .i64 r.2.2.1), V.sc (.int .i64 r.2.2.2.1), V.sc (.int .u64 r.2.2.2.2.1), V.sc (.int .u64 r.2.2.2.2.2.1), V.sc (.int .i64 r.2.2.2.2.2.2.1), V.sc (.int .i64 r.2.2.2.2.2.2.2)]]) := by
  generalize hR : some (V.tup [], [[V.sc (.int .i64 r.1), V.sc (.int .u64 r.2.1), V.sc (.int .i64 r.2.2.1), V.sc (.int .i64 r.2.2.2.1), V.sc (.int .u64 r.2.2.2.2.1), V.sc (.int .u64 r.2.2.2.2.2.1), V.sc (.int .i64 r.2.2.2.2.2.2.1), V.sc (.int .i64 r.2.2.2.2.2.2.2)]]) = R
  have hcm := rcm hA hc2
  have hokm := rok hA hok2
  all_goals cbv
  all_goals repeat' (first
    | (rewrite [hok2]; generalize hq : ok2 _ _ = o; cases o <;> cbv)
    | (rewrite [hc2]; generalize hq : c2 _ _ _ = o; cases o <;> (rewrite [hcm] at hq; simp only [rc] at hq) <;> first | (exfalso; omega) | cbv))
  all_goals
    obtain rfl := c2_eq hcm
    obtain rfl := ok2_eq hokm
    subst  hR
    clear hc2 hok2 hcm hokm
    obtain ⟨rfl, rfl, rfl, rfl, rfl, rfl, rfl, rfl, rfl, rfl⟩ := eqsA hA
    clear hA
    try simp only [rl] at *
    try subst_vars
    try simp only [interval_computer_u.f, beq_dec, bne_dec] at H
    repeat (first
      | (simp [beq_dec, bne_dec, *] at H; done)
      | (simp [beq_dec, bne_dec, *] at H)
      | (rw [if_pos (by omega)] at H)
      | (rw [if_neg (by omega)] at H)
      | (have hc := And.left H; replace H := And.right H; try (exfalso; clear H; omega)))
  all_goals first
    | (subst H; rfl)
    | (subst H; simp; done)
    | (cases H; rfl)
    | (exfalso; clear H; omega)
    | (subst H; simp [beq_dec, bne_dec, *]; done)
    | (simp_all [beq_dec, bne_dec]; done)
    | (simp_all [beq_dec, bne_dec]; subst H; first | rfl | (simp; done) | (simp [*]; done))
set_option maxRecDepth 100000 in
set_option maxHeartbeats 40000000 in
theorem bits_Mask.ev (a0 : Int) (r : Int) (H : bits_Mask.f a0 = some r)
  (g51 : _) (e51 : g51 = bits_limit.f) (h51 : bits_limit.Is K g51)
  : evFn ⟨tys, ⟨op, ok, cmp, neg, not, wrap, mn', mx', idx, len, get, cut, app, byte⟩, lp⟩ (k + 8) K h26 Try.f26 [V.sc (.int .i64 a0)] [] = some (V.sc (.int .u64 r), []) := by
  generalize hR : some (V.sc (.int .u64 r), ([] : Heap)) = R
  have hcm := rcm hA hc2
  have hokm := rok hA hok2
  all_goals cbv
  all_goals repeat' (first
    | (rewrite [h51, hq51]; cbv)
    | (rewrite [h51]; generalize hq51 : g51 _ = o; rcases o with _ | _ <;> cbv)
    | (rewrite [hok2]; generalize hq : ok2 _ _ = o; cases o <;> cbv)
    | (rewrite [hc2]; generalize hq : c2 _ _ _ = o; cases o <;> (rewrite [hcm] at hq; simp only [rc] at hq) <;> first | (exfalso; omega) | cbv))
  all_goals
    obtain rfl := c2_eq hcm
    obtain rfl := ok2_eq hokm
    subst e51 hR
    clear h51 hc2 hok2 hcm hokm
    obtain ⟨rfl, rfl, rfl, rfl, rfl, rfl, rfl, rfl, rfl, rfl⟩ := eqsA hA
    clear hA
    try simp only [rl] at *
    try subst_vars
    try simp only [bits_Mask.f, beq_dec, bne_dec] at H
    repeat (first
      | (simp [beq_dec, bne_dec, *] at H; done)
      | (simp [beq_dec, bne_dec, *] at H)
      | (rw [if_pos (by omega)] at H)
      | (rw [if_neg (by omega)] at H)
      | (have hc := And.left H; replace H := And.right H; try (exfalso; clear H; omega)))
  all_goals first
    | (subst H; rfl)
    | (subst H; simp; done)
    | (cases H; rfl)
    | (exfalso; clear H; omega)
    | (subst H; simp [beq_dec, bne_dec, *]; done)
    | (simp_all [beq_dec, bne_dec]; done)
    | (simp_all [beq_dec, bne_dec]; subst H; first | rfl | (simp; done) | (simp [*]; done))
end
end Go.Vm
