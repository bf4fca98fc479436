/- What the evaluator makes of the functions' code (69 s). -/
import Derived.Test.YtoddafkffchnjaaO
namespace Go.Vm
open Go.Proofs Go.Proofs.Ytoddafkffchnjaa Go.Proofs.Ytoddafkffchnjaa.P Go.RowKit Go.Proofs.YtoddafkffchnjaaW.PrintWords Go.Proofs.YtoddafkffchnjaaW.PrintLast Go.Proofs.YtoddafkffchnjaaW.PrintMore
set_option linter.unusedVariables false
set_option linter.unusedSimpArgs false
set_option linter.unusedSectionVars false
set_option linter.unusedVariables false
set_option linter.unusedSimpArgs false
section
variable {op : BinOp → IntKind → Int → Int → Int} {ok : BinOp → Int → Bool} {cmp : BinOp → Int → Int → Bool} {neg not wrap : IntKind → Int → Int} {mn' mx' : Int → Int → Int} {idx : Int → Option Nat}
  {len : List (List V) → Int} {get : List (List V) → Int → Option (List V)} {cut : Nat → List (List V) → Option V → Option V → Option (List (List V))} {app : Nat → Nat → List (List V) → List (List V) → Option (List (List V))} {byte : ByteArray → Int → Option Int}
  {lp : (St → Option (Ex × St)) → Nat → List Nat → Nat → St → Option (Ex × St)} {c2 : BinOp → Int → Int → Bool} {ok2 : BinOp → Int → Bool}
variable (hA : (⟨tys, ⟨op, ok, cmp, neg, not, wrap, mn', mx', idx, len, get, cut, app, byte⟩, lp⟩ : En) = ⟨tys, real, rounds⟩) (hc2 : ∀ o a b, cmp o a b = c2 o a b) (hok2 : ∀ o a, ok o a = ok2 o a) (k : Nat) (K : Oracle)
include hA hc2 hok2
set_option maxRecDepth 100000 in
set_option maxHeartbeats 40000000 in
theorem interval_Apply.ev (a0 : Int) (a1 : Int) (l2 : List Int) (l3 : List (S30)) (a4 : Int) (r : Int × Int × Int × Int) (H : interval_Apply.f k a0 a1 l2 l3 a4 = some r)
  (g21 : _) (e21 : g21 = interval_Top.f) (h21 : interval_Top.Is K g21)
  (g14 : _) (e14 : g14 = interval_Of.f) (h14 : interval_Of.Is K g14)
  (g23 : _) (e23 : g23 = interval_Tighten.F) (h23 : interval_Tighten.Is K g23)
  (g24 : _) (e24 : g24 = interval_value.F) (h24 : interval_value.Is K g24)
  (g25 : _) (e25 : g25 = interval_ends.f) (h25 : interval_ends.Is K g25)
  (g26 : _) (e26 : g26 = bits_Mask.f) (h26 : bits_Mask.Is K g26)
  (g27 : _) (e27 : g27 = interval_computer_compute.F) (h27 : interval_computer_compute.Is K g27)
  (g22 : _) (e22 : g22 = interval_shaped.F) (h22 : interval_shaped.Is K g22)
  : evFn ⟨tys, ⟨op, ok, cmp, neg, not, wrap, mn', mx', idx, len, get, cut, app, byte⟩, lp⟩ (k + 8) K h10 Try.f10 [V.sc (.int .i64 a0), V.sc (.int .i64 a1), V.sl false (l2.map fun x : Int => [V.sc (.int .i64 x)]), V.sl false (l3.map fun x : S30 => [V.sc (.int .u64 x.f0), V.sc (.int .u64 x.f1), V.sc (.int .i64 x.f2), V.sc (.int .i64 x.f3)]), V.sc (.int .u64 a4)] [] = some (V.agg [V.sc (.int .u64 r.1), V.sc (.int .u64 r.2.1), V.sc (.int .i64 r.2.2.1), V.sc (.int .i64 r.2.2.2)], []) := by
  generalize hR : some (V.agg [V.sc (.int .u64 r.1), V.sc (.int .u64 r.2.1), V.sc (.int .i64 r.2.2.1), V.sc (.int .i64 r.2.2.2)], ([] : Heap)) = R
  have hcm := rcm hA hc2
  have hokm := rok hA hok2
  obtain ⟨lp2, hlp2, hlp⟩ : ∃ lp2, lp2 = rounds ∧ ∀ b n0 kp L st, lp b n0 kp L st = lp2 b n0 kp L st := ⟨lp, lp_eq hA, fun _ _ _ _ _ => rfl⟩
  obtain ⟨cl2, bl2, pl2_0, hcl2, hbl2, hpl2_0, hgl2, hul2⟩ := li_int .i64 (get_eq hA) l2
  rw [← hcl2]
  obtain ⟨cl3, bl3, pl3_0, pl3_1, pl3_2, pl3_3, hcl3, hbl3, hpl3_0, hpl3_1, hpl3_2, hpl3_3, hgl3, hul3⟩ := li_k30 (get_eq hA) l3
  rw [← hcl3]
  all_goals cbv
  all_goals repeat' (first
    | (rewrite [h21, hq21]; cbv)
    | (rewrite [h21]; generalize hq21 : g21 _ = o; rcases o with _ | ⟨_, _, _, _⟩ <;> cbv)
    | (rewrite [h14, hq14]; cbv)
    | (rewrite [h14]; generalize hq14 : g14 _ _ = o; rcases o with _ | ⟨_, _, _, _⟩ <;> cbv)
    | (rewrite [h23, hq23]; cbv)
    | (rewrite [h23]; generalize hq23 : g23 _ _ _ _ _ = o; rcases o with _ | ⟨_, _, _, _, (_ | _)⟩ <;> cbv)
    | (rewrite [(h24 _ _ hul2 _ _ hul3), hq24]; cbv)
    | (rewrite [(h24 _ _ hul2 _ _ hul3)]; generalize hq24 : g24 _ _ _ _ = o; rcases o with _ | _ <;> cbv)
    | (rewrite [(h24 _ _ hul2 _ _ hux12_2), hq24]; cbv)
    | (rewrite [(h24 _ _ hul2 _ _ hux12_2)]; generalize hq24 : g24 _ _ _ _ = o; rcases o with _ | _ <;> cbv)
    | (rewrite [(h24 _ _ hul2 _ _ (unk30_1 ..)), hq24]; cbv)
    | (rewrite [(h24 _ _ hul2 _ _ (unk30_1 ..))]; generalize hq24 : g24 _ _ _ _ = o; rcases o with _ | _ <;> cbv)
    | (rewrite [(h24 _ _ hul2 _ _ (unk30_2 ..)), hq24]; cbv)
    | (rewrite [(h24 _ _ hul2 _ _ (unk30_2 ..))]; generalize hq24 : g24 _ _ _ _ = o; rcases o with _ | _ <;> cbv)
    | (rewrite [(h24 _ _ hul2 _ _ (unk30_3 ..)), hq24]; cbv)
    | (rewrite [(h24 _ _ hul2 _ _ (unk30_3 ..))]; generalize hq24 : g24 _ _ _ _ = o; rcases o with _ | _ <;> cbv)
    | (rewrite [(h24 _ _ (unI_1 ..) _ _ hul3), hq24]; cbv)
    | (rewrite [(h24 _ _ (unI_1 ..) _ _ hul3)]; generalize hq24 : g24 _ _ _ _ = o; rcases o with _ | _ <;> cbv)
    | (rewrite [(h24 _ _ (unI_1 ..) _ _ hux12_2), hq24]; cbv)
    | (rewrite [(h24 _ _ (unI_1 ..) _ _ hux12_2)]; generalize hq24 : g24 _ _ _ _ = o; rcases o with _ | _ <;> cbv)
    | (rewrite [(h24 _ _ (unI_1 ..) _ _ (unk30_1 ..)), hq24]; cbv)
    | (rewrite [(h24 _ _ (unI_1 ..) _ _ (unk30_1 ..))]; generalize hq24 : g24 _ _ _ _ = o; rcases o with _ | _ <;> cbv)
    | (rewrite [(h24 _ _ (unI_1 ..) _ _ (unk30_2 ..)), hq24]; cbv)
    | (rewrite [(h24 _ _ (unI_1 ..) _ _ (unk30_2 ..))]; generalize hq24 : g24 _ _ _ _ = o; rcases o with _ | _ <;> cbv)
    | (rewrite [(h24 _ _ (unI_1 ..) _ _ (unk30_3 ..)), hq24]; cbv)
    | (rewrite [(h24 _ _ (unI_1 ..) _ _ (unk30_3 ..))]; generalize hq24 : g24 _ _ _ _ = o; rcases o with _ | _ <;> cbv)
    | (rewrite [(h24 _ _ (unI_2 ..) _ _ hul3), hq24]; cbv)
    | (rewrite [(h24 _ _ (unI_2 ..) _ _ hul3)]; generalize hq24 : g24 _ _ _ _ = o; rcases o with _ | _ <;> cbv)
    | (rewrite [(h24 _ _ (unI_2 ..) _ _ hux12_2), hq24]; cbv)
    | (rewrite [(h24 _ _ (unI_2 ..) _ _ hux12_2)]; generalize hq24 : g24 _ _ _ _ = o; rcases o with _ | _ <;> cbv)
    | (rewrite [(h24 _ _ (unI_2 ..) _ _ (unk30_1 ..)), hq24]; cbv)
    | (rewrite [(h24 _ _ (unI_2 ..) _ _ (unk30_1 ..))]; generalize hq24 : g24 _ _ _ _ = o; rcases o with _ | _ <;> cbv)
    | (rewrite [(h24 _ _ (unI_2 ..) _ _ (unk30_2 ..)), hq24]; cbv)
    | (rewrite [(h24 _ _ (unI_2 ..) _ _ (unk30_2 ..))]; generalize hq24 : g24 _ _ _ _ = o; rcases o with _ | _ <;> cbv)
    | (rewrite [(h24 _ _ (unI_2 ..) _ _ (unk30_3 ..)), hq24]; cbv)
    | (rewrite [(h24 _ _ (unI_2 ..) _ _ (unk30_3 ..))]; generalize hq24 : g24 _ _ _ _ = o; rcases o with _ | _ <;> cbv)
    | (rewrite [(h24 _ _ (unI_3 ..) _ _ hul3), hq24]; cbv)
    | (rewrite [(h24 _ _ (unI_3 ..) _ _ hul3)]; generalize hq24 : g24 _ _ _ _ = o; rcases o with _ | _ <;> cbv)
    | (rewrite [(h24 _ _ (unI_3 ..) _ _ hux12_2), hq24]; cbv)
    | (rewrite [(h24 _ _ (unI_3 ..) _ _ hux12_2)]; generalize hq24 : g24 _ _ _ _ = o; rcases o with _ | _ <;> cbv)
    | (rewrite [(h24 _ _ (unI_3 ..) _ _ (unk30_1 ..)), hq24]; cbv)
    | (rewrite [(h24 _ _ (unI_3 ..) _ _ (unk30_1 ..))]; generalize hq24 : g24 _ _ _ _ = o; rcases o with _ | _ <;> cbv)
    | (rewrite [(h24 _ _ (unI_3 ..) _ _ (unk30_2 ..)), hq24]; cbv)
    | (rewrite [(h24 _ _ (unI_3 ..) _ _ (unk30_2 ..))]; generalize hq24 : g24 _ _ _ _ = o; rcases o with _ | _ <;> cbv)
    | (rewrite [(h24 _ _ (unI_3 ..) _ _ (unk30_3 ..)), hq24]; cbv)
    | (rewrite [(h24 _ _ (unI_3 ..) _ _ (unk30_3 ..))]; generalize hq24 : g24 _ _ _ _ = o; rcases o with _ | _ <;> cbv)
    | (rewrite [(h24 _ _ (unI_4 ..) _ _ hul3), hq24]; cbv)
    | (rewrite [(h24 _ _ (unI_4 ..) _ _ hul3)]; generalize hq24 : g24 _ _ _ _ = o; rcases o with _ | _ <;> cbv)
    | (rewrite [(h24 _ _ (unI_4 ..) _ _ hux12_2), hq24]; cbv)
    | (rewrite [(h24 _ _ (unI_4 ..) _ _ hux12_2)]; generalize hq24 : g24 _ _ _ _ = o; rcases o with _ | _ <;> cbv)
    | (rewrite [(h24 _ _ (unI_4 ..) _ _ (unk30_1 ..)), hq24]; cbv)
    | (rewrite [(h24 _ _ (unI_4 ..) _ _ (unk30_1 ..))]; generalize hq24 : g24 _ _ _ _ = o; rcases o with _ | _ <;> cbv)
    | (rewrite [(h24 _ _ (unI_4 ..) _ _ (unk30_2 ..)), hq24]; cbv)
    | (rewrite [(h24 _ _ (unI_4 ..) _ _ (unk30_2 ..))]; generalize hq24 : g24 _ _ _ _ = o; rcases o with _ | _ <;> cbv)
    | (rewrite [(h24 _ _ (unI_4 ..) _ _ (unk30_3 ..)), hq24]; cbv)
    | (rewrite [(h24 _ _ (unI_4 ..) _ _ (unk30_3 ..))]; generalize hq24 : g24 _ _ _ _ = o; rcases o with _ | _ <;> cbv)
    | (rewrite [(h24 _ _ (unI_5 ..) _ _ hul3), hq24]; cbv)
    | (rewrite [(h24 _ _ (unI_5 ..) _ _ hul3)]; generalize hq24 : g24 _ _ _ _ = o; rcases o with _ | _ <;> cbv)
    | (rewrite [(h24 _ _ (unI_5 ..) _ _ hux12_2), hq24]; cbv)
    | (rewrite [(h24 _ _ (unI_5 ..) _ _ hux12_2)]; generalize hq24 : g24 _ _ _ _ = o; rcases o with _ | _ <;> cbv)
    | (rewrite [(h24 _ _ (unI_5 ..) _ _ (unk30_1 ..)), hq24]; cbv)
    | (rewrite [(h24 _ _ (unI_5 ..) _ _ (unk30_1 ..))]; generalize hq24 : g24 _ _ _ _ = o; rcases o with _ | _ <;> cbv)
    | (rewrite [(h24 _ _ (unI_5 ..) _ _ (unk30_2 ..)), hq24]; cbv)
    | (rewrite [(h24 _ _ (unI_5 ..) _ _ (unk30_2 ..))]; generalize hq24 : g24 _ _ _ _ = o; rcases o with _ | _ <;> cbv)
    | (rewrite [(h24 _ _ (unI_5 ..) _ _ (unk30_3 ..)), hq24]; cbv)
    | (rewrite [(h24 _ _ (unI_5 ..) _ _ (unk30_3 ..))]; generalize hq24 : g24 _ _ _ _ = o; rcases o with _ | _ <;> cbv)
    | (rewrite [h25, hq25]; cbv)
    | (rewrite [h25]; generalize hq25 : g25 _ = o; rcases o with _ | ⟨_, _⟩ <;> cbv)
    | (rewrite [h26, hq26]; cbv)
    | (rewrite [h26]; generalize hq26 : g26 _ = o; rcases o with _ | _ <;> cbv)
    | (rewrite [(h27 _ _ hul2 _ _ hul3), hq27]; cbv)
    | (rewrite [(h27 _ _ hul2 _ _ hul3)]; generalize hq27 : g27 _ _ _ _ _ _ _ _ _ _ _ = o; rcases o with _ | ⟨_, _, _, _, _, _, _, _⟩ <;> cbv)
    | (rewrite [(h27 _ _ hul2 _ _ hux12_2), hq27]; cbv)
    | (rewrite [(h27 _ _ hul2 _ _ hux12_2)]; generalize hq27 : g27 _ _ _ _ _ _ _ _ _ _ _ = o; rcases o with _ | ⟨_, _, _, _, _, _, _, _⟩ <;> cbv)
    | (rewrite [(h27 _ _ hul2 _ _ (unk30_1 ..)), hq27]; cbv)
    | (rewrite [(h27 _ _ hul2 _ _ (unk30_1 ..))]; generalize hq27 : g27 _ _ _ _ _ _ _ _ _ _ _ = o; rcases o with _ | ⟨_, _, _, _, _, _, _, _⟩ <;> cbv)
    | (rewrite [(h27 _ _ hul2 _ _ (unk30_2 ..)), hq27]; cbv)
    | (rewrite [(h27 _ _ hul2 _ _ (unk30_2 ..))]; generalize hq27 : g27 _ _ _ _ _ _ _ _ _ _ _ = o; rcases o with _ | ⟨_, _, _, _, _, _, _, _⟩ <;> cbv)
    | (rewrite [(h27 _ _ hul2 _ _ (unk30_3 ..)), hq27]; cbv)
    | (rewrite [(h27 _ _ hul2 _ _ (unk30_3 ..))]; generalize hq27 : g27 _ _ _ _ _ _ _ _ _ _ _ = o; rcases o with _ | ⟨_, _, _, _, _, _, _, _⟩ <;> cbv)
    | (rewrite [(h27 _ _ (unI_1 ..) _ _ hul3), hq27]; cbv)
    | (rewrite [(h27 _ _ (unI_1 ..) _ _ hul3)]; generalize hq27 : g27 _ _ _ _ _ _ _ _ _ _ _ = o; rcases o with _ | ⟨_, _, _, _, _, _, _, _⟩ <;> cbv)
    | (rewrite [(h27 _ _ (unI_1 ..) _ _ hux12_2), hq27]; cbv)
    | (rewrite [(h27 _ _ (unI_1 ..) _ _ hux12_2)]; generalize hq27 : g27 _ _ _ _ _ _ _ _ _ _ _ = o; rcases o with _ | ⟨_, _, _, _, _, _, _, _⟩ <;> cbv)
    | (rewrite [(h27 _ _ (unI_1 ..) _ _ (unk30_1 ..)), hq27]; cbv)
    | (rewrite [(h27 _ _ (unI_1 ..) _ _ (unk30_1 ..))]; generalize hq27 : g27 _ _ _ _ _ _ _ _ _ _ _ = o; rcases o with _ | ⟨_, _, _, _, _, _, _, _⟩ <;> cbv)
    | (rewrite [(h27 _ _ (unI_1 ..) _ _ (unk30_2 ..)), hq27]; cbv)
    | (rewrite [(h27 _ _ (unI_1 ..) _ _ (unk30_2 ..))]; generalize hq27 : g27 _ _ _ _ _ _ _ _ _ _ _ = o; rcases o with _ | ⟨_, _, _, _, _, _, _, _⟩ <;> cbv)
    | (rewrite [(h27 _ _ (unI_1 ..) _ _ (unk30_3 ..)), hq27]; cbv)
    | (rewrite [(h27 _ _ (unI_1 ..) _ _ (unk30_3 ..))]; generalize hq27 : g27 _ _ _ _ _ _ _ _ _ _ _ = o; rcases o with _ | ⟨_, _, _, _, _, _, _, _⟩ <;> cbv)
    | (rewrite [(h27 _ _ (unI_2 ..) _ _ hul3), hq27]; cbv)
    | (rewrite [(h27 _ _ (unI_2 ..) _ _ hul3)]; generalize hq27 : g27 _ _ _ _ _ _ _ _ _ _ _ = o; rcases o with _ | ⟨_, _, _, _, _, _, _, _⟩ <;> cbv)
    | (rewrite [(h27 _ _ (unI_2 ..) _ _ hux12_2), hq27]; cbv)
    | (rewrite [(h27 _ _ (unI_2 ..) _ _ hux12_2)]; generalize hq27 : g27 _ _ _ _ _ _ _ _ _ _ _ = o; rcases o with _ | ⟨_, _, _, _, _, _, _, _⟩ <;> cbv)
    | (rewrite [(h27 _ _ (unI_2 ..) _ _ (unk30_1 ..)), hq27]; cbv)
    | (rewrite [(h27 _ _ (unI_2 ..) _ _ (unk30_1 ..))]; generalize hq27 : g27 _ _ _ _ _ _ _ _ _ _ _ = o; rcases o with _ | ⟨_, _, _, _, _, _, _, _⟩ <;> cbv)
    | (rewrite [(h27 _ _ (unI_2 ..) _ _ (unk30_2 ..)), hq27]; cbv)
    | (rewrite [(h27 _ _ (unI_2 ..) _ _ (unk30_2 ..))]; generalize hq27 : g27 _ _ _ _ _ _ _ _ _ _ _ = o; rcases o with _ | ⟨_, _, _, _, _, _, _, _⟩ <;> cbv)
    | (rewrite [(h27 _ _ (unI_2 ..) _ _ (unk30_3 ..)), hq27]; cbv)
    | (rewrite [(h27 _ _ (unI_2 ..) _ _ (unk30_3 ..))]; generalize hq27 : g27 _ _ _ _ _ _ _ _ _ _ _ = o; rcases o with _ | ⟨_, _, _, _, _, _, _, _⟩ <;> cbv)
    | (rewrite [(h27 _ _ (unI_3 ..) _ _ hul3), hq27]; cbv)
    | (rewrite [(h27 _ _ (unI_3 ..) _ _ hul3)]; generalize hq27 : g27 _ _ _ _ _ _ _ _ _ _ _ = o; rcases o with _ | ⟨_, _, _, _, _, _, _, _⟩ <;> cbv)
    | (rewrite [(h27 _ _ (unI_3 ..) _ _ hux12_2), hq27]; cbv)
    | (rewrite [(h27 _ _ (unI_3 ..) _ _ hux12_2)]; generalize hq27 : g27 _ _ _ _ _ _ _ _ _ _ _ = o; rcases o with _ | ⟨_, _, _, _, _, _, _, _⟩ <;> cbv)
    | (rewrite [(h27 _ _ (unI_3 ..) _ _ (unk30_1 ..)), hq27]; cbv)
    | (rewrite [(h27 _ _ (unI_3 ..) _ _ (unk30_1 ..))]; generalize hq27 : g27 _ _ _ _ _ _ _ _ _ _ _ = o; rcases o with _ | ⟨_, _, _, _, _, _, _, _⟩ <;> cbv)
    | (rewrite [(h27 _ _ (unI_3 ..) _ _ (unk30_2 ..)), hq27]; cbv)
    | (rewrite [(h27 _ _ (unI_3 ..) _ _ (unk30_2 ..))]; generalize hq27 : g27 _ _ _ _ _ _ _ _ _ _ _ = o; rcases o with _ | ⟨_, _, _, _, _, _, _, _⟩ <;> cbv)
    | (rewrite [(h27 _ _ (unI_3 ..) _ _ (unk30_3 ..)), hq27]; cbv)
    | (rewrite [(h27 _ _ (unI_3 ..) _ _ (unk30_3 ..))]; generalize hq27 : g27 _ _ _ _ _ _ _ _ _ _ _ = o; rcases o with _ | ⟨_, _, _, _, _, _, _, _⟩ <;> cbv)
    | (rewrite [(h27 _ _ (unI_4 ..) _ _ hul3), hq27]; cbv)
    | (rewrite [(h27 _ _ (unI_4 ..) _ _ hul3)]; generalize hq27 : g27 _ _ _ _ _ _ _ _ _ _ _ = o; rcases o with _ | ⟨_, _, _, _, _, _, _, _⟩ <;> cbv)
    | (rewrite [(h27 _ _ (unI_4 ..) _ _ hux12_2), hq27]; cbv)
    | (rewrite [(h27 _ _ (unI_4 ..) _ _ hux12_2)]; generalize hq27 : g27 _ _ _ _ _ _ _ _ _ _ _ = o; rcases o with _ | ⟨_, _, _, _, _, _, _, _⟩ <;> cbv)
    | (rewrite [(h27 _ _ (unI_4 ..) _ _ (unk30_1 ..)), hq27]; cbv)
    | (rewrite [(h27 _ _ (unI_4 ..) _ _ (unk30_1 ..))]; generalize hq27 : g27 _ _ _ _ _ _ _ _ _ _ _ = o; rcases o with _ | ⟨_, _, _, _, _, _, _, _⟩ <;> cbv)
    | (rewrite [(h27 _ _ (unI_4 ..) _ _ (unk30_2 ..)), hq27]; cbv)
    | (rewrite [(h27 _ _ (unI_4 ..) _ _ (unk30_2 ..))]; generalize hq27 : g27 _ _ _ _ _ _ _ _ _ _ _ = o; rcases o with _ | ⟨_, _, _, _, _, _, _, _⟩ <;> cbv)
    | (rewrite [(h27 _ _ (unI_4 ..) _ _ (unk30_3 ..)), hq27]; cbv)
    | (rewrite [(h27 _ _ (unI_4 ..) _ _ (unk30_3 ..))]; generalize hq27 : g27 _ _ _ _ _ _ _ _ _ _ _ = o; rcases o with _ | ⟨_, _, _, _, _, _, _, _⟩ <;> cbv)
    | (rewrite [(h27 _ _ (unI_5 ..) _ _ hul3), hq27]; cbv)
    | (rewrite [(h27 _ _ (unI_5 ..) _ _ hul3)]; generalize hq27 : g27 _ _ _ _ _ _ _ _ _ _ _ = o; rcases o with _ | ⟨_, _, _, _, _, _, _, _⟩ <;> cbv)
    | (rewrite [(h27 _ _ (unI_5 ..) _ _ hux12_2), hq27]; cbv)
    | (rewrite [(h27 _ _ (unI_5 ..) _ _ hux12_2)]; generalize hq27 : g27 _ _ _ _ _ _ _ _ _ _ _ = o; rcases o with _ | ⟨_, _, _, _, _, _, _, _⟩ <;> cbv)
    | (rewrite [(h27 _ _ (unI_5 ..) _ _ (unk30_1 ..)), hq27]; cbv)
    | (rewrite [(h27 _ _ (unI_5 ..) _ _ (unk30_1 ..))]; generalize hq27 : g27 _ _ _ _ _ _ _ _ _ _ _ = o; rcases o with _ | ⟨_, _, _, _, _, _, _, _⟩ <;> cbv)
    | (rewrite [(h27 _ _ (unI_5 ..) _ _ (unk30_2 ..)), hq27]; cbv)
    | (rewrite [(h27 _ _ (unI_5 ..) _ _ (unk30_2 ..))]; generalize hq27 : g27 _ _ _ _ _ _ _ _ _ _ _ = o; rcases o with _ | ⟨_, _, _, _, _, _, _, _⟩ <;> cbv)
    | (rewrite [(h27 _ _ (unI_5 ..) _ _ (unk30_3 ..)), hq27]; cbv)
    | (rewrite [(h27 _ _ (unI_5 ..) _ _ (unk30_3 ..))]; generalize hq27 : g27 _ _ _ _ _ _ _ _ _ _ _ = o; rcases o with _ | ⟨_, _, _, _, _, _, _, _⟩ <;> cbv)
    | (rewrite [(h22 _ _ hul2), hq22]; cbv)
    | (rewrite [(h22 _ _ hul2)]; generalize hq22 : g22 _ _ _ = o; rcases o with _ | _ | _ <;> cbv)
    | (rewrite [(h22 _ _ (unI_1 ..)), hq22]; cbv)
    | (rewrite [(h22 _ _ (unI_1 ..))]; generalize hq22 : g22 _ _ _ = o; rcases o with _ | _ | _ <;> cbv)
    | (rewrite [(h22 _ _ (unI_2 ..)), hq22]; cbv)
    | (rewrite [(h22 _ _ (unI_2 ..))]; generalize hq22 : g22 _ _ _ = o; rcases o with _ | _ | _ <;> cbv)
    | (rewrite [(h22 _ _ (unI_3 ..)), hq22]; cbv)
    | (rewrite [(h22 _ _ (unI_3 ..))]; generalize hq22 : g22 _ _ _ = o; rcases o with _ | _ | _ <;> cbv)
    | (rewrite [(h22 _ _ (unI_4 ..)), hq22]; cbv)
    | (rewrite [(h22 _ _ (unI_4 ..))]; generalize hq22 : g22 _ _ _ = o; rcases o with _ | _ | _ <;> cbv)
    | (rewrite [(h22 _ _ (unI_5 ..)), hq22]; cbv)
    | (rewrite [(h22 _ _ (unI_5 ..))]; generalize hq22 : g22 _ _ _ = o; rcases o with _ | _ | _ <;> cbv)
    | (rewrite [hgl2]; generalize hq : bl2 _ = o; cases o <;> first | (exact absurd (hq.symm.trans (by assumption : bl2 _ = true)) Bool.false_ne_true) | (exact absurd (hq.symm.trans (by assumption : bl2 _ = false)) (fun h => Bool.false_ne_true h.symm)) | cbv)
    | (rewrite [hgl3]; generalize hq : bl3 _ = o; cases o <;> first | (exact absurd (hq.symm.trans (by assumption : bl3 _ = true)) Bool.false_ne_true) | (exact absurd (hq.symm.trans (by assumption : bl3 _ = false)) (fun h => Bool.false_ne_true h.symm)) | cbv)
    | (rewrite [hgx12_2]; generalize hq : bx12_2 _ = o; cases o <;> first | (exact absurd (hq.symm.trans (by assumption : bx12_2 _ = true)) Bool.false_ne_true) | (exact absurd (hq.symm.trans (by assumption : bx12_2 _ = false)) (fun h => Bool.false_ne_true h.symm)) | cbv)
    | (rewrite [hax12_2]; generalize hq : bax12_2 = o; cases o <;> cbv)
    | (rewrite [hok2]; generalize hq : ok2 _ _ = o; cases o <;> cbv)
    | (rewrite [hc2]; generalize hq : c2 _ _ _ = o; cases o <;> (rewrite [hcm] at hq; simp only [rc] at hq) <;> first | (exfalso; omega) | cbv)
    | (rewrite [hlp]; generalize hl : lp2 _ _ _ _ _ = o; revert o
       refine loop_rule hlp2 (fun (y : Bool × List (S30) × Int × Int × Int × Int × Int) st => ⟨(((st.s.set 11 (V.sc (.bool y.1))).set 43 (V.sc (.int .i64 y.2.2.1))).set 12 (V.sl true (y.2.1.map fun x : S30 => [V.sc (.int .u64 x.f0), V.sc (.int .u64 x.f1), V.sc (.int .i64 x.f2), V.sc (.int .i64 x.f3)]))), (st.h.set 0 [V.sc (.int .u64 y.2.2.2.1), V.sc (.int .u64 y.2.2.2.2.1), V.sc (.int .i64 y.2.2.2.2.2.1), V.sc (.int .i64 y.2.2.2.2.2.2)])⟩) (fun n y => interval_Apply.l0 n a0 a1 l2 y.1 y.2.1 l3 (l3.length : Int) y.2.2.1 = some r) (n := k + 8) (x := (?x11_2, [], ?x43_2, ?x670000_2, ?x670001_2, ?x670002_2, ?x670003_2)) ?hst (fun y h => by simp [interval_Apply.l0] at h) ?hq ?hn ?hs
       case hst => exact rfl
       case hq =>
         obtain rfl := c2_eq hcm
         obtain rfl := ok2_eq hokm
         subst e21 e14 e23 e24 e25 e26 e27 e22 hR
         clear h21 h14 h23 h24 h25 h26 h27 h22 hc2 hok2 hcm hokm hul2 hgl2 hul3 hgl3 hlp
         subst hcl2 hbl2 hpl2_0 hcl3 hbl3 hpl3_0 hpl3_1 hpl3_2 hpl3_3
         try clear hux12_2 hgx12_2 hax12_2
         try subst hcx12_2 hbx12_2 hpx12_2_0 hpx12_2_1 hpx12_2_2 hpx12_2_3 hbax12_2 hcax12_2
         obtain ⟨rfl, rfl, rfl, rfl, rfl, rfl, rfl, rfl, rfl, rfl⟩ := eqsA hA
         clear hA
         try simp only [rl] at *
         try subst_vars
         try replace H := up8 (fun k => interval_Apply.mono _ _ _ _ _ k) k _ H
         try simp only [interval_Apply.f, beq_dec, bne_dec] at H
         repeat (first
           | (with_reducible first | replace H := le_bind (interval_Tighten.le ..) H | replace H := le_ap (interval_Tighten.le ..) H)
           | (with_reducible first | replace H := le_bind (interval_value.le ..) H | replace H := le_ap (interval_value.le ..) H)
           | (with_reducible first | replace H := le_bind (interval_computer_compute.le ..) H | replace H := le_ap (interval_computer_compute.le ..) H)
           | (with_reducible first | replace H := le_bind (interval_shaped.le ..) H | replace H := le_ap (interval_shaped.le ..) H)
           | (simp [interval_Apply.j0, beq_dec, bne_dec, *] at H; done)
           | (simp [interval_Apply.j0, beq_dec, bne_dec, *] at H)
           | (rw [if_pos (by omega)] at H)
           | (rw [if_neg (by omega)] at H)
           | (have hc := And.left H; replace H := And.right H; try (exfalso; clear H; omega)))
         all_goals first | exact H | exact le_ap (le_of_le (g := fun k => interval_Apply.l0 k _ _ _ _ _ _ _ _) (fun k => (interval_Apply.mono_l k).2 _ _ _ _ _ _ _ _) (by omega)) H | (rw [hq]; exact le_ap (le_of_le (g := fun k => interval_Apply.l0 k _ _ _ _ _ _ _ _) (fun k => (interval_Apply.mono_l k).2 _ _ _ _ _ _ _ _) (by omega)) H) | (simp_all; done)
       case hn => omega
       case' hs =>
         clear H
         intro m nx ⟨x11_2, x12_2, x43_2, x670000_2, x670001_2, x670002_2, x670003_2⟩ hnx H
         obtain ⟨cx12_2, bx12_2, px12_2_0, px12_2_1, px12_2_2, px12_2_3, hcx12_2, hbx12_2, hpx12_2_0, hpx12_2_1, hpx12_2_2, hpx12_2_3, hgx12_2, hux12_2⟩ := li_k30 (get_eq hA) x12_2
         simp only [← hcx12_2]
         obtain ⟨bax12_2, hbax12_2⟩ : ∃ b, b = decide (x12_2.length < 4398046511104) := ⟨_, rfl⟩
         obtain ⟨cax12_2, hcax12_2⟩ : ∃ p, p = fun (t0 : Int) (t1 : Int) (t2 : Int) (t3 : Int) => ((x12_2 ++ [(⟨t0, t1, t2, t3⟩ : S30)]).map fun x : S30 => [V.sc (.int .u64 x.f0), V.sc (.int .u64 x.f1), V.sc (.int .i64 x.f2), V.sc (.int .i64 x.f3)]) := ⟨_, rfl⟩
         have hax12_2 : ∀ t0 t1 t2 t3, app 4 32 cx12_2 [[V.sc (.int .u64 t0), V.sc (.int .u64 t1), V.sc (.int .i64 t2), V.sc (.int .i64 t3)]] = if bax12_2 then some (cax12_2 t0 t1 t2 t3) else none := by rw [app_eq hA]; subst hcx12_2 hbax12_2 hcax12_2; exact fun t0 t1 t2 t3 => app_map _ 4 32 x12_2 (⟨t0, t1, t2, t3⟩ : S30) rfl (fun _ => rfl) (by decide)
         rcases x11_2 with _ | _
         all_goals cbv))
  all_goals
    obtain rfl := c2_eq hcm
    obtain rfl := ok2_eq hokm
    subst e21 e14 e23 e24 e25 e26 e27 e22 hR
    clear h21 h14 h23 h24 h25 h26 h27 h22 hc2 hok2 hcm hokm hul2 hgl2 hul3 hgl3 hlp
    subst hcl2 hbl2 hpl2_0 hcl3 hbl3 hpl3_0 hpl3_1 hpl3_2 hpl3_3
    try clear hux12_2 hgx12_2 hax12_2
    try subst hcx12_2 hbx12_2 hpx12_2_0 hpx12_2_1 hpx12_2_2 hpx12_2_3 hbax12_2 hcax12_2
    obtain ⟨rfl, rfl, rfl, rfl, rfl, rfl, rfl, rfl, rfl, rfl⟩ := eqsA hA
    clear hA
    try simp only [rl] at *
    try (exact hnx (_, _, _, _, _, _, _) H)
    try replace hnx : Go.RowKit.Hid _ := hnx
    try subst_vars
    try replace H := up8 (fun k => interval_Apply.mono _ _ _ _ _ k) k _ H
    try simp only [interval_Apply.f, beq_dec, bne_dec] at H
    try simp only [interval_Apply.l0, beq_dec, bne_dec] at H
    repeat (first
      | (with_reducible replace H := le_ap (up8 (g := fun k => interval_Apply.j0 k _ _ _ _ _ _) (fun k => (interval_Apply.mono_l k).1 _ _ _ _ _ _) m) H)
      | (with_reducible first | replace H := le_bind (interval_Tighten.le ..) H | replace H := le_ap (interval_Tighten.le ..) H)
      | (with_reducible first | replace H := le_bind (interval_value.le ..) H | replace H := le_ap (interval_value.le ..) H)
      | (with_reducible first | replace H := le_bind (interval_computer_compute.le ..) H | replace H := le_ap (interval_computer_compute.le ..) H)
      | (with_reducible first | replace H := le_bind (interval_shaped.le ..) H | replace H := le_ap (interval_shaped.le ..) H)
      | (simp [beq_dec, bne_dec, *] at H; done)
      | (simp [beq_dec, bne_dec, *] at H)
      | (rw [if_pos (by omega)] at H)
      | (rw [if_neg (by omega)] at H)
      | (simp [interval_Apply.j0, beq_dec, bne_dec, *] at H; done)
      | (simp [interval_Apply.j0, beq_dec, bne_dec, *] at H)
      | (rw [if_pos (by omega)] at H)
      | (rw [if_neg (by omega)] at H)
      | (have hc := And.left H; replace H := And.right H; try (exfalso; clear H; (try clear hnx); omega)))
  all_goals first
    | (exact hnx.out (_, _, _, _, _, _, _) H)
    | (rw [← hq] at H; exact hnx.out (_, _, _, _, _, _, _) H)
    | (subst H; rfl)
    | (subst H; simp; done)
    | (cases H; rfl)
    | (exfalso; clear H; (try clear hnx); omega)
    | (exfalso; clear H; (try clear hnx); simp only [natCast_eq] at *; omega)
    | (simp only [*] at hq21; simp [*] at H; done)
    | (simp only [*] at hq21; simp [*] at H; subst H; first | rfl | (simp; done))
    | (simp only [*] at hq14; simp [*] at H; done)
    | (simp only [*] at hq14; simp [*] at H; subst H; first | rfl | (simp; done))
    | (simp only [*] at hq23; simp [*] at H; done)
    | (simp only [*] at hq23; simp [*] at H; subst H; first | rfl | (simp; done))
    | (simp only [*] at hq24; simp [*] at H; done)
    | (simp only [*] at hq24; simp [*] at H; subst H; first | rfl | (simp; done))
    | (simp only [*] at hq25; simp [*] at H; done)
    | (simp only [*] at hq25; simp [*] at H; subst H; first | rfl | (simp; done))
    | (simp only [*] at hq26; simp [*] at H; done)
    | (simp only [*] at hq26; simp [*] at H; subst H; first | rfl | (simp; done))
    | (simp only [*] at hq27; simp [*] at H; done)
    | (simp only [*] at hq27; simp [*] at H; subst H; first | rfl | (simp; done))
    | (simp only [*] at hq22; simp [*] at H; done)
    | (simp only [*] at hq22; simp [*] at H; subst H; first | rfl | (simp; done))
    | (simp only [*] at hq21; simp [*] at H; (with_reducible first | replace H := le_bind (interval_Tighten.le ..) H | replace H := le_bind (interval_value.le ..) H | replace H := le_bind (interval_computer_compute.le ..) H | replace H := le_bind (interval_shaped.le ..) H); simp [*] at H; done)
    | (simp only [*] at hq21; simp [*] at H; (with_reducible first | replace H := le_bind (interval_Tighten.le ..) H | replace H := le_bind (interval_value.le ..) H | replace H := le_bind (interval_computer_compute.le ..) H | replace H := le_bind (interval_shaped.le ..) H); simp [*] at H; subst H; first | rfl | (simp; done))
    | (simp only [*] at hq14; simp [*] at H; (with_reducible first | replace H := le_bind (interval_Tighten.le ..) H | replace H := le_bind (interval_value.le ..) H | replace H := le_bind (interval_computer_compute.le ..) H | replace H := le_bind (interval_shaped.le ..) H); simp [*] at H; done)
    | (simp only [*] at hq14; simp [*] at H; (with_reducible first | replace H := le_bind (interval_Tighten.le ..) H | replace H := le_bind (interval_value.le ..) H | replace H := le_bind (interval_computer_compute.le ..) H | replace H := le_bind (interval_shaped.le ..) H); simp [*] at H; subst H; first | rfl | (simp; done))
    | (simp only [*] at hq23; simp [*] at H; (with_reducible first | replace H := le_bind (interval_Tighten.le ..) H | replace H := le_bind (interval_value.le ..) H | replace H := le_bind (interval_computer_compute.le ..) H | replace H := le_bind (interval_shaped.le ..) H); simp [*] at H; done)
    | (simp only [*] at hq23; simp [*] at H; (with_reducible first | replace H := le_bind (interval_Tighten.le ..) H | replace H := le_bind (interval_value.le ..) H | replace H := le_bind (interval_computer_compute.le ..) H | replace H := le_bind (interval_shaped.le ..) H); simp [*] at H; subst H; first | rfl | (simp; done))
    | (simp only [*] at hq24; simp [*] at H; (with_reducible first | replace H := le_bind (interval_Tighten.le ..) H | replace H := le_bind (interval_value.le ..) H | replace H := le_bind (interval_computer_compute.le ..) H | replace H := le_bind (interval_shaped.le ..) H); simp [*] at H; done)
    | (simp only [*] at hq24; simp [*] at H; (with_reducible first | replace H := le_bind (interval_Tighten.le ..) H | replace H := le_bind (interval_value.le ..) H | replace H := le_bind (interval_computer_compute.le ..) H | replace H := le_bind (interval_shaped.le ..) H); simp [*] at H; subst H; first | rfl | (simp; done))
    | (simp only [*] at hq25; simp [*] at H; (with_reducible first | replace H := le_bind (interval_Tighten.le ..) H | replace H := le_bind (interval_value.le ..) H | replace H := le_bind (interval_computer_compute.le ..) H | replace H := le_bind (interval_shaped.le ..) H); simp [*] at H; done)
    | (simp only [*] at hq25; simp [*] at H; (with_reducible first | replace H := le_bind (interval_Tighten.le ..) H | replace H := le_bind (interval_value.le ..) H | replace H := le_bind (interval_computer_compute.le ..) H | replace H := le_bind (interval_shaped.le ..) H); simp [*] at H; subst H; first | rfl | (simp; done))
    | (simp only [*] at hq26; simp [*] at H; (with_reducible first | replace H := le_bind (interval_Tighten.le ..) H | replace H := le_bind (interval_value.le ..) H | replace H := le_bind (interval_computer_compute.le ..) H | replace H := le_bind (interval_shaped.le ..) H); simp [*] at H; done)
    | (simp only [*] at hq26; simp [*] at H; (with_reducible first | replace H := le_bind (interval_Tighten.le ..) H | replace H := le_bind (interval_value.le ..) H | replace H := le_bind (interval_computer_compute.le ..) H | replace H := le_bind (interval_shaped.le ..) H); simp [*] at H; subst H; first | rfl | (simp; done))
    | (simp only [*] at hq27; simp [*] at H; (with_reducible first | replace H := le_bind (interval_Tighten.le ..) H | replace H := le_bind (interval_value.le ..) H | replace H := le_bind (interval_computer_compute.le ..) H | replace H := le_bind (interval_shaped.le ..) H); simp [*] at H; done)
    | (simp only [*] at hq27; simp [*] at H; (with_reducible first | replace H := le_bind (interval_Tighten.le ..) H | replace H := le_bind (interval_value.le ..) H | replace H := le_bind (interval_computer_compute.le ..) H | replace H := le_bind (interval_shaped.le ..) H); simp [*] at H; subst H; first | rfl | (simp; done))
    | (simp only [*] at hq22; simp [*] at H; (with_reducible first | replace H := le_bind (interval_Tighten.le ..) H | replace H := le_bind (interval_value.le ..) H | replace H := le_bind (interval_computer_compute.le ..) H | replace H := le_bind (interval_shaped.le ..) H); simp [*] at H; done)
    | (simp only [*] at hq22; simp [*] at H; (with_reducible first | replace H := le_bind (interval_Tighten.le ..) H | replace H := le_bind (interval_value.le ..) H | replace H := le_bind (interval_computer_compute.le ..) H | replace H := le_bind (interval_shaped.le ..) H); simp [*] at H; subst H; first | rfl | (simp; done))
    | (subst H; simp [beq_dec, bne_dec, *]; done)
    | (simp_all [beq_dec, bne_dec]; done)
    | (simp_all [beq_dec, bne_dec]; subst H; first | rfl | (simp; done) | (simp [*]; done))
set_option maxRecDepth 100000 in
set_option maxHeartbeats 40000000 in
theorem interval_computer_convert.ev (s0_0 : Int) (s0_1 : Int) (s0_2 : Int) (s0_3 : Int) (s0_4 : Int) (s0_5 : Int) (s0_6 : Int) (s0_7 : Int) (a1 : Int) (a2 : Int) (a3_0 : Int) (a3_1 : Int) (a3_2 : Int) (a3_3 : Int) (r : Int × Int × Int × Int × Int × Int × Int × Int) (H : interval_computer_convert.f k s0_0 s0_1 s0_2 s0_3 s0_4 s0_5 s0_6 s0_7 a1 a2 a3_0 a3_1 a3_2 a3_3 = some r)
  (g84 : _) (e84 : g84 = interval_computer_within.f) (h84 : interval_computer_within.Is K g84)
  (g79 : _) (e79 : g79 = interval_computer_s.f) (h79 : interval_computer_s.Is K g79)
  (g56 : _) (e56 : g56 = interval_computer_u.f) (h56 : interval_computer_u.Is K g56)
  : evFn ⟨tys, ⟨op, ok, cmp, neg, not, wrap, mn', mx', idx, len, get, cut, app, byte⟩, lp⟩ (k + 8) K h60 Try.f60 [V.ptr 0 0, V.sc (.int .i64 a1), V.sc (.int .i64 a2), V.agg [V.sc (.int .u64 a3_0), V.sc (.int .u64 a3_1), V.sc (.int .i64 a3_2), V.sc (.int .i64 a3_3)]] [[V.sc (.int .i64 s0_0), V.sc (.int .u64 s0_1), V.sc (.int .i64 s0_2), V.sc (.int .i64 s0_3), V.sc (.int .u64 s0_4), V.sc (.int .u64 s0_5), V.sc (.int .i64 s0_6), V.sc (.int .i64 s0_7)]] = some (V.tup [], [[V.sc (.int .i64 r.1), V.sc (.int .u64 r.2.1), V.sc (.int .i64 r.2.2.1), V.sc (.int .i64 r.2.2.2.1), V.sc (.int .u64 r.2.2.2.2.1), V.sc (.int .u64 r.2.2.2.2.2.1), V.sc (.int .i64 r.2.2.2.2.2.2.1), V.sc (.int .i64 r.2.2.2.2.2.2.2)]]) := by
  generalize hR : some (V.tup [], [[V.sc (.int .i64 r.1), V.sc (.int .u64 r.2.1), V.sc (.int .i64 r.2.2.1), V.sc (.int .i64 r.2.2.2.1), V.sc (.int .u64 r.2.2.2.2.1), V.sc (.int .u64 r.2.2.2.2.2.1), V.sc (.int .i64 r.2.2.2.2.2.2.1), V.sc (.int .i64 r.2.2.2.2.2.2.2)]]) = R
  have hcm := rcm hA hc2
  have hokm := rok hA hok2
  all_goals cbv
  all_goals repeat' (first
    | (rewrite [h84, hq84]; cbv)
    | (rewrite [h84]; generalize hq84 : g84 _ _ _ _ _ _ _ _ _ = o; rcases o with _ | _ | _ <;> cbv)
    | (rewrite [h79, hq79]; cbv)
    | (rewrite [h79]; generalize hq79 : g79 _ _ _ _ _ _ _ _ _ _ = o; rcases o with _ | ⟨_, _, _, _, _, _, _, _⟩ <;> cbv)
    | (rewrite [h56, hq56]; cbv)
    | (rewrite [h56]; generalize hq56 : g56 _ _ _ _ _ _ _ _ _ _ = o; rcases o with _ | ⟨_, _, _, _, _, _, _, _⟩ <;> cbv)
    | (rewrite [hok2]; generalize hq : ok2 _ _ = o; cases o <;> cbv)
    | (rewrite [hc2]; generalize hq : c2 _ _ _ = o; cases o <;> (rewrite [hcm] at hq; simp only [rc] at hq) <;> first | (exfalso; omega) | cbv))
  all_goals
    obtain rfl := c2_eq hcm
    obtain rfl := ok2_eq hokm
    subst e84 e79 e56 hR
    clear h84 h79 h56 hc2 hok2 hcm hokm
    obtain ⟨rfl, rfl, rfl, rfl, rfl, rfl, rfl, rfl, rfl, rfl⟩ := eqsA hA
    clear hA
    try simp only [rl] at *
    try subst_vars
    try replace H := up8 (fun k => interval_computer_convert.mono _ _ _ _ _ _ _ _ _ _ _ _ _ _ k) k _ H
    try simp only [interval_computer_convert.f, beq_dec, bne_dec] at H
    repeat (first
      | (simp [interval_computer_convert.j0, beq_dec, bne_dec, *] at H; done)
      | (simp [interval_computer_convert.j0, beq_dec, bne_dec, *] at H)
      | (rw [if_pos (by omega)] at H)
      | (rw [if_neg (by omega)] at H)
      | (have hc := And.left H; replace H := And.right H; try (exfalso; clear H; omega)))
  all_goals first
    | (subst H; rfl)
    | (subst H; simp; done)
    | (cases H; rfl)
    | (exfalso; clear H; omega)
    | (subst H; simp [beq_dec, bne_dec, *]; done)
    | (simp_all [beq_dec, bne_dec]; done)
    | (simp_all [beq_dec, bne_dec]; subst H; first | rfl | (simp; done) | (simp [*]; done))
set_option maxRecDepth 100000 in
set_option maxHeartbeats 40000000 in
theorem interval_value.ev (a0 : Int) (a1 : Int) (l2 : List Int) (l3 : List (S30)) (r : Int) (H : interval_value.f k a0 a1 l2 l3 = some r)
  (g49 : _) (e49 : g49 = bits_Extend.f) (h49 : bits_Extend.Is K g49)
  (g50 : _) (e50 : g50 = bits_Binary.F) (h50 : bits_Binary.Is K g50)
  : evFn ⟨tys, ⟨op, ok, cmp, neg, not, wrap, mn', mx', idx, len, get, cut, app, byte⟩, lp⟩ (k + 8) K h24 Try.f24 [V.sc (.int .i64 a0), V.sc (.int .i64 a1), V.sl false (l2.map fun x : Int => [V.sc (.int .i64 x)]), V.sl false (l3.map fun x : S30 => [V.sc (.int .u64 x.f0), V.sc (.int .u64 x.f1), V.sc (.int .i64 x.f2), V.sc (.int .i64 x.f3)])] [] = some (V.sc (.int .u64 r), []) := by
  generalize hR : some (V.sc (.int .u64 r), ([] : Heap)) = R
  have hcm := rcm hA hc2
  have hokm := rok hA hok2
  obtain ⟨cl2, bl2, pl2_0, hcl2, hbl2, hpl2_0, hgl2, hul2⟩ := li_int .i64 (get_eq hA) l2
  rw [← hcl2]
  obtain ⟨cl3, bl3, pl3_0, pl3_1, pl3_2, pl3_3, hcl3, hbl3, hpl3_0, hpl3_1, hpl3_2, hpl3_3, hgl3, hul3⟩ := li_k30 (get_eq hA) l3
  rw [← hcl3]
  all_goals cbv
  all_goals repeat' (first
    | (rewrite [h49, hq49]; cbv)
    | (rewrite [h49]; generalize hq49 : g49 _ _ _ _ = o; rcases o with _ | _ <;> cbv)
    | (rewrite [h50, hq50]; cbv)
    | (rewrite [h50]; generalize hq50 : g50 _ _ _ _ = o; rcases o with _ | ⟨_, _⟩ <;> cbv)
    | (rewrite [hgl2]; generalize hq : bl2 _ = o; cases o <;> first | (exact absurd (hq.symm.trans (by assumption : bl2 _ = true)) Bool.false_ne_true) | (exact absurd (hq.symm.trans (by assumption : bl2 _ = false)) (fun h => Bool.false_ne_true h.symm)) | cbv)
    | (rewrite [hgl3]; generalize hq : bl3 _ = o; cases o <;> first | (exact absurd (hq.symm.trans (by assumption : bl3 _ = true)) Bool.false_ne_true) | (exact absurd (hq.symm.trans (by assumption : bl3 _ = false)) (fun h => Bool.false_ne_true h.symm)) | cbv)
    | (rewrite [hok2]; generalize hq : ok2 _ _ = o; cases o <;> cbv)
    | (rewrite [hc2]; generalize hq : c2 _ _ _ = o; cases o <;> (rewrite [hcm] at hq; simp only [rc] at hq) <;> first | (exfalso; omega) | cbv))
  all_goals
    obtain rfl := c2_eq hcm
    obtain rfl := ok2_eq hokm
    subst e49 e50 hR
    clear h49 h50 hc2 hok2 hcm hokm hul2 hgl2 hul3 hgl3
    subst hcl2 hbl2 hpl2_0 hcl3 hbl3 hpl3_0 hpl3_1 hpl3_2 hpl3_3
    obtain ⟨rfl, rfl, rfl, rfl, rfl, rfl, rfl, rfl, rfl, rfl⟩ := eqsA hA
    clear hA
    try simp only [rl] at *
    try subst_vars
    try simp [beq_dec, bne_dec, *] at hq49
    try replace H := up8 (fun k => interval_value.mono _ _ _ _ k) k _ H
    try simp only [interval_value.f, beq_dec, bne_dec] at H
    repeat (first
      | (with_reducible first | replace H := le_bind (bits_Binary.le ..) H | replace H := le_ap (bits_Binary.le ..) H)
      | (simp [interval_value.j0, beq_dec, bne_dec, *] at H; done)
      | (simp [interval_value.j0, beq_dec, bne_dec, *] at H)
      | (rw [if_pos (by omega)] at H)
      | (rw [if_neg (by omega)] at H)
      | (have hc := And.left H; replace H := And.right H; try (exfalso; clear H; omega)))
  all_goals first
    | (subst H; rfl)
    | (subst H; simp; done)
    | (cases H; rfl)
    | (exfalso; clear H; omega)
    | (subst H; simp [beq_dec, bne_dec, *]; done)
    | (simp_all [beq_dec, bne_dec]; done)
    | (simp_all [beq_dec, bne_dec]; subst H; first | rfl | (simp; done) | (simp [*]; done))
set_option maxRecDepth 100000 in
set_option maxHeartbeats 40000000 in
theorem interval_computer_corners.ev (s0_0 : Int) (s0_1 : Int) (s0_2 : Int) (s0_3 : Int) (s0_4 : Int) (s0_5 : Int) (s0_6 : Int) (s0_7 : Int) (a1 : Int) (l2 : List Int) (r : Int × Int × Int × Int × Int × Int × Int × Int) (H : interval_computer_corners.f k s0_0 s0_1 s0_2 s0_3 s0_4 s0_5 s0_6 s0_7 a1 l2 = some r)
  (g79 : _) (e79 : g79 = interval_computer_s.f) (h79 : interval_computer_s.Is K g79)
  : evFn ⟨tys, ⟨op, ok, cmp, neg, not, wrap, mn', mx', idx, len, get, cut, app, byte⟩, lp⟩ (k + 8) K h83 Try.f83 [V.ptr 0 0, V.sc (.int .i64 a1), V.sl false (l2.map fun x : Int => [V.sc (.int .i64 x)])] [[V.sc (.int .i64 s0_0), V.sc (.int .u64 s0_1), V.sc (.int .i64 s0_2), V.sc (.int .i64 s0_3), V.sc (.int .u64 s0_4), V.sc (.int .u64 s0_5), V.sc (.int .i64 s0_6), V.sc (.int .i64 s0_7)]] = some (V.tup [], [[V.sc (.int .i64 r.1), V.sc (.int .u64 r.2.1), V.sc (.int .i64 r.2.2.1), V.sc (.int .i64 r.2.2.2.1), V.sc (.int .u64 r.2.2.2.2.1), V.sc (.int .u64 r.2.2.2.2.2.1), V.sc (.int .i64 r.2.2.2.2.2.2.1), V.sc (.int .i64 r.2.2.2.2.2.2.2)]]) := by
  generalize hR : some (V.tup [], [[V.sc (.int .i64 r.1), V.sc (.int .u64 r.2.1), V.sc (.int .i64 r.2.2.1), V.sc (.int .i64 r.2.2.2.1), V.sc (.int .u64 r.2.2.2.2.1), V.sc (.int .u64 r.2.2.2.2.2.1), V.sc (.int .i64 r.2.2.2.2.2.2.1), V.sc (.int .i64 r.2.2.2.2.2.2.2)]]) = R
  have hcm := rcm hA hc2
  have hokm := rok hA hok2
  obtain ⟨lp2, hlp2, hlp⟩ : ∃ lp2, lp2 = rounds ∧ ∀ b n0 kp L st, lp b n0 kp L st = lp2 b n0 kp L st := ⟨lp, lp_eq hA, fun _ _ _ _ _ => rfl⟩
  obtain ⟨cl2, bl2, pl2_0, hcl2, hbl2, hpl2_0, hgl2, hul2⟩ := li_int .i64 (get_eq hA) l2
  rw [← hcl2]
  all_goals cbv
  all_goals repeat' (first
    | (rewrite [h79, hq79]; cbv)
    | (rewrite [h79]; generalize hq79 : g79 _ _ _ _ _ _ _ _ _ _ = o; rcases o with _ | ⟨_, _, _, _, _, _, _, _⟩ <;> cbv)
    | (rewrite [hgl2]; generalize hq : bl2 _ = o; cases o <;> first | (exact absurd (hq.symm.trans (by assumption : bl2 _ = true)) Bool.false_ne_true) | (exact absurd (hq.symm.trans (by assumption : bl2 _ = false)) (fun h => Bool.false_ne_true h.symm)) | cbv)
    | (rewrite [hok2]; generalize hq : ok2 _ _ = o; cases o <;> cbv)
    | (rewrite [hc2]; generalize hq : c2 _ _ _ = o; cases o <;> (rewrite [hcm] at hq; simp only [rc] at hq) <;> first | (exfalso; omega) | cbv)
    | (rewrite [hlp]; generalize hl : lp2 _ _ _ _ _ = o; revert o
       refine loop_rule hlp2 (fun (y : Int × Int × Int) st => ⟨(((st.s.set 6 (V.sc (.int .i64 y.1))).set 7 (V.sc (.int .i64 y.2.1))).set 14 (V.sc (.int .i64 y.2.2))), st.h⟩) (fun n y => interval_computer_corners.l0 n y.1 y.2.1 l2 (l2.length : Int) y.2.2 s0_0 s0_1 s0_2 s0_3 s0_4 s0_5 s0_6 s0_7 = some r) (n := k + 8) (x := (?x6_1, ?x7_1, ?x14_1)) ?hst (fun y h => by simp [interval_computer_corners.l0] at h) ?hq ?hn ?hs
       case hst => exact rfl
       case hq =>
         obtain rfl := c2_eq hcm
         obtain rfl := ok2_eq hokm
         subst e79 hR
         clear h79 hc2 hok2 hcm hokm hul2 hgl2 hlp
         subst hcl2 hbl2 hpl2_0
         obtain ⟨rfl, rfl, rfl, rfl, rfl, rfl, rfl, rfl, rfl, rfl⟩ := eqsA hA
         clear hA
         try simp only [rl] at *
         try subst_vars
         try replace H := up8 (fun k => interval_computer_corners.mono _ _ _ _ _ _ _ _ _ _ k) k _ H
         try simp only [interval_computer_corners.f, beq_dec, bne_dec] at H
         repeat (first
           | (simp [beq_dec, bne_dec, *] at H; done)
           | (simp [beq_dec, bne_dec, *] at H)
           | (rw [if_pos (by omega)] at H)
           | (rw [if_neg (by omega)] at H)
           | (have hc := And.left H; replace H := And.right H; try (exfalso; clear H; omega)))
         all_goals first | exact H | exact le_ap (le_of_le (g := fun k => interval_computer_corners.l0 k _ _ _ _ _ _ _ _ _ _ _ _ _) (fun k => (interval_computer_corners.mono_l k) _ _ _ _ _ _ _ _ _ _ _ _ _) (by omega)) H | (rw [hq]; exact le_ap (le_of_le (g := fun k => interval_computer_corners.l0 k _ _ _ _ _ _ _ _ _ _ _ _ _) (fun k => (interval_computer_corners.mono_l k) _ _ _ _ _ _ _ _ _ _ _ _ _) (by omega)) H) | (simp_all; done)
       case hn => omega
       case' hs =>
         clear H
         intro m nx ⟨x6_1, x7_1, x14_1⟩ hnx H
         all_goals cbv))
  all_goals
    obtain rfl := c2_eq hcm
    obtain rfl := ok2_eq hokm
    subst e79 hR
    clear h79 hc2 hok2 hcm hokm hul2 hgl2 hlp
    subst hcl2 hbl2 hpl2_0
    obtain ⟨rfl, rfl, rfl, rfl, rfl, rfl, rfl, rfl, rfl, rfl⟩ := eqsA hA
    clear hA
    try simp only [rl] at *
    try (exact hnx (_, _, _) H)
    try replace hnx : Go.RowKit.Hid _ := hnx
    try subst_vars
    try replace H := up8 (fun k => interval_computer_corners.mono _ _ _ _ _ _ _ _ _ _ k) k _ H
    try simp only [interval_computer_corners.f, beq_dec, bne_dec] at H
    try simp only [interval_computer_corners.l0, beq_dec, bne_dec] at H
    repeat (first
      | (simp [beq_dec, bne_dec, *] at H; done)
      | (simp [beq_dec, bne_dec, *] at H)
      | (rw [if_pos (by omega)] at H)
      | (rw [if_neg (by omega)] at H)
      | (have hc := And.left H; replace H := And.right H; try (exfalso; clear H; (try clear hnx); omega)))
  all_goals first
    | (exact hnx.out (_, _, _) H)
    | (rw [← hq] at H; exact hnx.out (_, _, _) H)
    | (subst H; rfl)
    | (subst H; simp; done)
    | (cases H; rfl)
    | (exfalso; clear H; (try clear hnx); omega)
    | (exfalso; clear H; (try clear hnx); simp only [natCast_eq] at *; omega)
    | (simp only [*] at hq79; simp [*] at H; done)
    | (simp only [*] at hq79; simp [*] at H; subst H; first | rfl | (simp; done))
    | (subst H; simp [beq_dec, bne_dec, *]; done)
    | (simp_all [beq_dec, bne_dec]; done)
    | (simp_all [beq_dec, bne_dec]; subst H; first | rfl | (simp; done) | (simp [*]; done))
set_option maxRecDepth 100000 in
set_option maxHeartbeats 40000000 in
theorem bits_signed.ev (a0 : Int) (a1 : Int) (a2 : Int) (r : Int × Int) (H : bits_signed.f a0 a1 a2 = some r)
  (g38 : _) (e38 : g38 = bits_Signed.f) (h38 : bits_Signed.Is K g38)
  (g26 : _) (e26 : g26 = bits_Mask.f) (h26 : bits_Mask.Is K g26)
  (g37 : _) (e37 : g37 = bits_Fit.f) (h37 : bits_Fit.Is K g37)
  (g48 : _) (e48 : g48 = bits_From.f) (h48 : bits_From.Is K g48)
  : evFn ⟨tys, ⟨op, ok, cmp, neg, not, wrap, mn', mx', idx, len, get, cut, app, byte⟩, lp⟩ (k + 8) K h87 Try.f87 [V.sc (.int .i64 a0), V.sc (.int .u64 a1), V.sc (.int .u64 a2)] [] = some (V.tup [V.sc (.int .u64 r.1), V.sc (.int .u64 r.2)], []) := by
  generalize hR : some (V.tup [V.sc (.int .u64 r.1), V.sc (.int .u64 r.2)], ([] : Heap)) = R
  have hcm := rcm hA hc2
  have hokm := rok hA hok2
  all_goals cbv
  all_goals repeat' (first
    | (rewrite [h38, hq38]; cbv)
    | (rewrite [h38]; generalize hq38 : g38 _ _ = o; rcases o with _ | _ <;> cbv)
    | (rewrite [h26, hq26]; cbv)
    | (rewrite [h26]; generalize hq26 : g26 _ = o; rcases o with _ | _ <;> cbv)
    | (rewrite [h37, hq37]; cbv)
    | (rewrite [h37]; generalize hq37 : g37 _ _ = o; rcases o with _ | _ <;> cbv)
    | (rewrite [h48, hq48]; cbv)
    | (rewrite [h48]; generalize hq48 : g48 _ _ = o; rcases o with _ | _ <;> cbv)
    | (rewrite [hok2]; generalize hq : ok2 _ _ = o; cases o <;> cbv)
    | (rewrite [hc2]; generalize hq : c2 _ _ _ = o; cases o <;> (rewrite [hcm] at hq; simp only [rc] at hq) <;> first | (exfalso; omega) | cbv))
  all_goals
    obtain rfl := c2_eq hcm
    obtain rfl := ok2_eq hokm
    subst e38 e26 e37 e48 hR
    clear h38 h26 h37 h48 hc2 hok2 hcm hokm
    obtain ⟨rfl, rfl, rfl, rfl, rfl, rfl, rfl, rfl, rfl, rfl⟩ := eqsA hA
    clear hA
    try simp only [rl] at *
    try subst_vars
    try simp only [bits_signed.f, beq_dec, bne_dec] at H
    repeat (first
      | (simp [beq_dec, bne_dec, *] at H; done)
      | (simp [beq_dec, bne_dec, *] at H)
      | (rw [if_pos (by omega)] at H)
      | (rw [if_neg (by omega)] at H)
      | (have hc := And.left H; replace H := And.right H; try (exfalso; clear H; omega)))
  all_goals first
    | (subst H; rfl)
    | (subst H; simp; done)
    | (cases H; rfl)
    | (exfalso; clear H; omega)
    | (subst H; simp [beq_dec, bne_dec, *]; done)
    | (simp_all [beq_dec, bne_dec]; done)
    | (simp_all [beq_dec, bne_dec]; subst H; first | rfl | (simp; done) | (simp [*]; done))
set_option maxRecDepth 100000 in
set_option maxHeartbeats 40000000 in
theorem bits_negative.ev (a0 : Int) (a1 : Int) (r : Bool) (H : bits_negative.f a0 a1 = some r)
  (g51 : _) (e51 : g51 = bits_limit.f) (h51 : bits_limit.Is K g51)
  : evFn ⟨tys, ⟨op, ok, cmp, neg, not, wrap, mn', mx', idx, len, get, cut, app, byte⟩, lp⟩ (k + 8) K h73 Try.f73 [V.sc (.int .i64 a0), V.sc (.int .u64 a1)] [] = some (V.sc (.bool r), []) := by
  generalize hR : some (V.sc (.bool r), ([] : Heap)) = R
  have hcm := rcm hA hc2
  have hokm := rok hA hok2
  all_goals cbv
  all_goals repeat' (first
    | (rewrite [h51, hq51]; cbv)
    | (rewrite [h51]; generalize hq51 : g51 _ = o; rcases o with _ | _ <;> cbv)
    | (rewrite [hok2]; generalize hq : ok2 _ _ = o; cases o <;> cbv)
    | (rewrite [hc2]; generalize hq : c2 _ _ _ = o; cases o <;> (rewrite [hcm] at hq; simp only [rc] at hq) <;> first | (exfalso; omega) | cbv))
  all_goals
    obtain rfl := c2_eq hcm
    obtain rfl := ok2_eq hokm
    subst e51 hR
    clear h51 hc2 hok2 hcm hokm
    obtain ⟨rfl, rfl, rfl, rfl, rfl, rfl, rfl, rfl, rfl, rfl⟩ := eqsA hA
    clear hA
    try simp only [rl] at *
    try subst_vars
    try simp only [bits_negative.f, beq_dec, bne_dec] at H
    repeat (first
      | (simp [beq_dec, bne_dec, *] at H; done)
      | (simp [beq_dec, bne_dec, *] at H)
      | (rw [if_pos (by omega)] at H)
      | (rw [if_neg (by omega)] at H)
      | (have hc := And.left H; replace H := And.right H; try (exfalso; clear H; omega)))
  all_goals first
    | (subst H; rfl)
    | (subst H; simp; done)
    | (cases H; rfl)
    | (exfalso; clear H; omega)
    | (subst H; simp [beq_dec, bne_dec, *]; done)
    | (simp_all [beq_dec, bne_dec]; done)
    | (simp_all [beq_dec, bne_dec]; subst H; first | rfl | (simp; done) | (simp [*]; done))
set_option maxRecDepth 100000 in
set_option maxHeartbeats 40000000 in
theorem interval_ends.ev (a0 : Int) (r : Int × Int) (H : interval_ends.f a0 = some r)
  : evFn ⟨tys, ⟨op, ok, cmp, neg, not, wrap, mn', mx', idx, len, get, cut, app, byte⟩, lp⟩ (k + 8) K h25 Try.f25 [V.sc (.int .i64 a0)] [] = some (V.tup [V.sc (.int .i64 r.1), V.sc (.int .i64 r.2)], []) := by
  generalize hR : some (V.tup [V.sc (.int .i64 r.1), V.sc (.int .i64 r.2)], ([] : Heap)) = R
  have hcm := rcm hA hc2
  have hokm := rok hA hok2
  all_goals cbv
  all_goals repeat' (first
    | (rewrite [hok2]; generalize hq : ok2 _ _ = o; cases o <;> cbv)
    | (rewrite [hc2]; generalize hq : c2 _ _ _ = o; cases o <;> (rewrite [hcm] at hq; simp only [rc] at hq) <;> first | (exfalso; omega) | cbv))
  all_goals
    obtain rfl := c2_eq hcm
    obtain rfl := ok2_eq hokm
    subst  hR
    clear hc2 hok2 hcm hokm
    obtain ⟨rfl, rfl, rfl, rfl, rfl, rfl, rfl, rfl, rfl, rfl⟩ := eqsA hA
    clear hA
    try simp only [rl] at *
    try subst_vars
    try simp only [interval_ends.f, beq_dec, bne_dec] at H
    repeat (first
      | (simp [beq_dec, bne_dec, *] at H; done)
      | (simp [beq_dec, bne_dec, *] at H)
      | (rw [if_pos (by omega)] at H)
      | (rw [if_neg (by omega)] at H)
      | (have hc := And.left H; replace H := And.right H; try (exfalso; clear H; omega)))
  all_goals first
    | (subst H; rfl)
    | (subst H; simp; done)
    | (cases H; rfl)
    | (exfalso; clear H; omega)
    | (subst H; simp [beq_dec, bne_dec, *]; done)
    | (simp_all [beq_dec, bne_dec]; done)
    | (simp_all [beq_dec, bne_dec]; subst H; first | rfl | (simp; done) | (simp [*]; done))
end
end Go.Vm
