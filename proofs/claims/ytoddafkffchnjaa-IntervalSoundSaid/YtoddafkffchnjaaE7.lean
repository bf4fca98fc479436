/- What the evaluator makes of the functions' code (103 s). -/
import Derived.Test.YtoddafkffchnjaaO
namespace Go.Vm
open Go.Proofs Go.Proofs.Ytoddafkffchnjaa Go.Proofs.Ytoddafkffchnjaa.P Go.RowKit Go.Proofs.YtoddafkffchnjaaW.PrintWords Go.Proofs.YtoddafkffchnjaaW.PrintLast Go.Proofs.YtoddafkffchnjaaW.PrintMore
set_option linter.unusedVariables false
set_option linter.unusedSimpArgs false
set_option linter.unusedSectionVars false
set_option linter.unusedVariables false
set_option linter.unusedSimpArgs false
section
variable {op : BinOp → IntKind → Int → Int → Int} {ok : BinOp → Int → Bool} {cmp : BinOp → Int → Int → Bool} {neg not wrap : IntKind → Int → Int} {mn' mx' : Int → Int → Int} {idx : Int → Option Nat}
  {len : List (List V) → Int} {get : List (List V) → Int → Option (List V)} {cut : Nat → List (List V) → Option V → Option V → Option (List (List V))} {app : Nat → Nat → List (List V) → List (List V) → Option (List (List V))} {byte : ByteArray → Int → Option Int}
  {lp : (St → Option (Ex × St)) → Nat → List Nat → Nat → St → Option (Ex × St)} {c2 : BinOp → Int → Int → Bool} {ok2 : BinOp → Int → Bool}
variable (hA : (⟨tys, ⟨op, ok, cmp, neg, not, wrap, mn', mx', idx, len, get, cut, app, byte⟩, lp⟩ : En) = ⟨tys, real, rounds⟩) (hc2 : ∀ o a b, cmp o a b = c2 o a b) (hok2 : ∀ o a, ok o a = ok2 o a) (k : Nat) (K : Oracle)
include hA hc2 hok2
set_option maxRecDepth 100000 in
set_option maxHeartbeats 40000000 in
theorem interval_shaped.ev (a0 : Int) (a1 : Int) (l2 : List Int) (r : Bool) (H : interval_shaped.f k a0 a1 l2 = some r)
  (g36 : _) (e36 : g36 = interval_good.f) (h36 : interval_good.Is K g36)
  (g46 : _) (e46 : g46 = bits_IsCompare.f) (h46 : bits_IsCompare.Is K g46)
  (g47 : _) (e47 : g47 = bits_IsBinary.f) (h47 : bits_IsBinary.Is K g47)
  : evFn ⟨tys, ⟨op, ok, cmp, neg, not, wrap, mn', mx', idx, len, get, cut, app, byte⟩, lp⟩ (k + 8) K h22 Try.f22 [V.sc (.int .i64 a0), V.sc (.int .i64 a1), V.sl false (l2.map fun x : Int => [V.sc (.int .i64 x)])] [] = some (V.sc (.bool r), []) := by
  generalize hR : some (V.sc (.bool r), ([] : Heap)) = R
  have hcm := rcm hA hc2
  have hokm := rok hA hok2
  obtain ⟨lp2, hlp2, hlp⟩ : ∃ lp2, lp2 = rounds ∧ ∀ b n0 kp L st, lp b n0 kp L st = lp2 b n0 kp L st := ⟨lp, lp_eq hA, fun _ _ _ _ _ => rfl⟩
  obtain ⟨cl2, bl2, pl2_0, hcl2, hbl2, hpl2_0, hgl2, hul2⟩ := li_int .i64 (get_eq hA) l2
  rw [← hcl2]
  all_goals cbv
  all_goals repeat' (first
    | (rewrite [h36, hq36]; cbv)
    | (rewrite [h36]; generalize hq36 : g36 _ = o; rcases o with _ | _ | _ <;> cbv)
    | (rewrite [h46, hq46]; cbv)
    | (rewrite [h46]; generalize hq46 : g46 _ = o; rcases o with _ | _ | _ <;> cbv)
    | (rewrite [h47, hq47]; cbv)
    | (rewrite [h47]; generalize hq47 : g47 _ = o; rcases o with _ | _ | _ <;> cbv)
    | (rewrite [hgl2]; generalize hq : bl2 _ = o; cases o <;> first | (exact absurd (hq.symm.trans (by assumption : bl2 _ = true)) Bool.false_ne_true) | (exact absurd (hq.symm.trans (by assumption : bl2 _ = false)) (fun h => Bool.false_ne_true h.symm)) | cbv)
    | (rewrite [hok2]; generalize hq : ok2 _ _ = o; cases o <;> cbv)
    | (rewrite [hc2]; generalize hq : c2 _ _ _ = o; cases o <;> (rewrite [hcm] at hq; simp only [rc] at hq) <;> first | (exfalso; omega) | cbv)
    | (rewrite [hlp]; generalize hl : lp2 _ _ _ _ _ = o; revert o
       refine loop_rule hlp2 (fun (y : Int) st => ⟨(st.s.set 15 (V.sc (.int .i64 y))), st.h⟩) (fun n y => interval_shaped.l0 n a0 a1 l2 l2 (l2.length : Int) y = some r) (n := k + 8) (x := ?x15_1) ?hst (fun y h => by simp [interval_shaped.l0] at h) ?hq ?hn ?hs
       case hst => exact rfl
       case hq =>
         obtain rfl := c2_eq hcm
         obtain rfl := ok2_eq hokm
         subst e36 e46 e47 hR
         clear h36 h46 h47 hc2 hok2 hcm hokm hul2 hgl2 hlp
         subst hcl2 hbl2 hpl2_0
         obtain ⟨rfl, rfl, rfl, rfl, rfl, rfl, rfl, rfl, rfl, rfl⟩ := eqsA hA
         clear hA
         try simp only [rl] at *
         try subst_vars
         try replace H := up8 (fun k => interval_shaped.mono _ _ _ k) k _ H
         try simp only [interval_shaped.f, beq_dec, bne_dec] at H
         repeat (first
           | (simp [interval_shaped.j1, beq_dec, bne_dec, *] at H; done)
           | (simp [interval_shaped.j1, beq_dec, bne_dec, *] at H)
           | (rw [if_pos (by omega)] at H)
           | (rw [if_neg (by omega)] at H)
           | (have hc := And.left H; replace H := And.right H; try (exfalso; clear H; omega)))
         all_goals first | exact H | exact le_ap (le_of_le (g := fun k => interval_shaped.l0 k _ _ _ _ _ _) (fun k => (interval_shaped.mono_l k).1 _ _ _ _ _ _) (by omega)) H | (rw [hq]; exact le_ap (le_of_le (g := fun k => interval_shaped.l0 k _ _ _ _ _ _) (fun k => (interval_shaped.mono_l k).1 _ _ _ _ _ _) (by omega)) H) | (simp_all; done)
       case hn => omega
       case' hs =>
         clear H
         intro m nx x15_1 hnx H
         all_goals cbv))
  all_goals
    obtain rfl := c2_eq hcm
    obtain rfl := ok2_eq hokm
    subst e36 e46 e47 hR
    clear h36 h46 h47 hc2 hok2 hcm hokm hul2 hgl2 hlp
    subst hcl2 hbl2 hpl2_0
    obtain ⟨rfl, rfl, rfl, rfl, rfl, rfl, rfl, rfl, rfl, rfl⟩ := eqsA hA
    clear hA
    try simp only [rl] at *
    try (exact hnx (_) H)
    try replace hnx : Go.RowKit.Hid _ := hnx
    try subst_vars
    try replace H := up8 (fun k => interval_shaped.mono _ _ _ k) k _ H
    try simp only [interval_shaped.f, beq_dec, bne_dec] at H
    try simp only [interval_shaped.l0, beq_dec, bne_dec] at H
    repeat (first
      | (with_reducible replace H := le_ap (up8 (g := fun k => interval_shaped.j1 k _ _ _ _ _ _) (fun k => (interval_shaped.mono_l k).2 _ _ _ _ _ _) m) H)
      | (simp [beq_dec, bne_dec, *] at H; done)
      | (simp [beq_dec, bne_dec, *] at H)
      | (rw [if_pos (by omega)] at H)
      | (rw [if_neg (by omega)] at H)
      | (simp [interval_shaped.j1, beq_dec, bne_dec, *] at H; done)
      | (simp [interval_shaped.j1, beq_dec, bne_dec, *] at H)
      | (rw [if_pos (by omega)] at H)
      | (rw [if_neg (by omega)] at H)
      | (have hc := And.left H; replace H := And.right H; try (exfalso; clear H; (try clear hnx); omega)))
  all_goals first
    | (exact hnx.out _ H)
    | (rw [← hq] at H; exact hnx.out _ H)
    | (subst H; rfl)
    | (subst H; simp; done)
    | (cases H; rfl)
    | (exfalso; clear H; (try clear hnx); omega)
    | (subst H; simp [beq_dec, bne_dec, *]; done)
    | (simp_all [beq_dec, bne_dec]; done)
    | (simp_all [beq_dec, bne_dec]; subst H; first | rfl | (simp; done) | (simp [*]; done))
set_option maxRecDepth 100000 in
set_option maxHeartbeats 40000000 in
theorem jacquardlaw13_IntervalSound.ev (a0_0 : Int) (a0_1 : Int) (l0_2 : List Int) (l0_3 : List (S30)) (a0_4 : Int) (l1 : List Int) (r : Bool) (H : jacquardlaw13_IntervalSound.f k a0_0 a0_1 l0_2 l0_3 a0_4 l1 = some r)
  (g17 : _) (e17 : g17 = jacquardlaw13_word.F) (h17 : jacquardlaw13_word.Is K g17)
  (g10 : _) (e10 : g10 = interval_Apply.F) (h10 : interval_Apply.Is K g10)
  (g18 : _) (e18 : g18 = interval_Valid.f) (h18 : interval_Valid.Is K g18)
  (g15 : _) (e15 : g15 = jacquardref12_Eval.F) (h15 : jacquardref12_Eval.Is K g15)
  (g19 : _) (e19 : g19 = interval_Contains.f) (h19 : interval_Contains.Is K g19)
  (g8 : _) (e8 : g8 = jacquardlaw13_awake.f) (h8 : jacquardlaw13_awake.Is K g8)
  (g16 : _) (e16 : g16 = jacquardlaw13_right.F) (h16 : jacquardlaw13_right.Is K g16)
  : evFn ⟨tys, ⟨op, ok, cmp, neg, not, wrap, mn', mx', idx, len, get, cut, app, byte⟩, lp⟩ (k + 8) K h6 Try.f6 [V.agg [V.sc (.int .i64 a0_0), V.sc (.int .i64 a0_1), V.sl false (l0_2.map fun x : Int => [V.sc (.int .i64 x)]), V.sl false (l0_3.map fun x : S30 => [V.sc (.int .u64 x.f0), V.sc (.int .u64 x.f1), V.sc (.int .i64 x.f2), V.sc (.int .i64 x.f3)]), V.sc (.int .u64 a0_4)], V.sl false (l1.map fun x : Int => [V.sc (.int .u64 x)])] [] = some (V.sc (.bool r), []) := by
  generalize hR : some (V.sc (.bool r), ([] : Heap)) = R
  have hcm := rcm hA hc2
  have hokm := rok hA hok2
  obtain ⟨lp2, hlp2, hlp⟩ : ∃ lp2, lp2 = rounds ∧ ∀ b n0 kp L st, lp b n0 kp L st = lp2 b n0 kp L st := ⟨lp, lp_eq hA, fun _ _ _ _ _ => rfl⟩
  obtain ⟨cl0_2, bl0_2, pl0_2_0, hcl0_2, hbl0_2, hpl0_2_0, hgl0_2, hul0_2⟩ := li_int .i64 (get_eq hA) l0_2
  rw [← hcl0_2]
  obtain ⟨cl0_3, bl0_3, pl0_3_0, pl0_3_1, pl0_3_2, pl0_3_3, hcl0_3, hbl0_3, hpl0_3_0, hpl0_3_1, hpl0_3_2, hpl0_3_3, hgl0_3, hul0_3⟩ := li_k30 (get_eq hA) l0_3
  rw [← hcl0_3]
  obtain ⟨cl1, bl1, pl1_0, hcl1, hbl1, hpl1_0, hgl1, hul1⟩ := li_int .u64 (get_eq hA) l1
  rw [← hcl1]
  all_goals cbv
  all_goals repeat' (first
    | (rewrite [h17, hq17]; cbv)
    | (rewrite [h17]; generalize hq17 : g17 _ _ _ _ _ _ = o; rcases o with _ | ⟨_, (_ | _)⟩ <;> cbv)
    | (rewrite [(h10 _ _ hul0_2 _ _ hul0_3), hq10]; cbv)
    | (rewrite [(h10 _ _ hul0_2 _ _ hul0_3)]; generalize hq10 : g10 _ _ _ _ _ = o; rcases o with _ | ⟨_, _, _, _⟩ <;> cbv)
    | (rewrite [(h10 _ _ (unI_1 ..) _ _ hul0_3), hq10]; cbv)
    | (rewrite [(h10 _ _ (unI_1 ..) _ _ hul0_3)]; generalize hq10 : g10 _ _ _ _ _ = o; rcases o with _ | ⟨_, _, _, _⟩ <;> cbv)
    | (rewrite [(h10 _ _ (unI_2 ..) _ _ hul0_3), hq10]; cbv)
    | (rewrite [(h10 _ _ (unI_2 ..) _ _ hul0_3)]; generalize hq10 : g10 _ _ _ _ _ = o; rcases o with _ | ⟨_, _, _, _⟩ <;> cbv)
    | (rewrite [(h10 _ _ (unI_3 ..) _ _ hul0_3), hq10]; cbv)
    | (rewrite [(h10 _ _ (unI_3 ..) _ _ hul0_3)]; generalize hq10 : g10 _ _ _ _ _ = o; rcases o with _ | ⟨_, _, _, _⟩ <;> cbv)
    | (rewrite [(h10 _ _ (unI_4 ..) _ _ hul0_3), hq10]; cbv)
    | (rewrite [(h10 _ _ (unI_4 ..) _ _ hul0_3)]; generalize hq10 : g10 _ _ _ _ _ = o; rcases o with _ | ⟨_, _, _, _⟩ <;> cbv)
    | (rewrite [(h10 _ _ (unI_5 ..) _ _ hul0_3), hq10]; cbv)
    | (rewrite [(h10 _ _ (unI_5 ..) _ _ hul0_3)]; generalize hq10 : g10 _ _ _ _ _ = o; rcases o with _ | ⟨_, _, _, _⟩ <;> cbv)
    | (rewrite [h18, hq18]; cbv)
    | (rewrite [h18]; generalize hq18 : g18 _ _ _ _ _ = o; rcases o with _ | _ | _ <;> cbv)
    | (rewrite [(h15 _ _ hul0_2 _ _ hul1), hq15]; cbv)
    | (rewrite [(h15 _ _ hul0_2 _ _ hul1)]; generalize hq15 : g15 _ _ _ _ _ = o; rcases o with _ | _ <;> cbv)
    | (rewrite [(h15 _ _ hul0_2 _ _ hux5_1), hq15]; cbv)
    | (rewrite [(h15 _ _ hul0_2 _ _ hux5_1)]; generalize hq15 : g15 _ _ _ _ _ = o; rcases o with _ | _ <;> cbv)
    | (rewrite [(h15 _ _ hul0_2 _ _ (unI_1 ..)), hq15]; cbv)
    | (rewrite [(h15 _ _ hul0_2 _ _ (unI_1 ..))]; generalize hq15 : g15 _ _ _ _ _ = o; rcases o with _ | _ <;> cbv)
    | (rewrite [(h15 _ _ hul0_2 _ _ (unI_2 ..)), hq15]; cbv)
    | (rewrite [(h15 _ _ hul0_2 _ _ (unI_2 ..))]; generalize hq15 : g15 _ _ _ _ _ = o; rcases o with _ | _ <;> cbv)
    | (rewrite [(h15 _ _ hul0_2 _ _ (unI_3 ..)), hq15]; cbv)
    | (rewrite [(h15 _ _ hul0_2 _ _ (unI_3 ..))]; generalize hq15 : g15 _ _ _ _ _ = o; rcases o with _ | _ <;> cbv)
    | (rewrite [(h15 _ _ hul0_2 _ _ (unI_4 ..)), hq15]; cbv)
    | (rewrite [(h15 _ _ hul0_2 _ _ (unI_4 ..))]; generalize hq15 : g15 _ _ _ _ _ = o; rcases o with _ | _ <;> cbv)
    | (rewrite [(h15 _ _ hul0_2 _ _ (unI_5 ..)), hq15]; cbv)
    | (rewrite [(h15 _ _ hul0_2 _ _ (unI_5 ..))]; generalize hq15 : g15 _ _ _ _ _ = o; rcases o with _ | _ <;> cbv)
    | (rewrite [(h15 _ _ (unI_1 ..) _ _ hul1), hq15]; cbv)
    | (rewrite [(h15 _ _ (unI_1 ..) _ _ hul1)]; generalize hq15 : g15 _ _ _ _ _ = o; rcases o with _ | _ <;> cbv)
    | (rewrite [(h15 _ _ (unI_1 ..) _ _ hux5_1), hq15]; cbv)
    | (rewrite [(h15 _ _ (unI_1 ..) _ _ hux5_1)]; generalize hq15 : g15 _ _ _ _ _ = o; rcases o with _ | _ <;> cbv)
    | (rewrite [(h15 _ _ (unI_1 ..) _ _ (unI_1 ..)), hq15]; cbv)
    | (rewrite [(h15 _ _ (unI_1 ..) _ _ (unI_1 ..))]; generalize hq15 : g15 _ _ _ _ _ = o; rcases o with _ | _ <;> cbv)
    | (rewrite [(h15 _ _ (unI_1 ..) _ _ (unI_2 ..)), hq15]; cbv)
    | (rewrite [(h15 _ _ (unI_1 ..) _ _ (unI_2 ..))]; generalize hq15 : g15 _ _ _ _ _ = o; rcases o with _ | _ <;> cbv)
    | (rewrite [(h15 _ _ (unI_1 ..) _ _ (unI_3 ..)), hq15]; cbv)
    | (rewrite [(h15 _ _ (unI_1 ..) _ _ (unI_3 ..))]; generalize hq15 : g15 _ _ _ _ _ = o; rcases o with _ | _ <;> cbv)
    | (rewrite [(h15 _ _ (unI_1 ..) _ _ (unI_4 ..)), hq15]; cbv)
    | (rewrite [(h15 _ _ (unI_1 ..) _ _ (unI_4 ..))]; generalize hq15 : g15 _ _ _ _ _ = o; rcases o with _ | _ <;> cbv)
    | (rewrite [(h15 _ _ (unI_1 ..) _ _ (unI_5 ..)), hq15]; cbv)
    | (rewrite [(h15 _ _ (unI_1 ..) _ _ (unI_5 ..))]; generalize hq15 : g15 _ _ _ _ _ = o; rcases o with _ | _ <;> cbv)
    | (rewrite [(h15 _ _ (unI_2 ..) _ _ hul1), hq15]; cbv)
    | (rewrite [(h15 _ _ (unI_2 ..) _ _ hul1)]; generalize hq15 : g15 _ _ _ _ _ = o; rcases o with _ | _ <;> cbv)
    | (rewrite [(h15 _ _ (unI_2 ..) _ _ hux5_1), hq15]; cbv)
    | (rewrite [(h15 _ _ (unI_2 ..) _ _ hux5_1)]; generalize hq15 : g15 _ _ _ _ _ = o; rcases o with _ | _ <;> cbv)
    | (rewrite [(h15 _ _ (unI_2 ..) _ _ (unI_1 ..)), hq15]; cbv)
    | (rewrite [(h15 _ _ (unI_2 ..) _ _ (unI_1 ..))]; generalize hq15 : g15 _ _ _ _ _ = o; rcases o with _ | _ <;> cbv)
    | (rewrite [(h15 _ _ (unI_2 ..) _ _ (unI_2 ..)), hq15]; cbv)
    | (rewrite [(h15 _ _ (unI_2 ..) _ _ (unI_2 ..))]; generalize hq15 : g15 _ _ _ _ _ = o; rcases o with _ | _ <;> cbv)
    | (rewrite [(h15 _ _ (unI_2 ..) _ _ (unI_3 ..)), hq15]; cbv)
    | (rewrite [(h15 _ _ (unI_2 ..) _ _ (unI_3 ..))]; generalize hq15 : g15 _ _ _ _ _ = o; rcases o with _ | _ <;> cbv)
    | (rewrite [(h15 _ _ (unI_2 ..) _ _ (unI_4 ..)), hq15]; cbv)
    | (rewrite [(h15 _ _ (unI_2 ..) _ _ (unI_4 ..))]; generalize hq15 : g15 _ _ _ _ _ = o; rcases o with _ | _ <;> cbv)
    | (rewrite [(h15 _ _ (unI_2 ..) _ _ (unI_5 ..)), hq15]; cbv)
    | (rewrite [(h15 _ _ (unI_2 ..) _ _ (unI_5 ..))]; generalize hq15 : g15 _ _ _ _ _ = o; rcases o with _ | _ <;> cbv)
    | (rewrite [(h15 _ _ (unI_3 ..) _ _ hul1), hq15]; cbv)
    | (rewrite [(h15 _ _ (unI_3 ..) _ _ hul1)]; generalize hq15 : g15 _ _ _ _ _ = o; rcases o with _ | _ <;> cbv)
    | (rewrite [(h15 _ _ (unI_3 ..) _ _ hux5_1), hq15]; cbv)
    | (rewrite [(h15 _ _ (unI_3 ..) _ _ hux5_1)]; generalize hq15 : g15 _ _ _ _ _ = o; rcases o with _ | _ <;> cbv)
    | (rewrite [(h15 _ _ (unI_3 ..) _ _ (unI_1 ..)), hq15]; cbv)
    | (rewrite [(h15 _ _ (unI_3 ..) _ _ (unI_1 ..))]; generalize hq15 : g15 _ _ _ _ _ = o; rcases o with _ | _ <;> cbv)
    | (rewrite [(h15 _ _ (unI_3 ..) _ _ (unI_2 ..)), hq15]; cbv)
    | (rewrite [(h15 _ _ (unI_3 ..) _ _ (unI_2 ..))]; generalize hq15 : g15 _ _ _ _ _ = o; rcases o with _ | _ <;> cbv)
    | (rewrite [(h15 _ _ (unI_3 ..) _ _ (unI_3 ..)), hq15]; cbv)
    | (rewrite [(h15 _ _ (unI_3 ..) _ _ (unI_3 ..))]; generalize hq15 : g15 _ _ _ _ _ = o; rcases o with _ | _ <;> cbv)
    | (rewrite [(h15 _ _ (unI_3 ..) _ _ (unI_4 ..)), hq15]; cbv)
    | (rewrite [(h15 _ _ (unI_3 ..) _ _ (unI_4 ..))]; generalize hq15 : g15 _ _ _ _ _ = o; rcases o with _ | _ <;> cbv)
    | (rewrite [(h15 _ _ (unI_3 ..) _ _ (unI_5 ..)), hq15]; cbv)
    | (rewrite [(h15 _ _ (unI_3 ..) _ _ (unI_5 ..))]; generalize hq15 : g15 _ _ _ _ _ = o; rcases o with _ | _ <;> cbv)
    | (rewrite [(h15 _ _ (unI_4 ..) _ _ hul1), hq15]; cbv)
    | (rewrite [(h15 _ _ (unI_4 ..) _ _ hul1)]; generalize hq15 : g15 _ _ _ _ _ = o; rcases o with _ | _ <;> cbv)
    | (rewrite [(h15 _ _ (unI_4 ..) _ _ hux5_1), hq15]; cbv)
    | (rewrite [(h15 _ _ (unI_4 ..) _ _ hux5_1)]; generalize hq15 : g15 _ _ _ _ _ = o; rcases o with _ | _ <;> cbv)
    | (rewrite [(h15 _ _ (unI_4 ..) _ _ (unI_1 ..)), hq15]; cbv)
    | (rewrite [(h15 _ _ (unI_4 ..) _ _ (unI_1 ..))]; generalize hq15 : g15 _ _ _ _ _ = o; rcases o with _ | _ <;> cbv)
    | (rewrite [(h15 _ _ (unI_4 ..) _ _ (unI_2 ..)), hq15]; cbv)
    | (rewrite [(h15 _ _ (unI_4 ..) _ _ (unI_2 ..))]; generalize hq15 : g15 _ _ _ _ _ = o; rcases o with _ | _ <;> cbv)
    | (rewrite [(h15 _ _ (unI_4 ..) _ _ (unI_3 ..)), hq15]; cbv)
    | (rewrite [(h15 _ _ (unI_4 ..) _ _ (unI_3 ..))]; generalize hq15 : g15 _ _ _ _ _ = o; rcases o with _ | _ <;> cbv)
    | (rewrite [(h15 _ _ (unI_4 ..) _ _ (unI_4 ..)), hq15]; cbv)
    | (rewrite [(h15 _ _ (unI_4 ..) _ _ (unI_4 ..))]; generalize hq15 : g15 _ _ _ _ _ = o; rcases o with _ | _ <;> cbv)
    | (rewrite [(h15 _ _ (unI_4 ..) _ _ (unI_5 ..)), hq15]; cbv)
    | (rewrite [(h15 _ _ (unI_4 ..) _ _ (unI_5 ..))]; generalize hq15 : g15 _ _ _ _ _ = o; rcases o with _ | _ <;> cbv)
    | (rewrite [(h15 _ _ (unI_5 ..) _ _ hul1), hq15]; cbv)
    | (rewrite [(h15 _ _ (unI_5 ..) _ _ hul1)]; generalize hq15 : g15 _ _ _ _ _ = o; rcases o with _ | _ <;> cbv)
    | (rewrite [(h15 _ _ (unI_5 ..) _ _ hux5_1), hq15]; cbv)
    | (rewrite [(h15 _ _ (unI_5 ..) _ _ hux5_1)]; generalize hq15 : g15 _ _ _ _ _ = o; rcases o with _ | _ <;> cbv)
    | (rewrite [(h15 _ _ (unI_5 ..) _ _ (unI_1 ..)), hq15]; cbv)
    | (rewrite [(h15 _ _ (unI_5 ..) _ _ (unI_1 ..))]; generalize hq15 : g15 _ _ _ _ _ = o; rcases o with _ | _ <;> cbv)
    | (rewrite [(h15 _ _ (unI_5 ..) _ _ (unI_2 ..)), hq15]; cbv)
    | (rewrite [(h15 _ _ (unI_5 ..) _ _ (unI_2 ..))]; generalize hq15 : g15 _ _ _ _ _ = o; rcases o with _ | _ <;> cbv)
    | (rewrite [(h15 _ _ (unI_5 ..) _ _ (unI_3 ..)), hq15]; cbv)
    | (rewrite [(h15 _ _ (unI_5 ..) _ _ (unI_3 ..))]; generalize hq15 : g15 _ _ _ _ _ = o; rcases o with _ | _ <;> cbv)
    | (rewrite [(h15 _ _ (unI_5 ..) _ _ (unI_4 ..)), hq15]; cbv)
    | (rewrite [(h15 _ _ (unI_5 ..) _ _ (unI_4 ..))]; generalize hq15 : g15 _ _ _ _ _ = o; rcases o with _ | _ <;> cbv)
    | (rewrite [(h15 _ _ (unI_5 ..) _ _ (unI_5 ..)), hq15]; cbv)
    | (rewrite [(h15 _ _ (unI_5 ..) _ _ (unI_5 ..))]; generalize hq15 : g15 _ _ _ _ _ = o; rcases o with _ | _ <;> cbv)
    | (rewrite [h19, hq19]; cbv)
    | (rewrite [h19]; generalize hq19 : g19 _ _ _ _ _ _ = o; rcases o with _ | _ | _ <;> cbv)
    | (rewrite [h8, hq8]; cbv)
    | (rewrite [h8]; generalize hq8 : g8  = o; rcases o with _ | _ | _ <;> cbv)
    | (rewrite [(h16 _ _ hul0_2 _ _ hul0_3), hq16]; cbv)
    | (rewrite [(h16 _ _ hul0_2 _ _ hul0_3)]; generalize hq16 : g16 _ _ _ _ _ = o; rcases o with _ | _ | _ <;> cbv)
    | (rewrite [(h16 _ _ (unI_1 ..) _ _ hul0_3), hq16]; cbv)
    | (rewrite [(h16 _ _ (unI_1 ..) _ _ hul0_3)]; generalize hq16 : g16 _ _ _ _ _ = o; rcases o with _ | _ | _ <;> cbv)
    | (rewrite [(h16 _ _ (unI_2 ..) _ _ hul0_3), hq16]; cbv)
    | (rewrite [(h16 _ _ (unI_2 ..) _ _ hul0_3)]; generalize hq16 : g16 _ _ _ _ _ = o; rcases o with _ | _ | _ <;> cbv)
    | (rewrite [(h16 _ _ (unI_3 ..) _ _ hul0_3), hq16]; cbv)
    | (rewrite [(h16 _ _ (unI_3 ..) _ _ hul0_3)]; generalize hq16 : g16 _ _ _ _ _ = o; rcases o with _ | _ | _ <;> cbv)
    | (rewrite [(h16 _ _ (unI_4 ..) _ _ hul0_3), hq16]; cbv)
    | (rewrite [(h16 _ _ (unI_4 ..) _ _ hul0_3)]; generalize hq16 : g16 _ _ _ _ _ = o; rcases o with _ | _ | _ <;> cbv)
    | (rewrite [(h16 _ _ (unI_5 ..) _ _ hul0_3), hq16]; cbv)
    | (rewrite [(h16 _ _ (unI_5 ..) _ _ hul0_3)]; generalize hq16 : g16 _ _ _ _ _ = o; rcases o with _ | _ | _ <;> cbv)
    | (rewrite [hgl0_2]; generalize hq : bl0_2 _ = o; cases o <;> first | (exact absurd (hq.symm.trans (by assumption : bl0_2 _ = true)) Bool.false_ne_true) | (exact absurd (hq.symm.trans (by assumption : bl0_2 _ = false)) (fun h => Bool.false_ne_true h.symm)) | cbv)
    | (rewrite [hgl0_3]; generalize hq : bl0_3 _ = o; cases o <;> first | (exact absurd (hq.symm.trans (by assumption : bl0_3 _ = true)) Bool.false_ne_true) | (exact absurd (hq.symm.trans (by assumption : bl0_3 _ = false)) (fun h => Bool.false_ne_true h.symm)) | cbv)
    | (rewrite [hgl1]; generalize hq : bl1 _ = o; cases o <;> first | (exact absurd (hq.symm.trans (by assumption : bl1 _ = true)) Bool.false_ne_true) | (exact absurd (hq.symm.trans (by assumption : bl1 _ = false)) (fun h => Bool.false_ne_true h.symm)) | cbv)
    | (rewrite [hgx5_1]; generalize hq : bx5_1 _ = o; cases o <;> first | (exact absurd (hq.symm.trans (by assumption : bx5_1 _ = true)) Bool.false_ne_true) | (exact absurd (hq.symm.trans (by assumption : bx5_1 _ = false)) (fun h => Bool.false_ne_true h.symm)) | cbv)
    | (rewrite [hax5_1]; generalize hq : bax5_1 = o; cases o <;> cbv)
    | (rewrite [hok2]; generalize hq : ok2 _ _ = o; cases o <;> cbv)
    | (rewrite [hc2]; generalize hq : c2 _ _ _ = o; cases o <;> (rewrite [hcm] at hq; simp only [rc] at hq) <;> first | (exfalso; omega) | cbv)
    | (rewrite [hlp]; generalize hl : lp2 _ _ _ _ _ = o; revert o
       refine loop_rule hlp2 (fun (y : List Int × Int) st => ⟨((st.s.set 20 (V.sc (.int .i64 y.2))).set 5 (V.sl true (y.1.map fun x : Int => [V.sc (.int .u64 x)]))), st.h⟩) (fun n y => jacquardlaw13_IntervalSound.l0 n l1 y.1 l0_3 (l0_3.length : Int) y.2 a0_0 a0_1 l0_2 l0_3 a0_4 = some r) (n := k + 8) (x := ([], ?x20_1)) ?hst (fun y h => by simp [jacquardlaw13_IntervalSound.l0] at h) ?hq ?hn ?hs
       case hst => exact rfl
       case hq =>
         obtain rfl := c2_eq hcm
         obtain rfl := ok2_eq hokm
         subst e17 e10 e18 e15 e19 e8 e16 hR
         clear h17 h10 h18 h15 h19 h8 h16 hc2 hok2 hcm hokm hul0_2 hgl0_2 hul0_3 hgl0_3 hul1 hgl1 hlp
         subst hcl0_2 hbl0_2 hpl0_2_0 hcl0_3 hbl0_3 hpl0_3_0 hpl0_3_1 hpl0_3_2 hpl0_3_3 hcl1 hbl1 hpl1_0
         try clear hux5_1 hgx5_1 hax5_1
         try subst hcx5_1 hbx5_1 hpx5_1_0 hbax5_1 hcax5_1
         obtain ⟨rfl, rfl, rfl, rfl, rfl, rfl, rfl, rfl, rfl, rfl⟩ := eqsA hA
         clear hA
         try simp only [rl] at *
         try subst_vars
         try replace H := up8 (fun k => jacquardlaw13_IntervalSound.mono _ _ _ _ _ _ k) k _ H
         try simp only [jacquardlaw13_IntervalSound.f, beq_dec, bne_dec] at H
         repeat (first
           | (with_reducible first | replace H := le_bind (jacquardlaw13_word.le ..) H | replace H := le_ap (jacquardlaw13_word.le ..) H)
           | (with_reducible first | replace H := le_bind (interval_Apply.le ..) H | replace H := le_ap (interval_Apply.le ..) H)
           | (with_reducible first | replace H := le_bind (jacquardref12_Eval.le ..) H | replace H := le_ap (jacquardref12_Eval.le ..) H)
           | (with_reducible first | replace H := le_bind (jacquardlaw13_right.le ..) H | replace H := le_ap (jacquardlaw13_right.le ..) H)
           | (simp [beq_dec, bne_dec, *] at H; done)
           | (simp [beq_dec, bne_dec, *] at H)
           | (rw [if_pos (by omega)] at H)
           | (rw [if_neg (by omega)] at H)
           | (have hc := And.left H; replace H := And.right H; try (exfalso; clear H; omega)))
         all_goals first | exact H | exact le_ap (le_of_le (g := fun k => jacquardlaw13_IntervalSound.l0 k _ _ _ _ _ _ _ _ _ _) (fun k => (jacquardlaw13_IntervalSound.mono_l k) _ _ _ _ _ _ _ _ _ _) (by omega)) H | (rw [hq]; exact le_ap (le_of_le (g := fun k => jacquardlaw13_IntervalSound.l0 k _ _ _ _ _ _ _ _ _ _) (fun k => (jacquardlaw13_IntervalSound.mono_l k) _ _ _ _ _ _ _ _ _ _) (by omega)) H) | (simp_all; done)
       case hn => omega
       case' hs =>
         clear H
         intro m nx ⟨x5_1, x20_1⟩ hnx H
         obtain ⟨cx5_1, bx5_1, px5_1_0, hcx5_1, hbx5_1, hpx5_1_0, hgx5_1, hux5_1⟩ := li_int .u64 (get_eq hA) x5_1
         simp only [← hcx5_1]
         obtain ⟨bax5_1, hbax5_1⟩ : ∃ b, b = decide (x5_1.length < 17592186044416) := ⟨_, rfl⟩
         obtain ⟨cax5_1, hcax5_1⟩ : ∃ p, p = fun (t0 : Int) => ((x5_1 ++ [t0]).map fun x : Int => [V.sc (.int .u64 x)]) := ⟨_, rfl⟩
         have hax5_1 : ∀ t0, app 1 8 cx5_1 [[V.sc (.int .u64 t0)]] = if bax5_1 then some (cax5_1 t0) else none := by rw [app_eq hA]; subst hcx5_1 hbax5_1 hcax5_1; exact fun t0 => app_map _ 1 8 x5_1 t0 rfl (fun _ => rfl) (by decide)
         all_goals cbv))
  all_goals
    obtain rfl := c2_eq hcm
    obtain rfl := ok2_eq hokm
    subst e17 e10 e18 e15 e19 e8 e16 hR
    clear h17 h10 h18 h15 h19 h8 h16 hc2 hok2 hcm hokm hul0_2 hgl0_2 hul0_3 hgl0_3 hul1 hgl1 hlp
    subst hcl0_2 hbl0_2 hpl0_2_0 hcl0_3 hbl0_3 hpl0_3_0 hpl0_3_1 hpl0_3_2 hpl0_3_3 hcl1 hbl1 hpl1_0
    try clear hux5_1 hgx5_1 hax5_1
    try subst hcx5_1 hbx5_1 hpx5_1_0 hbax5_1 hcax5_1
    obtain ⟨rfl, rfl, rfl, rfl, rfl, rfl, rfl, rfl, rfl, rfl⟩ := eqsA hA
    clear hA
    try simp only [rl] at *
    try (exact hnx (_, _) H)
    try replace hnx : Go.RowKit.Hid _ := hnx
    try subst_vars
    try replace H := up8 (fun k => jacquardlaw13_IntervalSound.mono _ _ _ _ _ _ k) k _ H
    try simp only [jacquardlaw13_IntervalSound.f, beq_dec, bne_dec] at H
    try simp only [jacquardlaw13_IntervalSound.l0, beq_dec, bne_dec] at H
    repeat (first
      | (with_reducible first | replace H := le_bind (jacquardlaw13_word.le ..) H | replace H := le_ap (jacquardlaw13_word.le ..) H)
      | (with_reducible first | replace H := le_bind (interval_Apply.le ..) H | replace H := le_ap (interval_Apply.le ..) H)
      | (with_reducible first | replace H := le_bind (jacquardref12_Eval.le ..) H | replace H := le_ap (jacquardref12_Eval.le ..) H)
      | (with_reducible first | replace H := le_bind (jacquardlaw13_right.le ..) H | replace H := le_ap (jacquardlaw13_right.le ..) H)
      | (simp [beq_dec, bne_dec, *] at H; done)
      | (simp [beq_dec, bne_dec, *] at H)
      | (rw [if_pos (by omega)] at H)
      | (rw [if_neg (by omega)] at H)
      | (have hc := And.left H; replace H := And.right H; try (exfalso; clear H; (try clear hnx); omega)))
  all_goals first
    | (exact hnx.out (_, _) H)
    | (rw [← hq] at H; exact hnx.out (_, _) H)
    | (subst H; rfl)
    | (subst H; simp; done)
    | (cases H; rfl)
    | (exfalso; clear H; (try clear hnx); omega)
    | (subst H; simp [beq_dec, bne_dec, *]; done)
    | (simp_all [beq_dec, bne_dec]; done)
    | (simp_all [beq_dec, bne_dec]; subst H; first | rfl | (simp; done) | (simp [*]; done))
set_option maxRecDepth 100000 in
set_option maxHeartbeats 40000000 in
theorem bits_Len64.ev (a0 : Int) (r : Int) (H : bits_Len64.f k a0 = some r)
  : evFn ⟨tys, ⟨op, ok, cmp, neg, not, wrap, mn', mx', idx, len, get, cut, app, byte⟩, lp⟩ (k + 8) K h57 Try.f57 [V.sc (.int .u64 a0)] [] = some (V.sc (.int .i64 r), []) := by
  generalize hR : some (V.sc (.int .i64 r), ([] : Heap)) = R
  have hcm := rcm hA hc2
  have hokm := rok hA hok2
  obtain ⟨bb, hbb⟩ : ∃ b, b = fun (s : ByteArray) (i : Int) => decide (0 ≤ i ∧ i < s.size) := ⟨_, rfl⟩
  obtain ⟨bv, hbv⟩ : ∃ b, b = fun (s : ByteArray) (i : Int) => bt s i := ⟨_, rfl⟩
  have hby : ∀ s i, byte s i = if bb s i then some (bv s i) else none := by rw [byte_eq hA]; subst hbb hbv; exact byte_bt
  all_goals cbv
  all_goals repeat' (first
    | (rewrite [hby]; generalize hq : bb _ _ = o; cases o <;> cbv)
    | (rewrite [hok2]; generalize hq : ok2 _ _ = o; cases o <;> cbv)
    | (rewrite [hc2]; generalize hq : c2 _ _ _ = o; cases o <;> (rewrite [hcm] at hq; simp only [rc] at hq) <;> first | (exfalso; omega) | cbv))
  all_goals
    obtain rfl := c2_eq hcm
    obtain rfl := ok2_eq hokm
    subst  hR
    clear hc2 hok2 hcm hokm hby
    subst hbb hbv
    obtain ⟨rfl, rfl, rfl, rfl, rfl, rfl, rfl, rfl, rfl, rfl⟩ := eqsA hA
    clear hA
    try simp only [rl] at *
    try subst_vars
    try replace H := up8 (fun k => bits_Len64.mono _ k) k _ H
    try simp only [bits_Len64.f, beq_dec, bne_dec] at H
    repeat (first
      | (simp [bits_Len64.j0, beq_dec, bne_dec, *] at H; done)
      | (simp [bits_Len64.j0, beq_dec, bne_dec, *] at H)
      | (rw [if_pos (by omega)] at H)
      | (rw [if_neg (by omega)] at H)
      | (have hc := And.left H; replace H := And.right H; try (exfalso; clear H; omega)))
  all_goals first
    | (subst H; rfl)
    | (subst H; simp; done)
    | (cases H; rfl)
    | (exfalso; clear H; omega)
    | (exfalso; simp [ByteArray.size] at hq; omega)
    | (subst H; simp [beq_dec, bne_dec, *]; done)
    | (simp_all [beq_dec, bne_dec]; done)
    | (simp_all [beq_dec, bne_dec]; subst H; first | rfl | (simp; done) | (simp [*]; done))
set_option maxRecDepth 100000 in
set_option maxHeartbeats 40000000 in
theorem interval_Valid.ev (a0 : Int) (a1_0 : Int) (a1_1 : Int) (a1_2 : Int) (a1_3 : Int) (r : Bool) (H : interval_Valid.f a0 a1_0 a1_1 a1_2 a1_3 = some r)
  (g36 : _) (e36 : g36 = interval_good.f) (h36 : interval_good.Is K g36)
  (g25 : _) (e25 : g25 = interval_ends.f) (h25 : interval_ends.Is K g25)
  (g26 : _) (e26 : g26 = bits_Mask.f) (h26 : bits_Mask.Is K g26)
  : evFn ⟨tys, ⟨op, ok, cmp, neg, not, wrap, mn', mx', idx, len, get, cut, app, byte⟩, lp⟩ (k + 8) K h18 Try.f18 [V.sc (.int .i64 a0), V.agg [V.sc (.int .u64 a1_0), V.sc (.int .u64 a1_1), V.sc (.int .i64 a1_2), V.sc (.int .i64 a1_3)]] [] = some (V.sc (.bool r), []) := by
  generalize hR : some (V.sc (.bool r), ([] : Heap)) = R
  have hcm := rcm hA hc2
  have hokm := rok hA hok2
  all_goals cbv
  all_goals repeat' (first
    | (rewrite [h36, hq36]; cbv)
    | (rewrite [h36]; generalize hq36 : g36 _ = o; rcases o with _ | _ | _ <;> cbv)
    | (rewrite [h25, hq25]; cbv)
    | (rewrite [h25]; generalize hq25 : g25 _ = o; rcases o with _ | ⟨_, _⟩ <;> cbv)
    | (rewrite [h26, hq26]; cbv)
    | (rewrite [h26]; generalize hq26 : g26 _ = o; rcases o with _ | _ <;> cbv)
    | (rewrite [hok2]; generalize hq : ok2 _ _ = o; cases o <;> cbv)
    | (rewrite [hc2]; generalize hq : c2 _ _ _ = o; cases o <;> (rewrite [hcm] at hq; simp only [rc] at hq) <;> first | (exfalso; omega) | cbv))
  all_goals
    obtain rfl := c2_eq hcm
    obtain rfl := ok2_eq hokm
    subst e36 e25 e26 hR
    clear h36 h25 h26 hc2 hok2 hcm hokm
    obtain ⟨rfl, rfl, rfl, rfl, rfl, rfl, rfl, rfl, rfl, rfl⟩ := eqsA hA
    clear hA
    try simp only [rl] at *
    try subst_vars
    try simp only [interval_Valid.f, beq_dec, bne_dec] at H
    repeat (first
      | (simp [beq_dec, bne_dec, *] at H; done)
      | (simp [beq_dec, bne_dec, *] at H)
      | (rw [if_pos (by omega)] at H)
      | (rw [if_neg (by omega)] at H)
      | (have hc := And.left H; replace H := And.right H; try (exfalso; clear H; omega)))
  all_goals first
    | (subst H; rfl)
    | (subst H; simp; done)
    | (cases H; rfl)
    | (exfalso; clear H; omega)
    | (subst H; simp [beq_dec, bne_dec, *]; done)
    | (simp_all [beq_dec, bne_dec]; done)
    | (simp_all [beq_dec, bne_dec]; subst H; first | rfl | (simp; done) | (simp [*]; done))
set_option maxRecDepth 100000 in
set_option maxHeartbeats 40000000 in
theorem jacquardref12_divide.ev (a0 : Int) (a1 : Int) (a2 : Int) (r : Int × Int) (H : jacquardref12_divide.f k a0 a1 a2 = some r)
  (g43 : _) (e43 : g43 = jacquardref12_Signed.F) (h43 : jacquardref12_Signed.Is K g43)
  (g13 : _) (e13 : g13 = jacquardref12_Mask.F) (h13 : jacquardref12_Mask.Is K g13)
  : evFn ⟨tys, ⟨op, ok, cmp, neg, not, wrap, mn', mx', idx, len, get, cut, app, byte⟩, lp⟩ (k + 8) K h39 Try.f39 [V.sc (.int .i64 a0), V.sc (.int .u64 a1), V.sc (.int .u64 a2)] [] = some (V.tup [V.sc (.int .u64 r.1), V.sc (.int .u64 r.2)], []) := by
  generalize hR : some (V.tup [V.sc (.int .u64 r.1), V.sc (.int .u64 r.2)], ([] : Heap)) = R
  have hcm := rcm hA hc2
  have hokm := rok hA hok2
  all_goals cbv
  all_goals repeat' (first
    | (rewrite [h43, hq43]; cbv)
    | (rewrite [h43]; generalize hq43 : g43 _ _ = o; rcases o with _ | _ <;> cbv)
    | (rewrite [h13, hq13]; cbv)
    | (rewrite [h13]; generalize hq13 : g13 _ = o; rcases o with _ | _ <;> cbv)
    | (rewrite [hok2]; generalize hq : ok2 _ _ = o; cases o <;> cbv)
    | (rewrite [hc2]; generalize hq : c2 _ _ _ = o; cases o <;> (rewrite [hcm] at hq; simp only [rc] at hq) <;> first | (exfalso; omega) | cbv))
  all_goals
    obtain rfl := c2_eq hcm
    obtain rfl := ok2_eq hokm
    subst e43 e13 hR
    clear h43 h13 hc2 hok2 hcm hokm
    obtain ⟨rfl, rfl, rfl, rfl, rfl, rfl, rfl, rfl, rfl, rfl⟩ := eqsA hA
    clear hA
    try simp only [rl] at *
    try subst_vars
    try replace H := up8 (fun k => jacquardref12_divide.mono _ _ _ k) k _ H
    try simp only [jacquardref12_divide.f, beq_dec, bne_dec] at H
    repeat (first
      | (with_reducible first | replace H := le_bind (jacquardref12_Signed.le ..) H | replace H := le_ap (jacquardref12_Signed.le ..) H)
      | (with_reducible first | replace H := le_bind (jacquardref12_Mask.le ..) H | replace H := le_ap (jacquardref12_Mask.le ..) H)
      | (simp [beq_dec, bne_dec, *] at H; done)
      | (simp [beq_dec, bne_dec, *] at H)
      | (rw [if_pos (by omega)] at H)
      | (rw [if_neg (by omega)] at H)
      | (have hc := And.left H; replace H := And.right H; try (exfalso; clear H; omega)))
  all_goals first
    | (subst H; rfl)
    | (subst H; simp; done)
    | (cases H; rfl)
    | (exfalso; clear H; omega)
    | (subst H; simp [beq_dec, bne_dec, *]; done)
    | (simp_all [beq_dec, bne_dec]; done)
    | (simp_all [beq_dec, bne_dec]; subst H; first | rfl | (simp; done) | (simp [*]; done))
set_option maxRecDepth 100000 in
set_option maxHeartbeats 40000000 in
theorem interval_computer_sum.ev (s0_0 : Int) (s0_1 : Int) (s0_2 : Int) (s0_3 : Int) (s0_4 : Int) (s0_5 : Int) (s0_6 : Int) (s0_7 : Int) (a1 : Int) (a2 : Int) (r : Int × Bool) (H : interval_computer_sum.f s0_0 s0_1 s0_2 s0_3 s0_4 s0_5 s0_6 s0_7 a1 a2 = some r)
  (g84 : _) (e84 : g84 = interval_computer_within.f) (h84 : interval_computer_within.Is K g84)
  : evFn ⟨tys, ⟨op, ok, cmp, neg, not, wrap, mn', mx', idx, len, get, cut, app, byte⟩, lp⟩ (k + 8) K h78 Try.f78 [V.ptr 0 0, V.sc (.int .i64 a1), V.sc (.int .i64 a2)] [[V.sc (.int .i64 s0_0), V.sc (.int .u64 s0_1), V.sc (.int .i64 s0_2), V.sc (.int .i64 s0_3), V.sc (.int .u64 s0_4), V.sc (.int .u64 s0_5), V.sc (.int .i64 s0_6), V.sc (.int .i64 s0_7)]] = some (V.tup [V.sc (.int .i64 r.1), V.sc (.bool r.2)], [[V.sc (.int .i64 s0_0), V.sc (.int .u64 s0_1), V.sc (.int .i64 s0_2), V.sc (.int .i64 s0_3), V.sc (.int .u64 s0_4), V.sc (.int .u64 s0_5), V.sc (.int .i64 s0_6), V.sc (.int .i64 s0_7)]]) := by
  generalize hR : some (V.tup [V.sc (.int .i64 r.1), V.sc (.bool r.2)], [[V.sc (.int .i64 s0_0), V.sc (.int .u64 s0_1), V.sc (.int .i64 s0_2), V.sc (.int .i64 s0_3), V.sc (.int .u64 s0_4), V.sc (.int .u64 s0_5), V.sc (.int .i64 s0_6), V.sc (.int .i64 s0_7)]]) = R
  have hcm := rcm hA hc2
  have hokm := rok hA hok2
  all_goals cbv
  all_goals repeat' (first
    | (rewrite [h84, hq84]; cbv)
    | (rewrite [h84]; generalize hq84 : g84 _ _ _ _ _ _ _ _ _ = o; rcases o with _ | _ | _ <;> cbv)
    | (rewrite [hok2]; generalize hq : ok2 _ _ = o; cases o <;> cbv)
    | (rewrite [hc2]; generalize hq : c2 _ _ _ = o; cases o <;> (rewrite [hcm] at hq; simp only [rc] at hq) <;> first | (exfalso; omega) | cbv))
  all_goals
    obtain rfl := c2_eq hcm
    obtain rfl := ok2_eq hokm
    subst e84 hR
    clear h84 hc2 hok2 hcm hokm
    obtain ⟨rfl, rfl, rfl, rfl, rfl, rfl, rfl, rfl, rfl, rfl⟩ := eqsA hA
    clear hA
    try simp only [rl] at *
    try subst_vars
    try simp only [interval_computer_sum.f, beq_dec, bne_dec] at H
    repeat (first
      | (simp [beq_dec, bne_dec, *] at H; done)
      | (simp [beq_dec, bne_dec, *] at H)
      | (rw [if_pos (by omega)] at H)
      | (rw [if_neg (by omega)] at H)
      | (have hc := And.left H; replace H := And.right H; try (exfalso; clear H; omega)))
  all_goals first
    | (subst H; rfl)
    | (subst H; simp; done)
    | (cases H; rfl)
    | (exfalso; clear H; omega)
    | (subst H; simp [beq_dec, bne_dec, *]; done)
    | (simp_all [beq_dec, bne_dec]; done)
    | (simp_all [beq_dec, bne_dec]; subst H; first | rfl | (simp; done) | (simp [*]; done))
set_option maxRecDepth 100000 in
set_option maxHeartbeats 40000000 in
theorem interval_Top.ev (a0 : Int) (r : Int × Int × Int × Int) (H : interval_Top.f a0 = some r)
  (g36 : _) (e36 : g36 = interval_good.f) (h36 : interval_good.Is K g36)
  (g25 : _) (e25 : g25 = interval_ends.f) (h25 : interval_ends.Is K g25)
  (g26 : _) (e26 : g26 = bits_Mask.f) (h26 : bits_Mask.Is K g26)
  : evFn ⟨tys, ⟨op, ok, cmp, neg, not, wrap, mn', mx', idx, len, get, cut, app, byte⟩, lp⟩ (k + 8) K h21 Try.f21 [V.sc (.int .i64 a0)] [] = some (V.agg [V.sc (.int .u64 r.1), V.sc (.int .u64 r.2.1), V.sc (.int .i64 r.2.2.1), V.sc (.int .i64 r.2.2.2)], []) := by
  generalize hR : some (V.agg [V.sc (.int .u64 r.1), V.sc (.int .u64 r.2.1), V.sc (.int .i64 r.2.2.1), V.sc (.int .i64 r.2.2.2)], ([] : Heap)) = R
  have hcm := rcm hA hc2
  have hokm := rok hA hok2
  all_goals cbv
  all_goals repeat' (first
    | (rewrite [h36, hq36]; cbv)
    | (rewrite [h36]; generalize hq36 : g36 _ = o; rcases o with _ | _ | _ <;> cbv)
    | (rewrite [h25, hq25]; cbv)
    | (rewrite [h25]; generalize hq25 : g25 _ = o; rcases o with _ | ⟨_, _⟩ <;> cbv)
    | (rewrite [h26, hq26]; cbv)
    | (rewrite [h26]; generalize hq26 : g26 _ = o; rcases o with _ | _ <;> cbv)
    | (rewrite [hok2]; generalize hq : ok2 _ _ = o; cases o <;> cbv)
    | (rewrite [hc2]; generalize hq : c2 _ _ _ = o; cases o <;> (rewrite [hcm] at hq; simp only [rc] at hq) <;> first | (exfalso; omega) | cbv))
  all_goals
    obtain rfl := c2_eq hcm
    obtain rfl := ok2_eq hokm
    subst e36 e25 e26 hR
    clear h36 h25 h26 hc2 hok2 hcm hokm
    obtain ⟨rfl, rfl, rfl, rfl, rfl, rfl, rfl, rfl, rfl, rfl⟩ := eqsA hA
    clear hA
    try simp only [rl] at *
    try subst_vars
    try simp only [interval_Top.f, beq_dec, bne_dec] at H
    repeat (first
      | (simp [beq_dec, bne_dec, *] at H; done)
      | (simp [beq_dec, bne_dec, *] at H)
      | (rw [if_pos (by omega)] at H)
      | (rw [if_neg (by omega)] at H)
      | (have hc := And.left H; replace H := And.right H; try (exfalso; clear H; omega)))
  all_goals first
    | (subst H; rfl)
    | (subst H; simp; done)
    | (cases H; rfl)
    | (exfalso; clear H; omega)
    | (subst H; simp [beq_dec, bne_dec, *]; done)
    | (simp_all [beq_dec, bne_dec]; done)
    | (simp_all [beq_dec, bne_dec]; subst H; first | rfl | (simp; done) | (simp [*]; done))
set_option maxRecDepth 100000 in
set_option maxHeartbeats 40000000 in
theorem jacquardref12_Signed.ev (a0 : Int) (a1 : Int) (r : Int) (H : jacquardref12_Signed.f k a0 a1 = some r)
  (g41 : _) (e41 : g41 = jacquardref12_Bit.f) (h41 : jacquardref12_Bit.Is K g41)
  (g13 : _) (e13 : g13 = jacquardref12_Mask.F) (h13 : jacquardref12_Mask.Is K g13)
  : evFn ⟨tys, ⟨op, ok, cmp, neg, not, wrap, mn', mx', idx, len, get, cut, app, byte⟩, lp⟩ (k + 8) K h43 Try.f43 [V.sc (.int .i64 a0), V.sc (.int .u64 a1)] [] = some (V.sc (.int .i64 r), []) := by
  generalize hR : some (V.sc (.int .i64 r), ([] : Heap)) = R
  have hcm := rcm hA hc2
  have hokm := rok hA hok2
  all_goals cbv
  all_goals repeat' (first
    | (rewrite [h41, hq41]; cbv)
    | (rewrite [h41]; generalize hq41 : g41 _ _ = o; rcases o with _ | _ <;> cbv)
    | (rewrite [h13, hq13]; cbv)
    | (rewrite [h13]; generalize hq13 : g13 _ = o; rcases o with _ | _ <;> cbv)
    | (rewrite [hok2]; generalize hq : ok2 _ _ = o; cases o <;> cbv)
    | (rewrite [hc2]; generalize hq : c2 _ _ _ = o; cases o <;> (rewrite [hcm] at hq; simp only [rc] at hq) <;> first | (exfalso; omega) | cbv))
  all_goals
    obtain rfl := c2_eq hcm
    obtain rfl := ok2_eq hokm
    subst e41 e13 hR
    clear h41 h13 hc2 hok2 hcm hokm
    obtain ⟨rfl, rfl, rfl, rfl, rfl, rfl, rfl, rfl, rfl, rfl⟩ := eqsA hA
    clear hA
    try simp only [rl] at *
    try subst_vars
    try replace H := up8 (fun k => jacquardref12_Signed.mono _ _ k) k _ H
    try simp only [jacquardref12_Signed.f, beq_dec, bne_dec] at H
    repeat (first
      | (with_reducible first | replace H := le_bind (jacquardref12_Mask.le ..) H | replace H := le_ap (jacquardref12_Mask.le ..) H)
      | (simp [beq_dec, bne_dec, *] at H; done)
      | (simp [beq_dec, bne_dec, *] at H)
      | (rw [if_pos (by omega)] at H)
      | (rw [if_neg (by omega)] at H)
      | (have hc := And.left H; replace H := And.right H; try (exfalso; clear H; omega)))
  all_goals first
    | (subst H; rfl)
    | (subst H; simp; done)
    | (cases H; rfl)
    | (exfalso; clear H; omega)
    | (subst H; simp [beq_dec, bne_dec, *]; done)
    | (simp_all [beq_dec, bne_dec]; done)
    | (simp_all [beq_dec, bne_dec]; subst H; first | rfl | (simp; done) | (simp [*]; done))
set_option maxRecDepth 100000 in
set_option maxHeartbeats 40000000 in
theorem bits_Extend.ev (a0 : Int) (a1 : Int) (a2 : Int) (a3 : Bool) (r : Int) (H : bits_Extend.f a0 a1 a2 a3 = some r)
  (g38 : _) (e38 : g38 = bits_Signed.f) (h38 : bits_Signed.Is K g38)
  (g48 : _) (e48 : g48 = bits_From.f) (h48 : bits_From.Is K g48)
  (g37 : _) (e37 : g37 = bits_Fit.f) (h37 : bits_Fit.Is K g37)
  : evFn ⟨tys, ⟨op, ok, cmp, neg, not, wrap, mn', mx', idx, len, get, cut, app, byte⟩, lp⟩ (k + 8) K h49 Try.f49 [V.sc (.int .i64 a0), V.sc (.int .i64 a1), V.sc (.int .u64 a2), V.sc (.bool a3)] [] = some (V.sc (.int .u64 r), []) := by
  generalize hR : some (V.sc (.int .u64 r), ([] : Heap)) = R
  have hcm := rcm hA hc2
  have hokm := rok hA hok2
  rcases a3 with _ | _
  all_goals cbv
  all_goals repeat' (first
    | (rewrite [h38, hq38]; cbv)
    | (rewrite [h38]; generalize hq38 : g38 _ _ = o; rcases o with _ | _ <;> cbv)
    | (rewrite [h48, hq48]; cbv)
    | (rewrite [h48]; generalize hq48 : g48 _ _ = o; rcases o with _ | _ <;> cbv)
    | (rewrite [h37, hq37]; cbv)
    | (rewrite [h37]; generalize hq37 : g37 _ _ = o; rcases o with _ | _ <;> cbv)
    | (rewrite [hok2]; generalize hq : ok2 _ _ = o; cases o <;> cbv)
    | (rewrite [hc2]; generalize hq : c2 _ _ _ = o; cases o <;> (rewrite [hcm] at hq; simp only [rc] at hq) <;> first | (exfalso; omega) | cbv))
  all_goals
    obtain rfl := c2_eq hcm
    obtain rfl := ok2_eq hokm
    subst e38 e48 e37 hR
    clear h38 h48 h37 hc2 hok2 hcm hokm
    obtain ⟨rfl, rfl, rfl, rfl, rfl, rfl, rfl, rfl, rfl, rfl⟩ := eqsA hA
    clear hA
    try simp only [rl] at *
    try subst_vars
    try simp only [bits_Extend.f, beq_dec, bne_dec] at H
    repeat (first
      | (simp [beq_dec, bne_dec, *] at H; done)
      | (simp [beq_dec, bne_dec, *] at H)
      | (rw [if_pos (by omega)] at H)
      | (rw [if_neg (by omega)] at H)
      | (have hc := And.left H; replace H := And.right H; try (exfalso; clear H; omega)))
  all_goals first
    | (subst H; rfl)
    | (subst H; simp; done)
    | (cases H; rfl)
    | (exfalso; clear H; omega)
    | (subst H; simp [beq_dec, bne_dec, *]; done)
    | (simp_all [beq_dec, bne_dec]; done)
    | (simp_all [beq_dec, bne_dec]; subst H; first | rfl | (simp; done) | (simp [*]; done))
set_option maxRecDepth 100000 in
set_option maxHeartbeats 40000000 in
theorem bits_Fit.ev (a0 : Int) (a1 : Int) (r : Int) (H : bits_Fit.f a0 a1 = some r)
  (g26 : _) (e26 : g26 = bits_Mask.f) (h26 : bits_Mask.Is K g26)
  : evFn ⟨tys, ⟨op, ok, cmp, neg, not, wrap, mn', mx', idx, len, get, cut, app, byte⟩, lp⟩ (k + 8) K h37 Try.f37 [V.sc (.int .i64 a0), V.sc (.int .u64 a1)] [] = some (V.sc (.int .u64 r), []) := by
  generalize hR : some (V.sc (.int .u64 r), ([] : Heap)) = R
  have hcm := rcm hA hc2
  have hokm := rok hA hok2
  all_goals cbv
  all_goals repeat' (first
    | (rewrite [h26, hq26]; cbv)
    | (rewrite [h26]; generalize hq26 : g26 _ = o; rcases o with _ | _ <;> cbv)
    | (rewrite [hok2]; generalize hq : ok2 _ _ = o; cases o <;> cbv)
    | (rewrite [hc2]; generalize hq : c2 _ _ _ = o; cases o <;> (rewrite [hcm] at hq; simp only [rc] at hq) <;> first | (exfalso; omega) | cbv))
  all_goals
    obtain rfl := c2_eq hcm
    obtain rfl := ok2_eq hokm
    subst e26 hR
    clear h26 hc2 hok2 hcm hokm
    obtain ⟨rfl, rfl, rfl, rfl, rfl, rfl, rfl, rfl, rfl, rfl⟩ := eqsA hA
    clear hA
    try simp only [rl] at *
    try subst_vars
    try simp only [bits_Fit.f, beq_dec, bne_dec] at H
    repeat (first
      | (simp [beq_dec, bne_dec, *] at H; done)
      | (simp [beq_dec, bne_dec, *] at H)
      | (rw [if_pos (by omega)] at H)
      | (rw [if_neg (by omega)] at H)
      | (have hc := And.left H; replace H := And.right H; try (exfalso; clear H; omega)))
  all_goals first
    | (subst H; rfl)
    | (subst H; simp; done)
    | (cases H; rfl)
    | (exfalso; clear H; omega)
    | (subst H; simp [beq_dec, bne_dec, *]; done)
    | (simp_all [beq_dec, bne_dec]; done)
    | (simp_all [beq_dec, bne_dec]; subst H; first | rfl | (simp; done) | (simp [*]; done))
end
end Go.Vm
