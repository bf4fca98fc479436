/- What the evaluator makes of the functions' code (97 s). -/
import Derived.Test.YtoddafkffchnjaaO
namespace Go.Vm
open Go.Proofs Go.Proofs.Ytoddafkffchnjaa Go.Proofs.Ytoddafkffchnjaa.P Go.RowKit Go.Proofs.YtoddafkffchnjaaW.PrintWords Go.Proofs.YtoddafkffchnjaaW.PrintLast Go.Proofs.YtoddafkffchnjaaW.PrintMore
set_option linter.unusedVariables false
set_option linter.unusedSimpArgs false
set_option linter.unusedSectionVars false
set_option linter.unusedVariables false
set_option linter.unusedSimpArgs false
section
variable {op : BinOp → IntKind → Int → Int → Int} {ok : BinOp → Int → Bool} {cmp : BinOp → Int → Int → Bool} {neg not wrap : IntKind → Int → Int} {mn' mx' : Int → Int → Int} {idx : Int → Option Nat}
  {len : List (List V) → Int} {get : List (List V) → Int → Option (List V)} {cut : Nat → List (List V) → Option V → Option V → Option (List (List V))} {app : Nat → Nat → List (List V) → List (List V) → Option (List (List V))} {byte : ByteArray → Int → Option Int}
  {lp : (St → Option (Ex × St)) → Nat → List Nat → Nat → St → Option (Ex × St)} {c2 : BinOp → Int → Int → Bool} {ok2 : BinOp → Int → Bool}
variable (hA : (⟨tys, ⟨op, ok, cmp, neg, not, wrap, mn', mx', idx, len, get, cut, app, byte⟩, lp⟩ : En) = ⟨tys, real, rounds⟩) (hc2 : ∀ o a b, cmp o a b = c2 o a b) (hok2 : ∀ o a, ok o a = ok2 o a) (k : Nat) (K : Oracle)
include hA hc2 hok2
set_option maxRecDepth 100000 in
set_option maxHeartbeats 40000000 in
theorem interval_shaped.ev (a0 : Int) (a1 : Int) (l2 : List Int) (r : Bool) (H : interval_shaped.f k a0 a1 l2 = some r)
  (g36 : _) (e36 : g36 = interval_good.f) (h36 : interval_good.Is K g36)
  (g46 : _) (e46 : g46 = bits_IsCompare.f) (h46 : bits_IsCompare.Is K g46)
  (g47 : _) (e47 : g47 = bits_IsBinary.f) (h47 : bits_IsBinary.Is K g47)
  : evFn ⟨tys, ⟨op, ok, cmp, neg, not, wrap, mn', mx', idx, len, get, cut, app, byte⟩, lp⟩ (k + 8) K h22 Try.f22 [V.sc (.int .i64 a0), V.sc (.int .i64 a1), V.sl false (l2.map fun x : Int => [V.sc (.int .i64 x)])] [] = some (V.sc (.bool r), []) := by
  generalize hR : some (V.sc (.bool r), ([] : Heap)) = R
  have hcm := rcm hA hc2
  have hokm := rok hA hok2
  obtain ⟨lp2, hlp2, hlp⟩ : ∃ lp2, lp2 = rounds ∧ ∀ b n0 kp L st, lp b n0 kp L st = lp2 b n0 kp L st := ⟨lp, lp_eq hA, fun _ _ _ _ _ => rfl⟩
  obtain ⟨cl2, bl2, pl2_0, hcl2, hbl2, hpl2_0, hgl2, hul2⟩ := li_int .i64 (get_eq hA) l2
  rw [← hcl2]
  all_goals cbv
  all_goals repeat' (first
    | (rewrite [h36, hq36]; cbv)
    | (rewrite [h36]; generalize hq36 : g36 _ = o; rcases o with _ | _ | _ <;> cbv)
    | (rewrite [h46, hq46]; cbv)
    | (rewrite [h46]; generalize hq46 : g46 _ = o; rcases o with _ | _ | _ <;> cbv)
    | (rewrite [h47, hq47]; cbv)
    | (rewrite [h47]; generalize hq47 : g47 _ = o; rcases o with _ | _ | _ <;> cbv)
    | (rewrite [hgl2]; generalize hq : bl2 _ = o; cases o <;> first | (exact absurd (hq.symm.trans (by assumption : bl2 _ = true)) Bool.false_ne_true) | (exact absurd (hq.symm.trans (by assumption : bl2 _ = false)) (fun h => Bool.false_ne_true h.symm)) | cbv)
    | (rewrite [hok2]; generalize hq : ok2 _ _ = o; cases o <;> cbv)
    | (rewrite [hc2]; generalize hq : c2 _ _ _ = o; cases o <;> (rewrite [hcm] at hq; simp only [rc] at hq) <;> first | (exfalso; omega) | cbv)
    | (rewrite [hlp]; generalize hl : lp2 _ _ _ _ _ = o; revert o
       refine loop_rule hlp2 (fun (y : Int) st => ⟨(st.s.set 15 (V.sc (.int .i64 y))), st.h⟩) (fun n y => interval_shaped.l0 n a0 a1 l2 l2 (l2.length : Int) y = some r) (n := k + 8) (x := ?x15_1) ?hst (fun y h => by simp [interval_shaped.l0] at h) ?hq ?hn ?hs
       case hst => exact rfl
       case hq =>
         obtain rfl := c2_eq hcm
         obtain rfl := ok2_eq hokm
         subst e36 e46 e47 hR
         clear h36 h46 h47 hc2 hok2 hcm hokm hul2 hgl2 hlp
         subst hcl2 hbl2 hpl2_0
         obtain ⟨rfl, rfl, rfl, rfl, rfl, rfl, rfl, rfl, rfl, rfl⟩ := eqsA hA
         clear hA
         try simp only [rl] at *
         try subst_vars
         try replace H := up8 (fun k => interval_shaped.mono _ _ _ k) k _ H
         try simp only [interval_shaped.f, beq_dec, bne_dec] at H
         repeat (first
           | (simp [interval_shaped.j1, beq_dec, bne_dec, *] at H; done)
           | (simp [interval_shaped.j1, beq_dec, bne_dec, *] at H)
           | (rw [if_pos (by omega)] at H)
           | (rw [if_neg (by omega)] at H)
           | (have hc := And.left H; replace H := And.right H; try (exfalso; clear H; omega)))
         all_goals first | exact H | exact le_ap (le_of_le (g := fun k => interval_shaped.l0 k _ _ _ _ _ _) (fun k => (interval_shaped.mono_l k).1 _ _ _ _ _ _) (by omega)) H | (rw [hq]; exact le_ap (le_of_le (g := fun k => interval_shaped.l0 k _ _ _ _ _ _) (fun k => (interval_shaped.mono_l k).1 _ _ _ _ _ _) (by omega)) H) | (simp_all; done)
       case hn => omega
       case' hs =>
         clear H
         intro m nx x15_1 hnx H
         all_goals cbv))
  all_goals
    obtain rfl := c2_eq hcm
    obtain rfl := ok2_eq hokm
    subst e36 e46 e47 hR
    clear h36 h46 h47 hc2 hok2 hcm hokm hul2 hgl2 hlp
    subst hcl2 hbl2 hpl2_0
    obtain ⟨rfl, rfl, rfl, rfl, rfl, rfl, rfl, rfl, rfl, rfl⟩ := eqsA hA
    clear hA
    try simp only [rl] at *
    try (exact hnx (_) H)
    try replace hnx : Go.RowKit.Hid _ := hnx
    try subst_vars
    try replace H := up8 (fun k => interval_shaped.mono _ _ _ k) k _ H
    try simp only [interval_shaped.f, beq_dec, bne_dec] at H
    try simp only [interval_shaped.l0, beq_dec, bne_dec] at H
    repeat (first
      | (with_reducible replace H := le_ap (up8 (g := fun k => interval_shaped.j1 k _ _ _ _ _ _) (fun k => (interval_shaped.mono_l k).2 _ _ _ _ _ _) m) H)
      | (simp [beq_dec, bne_dec, *] at H; done)
      | (simp [beq_dec, bne_dec, *] at H)
      | (rw [if_pos (by omega)] at H)
      | (rw [if_neg (by omega)] at H)
      | (simp [interval_shaped.j1, beq_dec, bne_dec, *] at H; done)
      | (simp [interval_shaped.j1, beq_dec, bne_dec, *] at H)
      | (rw [if_pos (by omega)] at H)
      | (rw [if_neg (by omega)] at H)
      | (have hc := And.left H; replace H := And.right H; try (exfalso; clear H; (try clear hnx); omega)))
  all_goals first
    | (exact hnx.out _ H)
    | (rw [← hq] at H; exact hnx.out _ H)
    | (subst H; rfl)
    | (subst H; simp; done)
    | (cases H; rfl)
    | (exfalso; clear H; (try clear hnx); omega)
    | (exfalso; clear H; (try clear hnx); simp only [natCast_eq] at *; omega)
    | (simp only [*] at hq36; simp [*] at H; done)
    | (simp only [*] at hq36; simp [*] at H; subst H; first | rfl | (simp; done))
    | (simp only [*] at hq46; simp [*] at H; done)
    | (simp only [*] at hq46; simp [*] at H; subst H; first | rfl | (simp; done))
    | (simp only [*] at hq47; simp [*] at H; done)
    | (simp only [*] at hq47; simp [*] at H; subst H; first | rfl | (simp; done))
    | (subst H; simp [beq_dec, bne_dec, *]; done)
    | (simp_all [beq_dec, bne_dec]; done)
    | (simp_all [beq_dec, bne_dec]; subst H; first | rfl | (simp; done) | (simp [*]; done))
set_option maxRecDepth 100000 in
set_option maxHeartbeats 40000000 in
theorem interval_computer_compare.ev (s0_0 : Int) (s0_1 : Int) (s0_2 : Int) (s0_3 : Int) (s0_4 : Int) (s0_5 : Int) (s0_6 : Int) (s0_7 : Int) (a1 : Int) (a2_0 : Int) (a2_1 : Int) (a2_2 : Int) (a2_3 : Int) (a3_0 : Int) (a3_1 : Int) (a3_2 : Int) (a3_3 : Int) (r : Int × Int × Int × Int × Int × Int × Int × Int) (H : interval_computer_compare.f k s0_0 s0_1 s0_2 s0_3 s0_4 s0_5 s0_6 s0_7 a1 a2_0 a2_1 a2_2 a2_3 a3_0 a3_1 a3_2 a3_3 = some r)
  (g85 : _) (e85 : g85 = interval_computer_truth.F) (h85 : interval_computer_truth.Is K g85)
  : evFn ⟨tys, ⟨op, ok, cmp, neg, not, wrap, mn', mx', idx, len, get, cut, app, byte⟩, lp⟩ (k + 8) K h61 Try.f61 [V.ptr 0 0, V.sc (.int .i64 a1), V.agg [V.sc (.int .u64 a2_0), V.sc (.int .u64 a2_1), V.sc (.int .i64 a2_2), V.sc (.int .i64 a2_3)], V.agg [V.sc (.int .u64 a3_0), V.sc (.int .u64 a3_1), V.sc (.int .i64 a3_2), V.sc (.int .i64 a3_3)]] [[V.sc (.int .i64 s0_0), V.sc (.int .u64 s0_1), V.sc (.int .i64 s0_2), V.sc (.int .i64 s0_3), V.sc (.int .u64 s0_4), V.sc (.int .u64 s0_5), V.sc (.int .i64 s0_6), V.sc (.int .i64 s0_7)]] = some (V.tup [], [[V.sc (.int .i64 r.1), V.sc (.int .u64 r.2.1), V.sc (.int .i64 r.2.2.1), V.sc (.int .i64 r.2.2.2.1), V.sc (.int .u64 r.2.2.2.2.1), V.sc (.int .u64 r.2.2.2.2.2.1), V.sc (.int .i64 r.2.2.2.2.2.2.1), V.sc (.int .i64 r.2.2.2.2.2.2.2)]]) := by
  generalize hR : some (V.tup [], [[V.sc (.int .i64 r.1), V.sc (.int .u64 r.2.1), V.sc (.int .i64 r.2.2.1), V.sc (.int .i64 r.2.2.2.1), V.sc (.int .u64 r.2.2.2.2.1), V.sc (.int .u64 r.2.2.2.2.2.1), V.sc (.int .i64 r.2.2.2.2.2.2.1), V.sc (.int .i64 r.2.2.2.2.2.2.2)]]) = R
  have hcm := rcm hA hc2
  have hokm := rok hA hok2
  all_goals cbv
  all_goals repeat' (first
    | (rewrite [h85, hq85]; cbv)
    | (rewrite [h85]; generalize hq85 : g85 _ _ _ _ _ _ _ _ _ _ = o; rcases o with _ | ⟨_, _, _, _, _, _, _, _⟩ <;> cbv)
    | (rewrite [hok2]; generalize hq : ok2 _ _ = o; cases o <;> cbv)
    | (rewrite [hc2]; generalize hq : c2 _ _ _ = o; cases o <;> (rewrite [hcm] at hq; simp only [rc] at hq) <;> first | (exfalso; omega) | cbv))
  all_goals
    obtain rfl := c2_eq hcm
    obtain rfl := ok2_eq hokm
    subst e85 hR
    clear h85 hc2 hok2 hcm hokm
    obtain ⟨rfl, rfl, rfl, rfl, rfl, rfl, rfl, rfl, rfl, rfl⟩ := eqsA hA
    clear hA
    try simp only [rl] at *
    try subst_vars
    try simp [beq_dec, bne_dec, *] at hq85
    try replace H := up8 (fun k => interval_computer_compare.mono _ _ _ _ _ _ _ _ _ _ _ _ _ _ _ _ _ k) k _ H
    try simp only [interval_computer_compare.f, beq_dec, bne_dec] at H
    repeat (first
      | (with_reducible first | replace H := le_bind (interval_computer_truth.le ..) H | replace H := le_ap (interval_computer_truth.le ..) H)
      | (simp [interval_computer_compare.j0, beq_dec, bne_dec, *] at H; done)
      | (simp [interval_computer_compare.j0, beq_dec, bne_dec, *] at H)
      | (rw [if_pos (by omega)] at H)
      | (rw [if_neg (by omega)] at H)
      | (have hc := And.left H; replace H := And.right H; try (exfalso; clear H; omega)))
  all_goals first
    | (subst H; rfl)
    | (subst H; simp; done)
    | (cases H; rfl)
    | (exfalso; clear H; omega)
    | (subst H; simp [beq_dec, bne_dec, *]; done)
    | (simp_all [beq_dec, bne_dec]; done)
    | (simp_all [beq_dec, bne_dec]; subst H; first | rfl | (simp; done) | (simp [*]; done))
set_option maxRecDepth 100000 in
set_option maxHeartbeats 40000000 in
theorem jacquardlaw13_right.ev (a0_0 : Int) (a0_1 : Int) (l0_2 : List Int) (l0_3 : List (S30)) (a0_4 : Int) (r : Bool) (H : jacquardlaw13_right.f k a0_0 a0_1 l0_2 l0_3 a0_4 = some r)
  (g44 : _) (e44 : g44 = jacquardref13_Valid.F) (h44 : jacquardref13_Valid.Is K g44)
  (g9 : _) (e9 : g9 = jacquardlaw13_few.f) (h9 : jacquardlaw13_few.Is K g9)
  (g12 : _) (e12 : g12 = jacquardref12_Shape.F) (h12 : jacquardref12_Shape.Is K g12)
  : evFn ⟨tys, ⟨op, ok, cmp, neg, not, wrap, mn', mx', idx, len, get, cut, app, byte⟩, lp⟩ (k + 8) K h16 Try.f16 [V.agg [V.sc (.int .i64 a0_0), V.sc (.int .i64 a0_1), V.sl false (l0_2.map fun x : Int => [V.sc (.int .i64 x)]), V.sl false (l0_3.map fun x : S30 => [V.sc (.int .u64 x.f0), V.sc (.int .u64 x.f1), V.sc (.int .i64 x.f2), V.sc (.int .i64 x.f3)]), V.sc (.int .u64 a0_4)]] [] = some (V.sc (.bool r), []) := by
  generalize hR : some (V.sc (.bool r), ([] : Heap)) = R
  have hcm := rcm hA hc2
  have hokm := rok hA hok2
  obtain ⟨lp2, hlp2, hlp⟩ : ∃ lp2, lp2 = rounds ∧ ∀ b n0 kp L st, lp b n0 kp L st = lp2 b n0 kp L st := ⟨lp, lp_eq hA, fun _ _ _ _ _ => rfl⟩
  obtain ⟨cl0_2, bl0_2, pl0_2_0, hcl0_2, hbl0_2, hpl0_2_0, hgl0_2, hul0_2⟩ := li_int .i64 (get_eq hA) l0_2
  rw [← hcl0_2]
  obtain ⟨cl0_3, bl0_3, pl0_3_0, pl0_3_1, pl0_3_2, pl0_3_3, hcl0_3, hbl0_3, hpl0_3_0, hpl0_3_1, hpl0_3_2, hpl0_3_3, hgl0_3, hul0_3⟩ := li_k30 (get_eq hA) l0_3
  rw [← hcl0_3]
  all_goals cbv
  all_goals repeat' (first
    | (rewrite [h44, hq44]; cbv)
    | (rewrite [h44]; generalize hq44 : g44 _ _ _ _ _ = o; rcases o with _ | _ | _ <;> cbv)
    | (rewrite [(h9 _ _ hul0_2 _ _ hul0_3), hq9]; cbv)
    | (rewrite [(h9 _ _ hul0_2 _ _ hul0_3)]; generalize hq9 : g9 _ _ _ _ _ = o; rcases o with _ | _ | _ <;> cbv)
    | (rewrite [(h9 _ _ hul0_2 _ _ (unk30_1 ..)), hq9]; cbv)
    | (rewrite [(h9 _ _ hul0_2 _ _ (unk30_1 ..))]; generalize hq9 : g9 _ _ _ _ _ = o; rcases o with _ | _ | _ <;> cbv)
    | (rewrite [(h9 _ _ hul0_2 _ _ (unk30_2 ..)), hq9]; cbv)
    | (rewrite [(h9 _ _ hul0_2 _ _ (unk30_2 ..))]; generalize hq9 : g9 _ _ _ _ _ = o; rcases o with _ | _ | _ <;> cbv)
    | (rewrite [(h9 _ _ hul0_2 _ _ (unk30_3 ..)), hq9]; cbv)
    | (rewrite [(h9 _ _ hul0_2 _ _ (unk30_3 ..))]; generalize hq9 : g9 _ _ _ _ _ = o; rcases o with _ | _ | _ <;> cbv)
    | (rewrite [(h9 _ _ (unI_1 ..) _ _ hul0_3), hq9]; cbv)
    | (rewrite [(h9 _ _ (unI_1 ..) _ _ hul0_3)]; generalize hq9 : g9 _ _ _ _ _ = o; rcases o with _ | _ | _ <;> cbv)
    | (rewrite [(h9 _ _ (unI_1 ..) _ _ (unk30_1 ..)), hq9]; cbv)
    | (rewrite [(h9 _ _ (unI_1 ..) _ _ (unk30_1 ..))]; generalize hq9 : g9 _ _ _ _ _ = o; rcases o with _ | _ | _ <;> cbv)
    | (rewrite [(h9 _ _ (unI_1 ..) _ _ (unk30_2 ..)), hq9]; cbv)
    | (rewrite [(h9 _ _ (unI_1 ..) _ _ (unk30_2 ..))]; generalize hq9 : g9 _ _ _ _ _ = o; rcases o with _ | _ | _ <;> cbv)
    | (rewrite [(h9 _ _ (unI_1 ..) _ _ (unk30_3 ..)), hq9]; cbv)
    | (rewrite [(h9 _ _ (unI_1 ..) _ _ (unk30_3 ..))]; generalize hq9 : g9 _ _ _ _ _ = o; rcases o with _ | _ | _ <;> cbv)
    | (rewrite [(h9 _ _ (unI_2 ..) _ _ hul0_3), hq9]; cbv)
    | (rewrite [(h9 _ _ (unI_2 ..) _ _ hul0_3)]; generalize hq9 : g9 _ _ _ _ _ = o; rcases o with _ | _ | _ <;> cbv)
    | (rewrite [(h9 _ _ (unI_2 ..) _ _ (unk30_1 ..)), hq9]; cbv)
    | (rewrite [(h9 _ _ (unI_2 ..) _ _ (unk30_1 ..))]; generalize hq9 : g9 _ _ _ _ _ = o; rcases o with _ | _ | _ <;> cbv)
    | (rewrite [(h9 _ _ (unI_2 ..) _ _ (unk30_2 ..)), hq9]; cbv)
    | (rewrite [(h9 _ _ (unI_2 ..) _ _ (unk30_2 ..))]; generalize hq9 : g9 _ _ _ _ _ = o; rcases o with _ | _ | _ <;> cbv)
    | (rewrite [(h9 _ _ (unI_2 ..) _ _ (unk30_3 ..)), hq9]; cbv)
    | (rewrite [(h9 _ _ (unI_2 ..) _ _ (unk30_3 ..))]; generalize hq9 : g9 _ _ _ _ _ = o; rcases o with _ | _ | _ <;> cbv)
    | (rewrite [(h9 _ _ (unI_3 ..) _ _ hul0_3), hq9]; cbv)
    | (rewrite [(h9 _ _ (unI_3 ..) _ _ hul0_3)]; generalize hq9 : g9 _ _ _ _ _ = o; rcases o with _ | _ | _ <;> cbv)
    | (rewrite [(h9 _ _ (unI_3 ..) _ _ (unk30_1 ..)), hq9]; cbv)
    | (rewrite [(h9 _ _ (unI_3 ..) _ _ (unk30_1 ..))]; generalize hq9 : g9 _ _ _ _ _ = o; rcases o with _ | _ | _ <;> cbv)
    | (rewrite [(h9 _ _ (unI_3 ..) _ _ (unk30_2 ..)), hq9]; cbv)
    | (rewrite [(h9 _ _ (unI_3 ..) _ _ (unk30_2 ..))]; generalize hq9 : g9 _ _ _ _ _ = o; rcases o with _ | _ | _ <;> cbv)
    | (rewrite [(h9 _ _ (unI_3 ..) _ _ (unk30_3 ..)), hq9]; cbv)
    | (rewrite [(h9 _ _ (unI_3 ..) _ _ (unk30_3 ..))]; generalize hq9 : g9 _ _ _ _ _ = o; rcases o with _ | _ | _ <;> cbv)
    | (rewrite [(h9 _ _ (unI_4 ..) _ _ hul0_3), hq9]; cbv)
    | (rewrite [(h9 _ _ (unI_4 ..) _ _ hul0_3)]; generalize hq9 : g9 _ _ _ _ _ = o; rcases o with _ | _ | _ <;> cbv)
    | (rewrite [(h9 _ _ (unI_4 ..) _ _ (unk30_1 ..)), hq9]; cbv)
    | (rewrite [(h9 _ _ (unI_4 ..) _ _ (unk30_1 ..))]; generalize hq9 : g9 _ _ _ _ _ = o; rcases o with _ | _ | _ <;> cbv)
    | (rewrite [(h9 _ _ (unI_4 ..) _ _ (unk30_2 ..)), hq9]; cbv)
    | (rewrite [(h9 _ _ (unI_4 ..) _ _ (unk30_2 ..))]; generalize hq9 : g9 _ _ _ _ _ = o; rcases o with _ | _ | _ <;> cbv)
    | (rewrite [(h9 _ _ (unI_4 ..) _ _ (unk30_3 ..)), hq9]; cbv)
    | (rewrite [(h9 _ _ (unI_4 ..) _ _ (unk30_3 ..))]; generalize hq9 : g9 _ _ _ _ _ = o; rcases o with _ | _ | _ <;> cbv)
    | (rewrite [(h9 _ _ (unI_5 ..) _ _ hul0_3), hq9]; cbv)
    | (rewrite [(h9 _ _ (unI_5 ..) _ _ hul0_3)]; generalize hq9 : g9 _ _ _ _ _ = o; rcases o with _ | _ | _ <;> cbv)
    | (rewrite [(h9 _ _ (unI_5 ..) _ _ (unk30_1 ..)), hq9]; cbv)
    | (rewrite [(h9 _ _ (unI_5 ..) _ _ (unk30_1 ..))]; generalize hq9 : g9 _ _ _ _ _ = o; rcases o with _ | _ | _ <;> cbv)
    | (rewrite [(h9 _ _ (unI_5 ..) _ _ (unk30_2 ..)), hq9]; cbv)
    | (rewrite [(h9 _ _ (unI_5 ..) _ _ (unk30_2 ..))]; generalize hq9 : g9 _ _ _ _ _ = o; rcases o with _ | _ | _ <;> cbv)
    | (rewrite [(h9 _ _ (unI_5 ..) _ _ (unk30_3 ..)), hq9]; cbv)
    | (rewrite [(h9 _ _ (unI_5 ..) _ _ (unk30_3 ..))]; generalize hq9 : g9 _ _ _ _ _ = o; rcases o with _ | _ | _ <;> cbv)
    | (rewrite [(h12 _ _ hul0_2), hq12]; cbv)
    | (rewrite [(h12 _ _ hul0_2)]; generalize hq12 : g12 _ _ _ = o; rcases o with _ | _ | _ <;> cbv)
    | (rewrite [(h12 _ _ (unI_1 ..)), hq12]; cbv)
    | (rewrite [(h12 _ _ (unI_1 ..))]; generalize hq12 : g12 _ _ _ = o; rcases o with _ | _ | _ <;> cbv)
    | (rewrite [(h12 _ _ (unI_2 ..)), hq12]; cbv)
    | (rewrite [(h12 _ _ (unI_2 ..))]; generalize hq12 : g12 _ _ _ = o; rcases o with _ | _ | _ <;> cbv)
    | (rewrite [(h12 _ _ (unI_3 ..)), hq12]; cbv)
    | (rewrite [(h12 _ _ (unI_3 ..))]; generalize hq12 : g12 _ _ _ = o; rcases o with _ | _ | _ <;> cbv)
    | (rewrite [(h12 _ _ (unI_4 ..)), hq12]; cbv)
    | (rewrite [(h12 _ _ (unI_4 ..))]; generalize hq12 : g12 _ _ _ = o; rcases o with _ | _ | _ <;> cbv)
    | (rewrite [(h12 _ _ (unI_5 ..)), hq12]; cbv)
    | (rewrite [(h12 _ _ (unI_5 ..))]; generalize hq12 : g12 _ _ _ = o; rcases o with _ | _ | _ <;> cbv)
    | (rewrite [hgl0_2]; generalize hq : bl0_2 _ = o; cases o <;> first | (exact absurd (hq.symm.trans (by assumption : bl0_2 _ = true)) Bool.false_ne_true) | (exact absurd (hq.symm.trans (by assumption : bl0_2 _ = false)) (fun h => Bool.false_ne_true h.symm)) | cbv)
    | (rewrite [hgl0_3]; generalize hq : bl0_3 _ = o; cases o <;> first | (exact absurd (hq.symm.trans (by assumption : bl0_3 _ = true)) Bool.false_ne_true) | (exact absurd (hq.symm.trans (by assumption : bl0_3 _ = false)) (fun h => Bool.false_ne_true h.symm)) | cbv)
    | (rewrite [hok2]; generalize hq : ok2 _ _ = o; cases o <;> cbv)
    | (rewrite [hc2]; generalize hq : c2 _ _ _ = o; cases o <;> (rewrite [hcm] at hq; simp only [rc] at hq) <;> first | (exfalso; omega) | cbv)
    | (rewrite [hlp]; generalize hl : lp2 _ _ _ _ _ = o; revert o
       refine loop_rule hlp2 (fun (y : Int) st => ⟨(st.s.set 30 (V.sc (.int .i64 y))), st.h⟩) (fun n y => jacquardlaw13_right.l0 n l0_3 (l0_3.length : Int) y a0_0 a0_1 l0_2 l0_3 a0_4 = some r) (n := k + 8) (x := ?x30_2) ?hst (fun y h => by simp [jacquardlaw13_right.l0] at h) ?hq ?hn ?hs
       case hst => exact rfl
       case hq =>
         obtain rfl := c2_eq hcm
         obtain rfl := ok2_eq hokm
         subst e44 e9 e12 hR
         clear h44 h9 h12 hc2 hok2 hcm hokm hul0_2 hgl0_2 hul0_3 hgl0_3 hlp
         subst hcl0_2 hbl0_2 hpl0_2_0 hcl0_3 hbl0_3 hpl0_3_0 hpl0_3_1 hpl0_3_2 hpl0_3_3
         obtain ⟨rfl, rfl, rfl, rfl, rfl, rfl, rfl, rfl, rfl, rfl⟩ := eqsA hA
         clear hA
         try simp only [rl] at *
         try subst_vars
         try replace H := up8 (fun k => jacquardlaw13_right.mono _ _ _ _ _ k) k _ H
         try simp only [jacquardlaw13_right.f, beq_dec, bne_dec] at H
         repeat (first
           | (with_reducible first | replace H := le_bind (jacquardref13_Valid.le ..) H | replace H := le_ap (jacquardref13_Valid.le ..) H)
           | (with_reducible first | replace H := le_bind (jacquardref12_Shape.le ..) H | replace H := le_ap (jacquardref12_Shape.le ..) H)
           | (simp [jacquardlaw13_right.j0, beq_dec, bne_dec, *] at H; done)
           | (simp [jacquardlaw13_right.j0, beq_dec, bne_dec, *] at H)
           | (rw [if_pos (by omega)] at H)
           | (rw [if_neg (by omega)] at H)
           | (have hc := And.left H; replace H := And.right H; try (exfalso; clear H; omega)))
         all_goals first | exact H | exact le_ap (le_of_le (g := fun k => jacquardlaw13_right.l0 k _ _ _ _ _ _ _ _) (fun k => (jacquardlaw13_right.mono_l k).2 _ _ _ _ _ _ _ _) (by omega)) H | (rw [hq]; exact le_ap (le_of_le (g := fun k => jacquardlaw13_right.l0 k _ _ _ _ _ _ _ _) (fun k => (jacquardlaw13_right.mono_l k).2 _ _ _ _ _ _ _ _) (by omega)) H) | (simp_all; done)
       case hn => omega
       case' hs =>
         clear H
         intro m nx x30_2 hnx H
         all_goals cbv))
  all_goals
    obtain rfl := c2_eq hcm
    obtain rfl := ok2_eq hokm
    subst e44 e9 e12 hR
    clear h44 h9 h12 hc2 hok2 hcm hokm hul0_2 hgl0_2 hul0_3 hgl0_3 hlp
    subst hcl0_2 hbl0_2 hpl0_2_0 hcl0_3 hbl0_3 hpl0_3_0 hpl0_3_1 hpl0_3_2 hpl0_3_3
    obtain ⟨rfl, rfl, rfl, rfl, rfl, rfl, rfl, rfl, rfl, rfl⟩ := eqsA hA
    clear hA
    try simp only [rl] at *
    try (exact hnx (_) H)
    try replace hnx : Go.RowKit.Hid _ := hnx
    try subst_vars
    try replace H := up8 (fun k => jacquardlaw13_right.mono _ _ _ _ _ k) k _ H
    try simp only [jacquardlaw13_right.f, beq_dec, bne_dec] at H
    try simp only [jacquardlaw13_right.l0, beq_dec, bne_dec] at H
    repeat (first
      | (with_reducible replace H := le_ap (up8 (g := fun k => jacquardlaw13_right.j0 k _ _ _ _ _ _) (fun k => (jacquardlaw13_right.mono_l k).1 _ _ _ _ _ _) m) H)
      | (with_reducible first | replace H := le_bind (jacquardref13_Valid.le ..) H | replace H := le_ap (jacquardref13_Valid.le ..) H)
      | (with_reducible first | replace H := le_bind (jacquardref12_Shape.le ..) H | replace H := le_ap (jacquardref12_Shape.le ..) H)
      | (simp [beq_dec, bne_dec, *] at H; done)
      | (simp [beq_dec, bne_dec, *] at H)
      | (rw [if_pos (by omega)] at H)
      | (rw [if_neg (by omega)] at H)
      | (simp [jacquardlaw13_right.j0, beq_dec, bne_dec, *] at H; done)
      | (simp [jacquardlaw13_right.j0, beq_dec, bne_dec, *] at H)
      | (rw [if_pos (by omega)] at H)
      | (rw [if_neg (by omega)] at H)
      | (have hc := And.left H; replace H := And.right H; try (exfalso; clear H; (try clear hnx); omega)))
  all_goals first
    | (exact hnx.out _ H)
    | (rw [← hq] at H; exact hnx.out _ H)
    | (subst H; rfl)
    | (subst H; simp; done)
    | (cases H; rfl)
    | (exfalso; clear H; (try clear hnx); omega)
    | (exfalso; clear H; (try clear hnx); simp only [natCast_eq] at *; omega)
    | (simp only [*] at hq44; simp [*] at H; done)
    | (simp only [*] at hq44; simp [*] at H; subst H; first | rfl | (simp; done))
    | (simp only [*] at hq9; simp [*] at H; done)
    | (simp only [*] at hq9; simp [*] at H; subst H; first | rfl | (simp; done))
    | (simp only [*] at hq12; simp [*] at H; done)
    | (simp only [*] at hq12; simp [*] at H; subst H; first | rfl | (simp; done))
    | (simp only [*] at hq44; simp [*] at H; (with_reducible first | replace H := le_bind (jacquardref13_Valid.le ..) H | replace H := le_bind (jacquardref12_Shape.le ..) H); simp [*] at H; done)
    | (simp only [*] at hq44; simp [*] at H; (with_reducible first | replace H := le_bind (jacquardref13_Valid.le ..) H | replace H := le_bind (jacquardref12_Shape.le ..) H); simp [*] at H; subst H; first | rfl | (simp; done))
    | (simp only [*] at hq9; simp [*] at H; (with_reducible first | replace H := le_bind (jacquardref13_Valid.le ..) H | replace H := le_bind (jacquardref12_Shape.le ..) H); simp [*] at H; done)
    | (simp only [*] at hq9; simp [*] at H; (with_reducible first | replace H := le_bind (jacquardref13_Valid.le ..) H | replace H := le_bind (jacquardref12_Shape.le ..) H); simp [*] at H; subst H; first | rfl | (simp; done))
    | (simp only [*] at hq12; simp [*] at H; (with_reducible first | replace H := le_bind (jacquardref13_Valid.le ..) H | replace H := le_bind (jacquardref12_Shape.le ..) H); simp [*] at H; done)
    | (simp only [*] at hq12; simp [*] at H; (with_reducible first | replace H := le_bind (jacquardref13_Valid.le ..) H | replace H := le_bind (jacquardref12_Shape.le ..) H); simp [*] at H; subst H; first | rfl | (simp; done))
    | (subst H; simp [beq_dec, bne_dec, *]; done)
    | (simp_all [beq_dec, bne_dec]; done)
    | (simp_all [beq_dec, bne_dec]; subst H; first | rfl | (simp; done) | (simp [*]; done))
set_option maxRecDepth 100000 in
set_option maxHeartbeats 40000000 in
theorem interval_computer_times.ev (s0_0 : Int) (s0_1 : Int) (s0_2 : Int) (s0_3 : Int) (s0_4 : Int) (s0_5 : Int) (s0_6 : Int) (s0_7 : Int) (a1 : Int) (a2 : Int) (r : Int × Bool) (H : interval_computer_times.f s0_0 s0_1 s0_2 s0_3 s0_4 s0_5 s0_6 s0_7 a1 a2 = some r)
  (g84 : _) (e84 : g84 = interval_computer_within.f) (h84 : interval_computer_within.Is K g84)
  : evFn ⟨tys, ⟨op, ok, cmp, neg, not, wrap, mn', mx', idx, len, get, cut, app, byte⟩, lp⟩ (k + 8) K h82 Try.f82 [V.ptr 0 0, V.sc (.int .i64 a1), V.sc (.int .i64 a2)] [[V.sc (.int .i64 s0_0), V.sc (.int .u64 s0_1), V.sc (.int .i64 s0_2), V.sc (.int .i64 s0_3), V.sc (.int .u64 s0_4), V.sc (.int .u64 s0_5), V.sc (.int .i64 s0_6), V.sc (.int .i64 s0_7)]] = some (V.tup [V.sc (.int .i64 r.1), V.sc (.bool r.2)], [[V.sc (.int .i64 s0_0), V.sc (.int .u64 s0_1), V.sc (.int .i64 s0_2), V.sc (.int .i64 s0_3), V.sc (.int .u64 s0_4), V.sc (.int .u64 s0_5), V.sc (.int .i64 s0_6), V.sc (.int .i64 s0_7)]]) := by
  generalize hR : some (V.tup [V.sc (.int .i64 r.1), V.sc (.bool r.2)], [[V.sc (.int .i64 s0_0), V.sc (.int .u64 s0_1), V.sc (.int .i64 s0_2), V.sc (.int .i64 s0_3), V.sc (.int .u64 s0_4), V.sc (.int .u64 s0_5), V.sc (.int .i64 s0_6), V.sc (.int .i64 s0_7)]]) = R
  have hcm := rcm hA hc2
  have hokm := rok hA hok2
  all_goals cbv
  all_goals repeat' (first
    | (rewrite [h84, hq84]; cbv)
    | (rewrite [h84]; generalize hq84 : g84 _ _ _ _ _ _ _ _ _ = o; rcases o with _ | _ | _ <;> cbv)
    | (rewrite [hok2]; generalize hq : ok2 _ _ = o; cases o <;> cbv)
    | (rewrite [hc2]; generalize hq : c2 _ _ _ = o; cases o <;> (rewrite [hcm] at hq; simp only [rc] at hq) <;> first | (exfalso; omega) | cbv))
  all_goals
    obtain rfl := c2_eq hcm
    obtain rfl := ok2_eq hokm
    subst e84 hR
    clear h84 hc2 hok2 hcm hokm
    obtain ⟨rfl, rfl, rfl, rfl, rfl, rfl, rfl, rfl, rfl, rfl⟩ := eqsA hA
    clear hA
    try simp only [rl] at *
    try subst_vars
    try simp only [interval_computer_times.f, beq_dec, bne_dec] at H
    repeat (first
      | (simp [beq_dec, bne_dec, *] at H; done)
      | (simp [beq_dec, bne_dec, *] at H)
      | (rw [if_pos (by omega)] at H)
      | (rw [if_neg (by omega)] at H)
      | (have hc := And.left H; replace H := And.right H; try (exfalso; clear H; omega)))
  all_goals first
    | (subst H; rfl)
    | (subst H; simp; done)
    | (cases H; rfl)
    | (exfalso; clear H; omega)
    | (subst H; simp [beq_dec, bne_dec, *]; done)
    | (simp_all [beq_dec, bne_dec]; done)
    | (simp_all [beq_dec, bne_dec]; subst H; first | rfl | (simp; done) | (simp [*]; done))
set_option maxRecDepth 100000 in
set_option maxHeartbeats 40000000 in
theorem bits_shift.ev (a0 : Int) (a1 : Int) (a2 : Int) (a3 : Int) (r : Int) (H : bits_shift.f a0 a1 a2 a3 = some r)
  (g73 : _) (e73 : g73 = bits_negative.f) (h73 : bits_negative.Is K g73)
  (g26 : _) (e26 : g26 = bits_Mask.f) (h26 : bits_Mask.Is K g26)
  (g37 : _) (e37 : g37 = bits_Fit.f) (h37 : bits_Fit.Is K g37)
  (g38 : _) (e38 : g38 = bits_Signed.f) (h38 : bits_Signed.Is K g38)
  (g48 : _) (e48 : g48 = bits_From.f) (h48 : bits_From.Is K g48)
  : evFn ⟨tys, ⟨op, ok, cmp, neg, not, wrap, mn', mx', idx, len, get, cut, app, byte⟩, lp⟩ (k + 8) K h75 Try.f75 [V.sc (.int .i64 a0), V.sc (.int .i64 a1), V.sc (.int .u64 a2), V.sc (.int .u64 a3)] [] = some (V.sc (.int .u64 r), []) := by
  generalize hR : some (V.sc (.int .u64 r), ([] : Heap)) = R
  have hcm := rcm hA hc2
  have hokm := rok hA hok2
  all_goals cbv
  all_goals repeat' (first
    | (rewrite [h73, hq73]; cbv)
    | (rewrite [h73]; generalize hq73 : g73 _ _ = o; rcases o with _ | _ | _ <;> cbv)
    | (rewrite [h26, hq26]; cbv)
    | (rewrite [h26]; generalize hq26 : g26 _ = o; rcases o with _ | _ <;> cbv)
    | (rewrite [h37, hq37]; cbv)
    | (rewrite [h37]; generalize hq37 : g37 _ _ = o; rcases o with _ | _ <;> cbv)
    | (rewrite [h38, hq38]; cbv)
    | (rewrite [h38]; generalize hq38 : g38 _ _ = o; rcases o with _ | _ <;> cbv)
    | (rewrite [h48, hq48]; cbv)
    | (rewrite [h48]; generalize hq48 : g48 _ _ = o; rcases o with _ | _ <;> cbv)
    | (rewrite [hok2]; generalize hq : ok2 _ _ = o; cases o <;> cbv)
    | (rewrite [hc2]; generalize hq : c2 _ _ _ = o; cases o <;> (rewrite [hcm] at hq; simp only [rc] at hq) <;> first | (exfalso; omega) | cbv))
  all_goals
    obtain rfl := c2_eq hcm
    obtain rfl := ok2_eq hokm
    subst e73 e26 e37 e38 e48 hR
    clear h73 h26 h37 h38 h48 hc2 hok2 hcm hokm
    obtain ⟨rfl, rfl, rfl, rfl, rfl, rfl, rfl, rfl, rfl, rfl⟩ := eqsA hA
    clear hA
    try simp only [rl] at *
    try subst_vars
    try simp only [bits_shift.f, beq_dec, bne_dec] at H
    repeat (first
      | (simp [beq_dec, bne_dec, *] at H; done)
      | (simp [beq_dec, bne_dec, *] at H)
      | (rw [if_pos (by omega)] at H)
      | (rw [if_neg (by omega)] at H)
      | (have hc := And.left H; replace H := And.right H; try (exfalso; clear H; omega)))
  all_goals first
    | (subst H; rfl)
    | (subst H; simp; done)
    | (cases H; rfl)
    | (exfalso; clear H; omega)
    | (subst H; simp [beq_dec, bne_dec, *]; done)
    | (simp_all [beq_dec, bne_dec]; done)
    | (simp_all [beq_dec, bne_dec]; subst H; first | rfl | (simp; done) | (simp [*]; done))
set_option maxRecDepth 100000 in
set_option maxHeartbeats 40000000 in
theorem bits_Signed.ev (a0 : Int) (a1 : Int) (r : Int) (H : bits_Signed.f a0 a1 = some r)
  (g37 : _) (e37 : g37 = bits_Fit.f) (h37 : bits_Fit.Is K g37)
  (g73 : _) (e73 : g73 = bits_negative.f) (h73 : bits_negative.Is K g73)
  (g26 : _) (e26 : g26 = bits_Mask.f) (h26 : bits_Mask.Is K g26)
  : evFn ⟨tys, ⟨op, ok, cmp, neg, not, wrap, mn', mx', idx, len, get, cut, app, byte⟩, lp⟩ (k + 8) K h38 Try.f38 [V.sc (.int .i64 a0), V.sc (.int .u64 a1)] [] = some (V.sc (.int .i64 r), []) := by
  generalize hR : some (V.sc (.int .i64 r), ([] : Heap)) = R
  have hcm := rcm hA hc2
  have hokm := rok hA hok2
  all_goals cbv
  all_goals repeat' (first
    | (rewrite [h37, hq37]; cbv)
    | (rewrite [h37]; generalize hq37 : g37 _ _ = o; rcases o with _ | _ <;> cbv)
    | (rewrite [h73, hq73]; cbv)
    | (rewrite [h73]; generalize hq73 : g73 _ _ = o; rcases o with _ | _ | _ <;> cbv)
    | (rewrite [h26, hq26]; cbv)
    | (rewrite [h26]; generalize hq26 : g26 _ = o; rcases o with _ | _ <;> cbv)
    | (rewrite [hok2]; generalize hq : ok2 _ _ = o; cases o <;> cbv)
    | (rewrite [hc2]; generalize hq : c2 _ _ _ = o; cases o <;> (rewrite [hcm] at hq; simp only [rc] at hq) <;> first | (exfalso; omega) | cbv))
  all_goals
    obtain rfl := c2_eq hcm
    obtain rfl := ok2_eq hokm
    subst e37 e73 e26 hR
    clear h37 h73 h26 hc2 hok2 hcm hokm
    obtain ⟨rfl, rfl, rfl, rfl, rfl, rfl, rfl, rfl, rfl, rfl⟩ := eqsA hA
    clear hA
    try simp only [rl] at *
    try subst_vars
    try simp only [bits_Signed.f, beq_dec, bne_dec] at H
    repeat (first
      | (simp [beq_dec, bne_dec, *] at H; done)
      | (simp [beq_dec, bne_dec, *] at H)
      | (rw [if_pos (by omega)] at H)
      | (rw [if_neg (by omega)] at H)
      | (have hc := And.left H; replace H := And.right H; try (exfalso; clear H; omega)))
  all_goals first
    | (subst H; rfl)
    | (subst H; simp; done)
    | (cases H; rfl)
    | (exfalso; clear H; omega)
    | (subst H; simp [beq_dec, bne_dec, *]; done)
    | (simp_all [beq_dec, bne_dec]; done)
    | (simp_all [beq_dec, bne_dec]; subst H; first | rfl | (simp; done) | (simp [*]; done))
set_option maxRecDepth 100000 in
set_option maxHeartbeats 40000000 in
theorem interval_computer_within.ev (s0_0 : Int) (s0_1 : Int) (s0_2 : Int) (s0_3 : Int) (s0_4 : Int) (s0_5 : Int) (s0_6 : Int) (s0_7 : Int) (a1 : Int) (r : Bool) (H : interval_computer_within.f s0_0 s0_1 s0_2 s0_3 s0_4 s0_5 s0_6 s0_7 a1 = some r)
  : evFn ⟨tys, ⟨op, ok, cmp, neg, not, wrap, mn', mx', idx, len, get, cut, app, byte⟩, lp⟩ (k + 8) K h84 Try.f84 [V.ptr 0 0, V.sc (.int .i64 a1)] [[V.sc (.int .i64 s0_0), V.sc (.int .u64 s0_1), V.sc (.int .i64 s0_2), V.sc (.int .i64 s0_3), V.sc (.int .u64 s0_4), V.sc (.int .u64 s0_5), V.sc (.int .i64 s0_6), V.sc (.int .i64 s0_7)]] = some (V.sc (.bool r), [[V.sc (.int .i64 s0_0), V.sc (.int .u64 s0_1), V.sc (.int .i64 s0_2), V.sc (.int .i64 s0_3), V.sc (.int .u64 s0_4), V.sc (.int .u64 s0_5), V.sc (.int .i64 s0_6), V.sc (.int .i64 s0_7)]]) := by
  generalize hR : some (V.sc (.bool r), [[V.sc (.int .i64 s0_0), V.sc (.int .u64 s0_1), V.sc (.int .i64 s0_2), V.sc (.int .i64 s0_3), V.sc (.int .u64 s0_4), V.sc (.int .u64 s0_5), V.sc (.int .i64 s0_6), V.sc (.int .i64 s0_7)]]) = R
  have hcm := rcm hA hc2
  have hokm := rok hA hok2
  all_goals cbv
  all_goals repeat' (first
    | (rewrite [hok2]; generalize hq : ok2 _ _ = o; cases o <;> cbv)
    | (rewrite [hc2]; generalize hq : c2 _ _ _ = o; cases o <;> (rewrite [hcm] at hq; simp only [rc] at hq) <;> first | (exfalso; omega) | cbv))
  all_goals
    obtain rfl := c2_eq hcm
    obtain rfl := ok2_eq hokm
    subst  hR
    clear hc2 hok2 hcm hokm
    obtain ⟨rfl, rfl, rfl, rfl, rfl, rfl, rfl, rfl, rfl, rfl⟩ := eqsA hA
    clear hA
    try simp only [rl] at *
    try subst_vars
    try simp only [interval_computer_within.f, beq_dec, bne_dec] at H
    repeat (first
      | (simp [beq_dec, bne_dec, *] at H; done)
      | (simp [beq_dec, bne_dec, *] at H)
      | (rw [if_pos (by omega)] at H)
      | (rw [if_neg (by omega)] at H)
      | (have hc := And.left H; replace H := And.right H; try (exfalso; clear H; omega)))
  all_goals first
    | (subst H; rfl)
    | (subst H; simp; done)
    | (cases H; rfl)
    | (exfalso; clear H; omega)
    | (subst H; simp [beq_dec, bne_dec, *]; done)
    | (simp_all [beq_dec, bne_dec]; done)
    | (simp_all [beq_dec, bne_dec]; subst H; first | rfl | (simp; done) | (simp [*]; done))
set_option maxRecDepth 100000 in
set_option maxHeartbeats 40000000 in
theorem bits_From.ev (a0 : Int) (a1 : Int) (r : Int) (H : bits_From.f a0 a1 = some r)
  (g37 : _) (e37 : g37 = bits_Fit.f) (h37 : bits_Fit.Is K g37)
  : evFn ⟨tys, ⟨op, ok, cmp, neg, not, wrap, mn', mx', idx, len, get, cut, app, byte⟩, lp⟩ (k + 8) K h48 Try.f48 [V.sc (.int .i64 a0), V.sc (.int .i64 a1)] [] = some (V.sc (.int .u64 r), []) := by
  generalize hR : some (V.sc (.int .u64 r), ([] : Heap)) = R
  have hcm := rcm hA hc2
  have hokm := rok hA hok2
  all_goals cbv
  all_goals repeat' (first
    | (rewrite [h37, hq37]; cbv)
    | (rewrite [h37]; generalize hq37 : g37 _ _ = o; rcases o with _ | _ <;> cbv)
    | (rewrite [hok2]; generalize hq : ok2 _ _ = o; cases o <;> cbv)
    | (rewrite [hc2]; generalize hq : c2 _ _ _ = o; cases o <;> (rewrite [hcm] at hq; simp only [rc] at hq) <;> first | (exfalso; omega) | cbv))
  all_goals
    obtain rfl := c2_eq hcm
    obtain rfl := ok2_eq hokm
    subst e37 hR
    clear h37 hc2 hok2 hcm hokm
    obtain ⟨rfl, rfl, rfl, rfl, rfl, rfl, rfl, rfl, rfl, rfl⟩ := eqsA hA
    clear hA
    try simp only [rl] at *
    try subst_vars
    try simp only [bits_From.f, beq_dec, bne_dec] at H
    repeat (first
      | (simp [beq_dec, bne_dec, *] at H; done)
      | (simp [beq_dec, bne_dec, *] at H)
      | (rw [if_pos (by omega)] at H)
      | (rw [if_neg (by omega)] at H)
      | (have hc := And.left H; replace H := And.right H; try (exfalso; clear H; omega)))
  all_goals first
    | (subst H; rfl)
    | (subst H; simp; done)
    | (cases H; rfl)
    | (exfalso; clear H; omega)
    | (subst H; simp [beq_dec, bne_dec, *]; done)
    | (simp_all [beq_dec, bne_dec]; done)
    | (simp_all [beq_dec, bne_dec]; subst H; first | rfl | (simp; done) | (simp [*]; done))
set_option maxRecDepth 100000 in
set_option maxHeartbeats 40000000 in
theorem interval_ends.ev (a0 : Int) (r : Int × Int) (H : interval_ends.f a0 = some r)
  : evFn ⟨tys, ⟨op, ok, cmp, neg, not, wrap, mn', mx', idx, len, get, cut, app, byte⟩, lp⟩ (k + 8) K h25 Try.f25 [V.sc (.int .i64 a0)] [] = some (V.tup [V.sc (.int .i64 r.1), V.sc (.int .i64 r.2)], []) := by
  generalize hR : some (V.tup [V.sc (.int .i64 r.1), V.sc (.int .i64 r.2)], ([] : Heap)) = R
  have hcm := rcm hA hc2
  have hokm := rok hA hok2
  all_goals cbv
  all_goals repeat' (first
    | (rewrite [hok2]; generalize hq : ok2 _ _ = o; cases o <;> cbv)
    | (rewrite [hc2]; generalize hq : c2 _ _ _ = o; cases o <;> (rewrite [hcm] at hq; simp only [rc] at hq) <;> first | (exfalso; omega) | cbv))
  all_goals
    obtain rfl := c2_eq hcm
    obtain rfl := ok2_eq hokm
    subst  hR
    clear hc2 hok2 hcm hokm
    obtain ⟨rfl, rfl, rfl, rfl, rfl, rfl, rfl, rfl, rfl, rfl⟩ := eqsA hA
    clear hA
    try simp only [rl] at *
    try subst_vars
    try simp only [interval_ends.f, beq_dec, bne_dec] at H
    repeat (first
      | (simp [beq_dec, bne_dec, *] at H; done)
      | (simp [beq_dec, bne_dec, *] at H)
      | (rw [if_pos (by omega)] at H)
      | (rw [if_neg (by omega)] at H)
      | (have hc := And.left H; replace H := And.right H; try (exfalso; clear H; omega)))
  all_goals first
    | (subst H; rfl)
    | (subst H; simp; done)
    | (cases H; rfl)
    | (exfalso; clear H; omega)
    | (subst H; simp [beq_dec, bne_dec, *]; done)
    | (simp_all [beq_dec, bne_dec]; done)
    | (simp_all [beq_dec, bne_dec]; subst H; first | rfl | (simp; done) | (simp [*]; done))
set_option maxRecDepth 100000 in
set_option maxHeartbeats 40000000 in
theorem jacquardref13_Umax.ev (a0 : Int) (r : Int) (H : jacquardref13_Umax.f k a0 = some r)
  (g13 : _) (e13 : g13 = jacquardref12_Mask.F) (h13 : jacquardref12_Mask.Is K g13)
  : evFn ⟨tys, ⟨op, ok, cmp, neg, not, wrap, mn', mx', idx, len, get, cut, app, byte⟩, lp⟩ (k + 8) K h45 Try.f45 [V.sc (.int .i64 a0)] [] = some (V.sc (.int .u64 r), []) := by
  generalize hR : some (V.sc (.int .u64 r), ([] : Heap)) = R
  have hcm := rcm hA hc2
  have hokm := rok hA hok2
  all_goals cbv
  all_goals repeat' (first
    | (rewrite [h13, hq13]; cbv)
    | (rewrite [h13]; generalize hq13 : g13 _ = o; rcases o with _ | _ <;> cbv)
    | (rewrite [hok2]; generalize hq : ok2 _ _ = o; cases o <;> cbv)
    | (rewrite [hc2]; generalize hq : c2 _ _ _ = o; cases o <;> (rewrite [hcm] at hq; simp only [rc] at hq) <;> first | (exfalso; omega) | cbv))
  all_goals
    obtain rfl := c2_eq hcm
    obtain rfl := ok2_eq hokm
    subst e13 hR
    clear h13 hc2 hok2 hcm hokm
    obtain ⟨rfl, rfl, rfl, rfl, rfl, rfl, rfl, rfl, rfl, rfl⟩ := eqsA hA
    clear hA
    try simp only [rl] at *
    try subst_vars
    try replace H := up8 (fun k => jacquardref13_Umax.mono _ k) k _ H
    try simp only [jacquardref13_Umax.f, beq_dec, bne_dec] at H
    repeat (first
      | (with_reducible first | replace H := le_bind (jacquardref12_Mask.le ..) H | replace H := le_ap (jacquardref12_Mask.le ..) H)
      | (simp [beq_dec, bne_dec, *] at H; done)
      | (simp [beq_dec, bne_dec, *] at H)
      | (rw [if_pos (by omega)] at H)
      | (rw [if_neg (by omega)] at H)
      | (have hc := And.left H; replace H := And.right H; try (exfalso; clear H; omega)))
  all_goals first
    | (subst H; rfl)
    | (subst H; simp; done)
    | (cases H; rfl)
    | (exfalso; clear H; omega)
    | (subst H; simp [beq_dec, bne_dec, *]; done)
    | (simp_all [beq_dec, bne_dec]; done)
    | (simp_all [beq_dec, bne_dec]; subst H; first | rfl | (simp; done) | (simp [*]; done))
end
end Go.Vm
