/- What the evaluator makes of the functions' code (69 s). -/
import Derived.Test.YtoddafkffchnjaaO
namespace Go.Vm
open Go.Proofs Go.Proofs.Ytoddafkffchnjaa Go.Proofs.Ytoddafkffchnjaa.P Go.RowKit Go.Proofs.YtoddafkffchnjaaW.PrintWords Go.Proofs.YtoddafkffchnjaaW.PrintLast Go.Proofs.YtoddafkffchnjaaW.PrintMore
set_option linter.unusedVariables false
set_option linter.unusedSimpArgs false
set_option linter.unusedSectionVars false
set_option linter.unusedVariables false
set_option linter.unusedSimpArgs false
section
variable {op : BinOp → IntKind → Int → Int → Int} {ok : BinOp → Int → Bool} {cmp : BinOp → Int → Int → Bool} {neg not wrap : IntKind → Int → Int} {mn' mx' : Int → Int → Int} {idx : Int → Option Nat}
  {len : List (List V) → Int} {get : List (List V) → Int → Option (List V)} {cut : Nat → List (List V) → Option V → Option V → Option (List (List V))} {app : Nat → Nat → List (List V) → List (List V) → Option (List (List V))} {byte : ByteArray → Int → Option Int}
  {lp : (St → Option (Ex × St)) → Nat → List Nat → Nat → St → Option (Ex × St)} {c2 : BinOp → Int → Int → Bool} {ok2 : BinOp → Int → Bool}
variable (hA : (⟨tys, ⟨op, ok, cmp, neg, not, wrap, mn', mx', idx, len, get, cut, app, byte⟩, lp⟩ : En) = ⟨tys, real, rounds⟩) (hc2 : ∀ o a b, cmp o a b = c2 o a b) (hok2 : ∀ o a, ok o a = ok2 o a) (k : Nat) (K : Oracle)
include hA hc2 hok2
set_option maxRecDepth 100000 in
set_option maxHeartbeats 40000000 in
theorem interval_computer_compare.ev (s0_0 : Int) (s0_1 : Int) (s0_2 : Int) (s0_3 : Int) (s0_4 : Int) (s0_5 : Int) (s0_6 : Int) (s0_7 : Int) (a1 : Int) (a2_0 : Int) (a2_1 : Int) (a2_2 : Int) (a2_3 : Int) (a3_0 : Int) (a3_1 : Int) (a3_2 : Int) (a3_3 : Int) (r : Int × Int × Int × Int × Int × Int × Int × Int) (H : interval_computer_compare.f k s0_0 s0_1 s0_2 s0_3 s0_4 s0_5 s0_6 s0_7 a1 a2_0 a2_1 a2_2 a2_3 a3_0 a3_1 a3_2 a3_3 = some r)
  (g85 : _) (e85 : g85 = interval_computer_truth.F) (h85 : interval_computer_truth.Is K g85)
  : evFn ⟨tys, ⟨op, ok, cmp, neg, not, wrap, mn', mx', idx, len, get, cut, app, byte⟩, lp⟩ (k + 8) K h61 Try.f61 [V.ptr 0 0, V.sc (.int .i64 a1), V.agg [V.sc (.int .u64 a2_0), V.sc (.int .u64 a2_1), V.sc (.int .i64 a2_2), V.sc (.int .i64 a2_3)], V.agg [V.sc (.int .u64 a3_0), V.sc (.int .u64 a3_1), V.sc (.int .i64 a3_2), V.sc (.int .i64 a3_3)]] [[V.sc (.int .i64 s0_0), V.sc (.int .u64 s0_1), V.sc (.int .i64 s0_2), V.sc (.int .i64 s0_3), V.sc (.int .u64 s0_4), V.sc (.int .u64 s0_5), V.sc (.int .i64 s0_6), V.sc (.int .i64 s0_7)]] = some (V.tup [], [[V.sc (.int .i64 r.1), V.sc (.int .u64 r.2.1), V.sc (.int .i64 r.2.2.1), V.sc (.int .i64 r.2.2.2.1), V.sc (.int .u64 r.2.2.2.2.1), V.sc (.int .u64 r.2.2.2.2.2.1), V.sc (.int .i64 r.2.2.2.2.2.2.1), V.sc (.int .i64 r.2.2.2.2.2.2.2)]]) := by
  generalize hR : some (V.tup [], [[V.sc (.int .i64 r.1), V.sc (.int .u64 r.2.1), V.sc (.int .i64 r.2.2.1), V.sc (.int .i64 r.2.2.2.1), V.sc (.int .u64 r.2.2.2.2.1), V.sc (.int .u64 r.2.2.2.2.2.1), V.sc (.int .i64 r.2.2.2.2.2.2.1), V.sc (.int .i64 r.2.2.2.2.2.2.2)]]) = R
  have hcm := rcm hA hc2
  have hokm := rok hA hok2
  all_goals cbv
  all_goals repeat' (first
    | (rewrite [h85, hq85]; cbv)
    | (rewrite [h85]; generalize hq85 : g85 _ _ _ _ _ _ _ _ _ _ = o; rcases o with _ | ⟨_, _, _, _, _, _, _, _⟩ <;> cbv)
    | (rewrite [hok2]; generalize hq : ok2 _ _ = o; cases o <;> cbv)
    | (rewrite [hc2]; generalize hq : c2 _ _ _ = o; cases o <;> (rewrite [hcm] at hq; simp only [rc] at hq) <;> first | (exfalso; omega) | cbv))
  all_goals
    obtain rfl := c2_eq hcm
    obtain rfl := ok2_eq hokm
    subst e85 hR
    clear h85 hc2 hok2 hcm hokm
    obtain ⟨rfl, rfl, rfl, rfl, rfl, rfl, rfl, rfl, rfl, rfl⟩ := eqsA hA
    clear hA
    try simp only [rl] at *
    try subst_vars
    try simp [beq_dec, bne_dec, *] at hq85
    try replace H := up8 (fun k => interval_computer_compare.mono _ _ _ _ _ _ _ _ _ _ _ _ _ _ _ _ _ k) k _ H
    try simp only [interval_computer_compare.f, beq_dec, bne_dec] at H
    repeat (first
      | (with_reducible first | replace H := le_bind (interval_computer_truth.le ..) H | replace H := le_ap (interval_computer_truth.le ..) H)
      | (simp [interval_computer_compare.j0, beq_dec, bne_dec, *] at H; done)
      | (simp [interval_computer_compare.j0, beq_dec, bne_dec, *] at H)
      | (rw [if_pos (by omega)] at H)
      | (rw [if_neg (by omega)] at H)
      | (have hc := And.left H; replace H := And.right H; try (exfalso; clear H; omega)))
  all_goals first
    | (subst H; rfl)
    | (subst H; simp; done)
    | (cases H; rfl)
    | (exfalso; clear H; omega)
    | (subst H; simp [beq_dec, bne_dec, *]; done)
    | (simp_all [beq_dec, bne_dec]; done)
    | (simp_all [beq_dec, bne_dec]; subst H; first | rfl | (simp; done) | (simp [*]; done))
set_option maxRecDepth 100000 in
set_option maxHeartbeats 40000000 in
theorem interval_Tighten.ev (a0 : Int) (a1_0 : Int) (a1_1 : Int) (a1_2 : Int) (a1_3 : Int) (r : Int × Int × Int × Int × Bool) (H : interval_Tighten.f k a0 a1_0 a1_1 a1_2 a1_3 = some r)
  (g38 : _) (e38 : g38 = bits_Signed.f) (h38 : bits_Signed.Is K g38)
  (g48 : _) (e48 : g48 = bits_From.f) (h48 : bits_From.Is K g48)
  (g18 : _) (e18 : g18 = interval_Valid.f) (h18 : interval_Valid.Is K g18)
  (g25 : _) (e25 : g25 = interval_ends.f) (h25 : interval_ends.Is K g25)
  : evFn ⟨tys, ⟨op, ok, cmp, neg, not, wrap, mn', mx', idx, len, get, cut, app, byte⟩, lp⟩ (k + 8) K h23 Try.f23 [V.sc (.int .i64 a0), V.agg [V.sc (.int .u64 a1_0), V.sc (.int .u64 a1_1), V.sc (.int .i64 a1_2), V.sc (.int .i64 a1_3)]] [] = some (V.tup [V.agg [V.sc (.int .u64 r.1), V.sc (.int .u64 r.2.1), V.sc (.int .i64 r.2.2.1), V.sc (.int .i64 r.2.2.2.1)], V.sc (.bool r.2.2.2.2)], []) := by
  generalize hR : some (V.tup [V.agg [V.sc (.int .u64 r.1), V.sc (.int .u64 r.2.1), V.sc (.int .i64 r.2.2.1), V.sc (.int .i64 r.2.2.2.1)], V.sc (.bool r.2.2.2.2)], ([] : Heap)) = R
  have hcm := rcm hA hc2
  have hokm := rok hA hok2
  all_goals cbv
  all_goals repeat' (first
    | (rewrite [h38, hq38]; cbv)
    | (rewrite [h38]; generalize hq38 : g38 _ _ = o; rcases o with _ | _ <;> cbv)
    | (rewrite [h48, hq48]; cbv)
    | (rewrite [h48]; generalize hq48 : g48 _ _ = o; rcases o with _ | _ <;> cbv)
    | (rewrite [h18, hq18]; cbv)
    | (rewrite [h18]; generalize hq18 : g18 _ _ _ _ _ = o; rcases o with _ | _ | _ <;> cbv)
    | (rewrite [h25, hq25]; cbv)
    | (rewrite [h25]; generalize hq25 : g25 _ = o; rcases o with _ | ⟨_, _⟩ <;> cbv)
    | (rewrite [hok2]; generalize hq : ok2 _ _ = o; cases o <;> cbv)
    | (rewrite [hc2]; generalize hq : c2 _ _ _ = o; cases o <;> (rewrite [hcm] at hq; simp only [rc] at hq) <;> first | (exfalso; omega) | cbv))
  all_goals
    obtain rfl := c2_eq hcm
    obtain rfl := ok2_eq hokm
    subst e38 e48 e18 e25 hR
    clear h38 h48 h18 h25 hc2 hok2 hcm hokm
    obtain ⟨rfl, rfl, rfl, rfl, rfl, rfl, rfl, rfl, rfl, rfl⟩ := eqsA hA
    clear hA
    try simp only [rl] at *
    try subst_vars
    try replace H := up8 (fun k => interval_Tighten.mono _ _ _ _ _ k) k _ H
    try simp only [interval_Tighten.f, beq_dec, bne_dec] at H
    repeat (first
      | (simp [interval_Tighten.j0, interval_Tighten.j1, interval_Tighten.j2, beq_dec, bne_dec, *] at H; done)
      | (simp [interval_Tighten.j0, interval_Tighten.j1, interval_Tighten.j2, beq_dec, bne_dec, *] at H)
      | (rw [if_pos (by omega)] at H)
      | (rw [if_neg (by omega)] at H)
      | (have hc := And.left H; replace H := And.right H; try (exfalso; clear H; omega)))
  all_goals first
    | (subst H; rfl)
    | (subst H; simp; done)
    | (cases H; rfl)
    | (exfalso; clear H; omega)
    | (subst H; simp [beq_dec, bne_dec, *]; done)
    | (simp_all [beq_dec, bne_dec]; done)
    | (simp_all [beq_dec, bne_dec]; subst H; first | rfl | (simp; done) | (simp [*]; done))
set_option maxRecDepth 100000 in
set_option maxHeartbeats 40000000 in
theorem jacquardlaw13_IntervalAgrees.ev (a0_0 : Int) (a0_1 : Int) (a1_0 : Int) (a1_1 : Int) (a2 : Int) (r : Bool) (H : jacquardlaw13_IntervalAgrees.f k a0_0 a0_1 a1_0 a1_1 a2 = some r)
  (g8 : _) (e8 : g8 = jacquardlaw13_awake.f) (h8 : jacquardlaw13_awake.Is K g8)
  (g10 : _) (e10 : g10 = interval_Apply.F) (h10 : interval_Apply.Is K g10)
  (g13 : _) (e13 : g13 = jacquardref12_Mask.F) (h13 : jacquardref12_Mask.Is K g13)
  : evFn ⟨tys, ⟨op, ok, cmp, neg, not, wrap, mn', mx', idx, len, get, cut, app, byte⟩, lp⟩ (k + 8) K h5 Try.f5 [V.agg [V.sc (.int .u16 a0_0), V.sc (.int .u16 a0_1)], V.agg [V.sc (.int .u16 a1_0), V.sc (.int .u16 a1_1)], V.sc (.int .i64 a2)] [] = some (V.sc (.bool r), []) := by
  generalize hR : some (V.sc (.bool r), ([] : Heap)) = R
  have hcm := rcm hA hc2
  have hokm := rok hA hok2
  all_goals cbv
  all_goals repeat' (first
    | (rewrite [h8, hq8]; cbv)
    | (rewrite [h8]; generalize hq8 : g8  = o; rcases o with _ | _ | _ <;> cbv)
    | (rewrite [(h10 _ _ (unI_1 ..) _ _ (unk30_1 ..)), hq10]; cbv)
    | (rewrite [(h10 _ _ (unI_1 ..) _ _ (unk30_1 ..))]; generalize hq10 : g10 _ _ _ _ _ = o; rcases o with _ | ⟨_, _, _, _⟩ <;> cbv)
    | (rewrite [(h10 _ _ (unI_1 ..) _ _ (unk30_2 ..)), hq10]; cbv)
    | (rewrite [(h10 _ _ (unI_1 ..) _ _ (unk30_2 ..))]; generalize hq10 : g10 _ _ _ _ _ = o; rcases o with _ | ⟨_, _, _, _⟩ <;> cbv)
    | (rewrite [(h10 _ _ (unI_1 ..) _ _ (unk30_3 ..)), hq10]; cbv)
    | (rewrite [(h10 _ _ (unI_1 ..) _ _ (unk30_3 ..))]; generalize hq10 : g10 _ _ _ _ _ = o; rcases o with _ | ⟨_, _, _, _⟩ <;> cbv)
    | (rewrite [(h10 _ _ (unI_2 ..) _ _ (unk30_1 ..)), hq10]; cbv)
    | (rewrite [(h10 _ _ (unI_2 ..) _ _ (unk30_1 ..))]; generalize hq10 : g10 _ _ _ _ _ = o; rcases o with _ | ⟨_, _, _, _⟩ <;> cbv)
    | (rewrite [(h10 _ _ (unI_2 ..) _ _ (unk30_2 ..)), hq10]; cbv)
    | (rewrite [(h10 _ _ (unI_2 ..) _ _ (unk30_2 ..))]; generalize hq10 : g10 _ _ _ _ _ = o; rcases o with _ | ⟨_, _, _, _⟩ <;> cbv)
    | (rewrite [(h10 _ _ (unI_2 ..) _ _ (unk30_3 ..)), hq10]; cbv)
    | (rewrite [(h10 _ _ (unI_2 ..) _ _ (unk30_3 ..))]; generalize hq10 : g10 _ _ _ _ _ = o; rcases o with _ | ⟨_, _, _, _⟩ <;> cbv)
    | (rewrite [(h10 _ _ (unI_3 ..) _ _ (unk30_1 ..)), hq10]; cbv)
    | (rewrite [(h10 _ _ (unI_3 ..) _ _ (unk30_1 ..))]; generalize hq10 : g10 _ _ _ _ _ = o; rcases o with _ | ⟨_, _, _, _⟩ <;> cbv)
    | (rewrite [(h10 _ _ (unI_3 ..) _ _ (unk30_2 ..)), hq10]; cbv)
    | (rewrite [(h10 _ _ (unI_3 ..) _ _ (unk30_2 ..))]; generalize hq10 : g10 _ _ _ _ _ = o; rcases o with _ | ⟨_, _, _, _⟩ <;> cbv)
    | (rewrite [(h10 _ _ (unI_3 ..) _ _ (unk30_3 ..)), hq10]; cbv)
    | (rewrite [(h10 _ _ (unI_3 ..) _ _ (unk30_3 ..))]; generalize hq10 : g10 _ _ _ _ _ = o; rcases o with _ | ⟨_, _, _, _⟩ <;> cbv)
    | (rewrite [(h10 _ _ (unI_4 ..) _ _ (unk30_1 ..)), hq10]; cbv)
    | (rewrite [(h10 _ _ (unI_4 ..) _ _ (unk30_1 ..))]; generalize hq10 : g10 _ _ _ _ _ = o; rcases o with _ | ⟨_, _, _, _⟩ <;> cbv)
    | (rewrite [(h10 _ _ (unI_4 ..) _ _ (unk30_2 ..)), hq10]; cbv)
    | (rewrite [(h10 _ _ (unI_4 ..) _ _ (unk30_2 ..))]; generalize hq10 : g10 _ _ _ _ _ = o; rcases o with _ | ⟨_, _, _, _⟩ <;> cbv)
    | (rewrite [(h10 _ _ (unI_4 ..) _ _ (unk30_3 ..)), hq10]; cbv)
    | (rewrite [(h10 _ _ (unI_4 ..) _ _ (unk30_3 ..))]; generalize hq10 : g10 _ _ _ _ _ = o; rcases o with _ | ⟨_, _, _, _⟩ <;> cbv)
    | (rewrite [(h10 _ _ (unI_5 ..) _ _ (unk30_1 ..)), hq10]; cbv)
    | (rewrite [(h10 _ _ (unI_5 ..) _ _ (unk30_1 ..))]; generalize hq10 : g10 _ _ _ _ _ = o; rcases o with _ | ⟨_, _, _, _⟩ <;> cbv)
    | (rewrite [(h10 _ _ (unI_5 ..) _ _ (unk30_2 ..)), hq10]; cbv)
    | (rewrite [(h10 _ _ (unI_5 ..) _ _ (unk30_2 ..))]; generalize hq10 : g10 _ _ _ _ _ = o; rcases o with _ | ⟨_, _, _, _⟩ <;> cbv)
    | (rewrite [(h10 _ _ (unI_5 ..) _ _ (unk30_3 ..)), hq10]; cbv)
    | (rewrite [(h10 _ _ (unI_5 ..) _ _ (unk30_3 ..))]; generalize hq10 : g10 _ _ _ _ _ = o; rcases o with _ | ⟨_, _, _, _⟩ <;> cbv)
    | (rewrite [h13, hq13]; cbv)
    | (rewrite [h13]; generalize hq13 : g13 _ = o; rcases o with _ | _ <;> cbv)
    | (rewrite [hok2]; generalize hq : ok2 _ _ = o; cases o <;> cbv)
    | (rewrite [hc2]; generalize hq : c2 _ _ _ = o; cases o <;> (rewrite [hcm] at hq; simp only [rc] at hq) <;> first | (exfalso; omega) | cbv))
  all_goals
    obtain rfl := c2_eq hcm
    obtain rfl := ok2_eq hokm
    subst e8 e10 e13 hR
    clear h8 h10 h13 hc2 hok2 hcm hokm
    obtain ⟨rfl, rfl, rfl, rfl, rfl, rfl, rfl, rfl, rfl, rfl⟩ := eqsA hA
    clear hA
    try simp only [rl] at *
    try subst_vars
    try replace H := up8 (fun k => jacquardlaw13_IntervalAgrees.mono _ _ _ _ _ k) k _ H
    try simp only [jacquardlaw13_IntervalAgrees.f, beq_dec, bne_dec] at H
    repeat (first
      | (with_reducible first | replace H := le_bind (interval_Apply.le ..) H | replace H := le_ap (interval_Apply.le ..) H)
      | (with_reducible first | replace H := le_bind (jacquardref12_Mask.le ..) H | replace H := le_ap (jacquardref12_Mask.le ..) H)
      | (simp [beq_dec, bne_dec, *] at H; done)
      | (simp [beq_dec, bne_dec, *] at H)
      | (rw [if_pos (by omega)] at H)
      | (rw [if_neg (by omega)] at H)
      | (have hc := And.left H; replace H := And.right H; try (exfalso; clear H; omega)))
  all_goals first
    | (subst H; rfl)
    | (subst H; simp; done)
    | (cases H; rfl)
    | (exfalso; clear H; omega)
    | (subst H; simp [beq_dec, bne_dec, *]; done)
    | (simp_all [beq_dec, bne_dec]; done)
    | (simp_all [beq_dec, bne_dec]; subst H; first | rfl | (simp; done) | (simp [*]; done))
set_option maxRecDepth 100000 in
set_option maxHeartbeats 40000000 in
theorem bits_shift.ev (a0 : Int) (a1 : Int) (a2 : Int) (a3 : Int) (r : Int) (H : bits_shift.f a0 a1 a2 a3 = some r)
  (g73 : _) (e73 : g73 = bits_negative.f) (h73 : bits_negative.Is K g73)
  (g26 : _) (e26 : g26 = bits_Mask.f) (h26 : bits_Mask.Is K g26)
  (g37 : _) (e37 : g37 = bits_Fit.f) (h37 : bits_Fit.Is K g37)
  (g38 : _) (e38 : g38 = bits_Signed.f) (h38 : bits_Signed.Is K g38)
  (g48 : _) (e48 : g48 = bits_From.f) (h48 : bits_From.Is K g48)
  : evFn ⟨tys, ⟨op, ok, cmp, neg, not, wrap, mn', mx', idx, len, get, cut, app, byte⟩, lp⟩ (k + 8) K h75 Try.f75 [V.sc (.int .i64 a0), V.sc (.int .i64 a1), V.sc (.int .u64 a2), V.sc (.int .u64 a3)] [] = some (V.sc (.int .u64 r), []) := by
  generalize hR : some (V.sc (.int .u64 r), ([] : Heap)) = R
  have hcm := rcm hA hc2
  have hokm := rok hA hok2
  all_goals cbv
  all_goals repeat' (first
    | (rewrite [h73, hq73]; cbv)
    | (rewrite [h73]; generalize hq73 : g73 _ _ = o; rcases o with _ | _ | _ <;> cbv)
    | (rewrite [h26, hq26]; cbv)
    | (rewrite [h26]; generalize hq26 : g26 _ = o; rcases o with _ | _ <;> cbv)
    | (rewrite [h37, hq37]; cbv)
    | (rewrite [h37]; generalize hq37 : g37 _ _ = o; rcases o with _ | _ <;> cbv)
    | (rewrite [h38, hq38]; cbv)
    | (rewrite [h38]; generalize hq38 : g38 _ _ = o; rcases o with _ | _ <;> cbv)
    | (rewrite [h48, hq48]; cbv)
    | (rewrite [h48]; generalize hq48 : g48 _ _ = o; rcases o with _ | _ <;> cbv)
    | (rewrite [hok2]; generalize hq : ok2 _ _ = o; cases o <;> cbv)
    | (rewrite [hc2]; generalize hq : c2 _ _ _ = o; cases o <;> (rewrite [hcm] at hq; simp only [rc] at hq) <;> first | (exfalso; omega) | cbv))
  all_goals
    obtain rfl := c2_eq hcm
    obtain rfl := ok2_eq hokm
    subst e73 e26 e37 e38 e48 hR
    clear h73 h26 h37 h38 h48 hc2 hok2 hcm hokm
    obtain ⟨rfl, rfl, rfl, rfl, rfl, rfl, rfl, rfl, rfl, rfl⟩ := eqsA hA
    clear hA
    try simp only [rl] at *
    try subst_vars
    try simp only [bits_shift.f, beq_dec, bne_dec] at H
    repeat (first
      | (simp [beq_dec, bne_dec, *] at H; done)
      | (simp [beq_dec, bne_dec, *] at H)
      | (rw [if_pos (by omega)] at H)
      | (rw [if_neg (by omega)] at H)
      | (have hc := And.left H; replace H := And.right H; try (exfalso; clear H; omega)))
  all_goals first
    | (subst H; rfl)
    | (subst H; simp; done)
    | (cases H; rfl)
    | (exfalso; clear H; omega)
    | (subst H; simp [beq_dec, bne_dec, *]; done)
    | (simp_all [beq_dec, bne_dec]; done)
    | (simp_all [beq_dec, bne_dec]; subst H; first | rfl | (simp; done) | (simp [*]; done))
set_option maxRecDepth 100000 in
set_option maxHeartbeats 40000000 in
theorem bits_Mul64.ev (a0 : Int) (a1 : Int) (r : Int × Int) (H : bits_Mul64.f a0 a1 = some r)
  : evFn ⟨tys, ⟨op, ok, cmp, neg, not, wrap, mn', mx', idx, len, get, cut, app, byte⟩, lp⟩ (k + 8) K h81 Try.f81 [V.sc (.int .u64 a0), V.sc (.int .u64 a1)] [] = some (V.tup [V.sc (.int .u64 r.1), V.sc (.int .u64 r.2)], []) := by
  generalize hR : some (V.tup [V.sc (.int .u64 r.1), V.sc (.int .u64 r.2)], ([] : Heap)) = R
  have hcm := rcm hA hc2
  have hokm := rok hA hok2
  all_goals cbv
  all_goals repeat' (first
    | (rewrite [hok2]; generalize hq : ok2 _ _ = o; cases o <;> cbv)
    | (rewrite [hc2]; generalize hq : c2 _ _ _ = o; cases o <;> (rewrite [hcm] at hq; simp only [rc] at hq) <;> first | (exfalso; omega) | cbv))
  all_goals
    obtain rfl := c2_eq hcm
    obtain rfl := ok2_eq hokm
    subst  hR
    clear hc2 hok2 hcm hokm
    obtain ⟨rfl, rfl, rfl, rfl, rfl, rfl, rfl, rfl, rfl, rfl⟩ := eqsA hA
    clear hA
    try simp only [rl] at *
    try subst_vars
    try simp only [bits_Mul64.f, beq_dec, bne_dec] at H
    repeat (first
      | (simp [beq_dec, bne_dec, *] at H; done)
      | (simp [beq_dec, bne_dec, *] at H)
      | (rw [if_pos (by omega)] at H)
      | (rw [if_neg (by omega)] at H)
      | (have hc := And.left H; replace H := And.right H; try (exfalso; clear H; omega)))
  all_goals first
    | (subst H; rfl)
    | (subst H; simp; done)
    | (cases H; rfl)
    | (exfalso; clear H; omega)
    | (subst H; simp [beq_dec, bne_dec, *]; done)
    | (simp_all [beq_dec, bne_dec]; done)
    | (simp_all [beq_dec, bne_dec]; subst H; first | rfl | (simp; done) | (simp [*]; done))
set_option maxRecDepth 100000 in
set_option maxHeartbeats 40000000 in
theorem bits_Extend.ev (a0 : Int) (a1 : Int) (a2 : Int) (a3 : Bool) (r : Int) (H : bits_Extend.f a0 a1 a2 a3 = some r)
  (g38 : _) (e38 : g38 = bits_Signed.f) (h38 : bits_Signed.Is K g38)
  (g48 : _) (e48 : g48 = bits_From.f) (h48 : bits_From.Is K g48)
  (g37 : _) (e37 : g37 = bits_Fit.f) (h37 : bits_Fit.Is K g37)
  : evFn ⟨tys, ⟨op, ok, cmp, neg, not, wrap, mn', mx', idx, len, get, cut, app, byte⟩, lp⟩ (k + 8) K h49 Try.f49 [V.sc (.int .i64 a0), V.sc (.int .i64 a1), V.sc (.int .u64 a2), V.sc (.bool a3)] [] = some (V.sc (.int .u64 r), []) := by
  generalize hR : some (V.sc (.int .u64 r), ([] : Heap)) = R
  have hcm := rcm hA hc2
  have hokm := rok hA hok2
  rcases a3 with _ | _
  all_goals cbv
  all_goals repeat' (first
    | (rewrite [h38, hq38]; cbv)
    | (rewrite [h38]; generalize hq38 : g38 _ _ = o; rcases o with _ | _ <;> cbv)
    | (rewrite [h48, hq48]; cbv)
    | (rewrite [h48]; generalize hq48 : g48 _ _ = o; rcases o with _ | _ <;> cbv)
    | (rewrite [h37, hq37]; cbv)
    | (rewrite [h37]; generalize hq37 : g37 _ _ = o; rcases o with _ | _ <;> cbv)
    | (rewrite [hok2]; generalize hq : ok2 _ _ = o; cases o <;> cbv)
    | (rewrite [hc2]; generalize hq : c2 _ _ _ = o; cases o <;> (rewrite [hcm] at hq; simp only [rc] at hq) <;> first | (exfalso; omega) | cbv))
  all_goals
    obtain rfl := c2_eq hcm
    obtain rfl := ok2_eq hokm
    subst e38 e48 e37 hR
    clear h38 h48 h37 hc2 hok2 hcm hokm
    obtain ⟨rfl, rfl, rfl, rfl, rfl, rfl, rfl, rfl, rfl, rfl⟩ := eqsA hA
    clear hA
    try simp only [rl] at *
    try subst_vars
    try simp only [bits_Extend.f, beq_dec, bne_dec] at H
    repeat (first
      | (simp [beq_dec, bne_dec, *] at H; done)
      | (simp [beq_dec, bne_dec, *] at H)
      | (rw [if_pos (by omega)] at H)
      | (rw [if_neg (by omega)] at H)
      | (have hc := And.left H; replace H := And.right H; try (exfalso; clear H; omega)))
  all_goals first
    | (subst H; rfl)
    | (subst H; simp; done)
    | (cases H; rfl)
    | (exfalso; clear H; omega)
    | (subst H; simp [beq_dec, bne_dec, *]; done)
    | (simp_all [beq_dec, bne_dec]; done)
    | (simp_all [beq_dec, bne_dec]; subst H; first | rfl | (simp; done) | (simp [*]; done))
set_option maxRecDepth 100000 in
set_option maxHeartbeats 40000000 in
theorem interval_good.ev (a0 : Int) (r : Bool) (H : interval_good.f a0 = some r)
  : evFn ⟨tys, ⟨op, ok, cmp, neg, not, wrap, mn', mx', idx, len, get, cut, app, byte⟩, lp⟩ (k + 8) K h36 Try.f36 [V.sc (.int .i64 a0)] [] = some (V.sc (.bool r), []) := by
  generalize hR : some (V.sc (.bool r), ([] : Heap)) = R
  have hcm := rcm hA hc2
  have hokm := rok hA hok2
  all_goals cbv
  all_goals repeat' (first
    | (rewrite [hok2]; generalize hq : ok2 _ _ = o; cases o <;> cbv)
    | (rewrite [hc2]; generalize hq : c2 _ _ _ = o; cases o <;> (rewrite [hcm] at hq; simp only [rc] at hq) <;> first | (exfalso; omega) | cbv))
  all_goals
    obtain rfl := c2_eq hcm
    obtain rfl := ok2_eq hokm
    subst  hR
    clear hc2 hok2 hcm hokm
    obtain ⟨rfl, rfl, rfl, rfl, rfl, rfl, rfl, rfl, rfl, rfl⟩ := eqsA hA
    clear hA
    try simp only [rl] at *
    try subst_vars
    try simp only [interval_good.f, beq_dec, bne_dec] at H
    repeat (first
      | (simp [beq_dec, bne_dec, *] at H; done)
      | (simp [beq_dec, bne_dec, *] at H)
      | (rw [if_pos (by omega)] at H)
      | (rw [if_neg (by omega)] at H)
      | (have hc := And.left H; replace H := And.right H; try (exfalso; clear H; omega)))
  all_goals first
    | (subst H; rfl)
    | (subst H; simp; done)
    | (cases H; rfl)
    | (exfalso; clear H; omega)
    | (subst H; simp [beq_dec, bne_dec, *]; done)
    | (simp_all [beq_dec, bne_dec]; done)
    | (simp_all [beq_dec, bne_dec]; subst H; first | rfl | (simp; done) | (simp [*]; done))
end
end Go.Vm
