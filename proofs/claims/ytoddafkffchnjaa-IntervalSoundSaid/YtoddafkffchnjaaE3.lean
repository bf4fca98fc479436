/- What the evaluator makes of the functions' code (103 s). -/
import Derived.Test.YtoddafkffchnjaaO
namespace Go.Vm
open Go.Proofs Go.Proofs.Ytoddafkffchnjaa Go.Proofs.Ytoddafkffchnjaa.P Go.RowKit Go.Proofs.YtoddafkffchnjaaW.PrintWords Go.Proofs.YtoddafkffchnjaaW.PrintLast Go.Proofs.YtoddafkffchnjaaW.PrintMore
set_option linter.unusedVariables false
set_option linter.unusedSimpArgs false
set_option linter.unusedSectionVars false
set_option linter.unusedVariables false
set_option linter.unusedSimpArgs false
section
variable {op : BinOp → IntKind → Int → Int → Int} {ok : BinOp → Int → Bool} {cmp : BinOp → Int → Int → Bool} {neg not wrap : IntKind → Int → Int} {mn' mx' : Int → Int → Int} {idx : Int → Option Nat}
  {len : List (List V) → Int} {get : List (List V) → Int → Option (List V)} {cut : Nat → List (List V) → Option V → Option V → Option (List (List V))} {app : Nat → Nat → List (List V) → List (List V) → Option (List (List V))} {byte : ByteArray → Int → Option Int}
  {lp : (St → Option (Ex × St)) → Nat → List Nat → Nat → St → Option (Ex × St)} {c2 : BinOp → Int → Int → Bool} {ok2 : BinOp → Int → Bool}
variable (hA : (⟨tys, ⟨op, ok, cmp, neg, not, wrap, mn', mx', idx, len, get, cut, app, byte⟩, lp⟩ : En) = ⟨tys, real, rounds⟩) (hc2 : ∀ o a b, cmp o a b = c2 o a b) (hok2 : ∀ o a, ok o a = ok2 o a) (k : Nat) (K : Oracle)
include hA hc2 hok2
set_option maxRecDepth 100000 in
set_option maxHeartbeats 40000000 in
theorem interval_computer_add.ev (s0_0 : Int) (s0_1 : Int) (s0_2 : Int) (s0_3 : Int) (s0_4 : Int) (s0_5 : Int) (s0_6 : Int) (s0_7 : Int) (a1_0 : Int) (a1_1 : Int) (a1_2 : Int) (a1_3 : Int) (a2_0 : Int) (a2_1 : Int) (a2_2 : Int) (a2_3 : Int) (r : Int × Int × Int × Int × Int × Int × Int × Int) (H : interval_computer_add.f k s0_0 s0_1 s0_2 s0_3 s0_4 s0_5 s0_6 s0_7 a1_0 a1_1 a1_2 a1_3 a2_0 a2_1 a2_2 a2_3 = some r)
  (g78 : _) (e78 : g78 = interval_computer_sum.f) (h78 : interval_computer_sum.Is K g78)
  (g79 : _) (e79 : g79 = interval_computer_s.f) (h79 : interval_computer_s.Is K g79)
  (g56 : _) (e56 : g56 = interval_computer_u.f) (h56 : interval_computer_u.Is K g56)
  (g77 : _) (e77 : g77 = bits_Add64.f) (h77 : bits_Add64.Is K g77)
  : evFn ⟨tys, ⟨op, ok, cmp, neg, not, wrap, mn', mx', idx, len, get, cut, app, byte⟩, lp⟩ (k + 8) K h52 Try.f52 [V.ptr 0 0, V.agg [V.sc (.int .u64 a1_0), V.sc (.int .u64 a1_1), V.sc (.int .i64 a1_2), V.sc (.int .i64 a1_3)], V.agg [V.sc (.int .u64 a2_0), V.sc (.int .u64 a2_1), V.sc (.int .i64 a2_2), V.sc (.int .i64 a2_3)]] [[V.sc (.int .i64 s0_0), V.sc (.int .u64 s0_1), V.sc (.int .i64 s0_2), V.sc (.int .i64 s0_3), V.sc (.int .u64 s0_4), V.sc (.int .u64 s0_5), V.sc (.int .i64 s0_6), V.sc (.int .i64 s0_7)]] = some (V.tup [], [[V.sc (.int .i64 r.1), V.sc (.int .u64 r.2.1), V.sc (.int .i64 r.2.2.1), V.sc (.int .i64 r.2.2.2.1), V.sc (.int .u64 r.2.2.2.2.1), V.sc (.int .u64 r.2.2.2.2.2.1), V.sc (.int .i64 r.2.2.2.2.2.2.1), V.sc (.int .i64 r.2.2.2.2.2.2.2)]]) := by
  generalize hR : some (V.tup [], [[V.sc (.int .i64 r.1), V.sc (.int .u64 r.2.1), V.sc (.int .i64 r.2.2.1), V.sc (.int .i64 r.2.2.2.1), V.sc (.int .u64 r.2.2.2.2.1), V.sc (.int .u64 r.2.2.2.2.2.1), V.sc (.int .i64 r.2.2.2.2.2.2.1), V.sc (.int .i64 r.2.2.2.2.2.2.2)]]) = R
  have hcm := rcm hA hc2
  have hokm := rok hA hok2
  all_goals cbv
  all_goals repeat' (first
    | (rewrite [h78, hq78]; cbv)
    | (rewrite [h78]; generalize hq78 : g78 _ _ _ _ _ _ _ _ _ _ = o; rcases o with _ | ⟨_, (_ | _)⟩ <;> cbv)
    | (rewrite [h79, hq79]; cbv)
    | (rewrite [h79]; generalize hq79 : g79 _ _ _ _ _ _ _ _ _ _ = o; rcases o with _ | ⟨_, _, _, _, _, _, _, _⟩ <;> cbv)
    | (rewrite [h56, hq56]; cbv)
    | (rewrite [h56]; generalize hq56 : g56 _ _ _ _ _ _ _ _ _ _ = o; rcases o with _ | ⟨_, _, _, _, _, _, _, _⟩ <;> cbv)
    | (rewrite [h77, hq77]; cbv)
    | (rewrite [h77]; generalize hq77 : g77 _ _ _ = o; rcases o with _ | ⟨_, _⟩ <;> cbv)
    | (rewrite [hok2]; generalize hq : ok2 _ _ = o; cases o <;> cbv)
    | (rewrite [hc2]; generalize hq : c2 _ _ _ = o; cases o <;> (rewrite [hcm] at hq; simp only [rc] at hq) <;> first | (exfalso; omega) | cbv))
  all_goals
    obtain rfl := c2_eq hcm
    obtain rfl := ok2_eq hokm
    subst e78 e79 e56 e77 hR
    clear h78 h79 h56 h77 hc2 hok2 hcm hokm
    obtain ⟨rfl, rfl, rfl, rfl, rfl, rfl, rfl, rfl, rfl, rfl⟩ := eqsA hA
    clear hA
    try simp only [rl] at *
    try subst_vars
    try replace H := up8 (fun k => interval_computer_add.mono _ _ _ _ _ _ _ _ _ _ _ _ _ _ _ _ k) k _ H
    try simp only [interval_computer_add.f, beq_dec, bne_dec] at H
    repeat (first
      | (simp [interval_computer_add.j0, interval_computer_add.j1, beq_dec, bne_dec, *] at H; done)
      | (simp [interval_computer_add.j0, interval_computer_add.j1, beq_dec, bne_dec, *] at H)
      | (rw [if_pos (by omega)] at H)
      | (rw [if_neg (by omega)] at H)
      | (have hc := And.left H; replace H := And.right H; try (exfalso; clear H; omega)))
  all_goals first
    | (subst H; rfl)
    | (subst H; simp; done)
    | (cases H; rfl)
    | (exfalso; clear H; omega)
    | (subst H; simp [beq_dec, bne_dec, *]; done)
    | (simp_all [beq_dec, bne_dec]; done)
    | (simp_all [beq_dec, bne_dec]; subst H; first | rfl | (simp; done) | (simp [*]; done))
set_option maxRecDepth 100000 in
set_option maxHeartbeats 40000000 in
theorem interval_Tighten.ev (a0 : Int) (a1_0 : Int) (a1_1 : Int) (a1_2 : Int) (a1_3 : Int) (r : Int × Int × Int × Int × Bool) (H : interval_Tighten.f k a0 a1_0 a1_1 a1_2 a1_3 = some r)
  (g38 : _) (e38 : g38 = bits_Signed.f) (h38 : bits_Signed.Is K g38)
  (g48 : _) (e48 : g48 = bits_From.f) (h48 : bits_From.Is K g48)
  (g18 : _) (e18 : g18 = interval_Valid.f) (h18 : interval_Valid.Is K g18)
  (g25 : _) (e25 : g25 = interval_ends.f) (h25 : interval_ends.Is K g25)
  : evFn ⟨tys, ⟨op, ok, cmp, neg, not, wrap, mn', mx', idx, len, get, cut, app, byte⟩, lp⟩ (k + 8) K h23 Try.f23 [V.sc (.int .i64 a0), V.agg [V.sc (.int .u64 a1_0), V.sc (.int .u64 a1_1), V.sc (.int .i64 a1_2), V.sc (.int .i64 a1_3)]] [] = some (V.tup [V.agg [V.sc (.int .u64 r.1), V.sc (.int .u64 r.2.1), V.sc (.int .i64 r.2.2.1), V.sc (.int .i64 r.2.2.2.1)], V.sc (.bool r.2.2.2.2)], []) := by
  generalize hR : some (V.tup [V.agg [V.sc (.int .u64 r.1), V.sc (.int .u64 r.2.1), V.sc (.int .i64 r.2.2.1), V.sc (.int .i64 r.2.2.2.1)], V.sc (.bool r.2.2.2.2)], ([] : Heap)) = R
  have hcm := rcm hA hc2
  have hokm := rok hA hok2
  all_goals cbv
  all_goals repeat' (first
    | (rewrite [h38, hq38]; cbv)
    | (rewrite [h38]; generalize hq38 : g38 _ _ = o; rcases o with _ | _ <;> cbv)
    | (rewrite [h48, hq48]; cbv)
    | (rewrite [h48]; generalize hq48 : g48 _ _ = o; rcases o with _ | _ <;> cbv)
    | (rewrite [h18, hq18]; cbv)
    | (rewrite [h18]; generalize hq18 : g18 _ _ _ _ _ = o; rcases o with _ | _ | _ <;> cbv)
    | (rewrite [h25, hq25]; cbv)
    | (rewrite [h25]; generalize hq25 : g25 _ = o; rcases o with _ | ⟨_, _⟩ <;> cbv)
    | (rewrite [hok2]; generalize hq : ok2 _ _ = o; cases o <;> cbv)
    | (rewrite [hc2]; generalize hq : c2 _ _ _ = o; cases o <;> (rewrite [hcm] at hq; simp only [rc] at hq) <;> first | (exfalso; omega) | cbv))
  all_goals
    obtain rfl := c2_eq hcm
    obtain rfl := ok2_eq hokm
    subst e38 e48 e18 e25 hR
    clear h38 h48 h18 h25 hc2 hok2 hcm hokm
    obtain ⟨rfl, rfl, rfl, rfl, rfl, rfl, rfl, rfl, rfl, rfl⟩ := eqsA hA
    clear hA
    try simp only [rl] at *
    try subst_vars
    try replace H := up8 (fun k => interval_Tighten.mono _ _ _ _ _ k) k _ H
    try simp only [interval_Tighten.f, beq_dec, bne_dec] at H
    repeat (first
      | (simp [interval_Tighten.j0, interval_Tighten.j1, interval_Tighten.j2, beq_dec, bne_dec, *] at H; done)
      | (simp [interval_Tighten.j0, interval_Tighten.j1, interval_Tighten.j2, beq_dec, bne_dec, *] at H)
      | (rw [if_pos (by omega)] at H)
      | (rw [if_neg (by omega)] at H)
      | (have hc := And.left H; replace H := And.right H; try (exfalso; clear H; omega)))
  all_goals first
    | (subst H; rfl)
    | (subst H; simp; done)
    | (cases H; rfl)
    | (exfalso; clear H; omega)
    | (subst H; simp [beq_dec, bne_dec, *]; done)
    | (simp_all [beq_dec, bne_dec]; done)
    | (simp_all [beq_dec, bne_dec]; subst H; first | rfl | (simp; done) | (simp [*]; done))
set_option maxRecDepth 100000 in
set_option maxHeartbeats 40000000 in
theorem interval_value.ev (a0 : Int) (a1 : Int) (l2 : List Int) (l3 : List (S30)) (r : Int) (H : interval_value.f k a0 a1 l2 l3 = some r)
  (g49 : _) (e49 : g49 = bits_Extend.f) (h49 : bits_Extend.Is K g49)
  (g50 : _) (e50 : g50 = bits_Binary.F) (h50 : bits_Binary.Is K g50)
  : evFn ⟨tys, ⟨op, ok, cmp, neg, not, wrap, mn', mx', idx, len, get, cut, app, byte⟩, lp⟩ (k + 8) K h24 Try.f24 [V.sc (.int .i64 a0), V.sc (.int .i64 a1), V.sl false (l2.map fun x : Int => [V.sc (.int .i64 x)]), V.sl false (l3.map fun x : S30 => [V.sc (.int .u64 x.f0), V.sc (.int .u64 x.f1), V.sc (.int .i64 x.f2), V.sc (.int .i64 x.f3)])] [] = some (V.sc (.int .u64 r), []) := by
  generalize hR : some (V.sc (.int .u64 r), ([] : Heap)) = R
  have hcm := rcm hA hc2
  have hokm := rok hA hok2
  obtain ⟨cl2, bl2, pl2_0, hcl2, hbl2, hpl2_0, hgl2, hul2⟩ := li_int .i64 (get_eq hA) l2
  rw [← hcl2]
  obtain ⟨cl3, bl3, pl3_0, pl3_1, pl3_2, pl3_3, hcl3, hbl3, hpl3_0, hpl3_1, hpl3_2, hpl3_3, hgl3, hul3⟩ := li_k30 (get_eq hA) l3
  rw [← hcl3]
  all_goals cbv
  all_goals repeat' (first
    | (rewrite [h49, hq49]; cbv)
    | (rewrite [h49]; generalize hq49 : g49 _ _ _ _ = o; rcases o with _ | _ <;> cbv)
    | (rewrite [h50, hq50]; cbv)
    | (rewrite [h50]; generalize hq50 : g50 _ _ _ _ = o; rcases o with _ | ⟨_, _⟩ <;> cbv)
    | (rewrite [hgl2]; generalize hq : bl2 _ = o; cases o <;> first | (exact absurd (hq.symm.trans (by assumption : bl2 _ = true)) Bool.false_ne_true) | (exact absurd (hq.symm.trans (by assumption : bl2 _ = false)) (fun h => Bool.false_ne_true h.symm)) | cbv)
    | (rewrite [hgl3]; generalize hq : bl3 _ = o; cases o <;> first | (exact absurd (hq.symm.trans (by assumption : bl3 _ = true)) Bool.false_ne_true) | (exact absurd (hq.symm.trans (by assumption : bl3 _ = false)) (fun h => Bool.false_ne_true h.symm)) | cbv)
    | (rewrite [hok2]; generalize hq : ok2 _ _ = o; cases o <;> cbv)
    | (rewrite [hc2]; generalize hq : c2 _ _ _ = o; cases o <;> (rewrite [hcm] at hq; simp only [rc] at hq) <;> first | (exfalso; omega) | cbv))
  all_goals
    obtain rfl := c2_eq hcm
    obtain rfl := ok2_eq hokm
    subst e49 e50 hR
    clear h49 h50 hc2 hok2 hcm hokm hul2 hgl2 hul3 hgl3
    subst hcl2 hbl2 hpl2_0 hcl3 hbl3 hpl3_0 hpl3_1 hpl3_2 hpl3_3
    obtain ⟨rfl, rfl, rfl, rfl, rfl, rfl, rfl, rfl, rfl, rfl⟩ := eqsA hA
    clear hA
    try simp only [rl] at *
    try subst_vars
    try simp [beq_dec, bne_dec, *] at hq49
    try replace H := up8 (fun k => interval_value.mono _ _ _ _ k) k _ H
    try simp only [interval_value.f, beq_dec, bne_dec] at H
    repeat (first
      | (with_reducible first | replace H := le_bind (bits_Binary.le ..) H | replace H := le_ap (bits_Binary.le ..) H)
      | (simp [interval_value.j0, beq_dec, bne_dec, *] at H; done)
      | (simp [interval_value.j0, beq_dec, bne_dec, *] at H)
      | (rw [if_pos (by omega)] at H)
      | (rw [if_neg (by omega)] at H)
      | (have hc := And.left H; replace H := And.right H; try (exfalso; clear H; omega)))
  all_goals first
    | (subst H; rfl)
    | (subst H; simp; done)
    | (cases H; rfl)
    | (exfalso; clear H; omega)
    | (subst H; simp [beq_dec, bne_dec, *]; done)
    | (simp_all [beq_dec, bne_dec]; done)
    | (simp_all [beq_dec, bne_dec]; subst H; first | rfl | (simp; done) | (simp [*]; done))
set_option maxRecDepth 100000 in
set_option maxHeartbeats 40000000 in
theorem interval_Join.ev (a0_0 : Int) (a0_1 : Int) (a0_2 : Int) (a0_3 : Int) (a1_0 : Int) (a1_1 : Int) (a1_2 : Int) (a1_3 : Int) (r : Int × Int × Int × Int) (H : interval_Join.f a0_0 a0_1 a0_2 a0_3 a1_0 a1_1 a1_2 a1_3 = some r)
  : evFn ⟨tys, ⟨op, ok, cmp, neg, not, wrap, mn', mx', idx, len, get, cut, app, byte⟩, lp⟩ (k + 8) K h59 Try.f59 [V.agg [V.sc (.int .u64 a0_0), V.sc (.int .u64 a0_1), V.sc (.int .i64 a0_2), V.sc (.int .i64 a0_3)], V.agg [V.sc (.int .u64 a1_0), V.sc (.int .u64 a1_1), V.sc (.int .i64 a1_2), V.sc (.int .i64 a1_3)]] [] = some (V.agg [V.sc (.int .u64 r.1), V.sc (.int .u64 r.2.1), V.sc (.int .i64 r.2.2.1), V.sc (.int .i64 r.2.2.2)], []) := by
  generalize hR : some (V.agg [V.sc (.int .u64 r.1), V.sc (.int .u64 r.2.1), V.sc (.int .i64 r.2.2.1), V.sc (.int .i64 r.2.2.2)], ([] : Heap)) = R
  have hcm := rcm hA hc2
  have hokm := rok hA hok2
  all_goals cbv
  all_goals repeat' (first
    | (rewrite [hok2]; generalize hq : ok2 _ _ = o; cases o <;> cbv)
    | (rewrite [hc2]; generalize hq : c2 _ _ _ = o; cases o <;> (rewrite [hcm] at hq; simp only [rc] at hq) <;> first | (exfalso; omega) | cbv))
  all_goals
    obtain rfl := c2_eq hcm
    obtain rfl := ok2_eq hokm
    subst  hR
    clear hc2 hok2 hcm hokm
    obtain ⟨rfl, rfl, rfl, rfl, rfl, rfl, rfl, rfl, rfl, rfl⟩ := eqsA hA
    clear hA
    try simp only [rl] at *
    try subst_vars
    try simp only [interval_Join.f, beq_dec, bne_dec] at H
    repeat (first
      | (simp [beq_dec, bne_dec, *] at H; done)
      | (simp [beq_dec, bne_dec, *] at H)
      | (rw [if_pos (by omega)] at H)
      | (rw [if_neg (by omega)] at H)
      | (have hc := And.left H; replace H := And.right H; try (exfalso; clear H; omega)))
  all_goals first
    | (subst H; rfl)
    | (subst H; simp; done)
    | (cases H; rfl)
    | (exfalso; clear H; omega)
    | (subst H; simp [beq_dec, bne_dec, *]; done)
    | (simp_all [beq_dec, bne_dec]; done)
    | (simp_all [beq_dec, bne_dec]; subst H; first | rfl | (simp; done) | (simp [*]; done))
set_option maxRecDepth 100000 in
set_option maxHeartbeats 40000000 in
theorem interval_computer_less.ev (s0_0 : Int) (s0_1 : Int) (s0_2 : Int) (s0_3 : Int) (s0_4 : Int) (s0_5 : Int) (s0_6 : Int) (s0_7 : Int) (a1 : Int) (a2 : Int) (r : Int × Bool) (H : interval_computer_less.f s0_0 s0_1 s0_2 s0_3 s0_4 s0_5 s0_6 s0_7 a1 a2 = some r)
  (g84 : _) (e84 : g84 = interval_computer_within.f) (h84 : interval_computer_within.Is K g84)
  : evFn ⟨tys, ⟨op, ok, cmp, neg, not, wrap, mn', mx', idx, len, get, cut, app, byte⟩, lp⟩ (k + 8) K h80 Try.f80 [V.ptr 0 0, V.sc (.int .i64 a1), V.sc (.int .i64 a2)] [[V.sc (.int .i64 s0_0), V.sc (.int .u64 s0_1), V.sc (.int .i64 s0_2), V.sc (.int .i64 s0_3), V.sc (.int .u64 s0_4), V.sc (.int .u64 s0_5), V.sc (.int .i64 s0_6), V.sc (.int .i64 s0_7)]] = some (V.tup [V.sc (.int .i64 r.1), V.sc (.bool r.2)], [[V.sc (.int .i64 s0_0), V.sc (.int .u64 s0_1), V.sc (.int .i64 s0_2), V.sc (.int .i64 s0_3), V.sc (.int .u64 s0_4), V.sc (.int .u64 s0_5), V.sc (.int .i64 s0_6), V.sc (.int .i64 s0_7)]]) := by
  generalize hR : some (V.tup [V.sc (.int .i64 r.1), V.sc (.bool r.2)], [[V.sc (.int .i64 s0_0), V.sc (.int .u64 s0_1), V.sc (.int .i64 s0_2), V.sc (.int .i64 s0_3), V.sc (.int .u64 s0_4), V.sc (.int .u64 s0_5), V.sc (.int .i64 s0_6), V.sc (.int .i64 s0_7)]]) = R
  have hcm := rcm hA hc2
  have hokm := rok hA hok2
  all_goals cbv
  all_goals repeat' (first
    | (rewrite [h84, hq84]; cbv)
    | (rewrite [h84]; generalize hq84 : g84 _ _ _ _ _ _ _ _ _ = o; rcases o with _ | _ | _ <;> cbv)
    | (rewrite [hok2]; generalize hq : ok2 _ _ = o; cases o <;> cbv)
    | (rewrite [hc2]; generalize hq : c2 _ _ _ = o; cases o <;> (rewrite [hcm] at hq; simp only [rc] at hq) <;> first | (exfalso; omega) | cbv))
  all_goals
    obtain rfl := c2_eq hcm
    obtain rfl := ok2_eq hokm
    subst e84 hR
    clear h84 hc2 hok2 hcm hokm
    obtain ⟨rfl, rfl, rfl, rfl, rfl, rfl, rfl, rfl, rfl, rfl⟩ := eqsA hA
    clear hA
    try simp only [rl] at *
    try subst_vars
    try simp only [interval_computer_less.f, beq_dec, bne_dec] at H
    repeat (first
      | (simp [beq_dec, bne_dec, *] at H; done)
      | (simp [beq_dec, bne_dec, *] at H)
      | (rw [if_pos (by omega)] at H)
      | (rw [if_neg (by omega)] at H)
      | (have hc := And.left H; replace H := And.right H; try (exfalso; clear H; omega)))
  all_goals first
    | (subst H; rfl)
    | (subst H; simp; done)
    | (cases H; rfl)
    | (exfalso; clear H; omega)
    | (subst H; simp [beq_dec, bne_dec, *]; done)
    | (simp_all [beq_dec, bne_dec]; done)
    | (simp_all [beq_dec, bne_dec]; subst H; first | rfl | (simp; done) | (simp [*]; done))
set_option maxRecDepth 100000 in
set_option maxHeartbeats 40000000 in
theorem jacquardlaw13_few.ev (a0_0 : Int) (a0_1 : Int) (l0_2 : List Int) (l0_3 : List (S30)) (a0_4 : Int) (r : Bool) (H : jacquardlaw13_few.f a0_0 a0_1 l0_2 l0_3 a0_4 = some r)
  : evFn ⟨tys, ⟨op, ok, cmp, neg, not, wrap, mn', mx', idx, len, get, cut, app, byte⟩, lp⟩ (k + 8) K h9 Try.f9 [V.agg [V.sc (.int .i64 a0_0), V.sc (.int .i64 a0_1), V.sl false (l0_2.map fun x : Int => [V.sc (.int .i64 x)]), V.sl false (l0_3.map fun x : S30 => [V.sc (.int .u64 x.f0), V.sc (.int .u64 x.f1), V.sc (.int .i64 x.f2), V.sc (.int .i64 x.f3)]), V.sc (.int .u64 a0_4)]] [] = some (V.sc (.bool r), []) := by
  generalize hR : some (V.sc (.bool r), ([] : Heap)) = R
  have hcm := rcm hA hc2
  have hokm := rok hA hok2
  obtain ⟨cl0_2, bl0_2, pl0_2_0, hcl0_2, hbl0_2, hpl0_2_0, hgl0_2, hul0_2⟩ := li_int .i64 (get_eq hA) l0_2
  rw [← hcl0_2]
  obtain ⟨cl0_3, bl0_3, pl0_3_0, pl0_3_1, pl0_3_2, pl0_3_3, hcl0_3, hbl0_3, hpl0_3_0, hpl0_3_1, hpl0_3_2, hpl0_3_3, hgl0_3, hul0_3⟩ := li_k30 (get_eq hA) l0_3
  rw [← hcl0_3]
  all_goals cbv
  all_goals repeat' (first
    | (rewrite [hgl0_2]; generalize hq : bl0_2 _ = o; cases o <;> first | (exact absurd (hq.symm.trans (by assumption : bl0_2 _ = true)) Bool.false_ne_true) | (exact absurd (hq.symm.trans (by assumption : bl0_2 _ = false)) (fun h => Bool.false_ne_true h.symm)) | cbv)
    | (rewrite [hgl0_3]; generalize hq : bl0_3 _ = o; cases o <;> first | (exact absurd (hq.symm.trans (by assumption : bl0_3 _ = true)) Bool.false_ne_true) | (exact absurd (hq.symm.trans (by assumption : bl0_3 _ = false)) (fun h => Bool.false_ne_true h.symm)) | cbv)
    | (rewrite [hok2]; generalize hq : ok2 _ _ = o; cases o <;> cbv)
    | (rewrite [hc2]; generalize hq : c2 _ _ _ = o; cases o <;> (rewrite [hcm] at hq; simp only [rc] at hq) <;> first | (exfalso; omega) | cbv))
  all_goals
    obtain rfl := c2_eq hcm
    obtain rfl := ok2_eq hokm
    subst  hR
    clear hc2 hok2 hcm hokm hul0_2 hgl0_2 hul0_3 hgl0_3
    subst hcl0_2 hbl0_2 hpl0_2_0 hcl0_3 hbl0_3 hpl0_3_0 hpl0_3_1 hpl0_3_2 hpl0_3_3
    obtain ⟨rfl, rfl, rfl, rfl, rfl, rfl, rfl, rfl, rfl, rfl⟩ := eqsA hA
    clear hA
    try simp only [rl] at *
    try subst_vars
    try simp only [jacquardlaw13_few.f, beq_dec, bne_dec] at H
    repeat (first
      | (simp [beq_dec, bne_dec, *] at H; done)
      | (simp [beq_dec, bne_dec, *] at H)
      | (rw [if_pos (by omega)] at H)
      | (rw [if_neg (by omega)] at H)
      | (have hc := And.left H; replace H := And.right H; try (exfalso; clear H; omega)))
  all_goals first
    | (subst H; rfl)
    | (subst H; simp; done)
    | (cases H; rfl)
    | (exfalso; clear H; omega)
    | (subst H; simp [beq_dec, bne_dec, *]; done)
    | (simp_all [beq_dec, bne_dec]; done)
    | (simp_all [beq_dec, bne_dec]; subst H; first | rfl | (simp; done) | (simp [*]; done))
set_option maxRecDepth 100000 in
set_option maxHeartbeats 40000000 in
theorem bits_negative.ev (a0 : Int) (a1 : Int) (r : Bool) (H : bits_negative.f a0 a1 = some r)
  (g51 : _) (e51 : g51 = bits_limit.f) (h51 : bits_limit.Is K g51)
  : evFn ⟨tys, ⟨op, ok, cmp, neg, not, wrap, mn', mx', idx, len, get, cut, app, byte⟩, lp⟩ (k + 8) K h73 Try.f73 [V.sc (.int .i64 a0), V.sc (.int .u64 a1)] [] = some (V.sc (.bool r), []) := by
  generalize hR : some (V.sc (.bool r), ([] : Heap)) = R
  have hcm := rcm hA hc2
  have hokm := rok hA hok2
  all_goals cbv
  all_goals repeat' (first
    | (rewrite [h51, hq51]; cbv)
    | (rewrite [h51]; generalize hq51 : g51 _ = o; rcases o with _ | _ <;> cbv)
    | (rewrite [hok2]; generalize hq : ok2 _ _ = o; cases o <;> cbv)
    | (rewrite [hc2]; generalize hq : c2 _ _ _ = o; cases o <;> (rewrite [hcm] at hq; simp only [rc] at hq) <;> first | (exfalso; omega) | cbv))
  all_goals
    obtain rfl := c2_eq hcm
    obtain rfl := ok2_eq hokm
    subst e51 hR
    clear h51 hc2 hok2 hcm hokm
    obtain ⟨rfl, rfl, rfl, rfl, rfl, rfl, rfl, rfl, rfl, rfl⟩ := eqsA hA
    clear hA
    try simp only [rl] at *
    try subst_vars
    try simp only [bits_negative.f, beq_dec, bne_dec] at H
    repeat (first
      | (simp [beq_dec, bne_dec, *] at H; done)
      | (simp [beq_dec, bne_dec, *] at H)
      | (rw [if_pos (by omega)] at H)
      | (rw [if_neg (by omega)] at H)
      | (have hc := And.left H; replace H := And.right H; try (exfalso; clear H; omega)))
  all_goals first
    | (subst H; rfl)
    | (subst H; simp; done)
    | (cases H; rfl)
    | (exfalso; clear H; omega)
    | (subst H; simp [beq_dec, bne_dec, *]; done)
    | (simp_all [beq_dec, bne_dec]; done)
    | (simp_all [beq_dec, bne_dec]; subst H; first | rfl | (simp; done) | (simp [*]; done))
set_option maxRecDepth 100000 in
set_option maxHeartbeats 40000000 in
theorem interval_computer_u.ev (s0_0 : Int) (s0_1 : Int) (s0_2 : Int) (s0_3 : Int) (s0_4 : Int) (s0_5 : Int) (s0_6 : Int) (s0_7 : Int) (a1 : Int) (a2 : Int) (r : Int × Int × Int × Int × Int × Int × Int × Int) (H : interval_computer_u.f s0_0 s0_1 s0_2 s0_3 s0_4 s0_5 s0_6 s0_7 a1 a2 = some r)
  : evFn ⟨tys, ⟨op, ok, cmp, neg, not, wrap, mn', mx', idx, len, get, cut, app, byte⟩, lp⟩ (k + 8) K h56 Try.f56 [V.ptr 0 0, V.sc (.int .u64 a1), V.sc (.int .u64 a2)] [[V.sc (.int .i64 s0_0), V.sc (.int .u64 s0_1), V.sc (.int .i64 s0_2), V.sc (.int .i64 s0_3), V.sc (.int .u64 s0_4), V.sc (.int .u64 s0_5), V.sc (.int .i64 s0_6), V.sc (.int .i64 s0_7)]] = some (V.tup [], [[V.sc (.int .i64 r.1), V.sc (.int .u64 r.2.1), V.sc (.int .i64 r.2.2.1), V.sc (.int .i64 r.2.2.2.1), V.sc (.int .u64 r.2.2.2.2.1), V.sc (.int .u64 r.2.2.2.2.2.1), V.sc (.int .i64 r.2.2.2.2.2.2.1), V.sc (.int .i64 r.2.2.2.2.2.2.2)]]) := by
  generalize hR : some (V.tup [], [[V.sc (.int .i64 r.1), V.sc (.int .u64 r.2.1), V.sc (.int .i64 r.2.2.1), V.sc (.int .i64 r.2.2.2.1), V.sc (.int .u64 r.2.2.2.2.1), V.sc (.int .u64 r.2.2.2.2.2.1), V.sc (.int .i64 r.2.2.2.2.2.2.1), V.sc (.int .i64 r.2.2.2.2.2.2.2)]]) = R
  have hcm := rcm hA hc2
  have hokm := rok hA hok2
  all_goals cbv
  all_goals repeat' (first
    | (rewrite [hok2]; generalize hq : ok2 _ _ = o; cases o <;> cbv)
    | (rewrite [hc2]; generalize hq : c2 _ _ _ = o; cases o <;> (rewrite [hcm] at hq; simp only [rc] at hq) <;> first | (exfalso; omega) | cbv))
  all_goals
    obtain rfl := c2_eq hcm
    obtain rfl := ok2_eq hokm
    subst  hR
    clear hc2 hok2 hcm hokm
    obtain ⟨rfl, rfl, rfl, rfl, rfl, rfl, rfl, rfl, rfl, rfl⟩ := eqsA hA
    clear hA
    try simp only [rl] at *
    try subst_vars
    try simp only [interval_computer_u.f, beq_dec, bne_dec] at H
    repeat (first
      | (simp [beq_dec, bne_dec, *] at H; done)
      | (simp [beq_dec, bne_dec, *] at H)
      | (rw [if_pos (by omega)] at H)
      | (rw [if_neg (by omega)] at H)
      | (have hc := And.left H; replace H := And.right H; try (exfalso; clear H; omega)))
  all_goals first
    | (subst H; rfl)
    | (subst H; simp; done)
    | (cases H; rfl)
    | (exfalso; clear H; omega)
    | (subst H; simp [beq_dec, bne_dec, *]; done)
    | (simp_all [beq_dec, bne_dec]; done)
    | (simp_all [beq_dec, bne_dec]; subst H; first | rfl | (simp; done) | (simp [*]; done))
set_option maxRecDepth 100000 in
set_option maxHeartbeats 40000000 in
theorem interval_good.ev (a0 : Int) (r : Bool) (H : interval_good.f a0 = some r)
  : evFn ⟨tys, ⟨op, ok, cmp, neg, not, wrap, mn', mx', idx, len, get, cut, app, byte⟩, lp⟩ (k + 8) K h36 Try.f36 [V.sc (.int .i64 a0)] [] = some (V.sc (.bool r), []) := by
  generalize hR : some (V.sc (.bool r), ([] : Heap)) = R
  have hcm := rcm hA hc2
  have hokm := rok hA hok2
  all_goals cbv
  all_goals repeat' (first
    | (rewrite [hok2]; generalize hq : ok2 _ _ = o; cases o <;> cbv)
    | (rewrite [hc2]; generalize hq : c2 _ _ _ = o; cases o <;> (rewrite [hcm] at hq; simp only [rc] at hq) <;> first | (exfalso; omega) | cbv))
  all_goals
    obtain rfl := c2_eq hcm
    obtain rfl := ok2_eq hokm
    subst  hR
    clear hc2 hok2 hcm hokm
    obtain ⟨rfl, rfl, rfl, rfl, rfl, rfl, rfl, rfl, rfl, rfl⟩ := eqsA hA
    clear hA
    try simp only [rl] at *
    try subst_vars
    try simp only [interval_good.f, beq_dec, bne_dec] at H
    repeat (first
      | (simp [beq_dec, bne_dec, *] at H; done)
      | (simp [beq_dec, bne_dec, *] at H)
      | (rw [if_pos (by omega)] at H)
      | (rw [if_neg (by omega)] at H)
      | (have hc := And.left H; replace H := And.right H; try (exfalso; clear H; omega)))
  all_goals first
    | (subst H; rfl)
    | (subst H; simp; done)
    | (cases H; rfl)
    | (exfalso; clear H; omega)
    | (subst H; simp [beq_dec, bne_dec, *]; done)
    | (simp_all [beq_dec, bne_dec]; done)
    | (simp_all [beq_dec, bne_dec]; subst H; first | rfl | (simp; done) | (simp [*]; done))
end
end Go.Vm
