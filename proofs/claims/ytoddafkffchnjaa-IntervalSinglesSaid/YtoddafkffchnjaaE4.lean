/- What the evaluator makes of the functions' code (91 s). -/
import Derived.Test.YtoddafkffchnjaaO
namespace Go.Vm
open Go.Proofs Go.Proofs.Ytoddafkffchnjaa Go.Proofs.Ytoddafkffchnjaa.P Go.RowKit Go.Proofs.YtoddafkffchnjaaW.PrintWords Go.Proofs.YtoddafkffchnjaaW.PrintLast Go.Proofs.YtoddafkffchnjaaW.PrintMore
set_option linter.unusedVariables false
set_option linter.unusedSimpArgs false
set_option linter.unusedSectionVars false
set_option linter.unusedVariables false
set_option linter.unusedSimpArgs false
section
variable {op : BinOp → IntKind → Int → Int → Int} {ok : BinOp → Int → Bool} {cmp : BinOp → Int → Int → Bool} {neg not wrap : IntKind → Int → Int} {mn' mx' : Int → Int → Int} {idx : Int → Option Nat}
  {len : List (List V) → Int} {get : List (List V) → Int → Option (List V)} {cut : Nat → List (List V) → Option V → Option V → Option (List (List V))} {app : Nat → Nat → List (List V) → List (List V) → Option (List (List V))} {byte : ByteArray → Int → Option Int}
  {lp : (St → Option (Ex × St)) → Nat → List Nat → Nat → St → Option (Ex × St)} {c2 : BinOp → Int → Int → Bool} {ok2 : BinOp → Int → Bool}
variable (hA : (⟨tys, ⟨op, ok, cmp, neg, not, wrap, mn', mx', idx, len, get, cut, app, byte⟩, lp⟩ : En) = ⟨tys, real, rounds⟩) (hc2 : ∀ o a b, cmp o a b = c2 o a b) (hok2 : ∀ o a, ok o a = ok2 o a) (k : Nat) (K : Oracle)
include hA hc2 hok2
set_option maxRecDepth 100000 in
set_option maxHeartbeats 40000000 in
theorem interval_computer_compute.ev (s0_0 : Int) (s0_1 : Int) (s0_2 : Int) (s0_3 : Int) (s0_4 : Int) (s0_5 : Int) (s0_6 : Int) (s0_7 : Int) (a1 : Int) (l2 : List Int) (l3 : List (S30)) (r : Int × Int × Int × Int × Int × Int × Int × Int) (H : interval_computer_compute.f k s0_0 s0_1 s0_2 s0_3 s0_4 s0_5 s0_6 s0_7 a1 l2 l3 = some r)
  (g55 : _) (e55 : g55 = interval_computer_divide.F) (h55 : interval_computer_divide.Is K g55)
  (g56 : _) (e56 : g56 = interval_computer_u.f) (h56 : interval_computer_u.Is K g56)
  (g57 : _) (e57 : g57 = bits_Len64.F) (h57 : bits_Len64.Is K g57)
  (g26 : _) (e26 : g26 = bits_Mask.f) (h26 : bits_Mask.Is K g26)
  (g58 : _) (e58 : g58 = interval_computer_shift.F) (h58 : interval_computer_shift.Is K g58)
  (g59 : _) (e59 : g59 = interval_Join.f) (h59 : interval_Join.Is K g59)
  (g60 : _) (e60 : g60 = interval_computer_convert.F) (h60 : interval_computer_convert.Is K g60)
  (g61 : _) (e61 : g61 = interval_computer_compare.F) (h61 : interval_computer_compare.Is K g61)
  (g52 : _) (e52 : g52 = interval_computer_add.F) (h52 : interval_computer_add.Is K g52)
  (g53 : _) (e53 : g53 = interval_computer_sub.F) (h53 : interval_computer_sub.Is K g53)
  (g54 : _) (e54 : g54 = interval_computer_mul.F) (h54 : interval_computer_mul.Is K g54)
  : evFn ⟨tys, ⟨op, ok, cmp, neg, not, wrap, mn', mx', idx, len, get, cut, app, byte⟩, lp⟩ (k + 8) K h27 Try.f27 [V.ptr 0 0, V.sc (.int .i64 a1), V.sl false (l2.map fun x : Int => [V.sc (.int .i64 x)]), V.sl false (l3.map fun x : S30 => [V.sc (.int .u64 x.f0), V.sc (.int .u64 x.f1), V.sc (.int .i64 x.f2), V.sc (.int .i64 x.f3)])] [[V.sc (.int .i64 s0_0), V.sc (.int .u64 s0_1), V.sc (.int .i64 s0_2), V.sc (.int .i64 s0_3), V.sc (.int .u64 s0_4), V.sc (.int .u64 s0_5), V.sc (.int .i64 s0_6), V.sc (.int .i64 s0_7)]] = some (V.tup [], [[V.sc (.int .i64 r.1), V.sc (.int .u64 r.2.1), V.sc (.int .i64 r.2.2.1), V.sc (.int .i64 r.2.2.2.1), V.sc (.int .u64 r.2.2.2.2.1), V.sc (.int .u64 r.2.2.2.2.2.1), V.sc (.int .i64 r.2.2.2.2.2.2.1), V.sc (.int .i64 r.2.2.2.2.2.2.2)]]) := by
  generalize hR : some (V.tup [], [[V.sc (.int .i64 r.1), V.sc (.int .u64 r.2.1), V.sc (.int .i64 r.2.2.1), V.sc (.int .i64 r.2.2.2.1), V.sc (.int .u64 r.2.2.2.2.1), V.sc (.int .u64 r.2.2.2.2.2.1), V.sc (.int .i64 r.2.2.2.2.2.2.1), V.sc (.int .i64 r.2.2.2.2.2.2.2)]]) = R
  have hcm := rcm hA hc2
  have hokm := rok hA hok2
  obtain ⟨cl2, bl2, pl2_0, hcl2, hbl2, hpl2_0, hgl2, hul2⟩ := li_int .i64 (get_eq hA) l2
  rw [← hcl2]
  obtain ⟨cl3, bl3, pl3_0, pl3_1, pl3_2, pl3_3, hcl3, hbl3, hpl3_0, hpl3_1, hpl3_2, hpl3_3, hgl3, hul3⟩ := li_k30 (get_eq hA) l3
  rw [← hcl3]
  all_goals cbv
  all_goals repeat' (first
    | (rewrite [h55, hq55]; cbv)
    | (rewrite [h55]; generalize hq55 : g55 _ _ _ _ _ _ _ _ _ _ _ _ _ _ _ _ _ = o; rcases o with _ | ⟨_, _, _, _, _, _, _, _⟩ <;> cbv)
    | (rewrite [h56, hq56]; cbv)
    | (rewrite [h56]; generalize hq56 : g56 _ _ _ _ _ _ _ _ _ _ = o; rcases o with _ | ⟨_, _, _, _, _, _, _, _⟩ <;> cbv)
    | (rewrite [h57, hq57]; cbv)
    | (rewrite [h57]; generalize hq57 : g57 _ = o; rcases o with _ | _ <;> cbv)
    | (rewrite [h26, hq26]; cbv)
    | (rewrite [h26]; generalize hq26 : g26 _ = o; rcases o with _ | _ <;> cbv)
    | (rewrite [h58, hq58]; cbv)
    | (rewrite [h58]; generalize hq58 : g58 _ _ _ _ _ _ _ _ _ _ _ _ _ _ _ _ _ = o; rcases o with _ | ⟨_, _, _, _, _, _, _, _⟩ <;> cbv)
    | (rewrite [h59, hq59]; cbv)
    | (rewrite [h59]; generalize hq59 : g59 _ _ _ _ _ _ _ _ = o; rcases o with _ | ⟨_, _, _, _⟩ <;> cbv)
    | (rewrite [h60, hq60]; cbv)
    | (rewrite [h60]; generalize hq60 : g60 _ _ _ _ _ _ _ _ _ _ _ _ _ _ = o; rcases o with _ | ⟨_, _, _, _, _, _, _, _⟩ <;> cbv)
    | (rewrite [h61, hq61]; cbv)
    | (rewrite [h61]; generalize hq61 : g61 _ _ _ _ _ _ _ _ _ _ _ _ _ _ _ _ _ = o; rcases o with _ | ⟨_, _, _, _, _, _, _, _⟩ <;> cbv)
    | (rewrite [h52, hq52]; cbv)
    | (rewrite [h52]; generalize hq52 : g52 _ _ _ _ _ _ _ _ _ _ _ _ _ _ _ _ = o; rcases o with _ | ⟨_, _, _, _, _, _, _, _⟩ <;> cbv)
    | (rewrite [h53, hq53]; cbv)
    | (rewrite [h53]; generalize hq53 : g53 _ _ _ _ _ _ _ _ _ _ _ _ _ _ _ _ = o; rcases o with _ | ⟨_, _, _, _, _, _, _, _⟩ <;> cbv)
    | (rewrite [h54, hq54]; cbv)
    | (rewrite [h54]; generalize hq54 : g54 _ _ _ _ _ _ _ _ _ _ _ _ _ _ _ _ = o; rcases o with _ | ⟨_, _, _, _, _, _, _, _⟩ <;> cbv)
    | (rewrite [hgl2]; generalize hq : bl2 _ = o; cases o <;> first | (exact absurd (hq.symm.trans (by assumption : bl2 _ = true)) Bool.false_ne_true) | (exact absurd (hq.symm.trans (by assumption : bl2 _ = false)) (fun h => Bool.false_ne_true h.symm)) | cbv)
    | (rewrite [hgl3]; generalize hq : bl3 _ = o; cases o <;> first | (exact absurd (hq.symm.trans (by assumption : bl3 _ = true)) Bool.false_ne_true) | (exact absurd (hq.symm.trans (by assumption : bl3 _ = false)) (fun h => Bool.false_ne_true h.symm)) | cbv)
    | (rewrite [hok2]; generalize hq : ok2 _ _ = o; cases o <;> cbv)
    | (rewrite [hc2]; generalize hq : c2 _ _ _ = o; cases o <;> (rewrite [hcm] at hq; simp only [rc] at hq) <;> first | (exfalso; omega) | cbv))
  all_goals
    obtain rfl := c2_eq hcm
    obtain rfl := ok2_eq hokm
    subst e55 e56 e57 e26 e58 e59 e60 e61 e52 e53 e54 hR
    clear h55 h56 h57 h26 h58 h59 h60 h61 h52 h53 h54 hc2 hok2 hcm hokm hul2 hgl2 hul3 hgl3
    subst hcl2 hbl2 hpl2_0 hcl3 hbl3 hpl3_0 hpl3_1 hpl3_2 hpl3_3
    obtain ⟨rfl, rfl, rfl, rfl, rfl, rfl, rfl, rfl, rfl, rfl⟩ := eqsA hA
    clear hA
    try simp only [rl] at *
    try subst_vars
    try replace H := up8 (fun k => interval_computer_compute.mono _ _ _ _ _ _ _ _ _ _ _ k) k _ H
    try simp only [interval_computer_compute.f, beq_dec, bne_dec] at H
    repeat (first
      | (with_reducible first | replace H := le_bind (interval_computer_divide.le ..) H | replace H := le_ap (interval_computer_divide.le ..) H)
      | (with_reducible first | replace H := le_bind (bits_Len64.le ..) H | replace H := le_ap (bits_Len64.le ..) H)
      | (with_reducible first | replace H := le_bind (interval_computer_shift.le ..) H | replace H := le_ap (interval_computer_shift.le ..) H)
      | (with_reducible first | replace H := le_bind (interval_computer_convert.le ..) H | replace H := le_ap (interval_computer_convert.le ..) H)
      | (with_reducible first | replace H := le_bind (interval_computer_compare.le ..) H | replace H := le_ap (interval_computer_compare.le ..) H)
      | (with_reducible first | replace H := le_bind (interval_computer_add.le ..) H | replace H := le_ap (interval_computer_add.le ..) H)
      | (with_reducible first | replace H := le_bind (interval_computer_sub.le ..) H | replace H := le_ap (interval_computer_sub.le ..) H)
      | (with_reducible first | replace H := le_bind (interval_computer_mul.le ..) H | replace H := le_ap (interval_computer_mul.le ..) H)
      | (simp [interval_computer_compute.j0, interval_computer_compute.j1, interval_computer_compute.j2, beq_dec, bne_dec, *] at H; done)
      | (simp [interval_computer_compute.j0, interval_computer_compute.j1, interval_computer_compute.j2, beq_dec, bne_dec, *] at H)
      | (rw [if_pos (by omega)] at H)
      | (rw [if_neg (by omega)] at H)
      | (have hc := And.left H; replace H := And.right H; try (exfalso; clear H; omega)))
  all_goals first
    | (subst H; rfl)
    | (subst H; simp; done)
    | (cases H; rfl)
    | (exfalso; clear H; omega)
    | (subst H; simp [beq_dec, bne_dec, *]; done)
    | (simp_all [beq_dec, bne_dec]; done)
    | (simp_all [beq_dec, bne_dec]; subst H; first | rfl | (simp; done) | (simp [*]; done))
set_option maxRecDepth 100000 in
set_option maxHeartbeats 40000000 in
theorem interval_Tighten.ev (a0 : Int) (a1_0 : Int) (a1_1 : Int) (a1_2 : Int) (a1_3 : Int) (r : Int × Int × Int × Int × Bool) (H : interval_Tighten.f k a0 a1_0 a1_1 a1_2 a1_3 = some r)
  (g38 : _) (e38 : g38 = bits_Signed.f) (h38 : bits_Signed.Is K g38)
  (g48 : _) (e48 : g48 = bits_From.f) (h48 : bits_From.Is K g48)
  (g18 : _) (e18 : g18 = interval_Valid.f) (h18 : interval_Valid.Is K g18)
  (g25 : _) (e25 : g25 = interval_ends.f) (h25 : interval_ends.Is K g25)
  : evFn ⟨tys, ⟨op, ok, cmp, neg, not, wrap, mn', mx', idx, len, get, cut, app, byte⟩, lp⟩ (k + 8) K h23 Try.f23 [V.sc (.int .i64 a0), V.agg [V.sc (.int .u64 a1_0), V.sc (.int .u64 a1_1), V.sc (.int .i64 a1_2), V.sc (.int .i64 a1_3)]] [] = some (V.tup [V.agg [V.sc (.int .u64 r.1), V.sc (.int .u64 r.2.1), V.sc (.int .i64 r.2.2.1), V.sc (.int .i64 r.2.2.2.1)], V.sc (.bool r.2.2.2.2)], []) := by
  generalize hR : some (V.tup [V.agg [V.sc (.int .u64 r.1), V.sc (.int .u64 r.2.1), V.sc (.int .i64 r.2.2.1), V.sc (.int .i64 r.2.2.2.1)], V.sc (.bool r.2.2.2.2)], ([] : Heap)) = R
  have hcm := rcm hA hc2
  have hokm := rok hA hok2
  all_goals cbv
  all_goals repeat' (first
    | (rewrite [h38, hq38]; cbv)
    | (rewrite [h38]; generalize hq38 : g38 _ _ = o; rcases o with _ | _ <;> cbv)
    | (rewrite [h48, hq48]; cbv)
    | (rewrite [h48]; generalize hq48 : g48 _ _ = o; rcases o with _ | _ <;> cbv)
    | (rewrite [h18, hq18]; cbv)
    | (rewrite [h18]; generalize hq18 : g18 _ _ _ _ _ = o; rcases o with _ | _ | _ <;> cbv)
    | (rewrite [h25, hq25]; cbv)
    | (rewrite [h25]; generalize hq25 : g25 _ = o; rcases o with _ | ⟨_, _⟩ <;> cbv)
    | (rewrite [hok2]; generalize hq : ok2 _ _ = o; cases o <;> cbv)
    | (rewrite [hc2]; generalize hq : c2 _ _ _ = o; cases o <;> (rewrite [hcm] at hq; simp only [rc] at hq) <;> first | (exfalso; omega) | cbv))
  all_goals
    obtain rfl := c2_eq hcm
    obtain rfl := ok2_eq hokm
    subst e38 e48 e18 e25 hR
    clear h38 h48 h18 h25 hc2 hok2 hcm hokm
    obtain ⟨rfl, rfl, rfl, rfl, rfl, rfl, rfl, rfl, rfl, rfl⟩ := eqsA hA
    clear hA
    try simp only [rl] at *
    try subst_vars
    try replace H := up8 (fun k => interval_Tighten.mono _ _ _ _ _ k) k _ H
    try simp only [interval_Tighten.f, beq_dec, bne_dec] at H
    repeat (first
      | (simp [interval_Tighten.j0, interval_Tighten.j1, interval_Tighten.j2, beq_dec, bne_dec, *] at H; done)
      | (simp [interval_Tighten.j0, interval_Tighten.j1, interval_Tighten.j2, beq_dec, bne_dec, *] at H)
      | (rw [if_pos (by omega)] at H)
      | (rw [if_neg (by omega)] at H)
      | (have hc := And.left H; replace H := And.right H; try (exfalso; clear H; omega)))
  all_goals first
    | (subst H; rfl)
    | (subst H; simp; done)
    | (cases H; rfl)
    | (exfalso; clear H; omega)
    | (subst H; simp [beq_dec, bne_dec, *]; done)
    | (simp_all [beq_dec, bne_dec]; done)
    | (simp_all [beq_dec, bne_dec]; subst H; first | rfl | (simp; done) | (simp [*]; done))
set_option maxRecDepth 100000 in
set_option maxHeartbeats 40000000 in
theorem interval_computer_corners.ev (s0_0 : Int) (s0_1 : Int) (s0_2 : Int) (s0_3 : Int) (s0_4 : Int) (s0_5 : Int) (s0_6 : Int) (s0_7 : Int) (a1 : Int) (l2 : List Int) (r : Int × Int × Int × Int × Int × Int × Int × Int) (H : interval_computer_corners.f k s0_0 s0_1 s0_2 s0_3 s0_4 s0_5 s0_6 s0_7 a1 l2 = some r)
  (g79 : _) (e79 : g79 = interval_computer_s.f) (h79 : interval_computer_s.Is K g79)
  : evFn ⟨tys, ⟨op, ok, cmp, neg, not, wrap, mn', mx', idx, len, get, cut, app, byte⟩, lp⟩ (k + 8) K h83 Try.f83 [V.ptr 0 0, V.sc (.int .i64 a1), V.sl false (l2.map fun x : Int => [V.sc (.int .i64 x)])] [[V.sc (.int .i64 s0_0), V.sc (.int .u64 s0_1), V.sc (.int .i64 s0_2), V.sc (.int .i64 s0_3), V.sc (.int .u64 s0_4), V.sc (.int .u64 s0_5), V.sc (.int .i64 s0_6), V.sc (.int .i64 s0_7)]] = some (V.tup [], [[V.sc (.int .i64 r.1), V.sc (.int .u64 r.2.1), V.sc (.int .i64 r.2.2.1), V.sc (.int .i64 r.2.2.2.1), V.sc (.int .u64 r.2.2.2.2.1), V.sc (.int .u64 r.2.2.2.2.2.1), V.sc (.int .i64 r.2.2.2.2.2.2.1), V.sc (.int .i64 r.2.2.2.2.2.2.2)]]) := by
  generalize hR : some (V.tup [], [[V.sc (.int .i64 r.1), V.sc (.int .u64 r.2.1), V.sc (.int .i64 r.2.2.1), V.sc (.int .i64 r.2.2.2.1), V.sc (.int .u64 r.2.2.2.2.1), V.sc (.int .u64 r.2.2.2.2.2.1), V.sc (.int .i64 r.2.2.2.2.2.2.1), V.sc (.int .i64 r.2.2.2.2.2.2.2)]]) = R
  have hcm := rcm hA hc2
  have hokm := rok hA hok2
  obtain ⟨lp2, hlp2, hlp⟩ : ∃ lp2, lp2 = rounds ∧ ∀ b n0 kp L st, lp b n0 kp L st = lp2 b n0 kp L st := ⟨lp, lp_eq hA, fun _ _ _ _ _ => rfl⟩
  obtain ⟨cl2, bl2, pl2_0, hcl2, hbl2, hpl2_0, hgl2, hul2⟩ := li_int .i64 (get_eq hA) l2
  rw [← hcl2]
  all_goals cbv
  all_goals repeat' (first
    | (rewrite [h79, hq79]; cbv)
    | (rewrite [h79]; generalize hq79 : g79 _ _ _ _ _ _ _ _ _ _ = o; rcases o with _ | ⟨_, _, _, _, _, _, _, _⟩ <;> cbv)
    | (rewrite [hgl2]; generalize hq : bl2 _ = o; cases o <;> first | (exact absurd (hq.symm.trans (by assumption : bl2 _ = true)) Bool.false_ne_true) | (exact absurd (hq.symm.trans (by assumption : bl2 _ = false)) (fun h => Bool.false_ne_true h.symm)) | cbv)
    | (rewrite [hok2]; generalize hq : ok2 _ _ = o; cases o <;> cbv)
    | (rewrite [hc2]; generalize hq : c2 _ _ _ = o; cases o <;> (rewrite [hcm] at hq; simp only [rc] at hq) <;> first | (exfalso; omega) | cbv)
    | (rewrite [hlp]; generalize hl : lp2 _ _ _ _ _ = o; revert o
       refine loop_rule hlp2 (fun (y : Int × Int × Int) st => ⟨(((st.s.set 6 (V.sc (.int .i64 y.1))).set 7 (V.sc (.int .i64 y.2.1))).set 14 (V.sc (.int .i64 y.2.2))), st.h⟩) (fun n y => interval_computer_corners.l0 n y.1 y.2.1 l2 (l2.length : Int) y.2.2 s0_0 s0_1 s0_2 s0_3 s0_4 s0_5 s0_6 s0_7 = some r) (n := k + 8) (x := (?x6_1, ?x7_1, ?x14_1)) ?hst (fun y h => by simp [interval_computer_corners.l0] at h) ?hq ?hn ?hs
       case hst => exact rfl
       case hq =>
         obtain rfl := c2_eq hcm
         obtain rfl := ok2_eq hokm
         subst e79 hR
         clear h79 hc2 hok2 hcm hokm hul2 hgl2 hlp
         subst hcl2 hbl2 hpl2_0
         obtain ⟨rfl, rfl, rfl, rfl, rfl, rfl, rfl, rfl, rfl, rfl⟩ := eqsA hA
         clear hA
         try simp only [rl] at *
         try subst_vars
         try replace H := up8 (fun k => interval_computer_corners.mono _ _ _ _ _ _ _ _ _ _ k) k _ H
         try simp only [interval_computer_corners.f, beq_dec, bne_dec] at H
         repeat (first
           | (simp [beq_dec, bne_dec, *] at H; done)
           | (simp [beq_dec, bne_dec, *] at H)
           | (rw [if_pos (by omega)] at H)
           | (rw [if_neg (by omega)] at H)
           | (have hc := And.left H; replace H := And.right H; try (exfalso; clear H; omega)))
         all_goals first | exact H | exact le_ap (le_of_le (g := fun k => interval_computer_corners.l0 k _ _ _ _ _ _ _ _ _ _ _ _ _) (fun k => (interval_computer_corners.mono_l k) _ _ _ _ _ _ _ _ _ _ _ _ _) (by omega)) H | (rw [hq]; exact le_ap (le_of_le (g := fun k => interval_computer_corners.l0 k _ _ _ _ _ _ _ _ _ _ _ _ _) (fun k => (interval_computer_corners.mono_l k) _ _ _ _ _ _ _ _ _ _ _ _ _) (by omega)) H) | (simp_all; done)
       case hn => omega
       case' hs =>
         clear H
         intro m nx ⟨x6_1, x7_1, x14_1⟩ hnx H
         all_goals cbv))
  all_goals
    obtain rfl := c2_eq hcm
    obtain rfl := ok2_eq hokm
    subst e79 hR
    clear h79 hc2 hok2 hcm hokm hul2 hgl2 hlp
    subst hcl2 hbl2 hpl2_0
    obtain ⟨rfl, rfl, rfl, rfl, rfl, rfl, rfl, rfl, rfl, rfl⟩ := eqsA hA
    clear hA
    try simp only [rl] at *
    try (exact hnx (_, _, _) H)
    try replace hnx : Go.RowKit.Hid _ := hnx
    try subst_vars
    try replace H := up8 (fun k => interval_computer_corners.mono _ _ _ _ _ _ _ _ _ _ k) k _ H
    try simp only [interval_computer_corners.f, beq_dec, bne_dec] at H
    try simp only [interval_computer_corners.l0, beq_dec, bne_dec] at H
    repeat (first
      | (simp [beq_dec, bne_dec, *] at H; done)
      | (simp [beq_dec, bne_dec, *] at H)
      | (rw [if_pos (by omega)] at H)
      | (rw [if_neg (by omega)] at H)
      | (have hc := And.left H; replace H := And.right H; try (exfalso; clear H; (try clear hnx); omega)))
  all_goals first
    | (exact hnx.out (_, _, _) H)
    | (rw [← hq] at H; exact hnx.out (_, _, _) H)
    | (subst H; rfl)
    | (subst H; simp; done)
    | (cases H; rfl)
    | (exfalso; clear H; (try clear hnx); omega)
    | (exfalso; clear H; (try clear hnx); simp only [natCast_eq] at *; omega)
    | (simp only [*] at hq79; simp [*] at H; done)
    | (simp only [*] at hq79; simp [*] at H; subst H; first | rfl | (simp; done))
    | (subst H; simp [beq_dec, bne_dec, *]; done)
    | (simp_all [beq_dec, bne_dec]; done)
    | (simp_all [beq_dec, bne_dec]; subst H; first | rfl | (simp; done) | (simp [*]; done))
set_option maxRecDepth 100000 in
set_option maxHeartbeats 40000000 in
theorem jacquardlaw13_awake.ev  (r : Bool) (H : jacquardlaw13_awake.f  = some r)
  (g21 : _) (e21 : g21 = interval_Top.f) (h21 : interval_Top.Is K g21)
  (g14 : _) (e14 : g14 = interval_Of.f) (h14 : interval_Of.Is K g14)
  : evFn ⟨tys, ⟨op, ok, cmp, neg, not, wrap, mn', mx', idx, len, get, cut, app, byte⟩, lp⟩ (k + 8) K h8 Try.f8 [] [] = some (V.sc (.bool r), []) := by
  generalize hR : some (V.sc (.bool r), ([] : Heap)) = R
  have hcm := rcm hA hc2
  have hokm := rok hA hok2
  all_goals cbv
  all_goals repeat' (first
    | (rewrite [h21, hq21]; cbv)
    | (rewrite [h21]; generalize hq21 : g21 _ = o; rcases o with _ | ⟨_, _, _, _⟩ <;> cbv)
    | (rewrite [h14, hq14]; cbv)
    | (rewrite [h14]; generalize hq14 : g14 _ _ = o; rcases o with _ | ⟨_, _, _, _⟩ <;> cbv)
    | (rewrite [hok2]; generalize hq : ok2 _ _ = o; cases o <;> cbv)
    | (rewrite [hc2]; generalize hq : c2 _ _ _ = o; cases o <;> (rewrite [hcm] at hq; simp only [rc] at hq) <;> first | (exfalso; omega) | cbv))
  all_goals
    obtain rfl := c2_eq hcm
    obtain rfl := ok2_eq hokm
    subst e21 e14 hR
    clear h21 h14 hc2 hok2 hcm hokm
    obtain ⟨rfl, rfl, rfl, rfl, rfl, rfl, rfl, rfl, rfl, rfl⟩ := eqsA hA
    clear hA
    try simp only [rl] at *
    try subst_vars
    try simp only [jacquardlaw13_awake.f, beq_dec, bne_dec] at H
    repeat (first
      | (simp [beq_dec, bne_dec, *] at H; done)
      | (simp [beq_dec, bne_dec, *] at H)
      | (rw [if_pos (by omega)] at H)
      | (rw [if_neg (by omega)] at H)
      | (have hc := And.left H; replace H := And.right H; try (exfalso; clear H; omega)))
  all_goals first
    | (subst H; rfl)
    | (subst H; simp; done)
    | (cases H; rfl)
    | (exfalso; clear H; omega)
    | (subst H; simp [beq_dec, bne_dec, *]; done)
    | (simp_all [beq_dec, bne_dec]; done)
    | (simp_all [beq_dec, bne_dec]; subst H; first | rfl | (simp; done) | (simp [*]; done))
set_option maxRecDepth 100000 in
set_option maxHeartbeats 40000000 in
theorem interval_Top.ev (a0 : Int) (r : Int × Int × Int × Int) (H : interval_Top.f a0 = some r)
  (g36 : _) (e36 : g36 = interval_good.f) (h36 : interval_good.Is K g36)
  (g25 : _) (e25 : g25 = interval_ends.f) (h25 : interval_ends.Is K g25)
  (g26 : _) (e26 : g26 = bits_Mask.f) (h26 : bits_Mask.Is K g26)
  : evFn ⟨tys, ⟨op, ok, cmp, neg, not, wrap, mn', mx', idx, len, get, cut, app, byte⟩, lp⟩ (k + 8) K h21 Try.f21 [V.sc (.int .i64 a0)] [] = some (V.agg [V.sc (.int .u64 r.1), V.sc (.int .u64 r.2.1), V.sc (.int .i64 r.2.2.1), V.sc (.int .i64 r.2.2.2)], []) := by
  generalize hR : some (V.agg [V.sc (.int .u64 r.1), V.sc (.int .u64 r.2.1), V.sc (.int .i64 r.2.2.1), V.sc (.int .i64 r.2.2.2)], ([] : Heap)) = R
  have hcm := rcm hA hc2
  have hokm := rok hA hok2
  all_goals cbv
  all_goals repeat' (first
    | (rewrite [h36, hq36]; cbv)
    | (rewrite [h36]; generalize hq36 : g36 _ = o; rcases o with _ | _ | _ <;> cbv)
    | (rewrite [h25, hq25]; cbv)
    | (rewrite [h25]; generalize hq25 : g25 _ = o; rcases o with _ | ⟨_, _⟩ <;> cbv)
    | (rewrite [h26, hq26]; cbv)
    | (rewrite [h26]; generalize hq26 : g26 _ = o; rcases o with _ | _ <;> cbv)
    | (rewrite [hok2]; generalize hq : ok2 _ _ = o; cases o <;> cbv)
    | (rewrite [hc2]; generalize hq : c2 _ _ _ = o; cases o <;> (rewrite [hcm] at hq; simp only [rc] at hq) <;> first | (exfalso; omega) | cbv))
  all_goals
    obtain rfl := c2_eq hcm
    obtain rfl := ok2_eq hokm
    subst e36 e25 e26 hR
    clear h36 h25 h26 hc2 hok2 hcm hokm
    obtain ⟨rfl, rfl, rfl, rfl, rfl, rfl, rfl, rfl, rfl, rfl⟩ := eqsA hA
    clear hA
    try simp only [rl] at *
    try subst_vars
    try simp only [interval_Top.f, beq_dec, bne_dec] at H
    repeat (first
      | (simp [beq_dec, bne_dec, *] at H; done)
      | (simp [beq_dec, bne_dec, *] at H)
      | (rw [if_pos (by omega)] at H)
      | (rw [if_neg (by omega)] at H)
      | (have hc := And.left H; replace H := And.right H; try (exfalso; clear H; omega)))
  all_goals first
    | (subst H; rfl)
    | (subst H; simp; done)
    | (cases H; rfl)
    | (exfalso; clear H; omega)
    | (subst H; simp [beq_dec, bne_dec, *]; done)
    | (simp_all [beq_dec, bne_dec]; done)
    | (simp_all [beq_dec, bne_dec]; subst H; first | rfl | (simp; done) | (simp [*]; done))
set_option maxRecDepth 100000 in
set_option maxHeartbeats 40000000 in
theorem interval_computer_within.ev (s0_0 : Int) (s0_1 : Int) (s0_2 : Int) (s0_3 : Int) (s0_4 : Int) (s0_5 : Int) (s0_6 : Int) (s0_7 : Int) (a1 : Int) (r : Bool) (H : interval_computer_within.f s0_0 s0_1 s0_2 s0_3 s0_4 s0_5 s0_6 s0_7 a1 = some r)
  : evFn ⟨tys, ⟨op, ok, cmp, neg, not, wrap, mn', mx', idx, len, get, cut, app, byte⟩, lp⟩ (k + 8) K h84 Try.f84 [V.ptr 0 0, V.sc (.int .i64 a1)] [[V.sc (.int .i64 s0_0), V.sc (.int .u64 s0_1), V.sc (.int .i64 s0_2), V.sc (.int .i64 s0_3), V.sc (.int .u64 s0_4), V.sc (.int .u64 s0_5), V.sc (.int .i64 s0_6), V.sc (.int .i64 s0_7)]] = some (V.sc (.bool r), [[V.sc (.int .i64 s0_0), V.sc (.int .u64 s0_1), V.sc (.int .i64 s0_2), V.sc (.int .i64 s0_3), V.sc (.int .u64 s0_4), V.sc (.int .u64 s0_5), V.sc (.int .i64 s0_6), V.sc (.int .i64 s0_7)]]) := by
  generalize hR : some (V.sc (.bool r), [[V.sc (.int .i64 s0_0), V.sc (.int .u64 s0_1), V.sc (.int .i64 s0_2), V.sc (.int .i64 s0_3), V.sc (.int .u64 s0_4), V.sc (.int .u64 s0_5), V.sc (.int .i64 s0_6), V.sc (.int .i64 s0_7)]]) = R
  have hcm := rcm hA hc2
  have hokm := rok hA hok2
  all_goals cbv
  all_goals repeat' (first
    | (rewrite [hok2]; generalize hq : ok2 _ _ = o; cases o <;> cbv)
    | (rewrite [hc2]; generalize hq : c2 _ _ _ = o; cases o <;> (rewrite [hcm] at hq; simp only [rc] at hq) <;> first | (exfalso; omega) | cbv))
  all_goals
    obtain rfl := c2_eq hcm
    obtain rfl := ok2_eq hokm
    subst  hR
    clear hc2 hok2 hcm hokm
    obtain ⟨rfl, rfl, rfl, rfl, rfl, rfl, rfl, rfl, rfl, rfl⟩ := eqsA hA
    clear hA
    try simp only [rl] at *
    try subst_vars
    try simp only [interval_computer_within.f, beq_dec, bne_dec] at H
    repeat (first
      | (simp [beq_dec, bne_dec, *] at H; done)
      | (simp [beq_dec, bne_dec, *] at H)
      | (rw [if_pos (by omega)] at H)
      | (rw [if_neg (by omega)] at H)
      | (have hc := And.left H; replace H := And.right H; try (exfalso; clear H; omega)))
  all_goals first
    | (subst H; rfl)
    | (subst H; simp; done)
    | (cases H; rfl)
    | (exfalso; clear H; omega)
    | (subst H; simp [beq_dec, bne_dec, *]; done)
    | (simp_all [beq_dec, bne_dec]; done)
    | (simp_all [beq_dec, bne_dec]; subst H; first | rfl | (simp; done) | (simp [*]; done))
set_option maxRecDepth 100000 in
set_option maxHeartbeats 40000000 in
theorem bits_IsBinary.ev (a0 : Int) (r : Bool) (H : bits_IsBinary.f a0 = some r)
  : evFn ⟨tys, ⟨op, ok, cmp, neg, not, wrap, mn', mx', idx, len, get, cut, app, byte⟩, lp⟩ (k + 8) K h47 Try.f47 [V.sc (.int .i64 a0)] [] = some (V.sc (.bool r), []) := by
  generalize hR : some (V.sc (.bool r), ([] : Heap)) = R
  have hcm := rcm hA hc2
  have hokm := rok hA hok2
  all_goals cbv
  all_goals repeat' (first
    | (rewrite [hok2]; generalize hq : ok2 _ _ = o; cases o <;> cbv)
    | (rewrite [hc2]; generalize hq : c2 _ _ _ = o; cases o <;> (rewrite [hcm] at hq; simp only [rc] at hq) <;> first | (exfalso; omega) | cbv))
  all_goals
    obtain rfl := c2_eq hcm
    obtain rfl := ok2_eq hokm
    subst  hR
    clear hc2 hok2 hcm hokm
    obtain ⟨rfl, rfl, rfl, rfl, rfl, rfl, rfl, rfl, rfl, rfl⟩ := eqsA hA
    clear hA
    try simp only [rl] at *
    try subst_vars
    try simp only [bits_IsBinary.f, beq_dec, bne_dec] at H
    repeat (first
      | (simp [beq_dec, bne_dec, *] at H; done)
      | (simp [beq_dec, bne_dec, *] at H)
      | (rw [if_pos (by omega)] at H)
      | (rw [if_neg (by omega)] at H)
      | (have hc := And.left H; replace H := And.right H; try (exfalso; clear H; omega)))
  all_goals first
    | (subst H; rfl)
    | (subst H; simp; done)
    | (cases H; rfl)
    | (exfalso; clear H; omega)
    | (subst H; simp [beq_dec, bne_dec, *]; done)
    | (simp_all [beq_dec, bne_dec]; done)
    | (simp_all [beq_dec, bne_dec]; subst H; first | rfl | (simp; done) | (simp [*]; done))
set_option maxRecDepth 100000 in
set_option maxHeartbeats 40000000 in
theorem bits_limit.ev (a0 : Int) (r : Int) (H : bits_limit.f a0 = some r)
  : evFn ⟨tys, ⟨op, ok, cmp, neg, not, wrap, mn', mx', idx, len, get, cut, app, byte⟩, lp⟩ (k + 8) K h51 Try.f51 [V.sc (.int .i64 a0)] [] = some (V.sc (.int .i64 r), []) := by
  generalize hR : some (V.sc (.int .i64 r), ([] : Heap)) = R
  have hcm := rcm hA hc2
  have hokm := rok hA hok2
  all_goals cbv
  all_goals repeat' (first
    | (rewrite [hok2]; generalize hq : ok2 _ _ = o; cases o <;> cbv)
    | (rewrite [hc2]; generalize hq : c2 _ _ _ = o; cases o <;> (rewrite [hcm] at hq; simp only [rc] at hq) <;> first | (exfalso; omega) | cbv))
  all_goals
    obtain rfl := c2_eq hcm
    obtain rfl := ok2_eq hokm
    subst  hR
    clear hc2 hok2 hcm hokm
    obtain ⟨rfl, rfl, rfl, rfl, rfl, rfl, rfl, rfl, rfl, rfl⟩ := eqsA hA
    clear hA
    try simp only [rl] at *
    try subst_vars
    try simp only [bits_limit.f, beq_dec, bne_dec] at H
    repeat (first
      | (simp [beq_dec, bne_dec, *] at H; done)
      | (simp [beq_dec, bne_dec, *] at H)
      | (rw [if_pos (by omega)] at H)
      | (rw [if_neg (by omega)] at H)
      | (have hc := And.left H; replace H := And.right H; try (exfalso; clear H; omega)))
  all_goals first
    | (subst H; rfl)
    | (subst H; simp; done)
    | (cases H; rfl)
    | (exfalso; clear H; omega)
    | (subst H; simp [beq_dec, bne_dec, *]; done)
    | (simp_all [beq_dec, bne_dec]; done)
    | (simp_all [beq_dec, bne_dec]; subst H; first | rfl | (simp; done) | (simp [*]; done))
end
end Go.Vm
