/- What the evaluator makes of the functions' code (162 s). -/
import Derived.Test.YtoddafkffchnjaaO
namespace Go.Vm
open Go.Proofs Go.Proofs.Ytoddafkffchnjaa Go.Proofs.Ytoddafkffchnjaa.P Go.RowKit Go.Proofs.YtoddafkffchnjaaW.PrintWords Go.Proofs.YtoddafkffchnjaaW.PrintLast Go.Proofs.YtoddafkffchnjaaW.PrintMore
set_option linter.unusedVariables false
set_option linter.unusedSimpArgs false
set_option linter.unusedSectionVars false
set_option linter.unusedVariables false
set_option linter.unusedSimpArgs false
section
variable {op : BinOp → IntKind → Int → Int → Int} {ok : BinOp → Int → Bool} {cmp : BinOp → Int → Int → Bool} {neg not wrap : IntKind → Int → Int} {mn' mx' : Int → Int → Int} {idx : Int → Option Nat}
  {len : List (List V) → Int} {get : List (List V) → Int → Option (List V)} {cut : Nat → List (List V) → Option V → Option V → Option (List (List V))} {app : Nat → Nat → List (List V) → List (List V) → Option (List (List V))} {byte : ByteArray → Int → Option Int}
  {lp : (St → Option (Ex × St)) → Nat → List Nat → Nat → St → Option (Ex × St)} {c2 : BinOp → Int → Int → Bool} {ok2 : BinOp → Int → Bool}
variable (hA : (⟨tys, ⟨op, ok, cmp, neg, not, wrap, mn', mx', idx, len, get, cut, app, byte⟩, lp⟩ : En) = ⟨tys, real, rounds⟩) (hc2 : ∀ o a b, cmp o a b = c2 o a b) (hok2 : ∀ o a, ok o a = ok2 o a) (k : Nat) (K : Oracle)
include hA hc2 hok2
set_option maxRecDepth 100000 in
set_option maxHeartbeats 40000000 in
theorem interval_computer_compute.ev (s0_0 : Int) (s0_1 : Int) (s0_2 : Int) (s0_3 : Int) (s0_4 : Int) (s0_5 : Int) (s0_6 : Int) (s0_7 : Int) (a1 : Int) (l2 : List Int) (l3 : List (S30)) (r : Int × Int × Int × Int × Int × Int × Int × Int) (H : interval_computer_compute.f k s0_0 s0_1 s0_2 s0_3 s0_4 s0_5 s0_6 s0_7 a1 l2 l3 = some r)
  (g55 : _) (e55 : g55 = interval_computer_divide.F) (h55 : interval_computer_divide.Is K g55)
  (g56 : _) (e56 : g56 = interval_computer_u.f) (h56 : interval_computer_u.Is K g56)
  (g57 : _) (e57 : g57 = bits_Len64.F) (h57 : bits_Len64.Is K g57)
  (g26 : _) (e26 : g26 = bits_Mask.f) (h26 : bits_Mask.Is K g26)
  (g58 : _) (e58 : g58 = interval_computer_shift.F) (h58 : interval_computer_shift.Is K g58)
  (g59 : _) (e59 : g59 = interval_Join.f) (h59 : interval_Join.Is K g59)
  (g60 : _) (e60 : g60 = interval_computer_convert.F) (h60 : interval_computer_convert.Is K g60)
  (g61 : _) (e61 : g61 = interval_computer_compare.F) (h61 : interval_computer_compare.Is K g61)
  (g52 : _) (e52 : g52 = interval_computer_add.F) (h52 : interval_computer_add.Is K g52)
  (g53 : _) (e53 : g53 = interval_computer_sub.F) (h53 : interval_computer_sub.Is K g53)
  (g54 : _) (e54 : g54 = interval_computer_mul.F) (h54 : interval_computer_mul.Is K g54)
  : evFn ⟨tys, ⟨op, ok, cmp, neg, not, wrap, mn', mx', idx, len, get, cut, app, byte⟩, lp⟩ (k + 8) K h27 Try.f27 [V.ptr 0 0, V.sc (.int .i64 a1), V.sl false (l2.map fun x : Int => [V.sc (.int .i64 x)]), V.sl false (l3.map fun x : S30 => [V.sc (.int .u64 x.f0), V.sc (.int .u64 x.f1), V.sc (.int .i64 x.f2), V.sc (.int .i64 x.f3)])] [[V.sc (.int .i64 s0_0), V.sc (.int .u64 s0_1), V.sc (.int .i64 s0_2), V.sc (.int .i64 s0_3), V.sc (.int .u64 s0_4), V.sc (.int .u64 s0_5), V.sc (.int .i64 s0_6), V.sc (.int .i64 s0_7)]] = some (V.tup [], [[V.sc (.int .i64 r.1), V.sc (.int .u64 r.2.1), V.sc (.int .i64 r.2.2.1), V.sc (.int .i64 r.2.2.2.1), V.sc (.int .u64 r.2.2.2.2.1), V.sc (.int .u64 r.2.2.2.2.2.1), V.sc (.int .i64 r.2.2.2.2.2.2.1), V.sc (.int .i64 r.2.2.2.2.2.2.2)]]) := by
  generalize hR : some (V.tup [], [[V.sc (.int .i64 r.1), V.sc (.int .u64 r.2.1), V.sc (.int .i64 r.2.2.1), V.sc (.int .i64 r.2.2.2.1), V.sc (.int .u64 r.2.2.2.2.1), V.sc (.int .u64 r.2.2.2.2.2.1), V.sc (.int .i64 r.2.2.2.2.2.2.1), V.sc (.int .i64 r.2.2.2.2.2.2.2)]]) = R
  have hcm := rcm hA hc2
  have hokm := rok hA hok2
  obtain ⟨cl2, bl2, pl2_0, hcl2, hbl2, hpl2_0, hgl2, hul2⟩ := li_int .i64 (get_eq hA) l2
  rw [← hcl2]
  obtain ⟨cl3, bl3, pl3_0, pl3_1, pl3_2, pl3_3, hcl3, hbl3, hpl3_0, hpl3_1, hpl3_2, hpl3_3, hgl3, hul3⟩ := li_k30 (get_eq hA) l3
  rw [← hcl3]
  all_goals cbv
  all_goals repeat' (first
    | (rewrite [h55, hq55]; cbv)
    | (rewrite [h55]; generalize hq55 : g55 _ _ _ _ _ _ _ _ _ _ _ _ _ _ _ _ _ = o; rcases o with _ | ⟨_, _, _, _, _, _, _, _⟩ <;> cbv)
    | (rewrite [h56, hq56]; cbv)
    | (rewrite [h56]; generalize hq56 : g56 _ _ _ _ _ _ _ _ _ _ = o; rcases o with _ | ⟨_, _, _, _, _, _, _, _⟩ <;> cbv)
    | (rewrite [h57, hq57]; cbv)
    | (rewrite [h57]; generalize hq57 : g57 _ = o; rcases o with _ | _ <;> cbv)
    | (rewrite [h26, hq26]; cbv)
    | (rewrite [h26]; generalize hq26 : g26 _ = o; rcases o with _ | _ <;> cbv)
    | (rewrite [h58, hq58]; cbv)
    | (rewrite [h58]; generalize hq58 : g58 _ _ _ _ _ _ _ _ _ _ _ _ _ _ _ _ _ = o; rcases o with _ | ⟨_, _, _, _, _, _, _, _⟩ <;> cbv)
    | (rewrite [h59, hq59]; cbv)
    | (rewrite [h59]; generalize hq59 : g59 _ _ _ _ _ _ _ _ = o; rcases o with _ | ⟨_, _, _, _⟩ <;> cbv)
    | (rewrite [h60, hq60]; cbv)
    | (rewrite [h60]; generalize hq60 : g60 _ _ _ _ _ _ _ _ _ _ _ _ _ _ = o; rcases o with _ | ⟨_, _, _, _, _, _, _, _⟩ <;> cbv)
    | (rewrite [h61, hq61]; cbv)
    | (rewrite [h61]; generalize hq61 : g61 _ _ _ _ _ _ _ _ _ _ _ _ _ _ _ _ _ = o; rcases o with _ | ⟨_, _, _, _, _, _, _, _⟩ <;> cbv)
    | (rewrite [h52, hq52]; cbv)
    | (rewrite [h52]; generalize hq52 : g52 _ _ _ _ _ _ _ _ _ _ _ _ _ _ _ _ = o; rcases o with _ | ⟨_, _, _, _, _, _, _, _⟩ <;> cbv)
    | (rewrite [h53, hq53]; cbv)
    | (rewrite [h53]; generalize hq53 : g53 _ _ _ _ _ _ _ _ _ _ _ _ _ _ _ _ = o; rcases o with _ | ⟨_, _, _, _, _, _, _, _⟩ <;> cbv)
    | (rewrite [h54, hq54]; cbv)
    | (rewrite [h54]; generalize hq54 : g54 _ _ _ _ _ _ _ _ _ _ _ _ _ _ _ _ = o; rcases o with _ | ⟨_, _, _, _, _, _, _, _⟩ <;> cbv)
    | (rewrite [hgl2]; generalize hq : bl2 _ = o; cases o <;> first | (exact absurd (hq.symm.trans (by assumption : bl2 _ = true)) Bool.false_ne_true) | (exact absurd (hq.symm.trans (by assumption : bl2 _ = false)) (fun h => Bool.false_ne_true h.symm)) | cbv)
    | (rewrite [hgl3]; generalize hq : bl3 _ = o; cases o <;> first | (exact absurd (hq.symm.trans (by assumption : bl3 _ = true)) Bool.false_ne_true) | (exact absurd (hq.symm.trans (by assumption : bl3 _ = false)) (fun h => Bool.false_ne_true h.symm)) | cbv)
    | (rewrite [hok2]; generalize hq : ok2 _ _ = o; cases o <;> cbv)
    | (rewrite [hc2]; generalize hq : c2 _ _ _ = o; cases o <;> (rewrite [hcm] at hq; simp only [rc] at hq) <;> first | (exfalso; omega) | cbv))
  all_goals
    obtain rfl := c2_eq hcm
    obtain rfl := ok2_eq hokm
    subst e55 e56 e57 e26 e58 e59 e60 e61 e52 e53 e54 hR
    clear h55 h56 h57 h26 h58 h59 h60 h61 h52 h53 h54 hc2 hok2 hcm hokm hul2 hgl2 hul3 hgl3
    subst hcl2 hbl2 hpl2_0 hcl3 hbl3 hpl3_0 hpl3_1 hpl3_2 hpl3_3
    obtain ⟨rfl, rfl, rfl, rfl, rfl, rfl, rfl, rfl, rfl, rfl⟩ := eqsA hA
    clear hA
    try simp only [rl] at *
    try subst_vars
    try replace H := up8 (fun k => interval_computer_compute.mono _ _ _ _ _ _ _ _ _ _ _ k) k _ H
    try simp only [interval_computer_compute.f, beq_dec, bne_dec] at H
    repeat (first
      | (with_reducible first | replace H := le_bind (interval_computer_divide.le ..) H | replace H := le_ap (interval_computer_divide.le ..) H)
      | (with_reducible first | replace H := le_bind (bits_Len64.le ..) H | replace H := le_ap (bits_Len64.le ..) H)
      | (with_reducible first | replace H := le_bind (interval_computer_shift.le ..) H | replace H := le_ap (interval_computer_shift.le ..) H)
      | (with_reducible first | replace H := le_bind (interval_computer_convert.le ..) H | replace H := le_ap (interval_computer_convert.le ..) H)
      | (with_reducible first | replace H := le_bind (interval_computer_compare.le ..) H | replace H := le_ap (interval_computer_compare.le ..) H)
      | (with_reducible first | replace H := le_bind (interval_computer_add.le ..) H | replace H := le_ap (interval_computer_add.le ..) H)
      | (with_reducible first | replace H := le_bind (interval_computer_sub.le ..) H | replace H := le_ap (interval_computer_sub.le ..) H)
      | (with_reducible first | replace H := le_bind (interval_computer_mul.le ..) H | replace H := le_ap (interval_computer_mul.le ..) H)
      | (simp [interval_computer_compute.j0, interval_computer_compute.j1, interval_computer_compute.j2, beq_dec, bne_dec, *] at H; done)
      | (simp [interval_computer_compute.j0, interval_computer_compute.j1, interval_computer_compute.j2, beq_dec, bne_dec, *] at H)
      | (rw [if_pos (by omega)] at H)
      | (rw [if_neg (by omega)] at H)
      | (have hc := And.left H; replace H := And.right H; try (exfalso; clear H; omega)))
  all_goals first
    | (subst H; rfl)
    | (subst H; simp; done)
    | (cases H; rfl)
    | (exfalso; clear H; omega)
    | (subst H; simp [beq_dec, bne_dec, *]; done)
    | (simp_all [beq_dec, bne_dec]; done)
    | (simp_all [beq_dec, bne_dec]; subst H; first | rfl | (simp; done) | (simp [*]; done))
set_option maxRecDepth 100000 in
set_option maxHeartbeats 40000000 in
theorem jacquardref12_Shape.ev (a0 : Int) (a1 : Int) (l2 : List Int) (r : Bool) (H : jacquardref12_Shape.f k a0 a1 l2 = some r)
  : evFn ⟨tys, ⟨op, ok, cmp, neg, not, wrap, mn', mx', idx, len, get, cut, app, byte⟩, lp⟩ (k + 8) K h12 Try.f12 [V.sc (.int .i64 a0), V.sc (.int .i64 a1), V.sl false (l2.map fun x : Int => [V.sc (.int .i64 x)])] [] = some (V.sc (.bool r), []) := by
  generalize hR : some (V.sc (.bool r), ([] : Heap)) = R
  have hcm := rcm hA hc2
  have hokm := rok hA hok2
  obtain ⟨lp2, hlp2, hlp⟩ : ∃ lp2, lp2 = rounds ∧ ∀ b n0 kp L st, lp b n0 kp L st = lp2 b n0 kp L st := ⟨lp, lp_eq hA, fun _ _ _ _ _ => rfl⟩
  obtain ⟨cl2, bl2, pl2_0, hcl2, hbl2, hpl2_0, hgl2, hul2⟩ := li_int .i64 (get_eq hA) l2
  rw [← hcl2]
  all_goals cbv
  all_goals repeat' (first
    | (rewrite [hgl2]; generalize hq : bl2 _ = o; cases o <;> first | (exact absurd (hq.symm.trans (by assumption : bl2 _ = true)) Bool.false_ne_true) | (exact absurd (hq.symm.trans (by assumption : bl2 _ = false)) (fun h => Bool.false_ne_true h.symm)) | cbv)
    | (rewrite [hok2]; generalize hq : ok2 _ _ = o; cases o <;> cbv)
    | (rewrite [hc2]; generalize hq : c2 _ _ _ = o; cases o <;> (rewrite [hcm] at hq; simp only [rc] at hq) <;> first | (exfalso; omega) | cbv)
    | (rewrite [hlp]; generalize hl : lp2 _ _ _ _ _ = o; revert o
       refine loop_rule hlp2 (fun (y : Int) st => ⟨(st.s.set 7 (V.sc (.int .i64 y))), st.h⟩) (fun n y => jacquardref12_Shape.l0 n a0 a1 l2 y = some r) (n := k + 8) (x := ?x7_2) ?hst (fun y h => by simp [jacquardref12_Shape.l0] at h) ?hq ?hn ?hs
       case hst => exact rfl
       case hq =>
         obtain rfl := c2_eq hcm
         obtain rfl := ok2_eq hokm
         subst  hR
         clear hc2 hok2 hcm hokm hul2 hgl2 hlp
         subst hcl2 hbl2 hpl2_0
         obtain ⟨rfl, rfl, rfl, rfl, rfl, rfl, rfl, rfl, rfl, rfl⟩ := eqsA hA
         clear hA
         try simp only [rl] at *
         try subst_vars
         try replace H := up8 (fun k => jacquardref12_Shape.mono _ _ _ k) k _ H
         try simp only [jacquardref12_Shape.f, beq_dec, bne_dec] at H
         repeat (first
           | (simp [jacquardref12_Shape.j0, jacquardref12_Shape.j2, jacquardref12_Shape.j3, jacquardref12_Shape.j4, beq_dec, bne_dec, *] at H; done)
           | (simp [jacquardref12_Shape.j0, jacquardref12_Shape.j2, jacquardref12_Shape.j3, jacquardref12_Shape.j4, beq_dec, bne_dec, *] at H)
           | (rw [if_pos (by omega)] at H)
           | (rw [if_neg (by omega)] at H)
           | (have hc := And.left H; replace H := And.right H; try (exfalso; clear H; omega)))
         all_goals first | exact H | exact le_ap (le_of_le (g := fun k => jacquardref12_Shape.l0 k _ _ _ _) (fun k => (jacquardref12_Shape.mono_l k).2.1 _ _ _ _) (by omega)) H | (rw [hq]; exact le_ap (le_of_le (g := fun k => jacquardref12_Shape.l0 k _ _ _ _) (fun k => (jacquardref12_Shape.mono_l k).2.1 _ _ _ _) (by omega)) H) | (simp_all; done)
       case hn => omega
       case' hs =>
         clear H
         intro m nx x7_2 hnx H
         all_goals cbv))
  all_goals
    obtain rfl := c2_eq hcm
    obtain rfl := ok2_eq hokm
    subst  hR
    clear hc2 hok2 hcm hokm hul2 hgl2 hlp
    subst hcl2 hbl2 hpl2_0
    obtain ⟨rfl, rfl, rfl, rfl, rfl, rfl, rfl, rfl, rfl, rfl⟩ := eqsA hA
    clear hA
    try simp only [rl] at *
    try (exact hnx (_) H)
    try replace hnx : Go.RowKit.Hid _ := hnx
    try subst_vars
    try replace H := up8 (fun k => jacquardref12_Shape.mono _ _ _ k) k _ H
    try simp only [jacquardref12_Shape.f, beq_dec, bne_dec] at H
    try simp only [jacquardref12_Shape.l0, beq_dec, bne_dec] at H
    repeat (first
      | (with_reducible replace H := le_ap (up8 (g := fun k => jacquardref12_Shape.j0 k _ _ _ _) (fun k => (jacquardref12_Shape.mono_l k).1 _ _ _ _) m) H)
      | (with_reducible replace H := le_ap (up8 (g := fun k => jacquardref12_Shape.j2 k _ _ _ _ _) (fun k => (jacquardref12_Shape.mono_l k).2.2.1 _ _ _ _ _) m) H)
      | (with_reducible replace H := le_ap (up8 (g := fun k => jacquardref12_Shape.j3 k _ _ _ _ _) (fun k => (jacquardref12_Shape.mono_l k).2.2.2.1 _ _ _ _ _) m) H)
      | (with_reducible replace H := le_ap (up8 (g := fun k => jacquardref12_Shape.j4 k _ _ _ _ _) (fun k => (jacquardref12_Shape.mono_l k).2.2.2.2 _ _ _ _ _) m) H)
      | (simp [beq_dec, bne_dec, *] at H; done)
      | (simp [beq_dec, bne_dec, *] at H)
      | (rw [if_pos (by omega)] at H)
      | (rw [if_neg (by omega)] at H)
      | (simp [jacquardref12_Shape.j0, jacquardref12_Shape.j2, jacquardref12_Shape.j3, jacquardref12_Shape.j4, beq_dec, bne_dec, *] at H; done)
      | (simp [jacquardref12_Shape.j0, jacquardref12_Shape.j2, jacquardref12_Shape.j3, jacquardref12_Shape.j4, beq_dec, bne_dec, *] at H)
      | (rw [if_pos (by omega)] at H)
      | (rw [if_neg (by omega)] at H)
      | (have hc := And.left H; replace H := And.right H; try (exfalso; clear H; (try clear hnx); omega)))
  all_goals first
    | (exact hnx.out _ H)
    | (rw [← hq] at H; exact hnx.out _ H)
    | (subst H; rfl)
    | (subst H; simp; done)
    | (cases H; rfl)
    | (exfalso; clear H; (try clear hnx); omega)
    | (exfalso; clear H; (try clear hnx); simp only [natCast_eq] at *; omega)
    | (subst H; simp [beq_dec, bne_dec, *]; done)
    | (simp_all [beq_dec, bne_dec]; done)
    | (simp_all [beq_dec, bne_dec]; subst H; first | rfl | (simp; done) | (simp [*]; done))
set_option maxRecDepth 100000 in
set_option maxHeartbeats 40000000 in
theorem interval_computer_sub.ev (s0_0 : Int) (s0_1 : Int) (s0_2 : Int) (s0_3 : Int) (s0_4 : Int) (s0_5 : Int) (s0_6 : Int) (s0_7 : Int) (a1_0 : Int) (a1_1 : Int) (a1_2 : Int) (a1_3 : Int) (a2_0 : Int) (a2_1 : Int) (a2_2 : Int) (a2_3 : Int) (r : Int × Int × Int × Int × Int × Int × Int × Int) (H : interval_computer_sub.f k s0_0 s0_1 s0_2 s0_3 s0_4 s0_5 s0_6 s0_7 a1_0 a1_1 a1_2 a1_3 a2_0 a2_1 a2_2 a2_3 = some r)
  (g56 : _) (e56 : g56 = interval_computer_u.f) (h56 : interval_computer_u.Is K g56)
  (g80 : _) (e80 : g80 = interval_computer_less.f) (h80 : interval_computer_less.Is K g80)
  (g79 : _) (e79 : g79 = interval_computer_s.f) (h79 : interval_computer_s.Is K g79)
  : evFn ⟨tys, ⟨op, ok, cmp, neg, not, wrap, mn', mx', idx, len, get, cut, app, byte⟩, lp⟩ (k + 8) K h53 Try.f53 [V.ptr 0 0, V.agg [V.sc (.int .u64 a1_0), V.sc (.int .u64 a1_1), V.sc (.int .i64 a1_2), V.sc (.int .i64 a1_3)], V.agg [V.sc (.int .u64 a2_0), V.sc (.int .u64 a2_1), V.sc (.int .i64 a2_2), V.sc (.int .i64 a2_3)]] [[V.sc (.int .i64 s0_0), V.sc (.int .u64 s0_1), V.sc (.int .i64 s0_2), V.sc (.int .i64 s0_3), V.sc (.int .u64 s0_4), V.sc (.int .u64 s0_5), V.sc (.int .i64 s0_6), V.sc (.int .i64 s0_7)]] = some (V.tup [], [[V.sc (.int .i64 r.1), V.sc (.int .u64 r.2.1), V.sc (.int .i64 r.2.2.1), V.sc (.int .i64 r.2.2.2.1), V.sc (.int .u64 r.2.2.2.2.1), V.sc (.int .u64 r.2.2.2.2.2.1), V.sc (.int .i64 r.2.2.2.2.2.2.1), V.sc (.int .i64 r.2.2.2.2.2.2.2)]]) := by
  generalize hR : some (V.tup [], [[V.sc (.int .i64 r.1), V.sc (.int .u64 r.2.1), V.sc (.int .i64 r.2.2.1), V.sc (.int .i64 r.2.2.2.1), V.sc (.int .u64 r.2.2.2.2.1), V.sc (.int .u64 r.2.2.2.2.2.1), V.sc (.int .i64 r.2.2.2.2.2.2.1), V.sc (.int .i64 r.2.2.2.2.2.2.2)]]) = R
  have hcm := rcm hA hc2
  have hokm := rok hA hok2
  all_goals cbv
  all_goals repeat' (first
    | (rewrite [h56, hq56]; cbv)
    | (rewrite [h56]; generalize hq56 : g56 _ _ _ _ _ _ _ _ _ _ = o; rcases o with _ | ⟨_, _, _, _, _, _, _, _⟩ <;> cbv)
    | (rewrite [h80, hq80]; cbv)
    | (rewrite [h80]; generalize hq80 : g80 _ _ _ _ _ _ _ _ _ _ = o; rcases o with _ | ⟨_, (_ | _)⟩ <;> cbv)
    | (rewrite [h79, hq79]; cbv)
    | (rewrite [h79]; generalize hq79 : g79 _ _ _ _ _ _ _ _ _ _ = o; rcases o with _ | ⟨_, _, _, _, _, _, _, _⟩ <;> cbv)
    | (rewrite [hok2]; generalize hq : ok2 _ _ = o; cases o <;> cbv)
    | (rewrite [hc2]; generalize hq : c2 _ _ _ = o; cases o <;> (rewrite [hcm] at hq; simp only [rc] at hq) <;> first | (exfalso; omega) | cbv))
  all_goals
    obtain rfl := c2_eq hcm
    obtain rfl := ok2_eq hokm
    subst e56 e80 e79 hR
    clear h56 h80 h79 hc2 hok2 hcm hokm
    obtain ⟨rfl, rfl, rfl, rfl, rfl, rfl, rfl, rfl, rfl, rfl⟩ := eqsA hA
    clear hA
    try simp only [rl] at *
    try subst_vars
    try replace H := up8 (fun k => interval_computer_sub.mono _ _ _ _ _ _ _ _ _ _ _ _ _ _ _ _ k) k _ H
    try simp only [interval_computer_sub.f, beq_dec, bne_dec] at H
    repeat (first
      | (simp [interval_computer_sub.j0, interval_computer_sub.j1, beq_dec, bne_dec, *] at H; done)
      | (simp [interval_computer_sub.j0, interval_computer_sub.j1, beq_dec, bne_dec, *] at H)
      | (rw [if_pos (by omega)] at H)
      | (rw [if_neg (by omega)] at H)
      | (have hc := And.left H; replace H := And.right H; try (exfalso; clear H; omega)))
  all_goals first
    | (subst H; rfl)
    | (subst H; simp; done)
    | (cases H; rfl)
    | (exfalso; clear H; omega)
    | (subst H; simp [beq_dec, bne_dec, *]; done)
    | (simp_all [beq_dec, bne_dec]; done)
    | (simp_all [beq_dec, bne_dec]; subst H; first | rfl | (simp; done) | (simp [*]; done))
set_option maxRecDepth 100000 in
set_option maxHeartbeats 40000000 in
theorem jacquardref13_minus.ev (a0 : Int) (a1 : Int) (a2 : Int) (r : Int × Bool) (H : jacquardref13_minus.f k a0 a1 a2 = some r)
  (g62 : _) (e62 : g62 = jacquardref13_Smin.F) (h62 : jacquardref13_Smin.Is K g62)
  (g63 : _) (e63 : g63 = jacquardref13_Smax.F) (h63 : jacquardref13_Smax.Is K g63)
  : evFn ⟨tys, ⟨op, ok, cmp, neg, not, wrap, mn', mx', idx, len, get, cut, app, byte⟩, lp⟩ (k + 8) K h69 Try.f69 [V.sc (.int .i64 a0), V.sc (.int .i64 a1), V.sc (.int .i64 a2)] [] = some (V.tup [V.sc (.int .i64 r.1), V.sc (.bool r.2)], []) := by
  generalize hR : some (V.tup [V.sc (.int .i64 r.1), V.sc (.bool r.2)], ([] : Heap)) = R
  have hcm := rcm hA hc2
  have hokm := rok hA hok2
  all_goals cbv
  all_goals repeat' (first
    | (rewrite [h62, hq62]; cbv)
    | (rewrite [h62]; generalize hq62 : g62 _ = o; rcases o with _ | _ <;> cbv)
    | (rewrite [h63, hq63]; cbv)
    | (rewrite [h63]; generalize hq63 : g63 _ = o; rcases o with _ | _ <;> cbv)
    | (rewrite [hok2]; generalize hq : ok2 _ _ = o; cases o <;> cbv)
    | (rewrite [hc2]; generalize hq : c2 _ _ _ = o; cases o <;> (rewrite [hcm] at hq; simp only [rc] at hq) <;> first | (exfalso; omega) | cbv))
  all_goals
    obtain rfl := c2_eq hcm
    obtain rfl := ok2_eq hokm
    subst e62 e63 hR
    clear h62 h63 hc2 hok2 hcm hokm
    obtain ⟨rfl, rfl, rfl, rfl, rfl, rfl, rfl, rfl, rfl, rfl⟩ := eqsA hA
    clear hA
    try simp only [rl] at *
    try subst_vars
    try replace H := up8 (fun k => jacquardref13_minus.mono _ _ _ k) k _ H
    try simp only [jacquardref13_minus.f, beq_dec, bne_dec] at H
    repeat (first
      | (with_reducible first | replace H := le_bind (jacquardref13_Smin.le ..) H | replace H := le_ap (jacquardref13_Smin.le ..) H)
      | (with_reducible first | replace H := le_bind (jacquardref13_Smax.le ..) H | replace H := le_ap (jacquardref13_Smax.le ..) H)
      | (simp [jacquardref13_minus.j0, beq_dec, bne_dec, *] at H; done)
      | (simp [jacquardref13_minus.j0, beq_dec, bne_dec, *] at H)
      | (rw [if_pos (by omega)] at H)
      | (rw [if_neg (by omega)] at H)
      | (have hc := And.left H; replace H := And.right H; try (exfalso; clear H; omega)))
  all_goals first
    | (subst H; rfl)
    | (subst H; simp; done)
    | (cases H; rfl)
    | (exfalso; clear H; omega)
    | (subst H; simp [beq_dec, bne_dec, *]; done)
    | (simp_all [beq_dec, bne_dec]; done)
    | (simp_all [beq_dec, bne_dec]; subst H; first | rfl | (simp; done) | (simp [*]; done))
set_option maxRecDepth 100000 in
set_option maxHeartbeats 40000000 in
theorem jacquardlaw13_IntervalApply.ev (a0_0 : Int) (a0_1 : Int) (l0_2 : List Int) (l0_3 : List (S30)) (a0_4 : Int) (r : Bool) (H : jacquardlaw13_IntervalApply.f k a0_0 a0_1 l0_2 l0_3 a0_4 = some r)
  (g8 : _) (e8 : g8 = jacquardlaw13_awake.f) (h8 : jacquardlaw13_awake.Is K g8)
  (g9 : _) (e9 : g9 = jacquardlaw13_few.f) (h9 : jacquardlaw13_few.Is K g9)
  (g10 : _) (e10 : g10 = interval_Apply.F) (h10 : interval_Apply.Is K g10)
  (g11 : _) (e11 : g11 = jacquardref13_Apply.F) (h11 : jacquardref13_Apply.Is K g11)
  : evFn ⟨tys, ⟨op, ok, cmp, neg, not, wrap, mn', mx', idx, len, get, cut, app, byte⟩, lp⟩ (k + 8) K h3 Try.f3 [V.agg [V.sc (.int .i64 a0_0), V.sc (.int .i64 a0_1), V.sl false (l0_2.map fun x : Int => [V.sc (.int .i64 x)]), V.sl false (l0_3.map fun x : S30 => [V.sc (.int .u64 x.f0), V.sc (.int .u64 x.f1), V.sc (.int .i64 x.f2), V.sc (.int .i64 x.f3)]), V.sc (.int .u64 a0_4)]] [] = some (V.sc (.bool r), []) := by
  generalize hR : some (V.sc (.bool r), ([] : Heap)) = R
  have hcm := rcm hA hc2
  have hokm := rok hA hok2
  obtain ⟨cl0_2, bl0_2, pl0_2_0, hcl0_2, hbl0_2, hpl0_2_0, hgl0_2, hul0_2⟩ := li_int .i64 (get_eq hA) l0_2
  rw [← hcl0_2]
  obtain ⟨cl0_3, bl0_3, pl0_3_0, pl0_3_1, pl0_3_2, pl0_3_3, hcl0_3, hbl0_3, hpl0_3_0, hpl0_3_1, hpl0_3_2, hpl0_3_3, hgl0_3, hul0_3⟩ := li_k30 (get_eq hA) l0_3
  rw [← hcl0_3]
  all_goals cbv
  all_goals repeat' (first
    | (rewrite [h8, hq8]; cbv)
    | (rewrite [h8]; generalize hq8 : g8  = o; rcases o with _ | _ | _ <;> cbv)
    | (rewrite [(h9 _ _ hul0_2 _ _ hul0_3), hq9]; cbv)
    | (rewrite [(h9 _ _ hul0_2 _ _ hul0_3)]; generalize hq9 : g9 _ _ _ _ _ = o; rcases o with _ | _ | _ <;> cbv)
    | (rewrite [(h9 _ _ hul0_2 _ _ (unk30_1 ..)), hq9]; cbv)
    | (rewrite [(h9 _ _ hul0_2 _ _ (unk30_1 ..))]; generalize hq9 : g9 _ _ _ _ _ = o; rcases o with _ | _ | _ <;> cbv)
    | (rewrite [(h9 _ _ hul0_2 _ _ (unk30_2 ..)), hq9]; cbv)
    | (rewrite [(h9 _ _ hul0_2 _ _ (unk30_2 ..))]; generalize hq9 : g9 _ _ _ _ _ = o; rcases o with _ | _ | _ <;> cbv)
    | (rewrite [(h9 _ _ hul0_2 _ _ (unk30_3 ..)), hq9]; cbv)
    | (rewrite [(h9 _ _ hul0_2 _ _ (unk30_3 ..))]; generalize hq9 : g9 _ _ _ _ _ = o; rcases o with _ | _ | _ <;> cbv)
    | (rewrite [(h9 _ _ (unI_1 ..) _ _ hul0_3), hq9]; cbv)
    | (rewrite [(h9 _ _ (unI_1 ..) _ _ hul0_3)]; generalize hq9 : g9 _ _ _ _ _ = o; rcases o with _ | _ | _ <;> cbv)
    | (rewrite [(h9 _ _ (unI_1 ..) _ _ (unk30_1 ..)), hq9]; cbv)
    | (rewrite [(h9 _ _ (unI_1 ..) _ _ (unk30_1 ..))]; generalize hq9 : g9 _ _ _ _ _ = o; rcases o with _ | _ | _ <;> cbv)
    | (rewrite [(h9 _ _ (unI_1 ..) _ _ (unk30_2 ..)), hq9]; cbv)
    | (rewrite [(h9 _ _ (unI_1 ..) _ _ (unk30_2 ..))]; generalize hq9 : g9 _ _ _ _ _ = o; rcases o with _ | _ | _ <;> cbv)
    | (rewrite [(h9 _ _ (unI_1 ..) _ _ (unk30_3 ..)), hq9]; cbv)
    | (rewrite [(h9 _ _ (unI_1 ..) _ _ (unk30_3 ..))]; generalize hq9 : g9 _ _ _ _ _ = o; rcases o with _ | _ | _ <;> cbv)
    | (rewrite [(h9 _ _ (unI_2 ..) _ _ hul0_3), hq9]; cbv)
    | (rewrite [(h9 _ _ (unI_2 ..) _ _ hul0_3)]; generalize hq9 : g9 _ _ _ _ _ = o; rcases o with _ | _ | _ <;> cbv)
    | (rewrite [(h9 _ _ (unI_2 ..) _ _ (unk30_1 ..)), hq9]; cbv)
    | (rewrite [(h9 _ _ (unI_2 ..) _ _ (unk30_1 ..))]; generalize hq9 : g9 _ _ _ _ _ = o; rcases o with _ | _ | _ <;> cbv)
    | (rewrite [(h9 _ _ (unI_2 ..) _ _ (unk30_2 ..)), hq9]; cbv)
    | (rewrite [(h9 _ _ (unI_2 ..) _ _ (unk30_2 ..))]; generalize hq9 : g9 _ _ _ _ _ = o; rcases o with _ | _ | _ <;> cbv)
    | (rewrite [(h9 _ _ (unI_2 ..) _ _ (unk30_3 ..)), hq9]; cbv)
    | (rewrite [(h9 _ _ (unI_2 ..) _ _ (unk30_3 ..))]; generalize hq9 : g9 _ _ _ _ _ = o; rcases o with _ | _ | _ <;> cbv)
    | (rewrite [(h9 _ _ (unI_3 ..) _ _ hul0_3), hq9]; cbv)
    | (rewrite [(h9 _ _ (unI_3 ..) _ _ hul0_3)]; generalize hq9 : g9 _ _ _ _ _ = o; rcases o with _ | _ | _ <;> cbv)
    | (rewrite [(h9 _ _ (unI_3 ..) _ _ (unk30_1 ..)), hq9]; cbv)
    | (rewrite [(h9 _ _ (unI_3 ..) _ _ (unk30_1 ..))]; generalize hq9 : g9 _ _ _ _ _ = o; rcases o with _ | _ | _ <;> cbv)
    | (rewrite [(h9 _ _ (unI_3 ..) _ _ (unk30_2 ..)), hq9]; cbv)
    | (rewrite [(h9 _ _ (unI_3 ..) _ _ (unk30_2 ..))]; generalize hq9 : g9 _ _ _ _ _ = o; rcases o with _ | _ | _ <;> cbv)
    | (rewrite [(h9 _ _ (unI_3 ..) _ _ (unk30_3 ..)), hq9]; cbv)
    | (rewrite [(h9 _ _ (unI_3 ..) _ _ (unk30_3 ..))]; generalize hq9 : g9 _ _ _ _ _ = o; rcases o with _ | _ | _ <;> cbv)
    | (rewrite [(h9 _ _ (unI_4 ..) _ _ hul0_3), hq9]; cbv)
    | (rewrite [(h9 _ _ (unI_4 ..) _ _ hul0_3)]; generalize hq9 : g9 _ _ _ _ _ = o; rcases o with _ | _ | _ <;> cbv)
    | (rewrite [(h9 _ _ (unI_4 ..) _ _ (unk30_1 ..)), hq9]; cbv)
    | (rewrite [(h9 _ _ (unI_4 ..) _ _ (unk30_1 ..))]; generalize hq9 : g9 _ _ _ _ _ = o; rcases o with _ | _ | _ <;> cbv)
    | (rewrite [(h9 _ _ (unI_4 ..) _ _ (unk30_2 ..)), hq9]; cbv)
    | (rewrite [(h9 _ _ (unI_4 ..) _ _ (unk30_2 ..))]; generalize hq9 : g9 _ _ _ _ _ = o; rcases o with _ | _ | _ <;> cbv)
    | (rewrite [(h9 _ _ (unI_4 ..) _ _ (unk30_3 ..)), hq9]; cbv)
    | (rewrite [(h9 _ _ (unI_4 ..) _ _ (unk30_3 ..))]; generalize hq9 : g9 _ _ _ _ _ = o; rcases o with _ | _ | _ <;> cbv)
    | (rewrite [(h9 _ _ (unI_5 ..) _ _ hul0_3), hq9]; cbv)
    | (rewrite [(h9 _ _ (unI_5 ..) _ _ hul0_3)]; generalize hq9 : g9 _ _ _ _ _ = o; rcases o with _ | _ | _ <;> cbv)
    | (rewrite [(h9 _ _ (unI_5 ..) _ _ (unk30_1 ..)), hq9]; cbv)
    | (rewrite [(h9 _ _ (unI_5 ..) _ _ (unk30_1 ..))]; generalize hq9 : g9 _ _ _ _ _ = o; rcases o with _ | _ | _ <;> cbv)
    | (rewrite [(h9 _ _ (unI_5 ..) _ _ (unk30_2 ..)), hq9]; cbv)
    | (rewrite [(h9 _ _ (unI_5 ..) _ _ (unk30_2 ..))]; generalize hq9 : g9 _ _ _ _ _ = o; rcases o with _ | _ | _ <;> cbv)
    | (rewrite [(h9 _ _ (unI_5 ..) _ _ (unk30_3 ..)), hq9]; cbv)
    | (rewrite [(h9 _ _ (unI_5 ..) _ _ (unk30_3 ..))]; generalize hq9 : g9 _ _ _ _ _ = o; rcases o with _ | _ | _ <;> cbv)
    | (rewrite [(h10 _ _ hul0_2 _ _ hul0_3), hq10]; cbv)
    | (rewrite [(h10 _ _ hul0_2 _ _ hul0_3)]; generalize hq10 : g10 _ _ _ _ _ = o; rcases o with _ | ⟨_, _, _, _⟩ <;> cbv)
    | (rewrite [(h10 _ _ hul0_2 _ _ (unk30_1 ..)), hq10]; cbv)
    | (rewrite [(h10 _ _ hul0_2 _ _ (unk30_1 ..))]; generalize hq10 : g10 _ _ _ _ _ = o; rcases o with _ | ⟨_, _, _, _⟩ <;> cbv)
    | (rewrite [(h10 _ _ hul0_2 _ _ (unk30_2 ..)), hq10]; cbv)
    | (rewrite [(h10 _ _ hul0_2 _ _ (unk30_2 ..))]; generalize hq10 : g10 _ _ _ _ _ = o; rcases o with _ | ⟨_, _, _, _⟩ <;> cbv)
    | (rewrite [(h10 _ _ hul0_2 _ _ (unk30_3 ..)), hq10]; cbv)
    | (rewrite [(h10 _ _ hul0_2 _ _ (unk30_3 ..))]; generalize hq10 : g10 _ _ _ _ _ = o; rcases o with _ | ⟨_, _, _, _⟩ <;> cbv)
    | (rewrite [(h10 _ _ (unI_1 ..) _ _ hul0_3), hq10]; cbv)
    | (rewrite [(h10 _ _ (unI_1 ..) _ _ hul0_3)]; generalize hq10 : g10 _ _ _ _ _ = o; rcases o with _ | ⟨_, _, _, _⟩ <;> cbv)
    | (rewrite [(h10 _ _ (unI_1 ..) _ _ (unk30_1 ..)), hq10]; cbv)
    | (rewrite [(h10 _ _ (unI_1 ..) _ _ (unk30_1 ..))]; generalize hq10 : g10 _ _ _ _ _ = o; rcases o with _ | ⟨_, _, _, _⟩ <;> cbv)
    | (rewrite [(h10 _ _ (unI_1 ..) _ _ (unk30_2 ..)), hq10]; cbv)
    | (rewrite [(h10 _ _ (unI_1 ..) _ _ (unk30_2 ..))]; generalize hq10 : g10 _ _ _ _ _ = o; rcases o with _ | ⟨_, _, _, _⟩ <;> cbv)
    | (rewrite [(h10 _ _ (unI_1 ..) _ _ (unk30_3 ..)), hq10]; cbv)
    | (rewrite [(h10 _ _ (unI_1 ..) _ _ (unk30_3 ..))]; generalize hq10 : g10 _ _ _ _ _ = o; rcases o with _ | ⟨_, _, _, _⟩ <;> cbv)
    | (rewrite [(h10 _ _ (unI_2 ..) _ _ hul0_3), hq10]; cbv)
    | (rewrite [(h10 _ _ (unI_2 ..) _ _ hul0_3)]; generalize hq10 : g10 _ _ _ _ _ = o; rcases o with _ | ⟨_, _, _, _⟩ <;> cbv)
    | (rewrite [(h10 _ _ (unI_2 ..) _ _ (unk30_1 ..)), hq10]; cbv)
    | (rewrite [(h10 _ _ (unI_2 ..) _ _ (unk30_1 ..))]; generalize hq10 : g10 _ _ _ _ _ = o; rcases o with _ | ⟨_, _, _, _⟩ <;> cbv)
    | (rewrite [(h10 _ _ (unI_2 ..) _ _ (unk30_2 ..)), hq10]; cbv)
    | (rewrite [(h10 _ _ (unI_2 ..) _ _ (unk30_2 ..))]; generalize hq10 : g10 _ _ _ _ _ = o; rcases o with _ | ⟨_, _, _, _⟩ <;> cbv)
    | (rewrite [(h10 _ _ (unI_2 ..) _ _ (unk30_3 ..)), hq10]; cbv)
    | (rewrite [(h10 _ _ (unI_2 ..) _ _ (unk30_3 ..))]; generalize hq10 : g10 _ _ _ _ _ = o; rcases o with _ | ⟨_, _, _, _⟩ <;> cbv)
    | (rewrite [(h10 _ _ (unI_3 ..) _ _ hul0_3), hq10]; cbv)
    | (rewrite [(h10 _ _ (unI_3 ..) _ _ hul0_3)]; generalize hq10 : g10 _ _ _ _ _ = o; rcases o with _ | ⟨_, _, _, _⟩ <;> cbv)
    | (rewrite [(h10 _ _ (unI_3 ..) _ _ (unk30_1 ..)), hq10]; cbv)
    | (rewrite [(h10 _ _ (unI_3 ..) _ _ (unk30_1 ..))]; generalize hq10 : g10 _ _ _ _ _ = o; rcases o with _ | ⟨_, _, _, _⟩ <;> cbv)
    | (rewrite [(h10 _ _ (unI_3 ..) _ _ (unk30_2 ..)), hq10]; cbv)
    | (rewrite [(h10 _ _ (unI_3 ..) _ _ (unk30_2 ..))]; generalize hq10 : g10 _ _ _ _ _ = o; rcases o with _ | ⟨_, _, _, _⟩ <;> cbv)
    | (rewrite [(h10 _ _ (unI_3 ..) _ _ (unk30_3 ..)), hq10]; cbv)
    | (rewrite [(h10 _ _ (unI_3 ..) _ _ (unk30_3 ..))]; generalize hq10 : g10 _ _ _ _ _ = o; rcases o with _ | ⟨_, _, _, _⟩ <;> cbv)
    | (rewrite [(h10 _ _ (unI_4 ..) _ _ hul0_3), hq10]; cbv)
    | (rewrite [(h10 _ _ (unI_4 ..) _ _ hul0_3)]; generalize hq10 : g10 _ _ _ _ _ = o; rcases o with _ | ⟨_, _, _, _⟩ <;> cbv)
    | (rewrite [(h10 _ _ (unI_4 ..) _ _ (unk30_1 ..)), hq10]; cbv)
    | (rewrite [(h10 _ _ (unI_4 ..) _ _ (unk30_1 ..))]; generalize hq10 : g10 _ _ _ _ _ = o; rcases o with _ | ⟨_, _, _, _⟩ <;> cbv)
    | (rewrite [(h10 _ _ (unI_4 ..) _ _ (unk30_2 ..)), hq10]; cbv)
    | (rewrite [(h10 _ _ (unI_4 ..) _ _ (unk30_2 ..))]; generalize hq10 : g10 _ _ _ _ _ = o; rcases o with _ | ⟨_, _, _, _⟩ <;> cbv)
    | (rewrite [(h10 _ _ (unI_4 ..) _ _ (unk30_3 ..)), hq10]; cbv)
    | (rewrite [(h10 _ _ (unI_4 ..) _ _ (unk30_3 ..))]; generalize hq10 : g10 _ _ _ _ _ = o; rcases o with _ | ⟨_, _, _, _⟩ <;> cbv)
    | (rewrite [(h10 _ _ (unI_5 ..) _ _ hul0_3), hq10]; cbv)
    | (rewrite [(h10 _ _ (unI_5 ..) _ _ hul0_3)]; generalize hq10 : g10 _ _ _ _ _ = o; rcases o with _ | ⟨_, _, _, _⟩ <;> cbv)
    | (rewrite [(h10 _ _ (unI_5 ..) _ _ (unk30_1 ..)), hq10]; cbv)
    | (rewrite [(h10 _ _ (unI_5 ..) _ _ (unk30_1 ..))]; generalize hq10 : g10 _ _ _ _ _ = o; rcases o with _ | ⟨_, _, _, _⟩ <;> cbv)
    | (rewrite [(h10 _ _ (unI_5 ..) _ _ (unk30_2 ..)), hq10]; cbv)
    | (rewrite [(h10 _ _ (unI_5 ..) _ _ (unk30_2 ..))]; generalize hq10 : g10 _ _ _ _ _ = o; rcases o with _ | ⟨_, _, _, _⟩ <;> cbv)
    | (rewrite [(h10 _ _ (unI_5 ..) _ _ (unk30_3 ..)), hq10]; cbv)
    | (rewrite [(h10 _ _ (unI_5 ..) _ _ (unk30_3 ..))]; generalize hq10 : g10 _ _ _ _ _ = o; rcases o with _ | ⟨_, _, _, _⟩ <;> cbv)
    | (rewrite [(h11 _ _ hul0_2 _ _ hul0_3), hq11]; cbv)
    | (rewrite [(h11 _ _ hul0_2 _ _ hul0_3)]; generalize hq11 : g11 _ _ _ _ _ = o; rcases o with _ | ⟨_, _, _, _⟩ <;> cbv)
    | (rewrite [(h11 _ _ hul0_2 _ _ (unk30_1 ..)), hq11]; cbv)
    | (rewrite [(h11 _ _ hul0_2 _ _ (unk30_1 ..))]; generalize hq11 : g11 _ _ _ _ _ = o; rcases o with _ | ⟨_, _, _, _⟩ <;> cbv)
    | (rewrite [(h11 _ _ hul0_2 _ _ (unk30_2 ..)), hq11]; cbv)
    | (rewrite [(h11 _ _ hul0_2 _ _ (unk30_2 ..))]; generalize hq11 : g11 _ _ _ _ _ = o; rcases o with _ | ⟨_, _, _, _⟩ <;> cbv)
    | (rewrite [(h11 _ _ hul0_2 _ _ (unk30_3 ..)), hq11]; cbv)
    | (rewrite [(h11 _ _ hul0_2 _ _ (unk30_3 ..))]; generalize hq11 : g11 _ _ _ _ _ = o; rcases o with _ | ⟨_, _, _, _⟩ <;> cbv)
    | (rewrite [(h11 _ _ (unI_1 ..) _ _ hul0_3), hq11]; cbv)
    | (rewrite [(h11 _ _ (unI_1 ..) _ _ hul0_3)]; generalize hq11 : g11 _ _ _ _ _ = o; rcases o with _ | ⟨_, _, _, _⟩ <;> cbv)
    | (rewrite [(h11 _ _ (unI_1 ..) _ _ (unk30_1 ..)), hq11]; cbv)
    | (rewrite [(h11 _ _ (unI_1 ..) _ _ (unk30_1 ..))]; generalize hq11 : g11 _ _ _ _ _ = o; rcases o with _ | ⟨_, _, _, _⟩ <;> cbv)
    | (rewrite [(h11 _ _ (unI_1 ..) _ _ (unk30_2 ..)), hq11]; cbv)
    | (rewrite [(h11 _ _ (unI_1 ..) _ _ (unk30_2 ..))]; generalize hq11 : g11 _ _ _ _ _ = o; rcases o with _ | ⟨_, _, _, _⟩ <;> cbv)
    | (rewrite [(h11 _ _ (unI_1 ..) _ _ (unk30_3 ..)), hq11]; cbv)
    | (rewrite [(h11 _ _ (unI_1 ..) _ _ (unk30_3 ..))]; generalize hq11 : g11 _ _ _ _ _ = o; rcases o with _ | ⟨_, _, _, _⟩ <;> cbv)
    | (rewrite [(h11 _ _ (unI_2 ..) _ _ hul0_3), hq11]; cbv)
    | (rewrite [(h11 _ _ (unI_2 ..) _ _ hul0_3)]; generalize hq11 : g11 _ _ _ _ _ = o; rcases o with _ | ⟨_, _, _, _⟩ <;> cbv)
    | (rewrite [(h11 _ _ (unI_2 ..) _ _ (unk30_1 ..)), hq11]; cbv)
    | (rewrite [(h11 _ _ (unI_2 ..) _ _ (unk30_1 ..))]; generalize hq11 : g11 _ _ _ _ _ = o; rcases o with _ | ⟨_, _, _, _⟩ <;> cbv)
    | (rewrite [(h11 _ _ (unI_2 ..) _ _ (unk30_2 ..)), hq11]; cbv)
    | (rewrite [(h11 _ _ (unI_2 ..) _ _ (unk30_2 ..))]; generalize hq11 : g11 _ _ _ _ _ = o; rcases o with _ | ⟨_, _, _, _⟩ <;> cbv)
    | (rewrite [(h11 _ _ (unI_2 ..) _ _ (unk30_3 ..)), hq11]; cbv)
    | (rewrite [(h11 _ _ (unI_2 ..) _ _ (unk30_3 ..))]; generalize hq11 : g11 _ _ _ _ _ = o; rcases o with _ | ⟨_, _, _, _⟩ <;> cbv)
    | (rewrite [(h11 _ _ (unI_3 ..) _ _ hul0_3), hq11]; cbv)
    | (rewrite [(h11 _ _ (unI_3 ..) _ _ hul0_3)]; generalize hq11 : g11 _ _ _ _ _ = o; rcases o with _ | ⟨_, _, _, _⟩ <;> cbv)
    | (rewrite [(h11 _ _ (unI_3 ..) _ _ (unk30_1 ..)), hq11]; cbv)
    | (rewrite [(h11 _ _ (unI_3 ..) _ _ (unk30_1 ..))]; generalize hq11 : g11 _ _ _ _ _ = o; rcases o with _ | ⟨_, _, _, _⟩ <;> cbv)
    | (rewrite [(h11 _ _ (unI_3 ..) _ _ (unk30_2 ..)), hq11]; cbv)
    | (rewrite [(h11 _ _ (unI_3 ..) _ _ (unk30_2 ..))]; generalize hq11 : g11 _ _ _ _ _ = o; rcases o with _ | ⟨_, _, _, _⟩ <;> cbv)
    | (rewrite [(h11 _ _ (unI_3 ..) _ _ (unk30_3 ..)), hq11]; cbv)
    | (rewrite [(h11 _ _ (unI_3 ..) _ _ (unk30_3 ..))]; generalize hq11 : g11 _ _ _ _ _ = o; rcases o with _ | ⟨_, _, _, _⟩ <;> cbv)
    | (rewrite [(h11 _ _ (unI_4 ..) _ _ hul0_3), hq11]; cbv)
    | (rewrite [(h11 _ _ (unI_4 ..) _ _ hul0_3)]; generalize hq11 : g11 _ _ _ _ _ = o; rcases o with _ | ⟨_, _, _, _⟩ <;> cbv)
    | (rewrite [(h11 _ _ (unI_4 ..) _ _ (unk30_1 ..)), hq11]; cbv)
    | (rewrite [(h11 _ _ (unI_4 ..) _ _ (unk30_1 ..))]; generalize hq11 : g11 _ _ _ _ _ = o; rcases o with _ | ⟨_, _, _, _⟩ <;> cbv)
    | (rewrite [(h11 _ _ (unI_4 ..) _ _ (unk30_2 ..)), hq11]; cbv)
    | (rewrite [(h11 _ _ (unI_4 ..) _ _ (unk30_2 ..))]; generalize hq11 : g11 _ _ _ _ _ = o; rcases o with _ | ⟨_, _, _, _⟩ <;> cbv)
    | (rewrite [(h11 _ _ (unI_4 ..) _ _ (unk30_3 ..)), hq11]; cbv)
    | (rewrite [(h11 _ _ (unI_4 ..) _ _ (unk30_3 ..))]; generalize hq11 : g11 _ _ _ _ _ = o; rcases o with _ | ⟨_, _, _, _⟩ <;> cbv)
    | (rewrite [(h11 _ _ (unI_5 ..) _ _ hul0_3), hq11]; cbv)
    | (rewrite [(h11 _ _ (unI_5 ..) _ _ hul0_3)]; generalize hq11 : g11 _ _ _ _ _ = o; rcases o with _ | ⟨_, _, _, _⟩ <;> cbv)
    | (rewrite [(h11 _ _ (unI_5 ..) _ _ (unk30_1 ..)), hq11]; cbv)
    | (rewrite [(h11 _ _ (unI_5 ..) _ _ (unk30_1 ..))]; generalize hq11 : g11 _ _ _ _ _ = o; rcases o with _ | ⟨_, _, _, _⟩ <;> cbv)
    | (rewrite [(h11 _ _ (unI_5 ..) _ _ (unk30_2 ..)), hq11]; cbv)
    | (rewrite [(h11 _ _ (unI_5 ..) _ _ (unk30_2 ..))]; generalize hq11 : g11 _ _ _ _ _ = o; rcases o with _ | ⟨_, _, _, _⟩ <;> cbv)
    | (rewrite [(h11 _ _ (unI_5 ..) _ _ (unk30_3 ..)), hq11]; cbv)
    | (rewrite [(h11 _ _ (unI_5 ..) _ _ (unk30_3 ..))]; generalize hq11 : g11 _ _ _ _ _ = o; rcases o with _ | ⟨_, _, _, _⟩ <;> cbv)
    | (rewrite [hgl0_2]; generalize hq : bl0_2 _ = o; cases o <;> first | (exact absurd (hq.symm.trans (by assumption : bl0_2 _ = true)) Bool.false_ne_true) | (exact absurd (hq.symm.trans (by assumption : bl0_2 _ = false)) (fun h => Bool.false_ne_true h.symm)) | cbv)
    | (rewrite [hgl0_3]; generalize hq : bl0_3 _ = o; cases o <;> first | (exact absurd (hq.symm.trans (by assumption : bl0_3 _ = true)) Bool.false_ne_true) | (exact absurd (hq.symm.trans (by assumption : bl0_3 _ = false)) (fun h => Bool.false_ne_true h.symm)) | cbv)
    | (rewrite [hok2]; generalize hq : ok2 _ _ = o; cases o <;> cbv)
    | (rewrite [hc2]; generalize hq : c2 _ _ _ = o; cases o <;> (rewrite [hcm] at hq; simp only [rc] at hq) <;> first | (exfalso; omega) | cbv))
  all_goals
    obtain rfl := c2_eq hcm
    obtain rfl := ok2_eq hokm
    subst e8 e9 e10 e11 hR
    clear h8 h9 h10 h11 hc2 hok2 hcm hokm hul0_2 hgl0_2 hul0_3 hgl0_3
    subst hcl0_2 hbl0_2 hpl0_2_0 hcl0_3 hbl0_3 hpl0_3_0 hpl0_3_1 hpl0_3_2 hpl0_3_3
    obtain ⟨rfl, rfl, rfl, rfl, rfl, rfl, rfl, rfl, rfl, rfl⟩ := eqsA hA
    clear hA
    try simp only [rl] at *
    try subst_vars
    try replace H := up8 (fun k => jacquardlaw13_IntervalApply.mono _ _ _ _ _ k) k _ H
    try simp only [jacquardlaw13_IntervalApply.f, beq_dec, bne_dec] at H
    repeat (first
      | (with_reducible first | replace H := le_bind (interval_Apply.le ..) H | replace H := le_ap (interval_Apply.le ..) H)
      | (with_reducible first | replace H := le_bind (jacquardref13_Apply.le ..) H | replace H := le_ap (jacquardref13_Apply.le ..) H)
      | (simp [beq_dec, bne_dec, *] at H; done)
      | (simp [beq_dec, bne_dec, *] at H)
      | (rw [if_pos (by omega)] at H)
      | (rw [if_neg (by omega)] at H)
      | (have hc := And.left H; replace H := And.right H; try (exfalso; clear H; omega)))
  all_goals first
    | (subst H; rfl)
    | (subst H; simp; done)
    | (cases H; rfl)
    | (exfalso; clear H; omega)
    | (subst H; simp [beq_dec, bne_dec, *]; done)
    | (simp_all [beq_dec, bne_dec]; done)
    | (simp_all [beq_dec, bne_dec]; subst H; first | rfl | (simp; done) | (simp [*]; done))
set_option maxRecDepth 100000 in
set_option maxHeartbeats 40000000 in
theorem jacquardref12_divide.ev (a0 : Int) (a1 : Int) (a2 : Int) (r : Int × Int) (H : jacquardref12_divide.f k a0 a1 a2 = some r)
  (g43 : _) (e43 : g43 = jacquardref12_Signed.F) (h43 : jacquardref12_Signed.Is K g43)
  (g13 : _) (e13 : g13 = jacquardref12_Mask.F) (h13 : jacquardref12_Mask.Is K g13)
  : evFn ⟨tys, ⟨op, ok, cmp, neg, not, wrap, mn', mx', idx, len, get, cut, app, byte⟩, lp⟩ (k + 8) K h39 Try.f39 [V.sc (.int .i64 a0), V.sc (.int .u64 a1), V.sc (.int .u64 a2)] [] = some (V.tup [V.sc (.int .u64 r.1), V.sc (.int .u64 r.2)], []) := by
  generalize hR : some (V.tup [V.sc (.int .u64 r.1), V.sc (.int .u64 r.2)], ([] : Heap)) = R
  have hcm := rcm hA hc2
  have hokm := rok hA hok2
  all_goals cbv
  all_goals repeat' (first
    | (rewrite [h43, hq43]; cbv)
    | (rewrite [h43]; generalize hq43 : g43 _ _ = o; rcases o with _ | _ <;> cbv)
    | (rewrite [h13, hq13]; cbv)
    | (rewrite [h13]; generalize hq13 : g13 _ = o; rcases o with _ | _ <;> cbv)
    | (rewrite [hok2]; generalize hq : ok2 _ _ = o; cases o <;> cbv)
    | (rewrite [hc2]; generalize hq : c2 _ _ _ = o; cases o <;> (rewrite [hcm] at hq; simp only [rc] at hq) <;> first | (exfalso; omega) | cbv))
  all_goals
    obtain rfl := c2_eq hcm
    obtain rfl := ok2_eq hokm
    subst e43 e13 hR
    clear h43 h13 hc2 hok2 hcm hokm
    obtain ⟨rfl, rfl, rfl, rfl, rfl, rfl, rfl, rfl, rfl, rfl⟩ := eqsA hA
    clear hA
    try simp only [rl] at *
    try subst_vars
    try replace H := up8 (fun k => jacquardref12_divide.mono _ _ _ k) k _ H
    try simp only [jacquardref12_divide.f, beq_dec, bne_dec] at H
    repeat (first
      | (with_reducible first | replace H := le_bind (jacquardref12_Signed.le ..) H | replace H := le_ap (jacquardref12_Signed.le ..) H)
      | (with_reducible first | replace H := le_bind (jacquardref12_Mask.le ..) H | replace H := le_ap (jacquardref12_Mask.le ..) H)
      | (simp [beq_dec, bne_dec, *] at H; done)
      | (simp [beq_dec, bne_dec, *] at H)
      | (rw [if_pos (by omega)] at H)
      | (rw [if_neg (by omega)] at H)
      | (have hc := And.left H; replace H := And.right H; try (exfalso; clear H; omega)))
  all_goals first
    | (subst H; rfl)
    | (subst H; simp; done)
    | (cases H; rfl)
    | (exfalso; clear H; omega)
    | (subst H; simp [beq_dec, bne_dec, *]; done)
    | (simp_all [beq_dec, bne_dec]; done)
    | (simp_all [beq_dec, bne_dec]; subst H; first | rfl | (simp; done) | (simp [*]; done))
set_option maxRecDepth 100000 in
set_option maxHeartbeats 40000000 in
theorem jacquardref13_Of.ev (a0 : Int) (a1 : Int) (r : Int × Int × Int × Int) (H : jacquardref13_Of.f k a0 a1 = some r)
  (g45 : _) (e45 : g45 = jacquardref13_Umax.F) (h45 : jacquardref13_Umax.Is K g45)
  (g43 : _) (e43 : g43 = jacquardref12_Signed.F) (h43 : jacquardref12_Signed.Is K g43)
  : evFn ⟨tys, ⟨op, ok, cmp, neg, not, wrap, mn', mx', idx, len, get, cut, app, byte⟩, lp⟩ (k + 8) K h30 Try.f30 [V.sc (.int .i64 a0), V.sc (.int .u64 a1)] [] = some (V.agg [V.sc (.int .u64 r.1), V.sc (.int .u64 r.2.1), V.sc (.int .i64 r.2.2.1), V.sc (.int .i64 r.2.2.2)], []) := by
  generalize hR : some (V.agg [V.sc (.int .u64 r.1), V.sc (.int .u64 r.2.1), V.sc (.int .i64 r.2.2.1), V.sc (.int .i64 r.2.2.2)], ([] : Heap)) = R
  have hcm := rcm hA hc2
  have hokm := rok hA hok2
  all_goals cbv
  all_goals repeat' (first
    | (rewrite [h45, hq45]; cbv)
    | (rewrite [h45]; generalize hq45 : g45 _ = o; rcases o with _ | _ <;> cbv)
    | (rewrite [h43, hq43]; cbv)
    | (rewrite [h43]; generalize hq43 : g43 _ _ = o; rcases o with _ | _ <;> cbv)
    | (rewrite [hok2]; generalize hq : ok2 _ _ = o; cases o <;> cbv)
    | (rewrite [hc2]; generalize hq : c2 _ _ _ = o; cases o <;> (rewrite [hcm] at hq; simp only [rc] at hq) <;> first | (exfalso; omega) | cbv))
  all_goals
    obtain rfl := c2_eq hcm
    obtain rfl := ok2_eq hokm
    subst e45 e43 hR
    clear h45 h43 hc2 hok2 hcm hokm
    obtain ⟨rfl, rfl, rfl, rfl, rfl, rfl, rfl, rfl, rfl, rfl⟩ := eqsA hA
    clear hA
    try simp only [rl] at *
    try subst_vars
    try replace H := up8 (fun k => jacquardref13_Of.mono _ _ k) k _ H
    try simp only [jacquardref13_Of.f, beq_dec, bne_dec] at H
    repeat (first
      | (with_reducible first | replace H := le_bind (jacquardref13_Umax.le ..) H | replace H := le_ap (jacquardref13_Umax.le ..) H)
      | (with_reducible first | replace H := le_bind (jacquardref12_Signed.le ..) H | replace H := le_ap (jacquardref12_Signed.le ..) H)
      | (simp [jacquardref13_Of.j0, beq_dec, bne_dec, *] at H; done)
      | (simp [jacquardref13_Of.j0, beq_dec, bne_dec, *] at H)
      | (rw [if_pos (by omega)] at H)
      | (rw [if_neg (by omega)] at H)
      | (have hc := And.left H; replace H := And.right H; try (exfalso; clear H; omega)))
  all_goals first
    | (subst H; rfl)
    | (subst H; simp; done)
    | (cases H; rfl)
    | (exfalso; clear H; omega)
    | (subst H; simp [beq_dec, bne_dec, *]; done)
    | (simp_all [beq_dec, bne_dec]; done)
    | (simp_all [beq_dec, bne_dec]; subst H; first | rfl | (simp; done) | (simp [*]; done))
set_option maxRecDepth 100000 in
set_option maxHeartbeats 40000000 in
theorem interval_Top.ev (a0 : Int) (r : Int × Int × Int × Int) (H : interval_Top.f a0 = some r)
  (g36 : _) (e36 : g36 = interval_good.f) (h36 : interval_good.Is K g36)
  (g25 : _) (e25 : g25 = interval_ends.f) (h25 : interval_ends.Is K g25)
  (g26 : _) (e26 : g26 = bits_Mask.f) (h26 : bits_Mask.Is K g26)
  : evFn ⟨tys, ⟨op, ok, cmp, neg, not, wrap, mn', mx', idx, len, get, cut, app, byte⟩, lp⟩ (k + 8) K h21 Try.f21 [V.sc (.int .i64 a0)] [] = some (V.agg [V.sc (.int .u64 r.1), V.sc (.int .u64 r.2.1), V.sc (.int .i64 r.2.2.1), V.sc (.int .i64 r.2.2.2)], []) := by
  generalize hR : some (V.agg [V.sc (.int .u64 r.1), V.sc (.int .u64 r.2.1), V.sc (.int .i64 r.2.2.1), V.sc (.int .i64 r.2.2.2)], ([] : Heap)) = R
  have hcm := rcm hA hc2
  have hokm := rok hA hok2
  all_goals cbv
  all_goals repeat' (first
    | (rewrite [h36, hq36]; cbv)
    | (rewrite [h36]; generalize hq36 : g36 _ = o; rcases o with _ | _ | _ <;> cbv)
    | (rewrite [h25, hq25]; cbv)
    | (rewrite [h25]; generalize hq25 : g25 _ = o; rcases o with _ | ⟨_, _⟩ <;> cbv)
    | (rewrite [h26, hq26]; cbv)
    | (rewrite [h26]; generalize hq26 : g26 _ = o; rcases o with _ | _ <;> cbv)
    | (rewrite [hok2]; generalize hq : ok2 _ _ = o; cases o <;> cbv)
    | (rewrite [hc2]; generalize hq : c2 _ _ _ = o; cases o <;> (rewrite [hcm] at hq; simp only [rc] at hq) <;> first | (exfalso; omega) | cbv))
  all_goals
    obtain rfl := c2_eq hcm
    obtain rfl := ok2_eq hokm
    subst e36 e25 e26 hR
    clear h36 h25 h26 hc2 hok2 hcm hokm
    obtain ⟨rfl, rfl, rfl, rfl, rfl, rfl, rfl, rfl, rfl, rfl⟩ := eqsA hA
    clear hA
    try simp only [rl] at *
    try subst_vars
    try simp only [interval_Top.f, beq_dec, bne_dec] at H
    repeat (first
      | (simp [beq_dec, bne_dec, *] at H; done)
      | (simp [beq_dec, bne_dec, *] at H)
      | (rw [if_pos (by omega)] at H)
      | (rw [if_neg (by omega)] at H)
      | (have hc := And.left H; replace H := And.right H; try (exfalso; clear H; omega)))
  all_goals first
    | (subst H; rfl)
    | (subst H; simp; done)
    | (cases H; rfl)
    | (exfalso; clear H; omega)
    | (subst H; simp [beq_dec, bne_dec, *]; done)
    | (simp_all [beq_dec, bne_dec]; done)
    | (simp_all [beq_dec, bne_dec]; subst H; first | rfl | (simp; done) | (simp [*]; done))
set_option maxRecDepth 100000 in
set_option maxHeartbeats 40000000 in
theorem jacquardref13_within.ev (a0 : Int) (a1_0 : Int) (a1_1 : Int) (a1_2 : Int) (a1_3 : Int) (r : Bool) (H : jacquardref13_within.f a0 a1_0 a1_1 a1_2 a1_3 = some r)
  : evFn ⟨tys, ⟨op, ok, cmp, neg, not, wrap, mn', mx', idx, len, get, cut, app, byte⟩, lp⟩ (k + 8) K h72 Try.f72 [V.sc (.int .i64 a0), V.agg [V.sc (.int .u64 a1_0), V.sc (.int .u64 a1_1), V.sc (.int .i64 a1_2), V.sc (.int .i64 a1_3)]] [] = some (V.sc (.bool r), []) := by
  generalize hR : some (V.sc (.bool r), ([] : Heap)) = R
  have hcm := rcm hA hc2
  have hokm := rok hA hok2
  all_goals cbv
  all_goals repeat' (first
    | (rewrite [hok2]; generalize hq : ok2 _ _ = o; cases o <;> cbv)
    | (rewrite [hc2]; generalize hq : c2 _ _ _ = o; cases o <;> (rewrite [hcm] at hq; simp only [rc] at hq) <;> first | (exfalso; omega) | cbv))
  all_goals
    obtain rfl := c2_eq hcm
    obtain rfl := ok2_eq hokm
    subst  hR
    clear hc2 hok2 hcm hokm
    obtain ⟨rfl, rfl, rfl, rfl, rfl, rfl, rfl, rfl, rfl, rfl⟩ := eqsA hA
    clear hA
    try simp only [rl] at *
    try subst_vars
    try simp only [jacquardref13_within.f, beq_dec, bne_dec] at H
    repeat (first
      | (simp [beq_dec, bne_dec, *] at H; done)
      | (simp [beq_dec, bne_dec, *] at H)
      | (rw [if_pos (by omega)] at H)
      | (rw [if_neg (by omega)] at H)
      | (have hc := And.left H; replace H := And.right H; try (exfalso; clear H; omega)))
  all_goals first
    | (subst H; rfl)
    | (subst H; simp; done)
    | (cases H; rfl)
    | (exfalso; clear H; omega)
    | (subst H; simp [beq_dec, bne_dec, *]; done)
    | (simp_all [beq_dec, bne_dec]; done)
    | (simp_all [beq_dec, bne_dec]; subst H; first | rfl | (simp; done) | (simp [*]; done))
set_option maxRecDepth 100000 in
set_option maxHeartbeats 40000000 in
theorem jacquardref12_Bit.ev (a0 : Int) (a1 : Int) (r : Int) (H : jacquardref12_Bit.f a0 a1 = some r)
  : evFn ⟨tys, ⟨op, ok, cmp, neg, not, wrap, mn', mx', idx, len, get, cut, app, byte⟩, lp⟩ (k + 8) K h41 Try.f41 [V.sc (.int .u64 a0), V.sc (.int .i64 a1)] [] = some (V.sc (.int .i64 r), []) := by
  generalize hR : some (V.sc (.int .i64 r), ([] : Heap)) = R
  have hcm := rcm hA hc2
  have hokm := rok hA hok2
  all_goals cbv
  all_goals repeat' (first
    | (rewrite [hok2]; generalize hq : ok2 _ _ = o; cases o <;> cbv)
    | (rewrite [hc2]; generalize hq : c2 _ _ _ = o; cases o <;> (rewrite [hcm] at hq; simp only [rc] at hq) <;> first | (exfalso; omega) | cbv))
  all_goals
    obtain rfl := c2_eq hcm
    obtain rfl := ok2_eq hokm
    subst  hR
    clear hc2 hok2 hcm hokm
    obtain ⟨rfl, rfl, rfl, rfl, rfl, rfl, rfl, rfl, rfl, rfl⟩ := eqsA hA
    clear hA
    try simp only [rl] at *
    try subst_vars
    try simp only [jacquardref12_Bit.f, beq_dec, bne_dec] at H
    repeat (first
      | (simp [beq_dec, bne_dec, *] at H; done)
      | (simp [beq_dec, bne_dec, *] at H)
      | (rw [if_pos (by omega)] at H)
      | (rw [if_neg (by omega)] at H)
      | (have hc := And.left H; replace H := And.right H; try (exfalso; clear H; omega)))
  all_goals first
    | (subst H; rfl)
    | (subst H; simp; done)
    | (cases H; rfl)
    | (exfalso; clear H; omega)
    | (subst H; simp [beq_dec, bne_dec, *]; done)
    | (simp_all [beq_dec, bne_dec]; done)
    | (simp_all [beq_dec, bne_dec]; subst H; first | rfl | (simp; done) | (simp [*]; done))
set_option maxRecDepth 100000 in
set_option maxHeartbeats 40000000 in
theorem bits_From.ev (a0 : Int) (a1 : Int) (r : Int) (H : bits_From.f a0 a1 = some r)
  (g37 : _) (e37 : g37 = bits_Fit.f) (h37 : bits_Fit.Is K g37)
  : evFn ⟨tys, ⟨op, ok, cmp, neg, not, wrap, mn', mx', idx, len, get, cut, app, byte⟩, lp⟩ (k + 8) K h48 Try.f48 [V.sc (.int .i64 a0), V.sc (.int .i64 a1)] [] = some (V.sc (.int .u64 r), []) := by
  generalize hR : some (V.sc (.int .u64 r), ([] : Heap)) = R
  have hcm := rcm hA hc2
  have hokm := rok hA hok2
  all_goals cbv
  all_goals repeat' (first
    | (rewrite [h37, hq37]; cbv)
    | (rewrite [h37]; generalize hq37 : g37 _ _ = o; rcases o with _ | _ <;> cbv)
    | (rewrite [hok2]; generalize hq : ok2 _ _ = o; cases o <;> cbv)
    | (rewrite [hc2]; generalize hq : c2 _ _ _ = o; cases o <;> (rewrite [hcm] at hq; simp only [rc] at hq) <;> first | (exfalso; omega) | cbv))
  all_goals
    obtain rfl := c2_eq hcm
    obtain rfl := ok2_eq hokm
    subst e37 hR
    clear h37 hc2 hok2 hcm hokm
    obtain ⟨rfl, rfl, rfl, rfl, rfl, rfl, rfl, rfl, rfl, rfl⟩ := eqsA hA
    clear hA
    try simp only [rl] at *
    try subst_vars
    try simp only [bits_From.f, beq_dec, bne_dec] at H
    repeat (first
      | (simp [beq_dec, bne_dec, *] at H; done)
      | (simp [beq_dec, bne_dec, *] at H)
      | (rw [if_pos (by omega)] at H)
      | (rw [if_neg (by omega)] at H)
      | (have hc := And.left H; replace H := And.right H; try (exfalso; clear H; omega)))
  all_goals first
    | (subst H; rfl)
    | (subst H; simp; done)
    | (cases H; rfl)
    | (exfalso; clear H; omega)
    | (subst H; simp [beq_dec, bne_dec, *]; done)
    | (simp_all [beq_dec, bne_dec]; done)
    | (simp_all [beq_dec, bne_dec]; subst H; first | rfl | (simp; done) | (simp [*]; done))
set_option maxRecDepth 100000 in
set_option maxHeartbeats 40000000 in
theorem bits_IsCompare.ev (a0 : Int) (r : Bool) (H : bits_IsCompare.f a0 = some r)
  : evFn ⟨tys, ⟨op, ok, cmp, neg, not, wrap, mn', mx', idx, len, get, cut, app, byte⟩, lp⟩ (k + 8) K h46 Try.f46 [V.sc (.int .i64 a0)] [] = some (V.sc (.bool r), []) := by
  generalize hR : some (V.sc (.bool r), ([] : Heap)) = R
  have hcm := rcm hA hc2
  have hokm := rok hA hok2
  all_goals cbv
  all_goals repeat' (first
    | (rewrite [hok2]; generalize hq : ok2 _ _ = o; cases o <;> cbv)
    | (rewrite [hc2]; generalize hq : c2 _ _ _ = o; cases o <;> (rewrite [hcm] at hq; simp only [rc] at hq) <;> first | (exfalso; omega) | cbv))
  all_goals
    obtain rfl := c2_eq hcm
    obtain rfl := ok2_eq hokm
    subst  hR
    clear hc2 hok2 hcm hokm
    obtain ⟨rfl, rfl, rfl, rfl, rfl, rfl, rfl, rfl, rfl, rfl⟩ := eqsA hA
    clear hA
    try simp only [rl] at *
    try subst_vars
    try simp only [bits_IsCompare.f, beq_dec, bne_dec] at H
    repeat (first
      | (simp [beq_dec, bne_dec, *] at H; done)
      | (simp [beq_dec, bne_dec, *] at H)
      | (rw [if_pos (by omega)] at H)
      | (rw [if_neg (by omega)] at H)
      | (have hc := And.left H; replace H := And.right H; try (exfalso; clear H; omega)))
  all_goals first
    | (subst H; rfl)
    | (subst H; simp; done)
    | (cases H; rfl)
    | (exfalso; clear H; omega)
    | (subst H; simp [beq_dec, bne_dec, *]; done)
    | (simp_all [beq_dec, bne_dec]; done)
    | (simp_all [beq_dec, bne_dec]; subst H; first | rfl | (simp; done) | (simp [*]; done))
set_option maxRecDepth 100000 in
set_option maxHeartbeats 40000000 in
theorem bits_limit.ev (a0 : Int) (r : Int) (H : bits_limit.f a0 = some r)
  : evFn ⟨tys, ⟨op, ok, cmp, neg, not, wrap, mn', mx', idx, len, get, cut, app, byte⟩, lp⟩ (k + 8) K h51 Try.f51 [V.sc (.int .i64 a0)] [] = some (V.sc (.int .i64 r), []) := by
  generalize hR : some (V.sc (.int .i64 r), ([] : Heap)) = R
  have hcm := rcm hA hc2
  have hokm := rok hA hok2
  all_goals cbv
  all_goals repeat' (first
    | (rewrite [hok2]; generalize hq : ok2 _ _ = o; cases o <;> cbv)
    | (rewrite [hc2]; generalize hq : c2 _ _ _ = o; cases o <;> (rewrite [hcm] at hq; simp only [rc] at hq) <;> first | (exfalso; omega) | cbv))
  all_goals
    obtain rfl := c2_eq hcm
    obtain rfl := ok2_eq hokm
    subst  hR
    clear hc2 hok2 hcm hokm
    obtain ⟨rfl, rfl, rfl, rfl, rfl, rfl, rfl, rfl, rfl, rfl⟩ := eqsA hA
    clear hA
    try simp only [rl] at *
    try subst_vars
    try simp only [bits_limit.f, beq_dec, bne_dec] at H
    repeat (first
      | (simp [beq_dec, bne_dec, *] at H; done)
      | (simp [beq_dec, bne_dec, *] at H)
      | (rw [if_pos (by omega)] at H)
      | (rw [if_neg (by omega)] at H)
      | (have hc := And.left H; replace H := And.right H; try (exfalso; clear H; omega)))
  all_goals first
    | (subst H; rfl)
    | (subst H; simp; done)
    | (cases H; rfl)
    | (exfalso; clear H; omega)
    | (subst H; simp [beq_dec, bne_dec, *]; done)
    | (simp_all [beq_dec, bne_dec]; done)
    | (simp_all [beq_dec, bne_dec]; subst H; first | rfl | (simp; done) | (simp [*]; done))
end
end Go.Vm
