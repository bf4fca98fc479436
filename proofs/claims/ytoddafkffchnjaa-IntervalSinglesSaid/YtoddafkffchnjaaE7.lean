/- What the evaluator makes of the functions' code (91 s). -/
import Derived.Test.YtoddafkffchnjaaO
namespace Go.Vm
open Go.Proofs Go.Proofs.Ytoddafkffchnjaa Go.Proofs.Ytoddafkffchnjaa.P Go.RowKit Go.Proofs.YtoddafkffchnjaaW.PrintWords Go.Proofs.YtoddafkffchnjaaW.PrintLast Go.Proofs.YtoddafkffchnjaaW.PrintMore
set_option linter.unusedVariables false
set_option linter.unusedSimpArgs false
set_option linter.unusedSectionVars false
set_option linter.unusedVariables false
set_option linter.unusedSimpArgs false
section
variable {op : BinOp → IntKind → Int → Int → Int} {ok : BinOp → Int → Bool} {cmp : BinOp → Int → Int → Bool} {neg not wrap : IntKind → Int → Int} {mn' mx' : Int → Int → Int} {idx : Int → Option Nat}
  {len : List (List V) → Int} {get : List (List V) → Int → Option (List V)} {cut : Nat → List (List V) → Option V → Option V → Option (List (List V))} {app : Nat → Nat → List (List V) → List (List V) → Option (List (List V))} {byte : ByteArray → Int → Option Int}
  {lp : (St → Option (Ex × St)) → Nat → List Nat → Nat → St → Option (Ex × St)} {c2 : BinOp → Int → Int → Bool} {ok2 : BinOp → Int → Bool}
variable (hA : (⟨tys, ⟨op, ok, cmp, neg, not, wrap, mn', mx', idx, len, get, cut, app, byte⟩, lp⟩ : En) = ⟨tys, real, rounds⟩) (hc2 : ∀ o a b, cmp o a b = c2 o a b) (hok2 : ∀ o a, ok o a = ok2 o a) (k : Nat) (K : Oracle)
include hA hc2 hok2
set_option maxRecDepth 100000 in
set_option maxHeartbeats 40000000 in
theorem interval_shaped.ev (a0 : Int) (a1 : Int) (l2 : List Int) (r : Bool) (H : interval_shaped.f k a0 a1 l2 = some r)
  (g36 : _) (e36 : g36 = interval_good.f) (h36 : interval_good.Is K g36)
  (g46 : _) (e46 : g46 = bits_IsCompare.f) (h46 : bits_IsCompare.Is K g46)
  (g47 : _) (e47 : g47 = bits_IsBinary.f) (h47 : bits_IsBinary.Is K g47)
  : evFn ⟨tys, ⟨op, ok, cmp, neg, not, wrap, mn', mx', idx, len, get, cut, app, byte⟩, lp⟩ (k + 8) K h22 Try.f22 [V.sc (.int .i64 a0), V.sc (.int .i64 a1), V.sl false (l2.map fun x : Int => [V.sc (.int .i64 x)])] [] = some (V.sc (.bool r), []) := by
  generalize hR : some (V.sc (.bool r), ([] : Heap)) = R
  have hcm := rcm hA hc2
  have hokm := rok hA hok2
  obtain ⟨lp2, hlp2, hlp⟩ : ∃ lp2, lp2 = rounds ∧ ∀ b n0 kp L st, lp b n0 kp L st = lp2 b n0 kp L st := ⟨lp, lp_eq hA, fun _ _ _ _ _ => rfl⟩
  obtain ⟨cl2, bl2, pl2_0, hcl2, hbl2, hpl2_0, hgl2, hul2⟩ := li_int .i64 (get_eq hA) l2
  rw [← hcl2]
  all_goals cbv
  all_goals repeat' (first
    | (rewrite [h36, hq36]; cbv)
    | (rewrite [h36]; generalize hq36 : g36 _ = o; rcases o with _ | _ | _ <;> cbv)
    | (rewrite [h46, hq46]; cbv)
    | (rewrite [h46]; generalize hq46 : g46 _ = o; rcases o with _ | _ | _ <;> cbv)
    | (rewrite [h47, hq47]; cbv)
    | (rewrite [h47]; generalize hq47 : g47 _ = o; rcases o with _ | _ | _ <;> cbv)
    | (rewrite [hgl2]; generalize hq : bl2 _ = o; cases o <;> first | (exact absurd (hq.symm.trans (by assumption : bl2 _ = true)) Bool.false_ne_true) | (exact absurd (hq.symm.trans (by assumption : bl2 _ = false)) (fun h => Bool.false_ne_true h.symm)) | cbv)
    | (rewrite [hok2]; generalize hq : ok2 _ _ = o; cases o <;> cbv)
    | (rewrite [hc2]; generalize hq : c2 _ _ _ = o; cases o <;> (rewrite [hcm] at hq; simp only [rc] at hq) <;> first | (exfalso; omega) | cbv)
    | (rewrite [hlp]; generalize hl : lp2 _ _ _ _ _ = o; revert o
       refine loop_rule hlp2 (fun (y : Int) st => ⟨(st.s.set 15 (V.sc (.int .i64 y))), st.h⟩) (fun n y => interval_shaped.l0 n a0 a1 l2 l2 (l2.length : Int) y = some r) (n := k + 8) (x := ?x15_1) ?hst (fun y h => by simp [interval_shaped.l0] at h) ?hq ?hn ?hs
       case hst => exact rfl
       case hq =>
         obtain rfl := c2_eq hcm
         obtain rfl := ok2_eq hokm
         subst e36 e46 e47 hR
         clear h36 h46 h47 hc2 hok2 hcm hokm hul2 hgl2 hlp
         subst hcl2 hbl2 hpl2_0
         obtain ⟨rfl, rfl, rfl, rfl, rfl, rfl, rfl, rfl, rfl, rfl⟩ := eqsA hA
         clear hA
         try simp only [rl] at *
         try subst_vars
         try replace H := up8 (fun k => interval_shaped.mono _ _ _ k) k _ H
         try simp only [interval_shaped.f, beq_dec, bne_dec] at H
         repeat (first
           | (simp [interval_shaped.j1, beq_dec, bne_dec, *] at H; done)
           | (simp [interval_shaped.j1, beq_dec, bne_dec, *] at H)
           | (rw [if_pos (by omega)] at H)
           | (rw [if_neg (by omega)] at H)
           | (have hc := And.left H; replace H := And.right H; try (exfalso; clear H; omega)))
         all_goals first | exact H | exact le_ap (le_of_le (g := fun k => interval_shaped.l0 k _ _ _ _ _ _) (fun k => (interval_shaped.mono_l k).1 _ _ _ _ _ _) (by omega)) H | (rw [hq]; exact le_ap (le_of_le (g := fun k => interval_shaped.l0 k _ _ _ _ _ _) (fun k => (interval_shaped.mono_l k).1 _ _ _ _ _ _) (by omega)) H) | (simp_all; done)
       case hn => omega
       case' hs =>
         clear H
         intro m nx x15_1 hnx H
         all_goals cbv))
  all_goals
    obtain rfl := c2_eq hcm
    obtain rfl := ok2_eq hokm
    subst e36 e46 e47 hR
    clear h36 h46 h47 hc2 hok2 hcm hokm hul2 hgl2 hlp
    subst hcl2 hbl2 hpl2_0
    obtain ⟨rfl, rfl, rfl, rfl, rfl, rfl, rfl, rfl, rfl, rfl⟩ := eqsA hA
    clear hA
    try simp only [rl] at *
    try (exact hnx (_) H)
    try replace hnx : Go.RowKit.Hid _ := hnx
    try subst_vars
    try replace H := up8 (fun k => interval_shaped.mono _ _ _ k) k _ H
    try simp only [interval_shaped.f, beq_dec, bne_dec] at H
    try simp only [interval_shaped.l0, beq_dec, bne_dec] at H
    repeat (first
      | (with_reducible replace H := le_ap (up8 (g := fun k => interval_shaped.j1 k _ _ _ _ _ _) (fun k => (interval_shaped.mono_l k).2 _ _ _ _ _ _) m) H)
      | (simp [beq_dec, bne_dec, *] at H; done)
      | (simp [beq_dec, bne_dec, *] at H)
      | (rw [if_pos (by omega)] at H)
      | (rw [if_neg (by omega)] at H)
      | (simp [interval_shaped.j1, beq_dec, bne_dec, *] at H; done)
      | (simp [interval_shaped.j1, beq_dec, bne_dec, *] at H)
      | (rw [if_pos (by omega)] at H)
      | (rw [if_neg (by omega)] at H)
      | (have hc := And.left H; replace H := And.right H; try (exfalso; clear H; (try clear hnx); omega)))
  all_goals first
    | (exact hnx.out _ H)
    | (rw [← hq] at H; exact hnx.out _ H)
    | (subst H; rfl)
    | (subst H; simp; done)
    | (cases H; rfl)
    | (exfalso; clear H; (try clear hnx); omega)
    | (exfalso; clear H; (try clear hnx); simp only [natCast_eq] at *; omega)
    | (simp only [*] at hq36; simp [*] at H; done)
    | (simp only [*] at hq36; simp [*] at H; subst H; first | rfl | (simp; done))
    | (simp only [*] at hq46; simp [*] at H; done)
    | (simp only [*] at hq46; simp [*] at H; subst H; first | rfl | (simp; done))
    | (simp only [*] at hq47; simp [*] at H; done)
    | (simp only [*] at hq47; simp [*] at H; subst H; first | rfl | (simp; done))
    | (subst H; simp [beq_dec, bne_dec, *]; done)
    | (simp_all [beq_dec, bne_dec]; done)
    | (simp_all [beq_dec, bne_dec]; subst H; first | rfl | (simp; done) | (simp [*]; done))
set_option maxRecDepth 100000 in
set_option maxHeartbeats 40000000 in
theorem interval_computer_compare.ev (s0_0 : Int) (s0_1 : Int) (s0_2 : Int) (s0_3 : Int) (s0_4 : Int) (s0_5 : Int) (s0_6 : Int) (s0_7 : Int) (a1 : Int) (a2_0 : Int) (a2_1 : Int) (a2_2 : Int) (a2_3 : Int) (a3_0 : Int) (a3_1 : Int) (a3_2 : Int) (a3_3 : Int) (r : Int × Int × Int × Int × Int × Int × Int × Int) (H : interval_computer_compare.f k s0_0 s0_1 s0_2 s0_3 s0_4 s0_5 s0_6 s0_7 a1 a2_0 a2_1 a2_2 a2_3 a3_0 a3_1 a3_2 a3_3 = some r)
  (g85 : _) (e85 : g85 = interval_computer_truth.F) (h85 : interval_computer_truth.Is K g85)
  : evFn ⟨tys, ⟨op, ok, cmp, neg, not, wrap, mn', mx', idx, len, get, cut, app, byte⟩, lp⟩ (k + 8) K h61 Try.f61 [V.ptr 0 0, V.sc (.int .i64 a1), V.agg [V.sc (.int .u64 a2_0), V.sc (.int .u64 a2_1), V.sc (.int .i64 a2_2), V.sc (.int .i64 a2_3)], V.agg [V.sc (.int .u64 a3_0), V.sc (.int .u64 a3_1), V.sc (.int .i64 a3_2), V.sc (.int .i64 a3_3)]] [[V.sc (.int .i64 s0_0), V.sc (.int .u64 s0_1), V.sc (.int .i64 s0_2), V.sc (.int .i64 s0_3), V.sc (.int .u64 s0_4), V.sc (.int .u64 s0_5), V.sc (.int .i64 s0_6), V.sc (.int .i64 s0_7)]] = some (V.tup [], [[V.sc (.int .i64 r.1), V.sc (.int .u64 r.2.1), V.sc (.int .i64 r.2.2.1), V.sc (.int .i64 r.2.2.2.1), V.sc (.int .u64 r.2.2.2.2.1), V.sc (.int .u64 r.2.2.2.2.2.1), V.sc (.int .i64 r.2.2.2.2.2.2.1), V.sc (.int .i64 r.2.2.2.2.2.2.2)]]) := by
  generalize hR : some (V.tup [], [[V.sc (.int .i64 r.1), V.sc (.int .u64 r.2.1), V.sc (.int .i64 r.2.2.1), V.sc (.int .i64 r.2.2.2.1), V.sc (.int .u64 r.2.2.2.2.1), V.sc (.int .u64 r.2.2.2.2.2.1), V.sc (.int .i64 r.2.2.2.2.2.2.1), V.sc (.int .i64 r.2.2.2.2.2.2.2)]]) = R
  have hcm := rcm hA hc2
  have hokm := rok hA hok2
  all_goals cbv
  all_goals repeat' (first
    | (rewrite [h85, hq85]; cbv)
    | (rewrite [h85]; generalize hq85 : g85 _ _ _ _ _ _ _ _ _ _ = o; rcases o with _ | ⟨_, _, _, _, _, _, _, _⟩ <;> cbv)
    | (rewrite [hok2]; generalize hq : ok2 _ _ = o; cases o <;> cbv)
    | (rewrite [hc2]; generalize hq : c2 _ _ _ = o; cases o <;> (rewrite [hcm] at hq; simp only [rc] at hq) <;> first | (exfalso; omega) | cbv))
  all_goals
    obtain rfl := c2_eq hcm
    obtain rfl := ok2_eq hokm
    subst e85 hR
    clear h85 hc2 hok2 hcm hokm
    obtain ⟨rfl, rfl, rfl, rfl, rfl, rfl, rfl, rfl, rfl, rfl⟩ := eqsA hA
    clear hA
    try simp only [rl] at *
    try subst_vars
    try simp [beq_dec, bne_dec, *] at hq85
    try replace H := up8 (fun k => interval_computer_compare.mono _ _ _ _ _ _ _ _ _ _ _ _ _ _ _ _ _ k) k _ H
    try simp only [interval_computer_compare.f, beq_dec, bne_dec] at H
    repeat (first
      | (with_reducible first | replace H := le_bind (interval_computer_truth.le ..) H | replace H := le_ap (interval_computer_truth.le ..) H)
      | (simp [interval_computer_compare.j0, beq_dec, bne_dec, *] at H; done)
      | (simp [interval_computer_compare.j0, beq_dec, bne_dec, *] at H)
      | (rw [if_pos (by omega)] at H)
      | (rw [if_neg (by omega)] at H)
      | (have hc := And.left H; replace H := And.right H; try (exfalso; clear H; omega)))
  all_goals first
    | (subst H; rfl)
    | (subst H; simp; done)
    | (cases H; rfl)
    | (exfalso; clear H; omega)
    | (subst H; simp [beq_dec, bne_dec, *]; done)
    | (simp_all [beq_dec, bne_dec]; done)
    | (simp_all [beq_dec, bne_dec]; subst H; first | rfl | (simp; done) | (simp [*]; done))
set_option maxRecDepth 100000 in
set_option maxHeartbeats 40000000 in
theorem jacquardref12_shift.ev (a0 : Int) (a1 : Int) (a2 : Int) (a3 : Int) (r : Int) (H : jacquardref12_shift.f k a0 a1 a2 a3 = some r)
  (g41 : _) (e41 : g41 = jacquardref12_Bit.f) (h41 : jacquardref12_Bit.Is K g41)
  : evFn ⟨tys, ⟨op, ok, cmp, neg, not, wrap, mn', mx', idx, len, get, cut, app, byte⟩, lp⟩ (k + 8) K h40 Try.f40 [V.sc (.int .i64 a0), V.sc (.int .u64 a1), V.sc (.int .u64 a2), V.sc (.int .i64 a3)] [] = some (V.sc (.int .u64 r), []) := by
  generalize hR : some (V.sc (.int .u64 r), ([] : Heap)) = R
  have hcm := rcm hA hc2
  have hokm := rok hA hok2
  obtain ⟨lp2, hlp2, hlp⟩ : ∃ lp2, lp2 = rounds ∧ ∀ b n0 kp L st, lp b n0 kp L st = lp2 b n0 kp L st := ⟨lp, lp_eq hA, fun _ _ _ _ _ => rfl⟩
  all_goals cbv
  all_goals repeat' (first
    | (rewrite [h41, hq41]; cbv)
    | (rewrite [h41]; generalize hq41 : g41 _ _ = o; rcases o with _ | _ <;> cbv)
    | (rewrite [hok2]; generalize hq : ok2 _ _ = o; cases o <;> cbv)
    | (rewrite [hc2]; generalize hq : c2 _ _ _ = o; cases o <;> (rewrite [hcm] at hq; simp only [rc] at hq) <;> first | (exfalso; omega) | cbv)
    | (rewrite [hlp]; generalize hl : lp2 _ _ _ _ _ = o; revert o
       refine loop_rule hlp2 (fun (y : Int × Int) st => ⟨((st.s.set 9 (V.sc (.int .u64 y.1))).set 10 (V.sc (.int .i64 y.2))), st.h⟩) (fun n y => jacquardref12_shift.l0 n a0 a1 a2 a3 y.1 y.2 = some r) (n := k + 8) (x := (?x9_1, ?x10_1)) ?hst (fun y h => by simp [jacquardref12_shift.l0] at h) ?hq ?hn ?hs
       case hst => exact rfl
       case hq =>
         obtain rfl := c2_eq hcm
         obtain rfl := ok2_eq hokm
         subst e41 hR
         clear h41 hc2 hok2 hcm hokm hlp
         obtain ⟨rfl, rfl, rfl, rfl, rfl, rfl, rfl, rfl, rfl, rfl⟩ := eqsA hA
         clear hA
         try simp only [rl] at *
         try subst_vars
         try replace H := up8 (fun k => jacquardref12_shift.mono _ _ _ _ k) k _ H
         try simp only [jacquardref12_shift.f, beq_dec, bne_dec] at H
         repeat (first
           | (simp [beq_dec, bne_dec, *] at H; done)
           | (simp [beq_dec, bne_dec, *] at H)
           | (rw [if_pos (by omega)] at H)
           | (rw [if_neg (by omega)] at H)
           | (have hc := And.left H; replace H := And.right H; try (exfalso; clear H; omega)))
         all_goals first | exact H | exact le_ap (le_of_le (g := fun k => jacquardref12_shift.l0 k _ _ _ _ _ _) (fun k => (jacquardref12_shift.mono_l k) _ _ _ _ _ _) (by omega)) H | (rw [hq]; exact le_ap (le_of_le (g := fun k => jacquardref12_shift.l0 k _ _ _ _ _ _) (fun k => (jacquardref12_shift.mono_l k) _ _ _ _ _ _) (by omega)) H) | (simp_all; done)
       case hn => omega
       case' hs =>
         clear H
         intro m nx ⟨x9_1, x10_1⟩ hnx H
         all_goals cbv))
  all_goals
    obtain rfl := c2_eq hcm
    obtain rfl := ok2_eq hokm
    subst e41 hR
    clear h41 hc2 hok2 hcm hokm hlp
    obtain ⟨rfl, rfl, rfl, rfl, rfl, rfl, rfl, rfl, rfl, rfl⟩ := eqsA hA
    clear hA
    try simp only [rl] at *
    try (exact hnx (_, _) H)
    try replace hnx : Go.RowKit.Hid _ := hnx
    try subst_vars
    try replace H := up8 (fun k => jacquardref12_shift.mono _ _ _ _ k) k _ H
    try simp only [jacquardref12_shift.f, beq_dec, bne_dec] at H
    try simp only [jacquardref12_shift.l0, beq_dec, bne_dec] at H
    repeat (first
      | (simp [beq_dec, bne_dec, *] at H; done)
      | (simp [beq_dec, bne_dec, *] at H)
      | (rw [if_pos (by omega)] at H)
      | (rw [if_neg (by omega)] at H)
      | (have hc := And.left H; replace H := And.right H; try (exfalso; clear H; (try clear hnx); omega)))
  all_goals first
    | (exact hnx.out (_, _) H)
    | (rw [← hq] at H; exact hnx.out (_, _) H)
    | (subst H; rfl)
    | (subst H; simp; done)
    | (cases H; rfl)
    | (exfalso; clear H; (try clear hnx); omega)
    | (exfalso; clear H; (try clear hnx); simp only [natCast_eq] at *; omega)
    | (simp only [*] at hq41; simp [*] at H; done)
    | (simp only [*] at hq41; simp [*] at H; subst H; first | rfl | (simp; done))
    | (subst H; simp [beq_dec, bne_dec, *]; done)
    | (simp_all [beq_dec, bne_dec]; done)
    | (simp_all [beq_dec, bne_dec]; subst H; first | rfl | (simp; done) | (simp [*]; done))
set_option maxRecDepth 100000 in
set_option maxHeartbeats 40000000 in
theorem interval_computer_times.ev (s0_0 : Int) (s0_1 : Int) (s0_2 : Int) (s0_3 : Int) (s0_4 : Int) (s0_5 : Int) (s0_6 : Int) (s0_7 : Int) (a1 : Int) (a2 : Int) (r : Int × Bool) (H : interval_computer_times.f s0_0 s0_1 s0_2 s0_3 s0_4 s0_5 s0_6 s0_7 a1 a2 = some r)
  (g84 : _) (e84 : g84 = interval_computer_within.f) (h84 : interval_computer_within.Is K g84)
  : evFn ⟨tys, ⟨op, ok, cmp, neg, not, wrap, mn', mx', idx, len, get, cut, app, byte⟩, lp⟩ (k + 8) K h82 Try.f82 [V.ptr 0 0, V.sc (.int .i64 a1), V.sc (.int .i64 a2)] [[V.sc (.int .i64 s0_0), V.sc (.int .u64 s0_1), V.sc (.int .i64 s0_2), V.sc (.int .i64 s0_3), V.sc (.int .u64 s0_4), V.sc (.int .u64 s0_5), V.sc (.int .i64 s0_6), V.sc (.int .i64 s0_7)]] = some (V.tup [V.sc (.int .i64 r.1), V.sc (.bool r.2)], [[V.sc (.int .i64 s0_0), V.sc (.int .u64 s0_1), V.sc (.int .i64 s0_2), V.sc (.int .i64 s0_3), V.sc (.int .u64 s0_4), V.sc (.int .u64 s0_5), V.sc (.int .i64 s0_6), V.sc (.int .i64 s0_7)]]) := by
  generalize hR : some (V.tup [V.sc (.int .i64 r.1), V.sc (.bool r.2)], [[V.sc (.int .i64 s0_0), V.sc (.int .u64 s0_1), V.sc (.int .i64 s0_2), V.sc (.int .i64 s0_3), V.sc (.int .u64 s0_4), V.sc (.int .u64 s0_5), V.sc (.int .i64 s0_6), V.sc (.int .i64 s0_7)]]) = R
  have hcm := rcm hA hc2
  have hokm := rok hA hok2
  all_goals cbv
  all_goals repeat' (first
    | (rewrite [h84, hq84]; cbv)
    | (rewrite [h84]; generalize hq84 : g84 _ _ _ _ _ _ _ _ _ = o; rcases o with _ | _ | _ <;> cbv)
    | (rewrite [hok2]; generalize hq : ok2 _ _ = o; cases o <;> cbv)
    | (rewrite [hc2]; generalize hq : c2 _ _ _ = o; cases o <;> (rewrite [hcm] at hq; simp only [rc] at hq) <;> first | (exfalso; omega) | cbv))
  all_goals
    obtain rfl := c2_eq hcm
    obtain rfl := ok2_eq hokm
    subst e84 hR
    clear h84 hc2 hok2 hcm hokm
    obtain ⟨rfl, rfl, rfl, rfl, rfl, rfl, rfl, rfl, rfl, rfl⟩ := eqsA hA
    clear hA
    try simp only [rl] at *
    try subst_vars
    try simp only [interval_computer_times.f, beq_dec, bne_dec] at H
    repeat (first
      | (simp [beq_dec, bne_dec, *] at H; done)
      | (simp [beq_dec, bne_dec, *] at H)
      | (rw [if_pos (by omega)] at H)
      | (rw [if_neg (by omega)] at H)
      | (have hc := And.left H; replace H := And.right H; try (exfalso; clear H; omega)))
  all_goals first
    | (subst H; rfl)
    | (subst H; simp; done)
    | (cases H; rfl)
    | (exfalso; clear H; omega)
    | (subst H; simp [beq_dec, bne_dec, *]; done)
    | (simp_all [beq_dec, bne_dec]; done)
    | (simp_all [beq_dec, bne_dec]; subst H; first | rfl | (simp; done) | (simp [*]; done))
set_option maxRecDepth 100000 in
set_option maxHeartbeats 40000000 in
theorem interval_computer_less.ev (s0_0 : Int) (s0_1 : Int) (s0_2 : Int) (s0_3 : Int) (s0_4 : Int) (s0_5 : Int) (s0_6 : Int) (s0_7 : Int) (a1 : Int) (a2 : Int) (r : Int × Bool) (H : interval_computer_less.f s0_0 s0_1 s0_2 s0_3 s0_4 s0_5 s0_6 s0_7 a1 a2 = some r)
  (g84 : _) (e84 : g84 = interval_computer_within.f) (h84 : interval_computer_within.Is K g84)
  : evFn ⟨tys, ⟨op, ok, cmp, neg, not, wrap, mn', mx', idx, len, get, cut, app, byte⟩, lp⟩ (k + 8) K h80 Try.f80 [V.ptr 0 0, V.sc (.int .i64 a1), V.sc (.int .i64 a2)] [[V.sc (.int .i64 s0_0), V.sc (.int .u64 s0_1), V.sc (.int .i64 s0_2), V.sc (.int .i64 s0_3), V.sc (.int .u64 s0_4), V.sc (.int .u64 s0_5), V.sc (.int .i64 s0_6), V.sc (.int .i64 s0_7)]] = some (V.tup [V.sc (.int .i64 r.1), V.sc (.bool r.2)], [[V.sc (.int .i64 s0_0), V.sc (.int .u64 s0_1), V.sc (.int .i64 s0_2), V.sc (.int .i64 s0_3), V.sc (.int .u64 s0_4), V.sc (.int .u64 s0_5), V.sc (.int .i64 s0_6), V.sc (.int .i64 s0_7)]]) := by
  generalize hR : some (V.tup [V.sc (.int .i64 r.1), V.sc (.bool r.2)], [[V.sc (.int .i64 s0_0), V.sc (.int .u64 s0_1), V.sc (.int .i64 s0_2), V.sc (.int .i64 s0_3), V.sc (.int .u64 s0_4), V.sc (.int .u64 s0_5), V.sc (.int .i64 s0_6), V.sc (.int .i64 s0_7)]]) = R
  have hcm := rcm hA hc2
  have hokm := rok hA hok2
  all_goals cbv
  all_goals repeat' (first
    | (rewrite [h84, hq84]; cbv)
    | (rewrite [h84]; generalize hq84 : g84 _ _ _ _ _ _ _ _ _ = o; rcases o with _ | _ | _ <;> cbv)
    | (rewrite [hok2]; generalize hq : ok2 _ _ = o; cases o <;> cbv)
    | (rewrite [hc2]; generalize hq : c2 _ _ _ = o; cases o <;> (rewrite [hcm] at hq; simp only [rc] at hq) <;> first | (exfalso; omega) | cbv))
  all_goals
    obtain rfl := c2_eq hcm
    obtain rfl := ok2_eq hokm
    subst e84 hR
    clear h84 hc2 hok2 hcm hokm
    obtain ⟨rfl, rfl, rfl, rfl, rfl, rfl, rfl, rfl, rfl, rfl⟩ := eqsA hA
    clear hA
    try simp only [rl] at *
    try subst_vars
    try simp only [interval_computer_less.f, beq_dec, bne_dec] at H
    repeat (first
      | (simp [beq_dec, bne_dec, *] at H; done)
      | (simp [beq_dec, bne_dec, *] at H)
      | (rw [if_pos (by omega)] at H)
      | (rw [if_neg (by omega)] at H)
      | (have hc := And.left H; replace H := And.right H; try (exfalso; clear H; omega)))
  all_goals first
    | (subst H; rfl)
    | (subst H; simp; done)
    | (cases H; rfl)
    | (exfalso; clear H; omega)
    | (subst H; simp [beq_dec, bne_dec, *]; done)
    | (simp_all [beq_dec, bne_dec]; done)
    | (simp_all [beq_dec, bne_dec]; subst H; first | rfl | (simp; done) | (simp [*]; done))
set_option maxRecDepth 100000 in
set_option maxHeartbeats 40000000 in
theorem bits_divide.ev (a0 : Int) (a1 : Int) (a2 : Int) (a3 : Int) (r : Int) (H : bits_divide.f a0 a1 a2 a3 = some r)
  (g26 : _) (e26 : g26 = bits_Mask.f) (h26 : bits_Mask.Is K g26)
  (g87 : _) (e87 : g87 = bits_signed.f) (h87 : bits_signed.Is K g87)
  : evFn ⟨tys, ⟨op, ok, cmp, neg, not, wrap, mn', mx', idx, len, get, cut, app, byte⟩, lp⟩ (k + 8) K h74 Try.f74 [V.sc (.int .i64 a0), V.sc (.int .i64 a1), V.sc (.int .u64 a2), V.sc (.int .u64 a3)] [] = some (V.sc (.int .u64 r), []) := by
  generalize hR : some (V.sc (.int .u64 r), ([] : Heap)) = R
  have hcm := rcm hA hc2
  have hokm := rok hA hok2
  all_goals cbv
  all_goals repeat' (first
    | (rewrite [h26, hq26]; cbv)
    | (rewrite [h26]; generalize hq26 : g26 _ = o; rcases o with _ | _ <;> cbv)
    | (rewrite [h87, hq87]; cbv)
    | (rewrite [h87]; generalize hq87 : g87 _ _ _ = o; rcases o with _ | ⟨_, _⟩ <;> cbv)
    | (rewrite [hok2]; generalize hq : ok2 _ _ = o; cases o <;> cbv)
    | (rewrite [hc2]; generalize hq : c2 _ _ _ = o; cases o <;> (rewrite [hcm] at hq; simp only [rc] at hq) <;> first | (exfalso; omega) | cbv))
  all_goals
    obtain rfl := c2_eq hcm
    obtain rfl := ok2_eq hokm
    subst e26 e87 hR
    clear h26 h87 hc2 hok2 hcm hokm
    obtain ⟨rfl, rfl, rfl, rfl, rfl, rfl, rfl, rfl, rfl, rfl⟩ := eqsA hA
    clear hA
    try simp only [rl] at *
    try subst_vars
    try simp only [bits_divide.f, beq_dec, bne_dec] at H
    repeat (first
      | (simp [beq_dec, bne_dec, *] at H; done)
      | (simp [beq_dec, bne_dec, *] at H)
      | (rw [if_pos (by omega)] at H)
      | (rw [if_neg (by omega)] at H)
      | (have hc := And.left H; replace H := And.right H; try (exfalso; clear H; omega)))
  all_goals first
    | (subst H; rfl)
    | (subst H; simp; done)
    | (cases H; rfl)
    | (exfalso; clear H; omega)
    | (subst H; simp [beq_dec, bne_dec, *]; done)
    | (simp_all [beq_dec, bne_dec]; done)
    | (simp_all [beq_dec, bne_dec]; subst H; first | rfl | (simp; done) | (simp [*]; done))
set_option maxRecDepth 100000 in
set_option maxHeartbeats 40000000 in
theorem jacquardref12_Signed.ev (a0 : Int) (a1 : Int) (r : Int) (H : jacquardref12_Signed.f k a0 a1 = some r)
  (g41 : _) (e41 : g41 = jacquardref12_Bit.f) (h41 : jacquardref12_Bit.Is K g41)
  (g13 : _) (e13 : g13 = jacquardref12_Mask.F) (h13 : jacquardref12_Mask.Is K g13)
  : evFn ⟨tys, ⟨op, ok, cmp, neg, not, wrap, mn', mx', idx, len, get, cut, app, byte⟩, lp⟩ (k + 8) K h43 Try.f43 [V.sc (.int .i64 a0), V.sc (.int .u64 a1)] [] = some (V.sc (.int .i64 r), []) := by
  generalize hR : some (V.sc (.int .i64 r), ([] : Heap)) = R
  have hcm := rcm hA hc2
  have hokm := rok hA hok2
  all_goals cbv
  all_goals repeat' (first
    | (rewrite [h41, hq41]; cbv)
    | (rewrite [h41]; generalize hq41 : g41 _ _ = o; rcases o with _ | _ <;> cbv)
    | (rewrite [h13, hq13]; cbv)
    | (rewrite [h13]; generalize hq13 : g13 _ = o; rcases o with _ | _ <;> cbv)
    | (rewrite [hok2]; generalize hq : ok2 _ _ = o; cases o <;> cbv)
    | (rewrite [hc2]; generalize hq : c2 _ _ _ = o; cases o <;> (rewrite [hcm] at hq; simp only [rc] at hq) <;> first | (exfalso; omega) | cbv))
  all_goals
    obtain rfl := c2_eq hcm
    obtain rfl := ok2_eq hokm
    subst e41 e13 hR
    clear h41 h13 hc2 hok2 hcm hokm
    obtain ⟨rfl, rfl, rfl, rfl, rfl, rfl, rfl, rfl, rfl, rfl⟩ := eqsA hA
    clear hA
    try simp only [rl] at *
    try subst_vars
    try replace H := up8 (fun k => jacquardref12_Signed.mono _ _ k) k _ H
    try simp only [jacquardref12_Signed.f, beq_dec, bne_dec] at H
    repeat (first
      | (with_reducible first | replace H := le_bind (jacquardref12_Mask.le ..) H | replace H := le_ap (jacquardref12_Mask.le ..) H)
      | (simp [beq_dec, bne_dec, *] at H; done)
      | (simp [beq_dec, bne_dec, *] at H)
      | (rw [if_pos (by omega)] at H)
      | (rw [if_neg (by omega)] at H)
      | (have hc := And.left H; replace H := And.right H; try (exfalso; clear H; omega)))
  all_goals first
    | (subst H; rfl)
    | (subst H; simp; done)
    | (cases H; rfl)
    | (exfalso; clear H; omega)
    | (subst H; simp [beq_dec, bne_dec, *]; done)
    | (simp_all [beq_dec, bne_dec]; done)
    | (simp_all [beq_dec, bne_dec]; subst H; first | rfl | (simp; done) | (simp [*]; done))
set_option maxRecDepth 100000 in
set_option maxHeartbeats 40000000 in
theorem bits_IsCompare.ev (a0 : Int) (r : Bool) (H : bits_IsCompare.f a0 = some r)
  : evFn ⟨tys, ⟨op, ok, cmp, neg, not, wrap, mn', mx', idx, len, get, cut, app, byte⟩, lp⟩ (k + 8) K h46 Try.f46 [V.sc (.int .i64 a0)] [] = some (V.sc (.bool r), []) := by
  generalize hR : some (V.sc (.bool r), ([] : Heap)) = R
  have hcm := rcm hA hc2
  have hokm := rok hA hok2
  all_goals cbv
  all_goals repeat' (first
    | (rewrite [hok2]; generalize hq : ok2 _ _ = o; cases o <;> cbv)
    | (rewrite [hc2]; generalize hq : c2 _ _ _ = o; cases o <;> (rewrite [hcm] at hq; simp only [rc] at hq) <;> first | (exfalso; omega) | cbv))
  all_goals
    obtain rfl := c2_eq hcm
    obtain rfl := ok2_eq hokm
    subst  hR
    clear hc2 hok2 hcm hokm
    obtain ⟨rfl, rfl, rfl, rfl, rfl, rfl, rfl, rfl, rfl, rfl⟩ := eqsA hA
    clear hA
    try simp only [rl] at *
    try subst_vars
    try simp only [bits_IsCompare.f, beq_dec, bne_dec] at H
    repeat (first
      | (simp [beq_dec, bne_dec, *] at H; done)
      | (simp [beq_dec, bne_dec, *] at H)
      | (rw [if_pos (by omega)] at H)
      | (rw [if_neg (by omega)] at H)
      | (have hc := And.left H; replace H := And.right H; try (exfalso; clear H; omega)))
  all_goals first
    | (subst H; rfl)
    | (subst H; simp; done)
    | (cases H; rfl)
    | (exfalso; clear H; omega)
    | (subst H; simp [beq_dec, bne_dec, *]; done)
    | (simp_all [beq_dec, bne_dec]; done)
    | (simp_all [beq_dec, bne_dec]; subst H; first | rfl | (simp; done) | (simp [*]; done))
set_option maxRecDepth 100000 in
set_option maxHeartbeats 40000000 in
theorem bits_Mask.ev (a0 : Int) (r : Int) (H : bits_Mask.f a0 = some r)
  (g51 : _) (e51 : g51 = bits_limit.f) (h51 : bits_limit.Is K g51)
  : evFn ⟨tys, ⟨op, ok, cmp, neg, not, wrap, mn', mx', idx, len, get, cut, app, byte⟩, lp⟩ (k + 8) K h26 Try.f26 [V.sc (.int .i64 a0)] [] = some (V.sc (.int .u64 r), []) := by
  generalize hR : some (V.sc (.int .u64 r), ([] : Heap)) = R
  have hcm := rcm hA hc2
  have hokm := rok hA hok2
  all_goals cbv
  all_goals repeat' (first
    | (rewrite [h51, hq51]; cbv)
    | (rewrite [h51]; generalize hq51 : g51 _ = o; rcases o with _ | _ <;> cbv)
    | (rewrite [hok2]; generalize hq : ok2 _ _ = o; cases o <;> cbv)
    | (rewrite [hc2]; generalize hq : c2 _ _ _ = o; cases o <;> (rewrite [hcm] at hq; simp only [rc] at hq) <;> first | (exfalso; omega) | cbv))
  all_goals
    obtain rfl := c2_eq hcm
    obtain rfl := ok2_eq hokm
    subst e51 hR
    clear h51 hc2 hok2 hcm hokm
    obtain ⟨rfl, rfl, rfl, rfl, rfl, rfl, rfl, rfl, rfl, rfl⟩ := eqsA hA
    clear hA
    try simp only [rl] at *
    try subst_vars
    try simp only [bits_Mask.f, beq_dec, bne_dec] at H
    repeat (first
      | (simp [beq_dec, bne_dec, *] at H; done)
      | (simp [beq_dec, bne_dec, *] at H)
      | (rw [if_pos (by omega)] at H)
      | (rw [if_neg (by omega)] at H)
      | (have hc := And.left H; replace H := And.right H; try (exfalso; clear H; omega)))
  all_goals first
    | (subst H; rfl)
    | (subst H; simp; done)
    | (cases H; rfl)
    | (exfalso; clear H; omega)
    | (subst H; simp [beq_dec, bne_dec, *]; done)
    | (simp_all [beq_dec, bne_dec]; done)
    | (simp_all [beq_dec, bne_dec]; subst H; first | rfl | (simp; done) | (simp [*]; done))
end
end Go.Vm
