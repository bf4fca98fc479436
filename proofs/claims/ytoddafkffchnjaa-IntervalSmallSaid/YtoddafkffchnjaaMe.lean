/- IntervalSmall: what the evaluator makes of its code. -/
import Derived.Test.YtoddafkffchnjaaO
namespace Go.Vm
open Go.Proofs Go.Proofs.Ytoddafkffchnjaa Go.Proofs.Ytoddafkffchnjaa.P Go.RowKit Go.Proofs.YtoddafkffchnjaaW.PrintWords Go.Proofs.YtoddafkffchnjaaW.PrintLast Go.Proofs.YtoddafkffchnjaaW.PrintMore
set_option linter.unusedVariables false
set_option linter.unusedSimpArgs false
set_option linter.unusedSectionVars false
def h7 : Hints := ⟨fun n => match n with | 0 => [hz, hz] | 1 => [hz, hz] | 2 => [hz] | 3 => [hz, hz, hz] | 4 => [hz] | 5 => [hz, hz, hz, hz, hz, hz] | 6 => [hz, hz, hz, hz] | 7 => [hz] | 8 => [hz, hz, hz, hz, hz, hz] | 9 => [hz, hz, hz, hz, hz, hz] | 10 => [hz] | 11 => [hz, hz, hz] | 12 => [hz] | 13 => [hz, hz, hz, hz, hz, hz, hz, hz] | 15 => [ht, hz, ht, ht, hz, hz, ht, hz] | 16 => [hz, hz, hz, ha, hz, hz, hz, hz, hz] | 14 => [hz, hz, hz] | 17 => [hz, hz] | 18 => [hz, hz, hz, hz, hz, hz, hz, hz, hz, hz, hz, hz, hz] | 19 => [hz, hz, hz, hz] | 20 => [hz] | 21 => [hz, hz, hz] | 22 => [hz, hz, hz, hz] | 23 => [hz] | 24 => [hz, hz, hz] | 25 => [hz, hz, hz, hz] | 26 => [hz] | 27 => [hz, hz, hz] | 28 => [ht, hz, hz, ht, hz, ht, hz, ht, hz, ht, ht, ht, ht, ht, hz, ht, ht, ht, hz, ht, hz, hz] | 29 => [hz] | 30 => [hz, hz] | 31 => [hz, hz] | 32 => [hz, hz] | 33 => [hz] | _ => [], fun n => match n with | 7 => [1, 2, 3, 24, 25, 26] | 13 => [1, 2, 3, 4, 5, 6, 24, 25, 26] | 20 => [1, 2, 3, 7, 78, 79, 80] | 23 => [1, 2, 3, 7, 9, 78, 79, 80, 85, 86, 87] | 26 => [1, 2, 3, 7, 9, 11, 78, 79, 80, 85, 86, 87, 92, 93, 94] | _ => []⟩
theorem h7_ok : fnOk h7 Try.f7 = true := by kernel_rfl
theorem lst_ok {get : List (List V) → Int → Option (List V)} {len : List (List V) → Int} (hg : get = real.get) (hl : len = real.len) (L : List Int) (P : Int → Prop) (h : L.length ≤ 16) (hp : ∀ x ∈ L, P x) :
    len (L.map fun x : Int => [V.sc (.int .u64 x)]) ≤ 16 ∧ ∀ i, 0 ≤ i → i < len (L.map fun x : Int => [V.sc (.int .u64 x)]) → ∃ x, get (L.map fun x : Int => [V.sc (.int .u64 x)]) i = some [V.sc (.int .u64 x)] ∧ P x := by
  subst hg hl
  have e : real.len (L.map fun x : Int => [V.sc (.int .u64 x)]) = (L.length : Int) := by simp [real]
  rw [e]
  refine ⟨by omega, fun i h0 h1 => ⟨rd L i, ?_, ?_⟩⟩
  · rw [get_int, if_pos (decide_eq_true ⟨h0, h1⟩)]
  · obtain ⟨j, rfl⟩ := Int.eq_ofNat_of_zero_le h0
    have hj : j < L.length := by omega
    have : rd L (j : Int) = L[j] := by simp [rd, hj]
    rw [this]
    exact hp _ (List.getElem_mem hj)
theorem app_lst (L : List Int) (t : Int) (h : L.length ≤ 16) : real.app 1 8 (L.map fun x : Int => [V.sc (.int .u64 x)]) [[V.sc (.int .u64 t)]] = some ((L ++ [t]).map fun x : Int => [V.sc (.int .u64 x)]) := by
  have hm : L.length < most / 8 := by
    have : most / 8 = 17592186044416 := by decide
    rw [this]
    omega
  rw [app_map (fun x : Int => [V.sc (.int .u64 x)]) 1 8 L t rfl (fun _ => rfl) (by decide), if_pos (decide_eq_true hm)]
set_option linter.unusedVariables false
set_option linter.unusedSimpArgs false
section
variable {op : BinOp → IntKind → Int → Int → Int} {ok : BinOp → Int → Bool} {cmp : BinOp → Int → Int → Bool} {neg not wrap : IntKind → Int → Int} {mn' mx' : Int → Int → Int} {idx : Int → Option Nat}
  {len : List (List V) → Int} {get : List (List V) → Int → Option (List V)} {cut : Nat → List (List V) → Option V → Option V → Option (List (List V))} {app : Nat → Nat → List (List V) → List (List V) → Option (List (List V))} {byte : ByteArray → Int → Option Int}
  {lp : (St → Option (Ex × St)) → Nat → List Nat → Nat → St → Option (Ex × St)} {c2 : BinOp → Int → Int → Bool} {ok2 : BinOp → Int → Bool}
variable (hA : (⟨tys, ⟨op, ok, cmp, neg, not, wrap, mn', mx', idx, len, get, cut, app, byte⟩, lp⟩ : En) = ⟨tys, real, rounds⟩) (hc2 : ∀ o a b, cmp o a b = c2 o a b) (hok2 : ∀ o a, ok o a = ok2 o a) (k : Nat) (K : Oracle)
include hA hc2 hok2


set_option maxRecDepth 100000 in
set_option maxHeartbeats 40000000 in
theorem jacquardlaw13_IntervalSmall.evn (a0 w num : Int) (l2 : List Int) (l3 : List S30) (g8 : _) (h8 : jacquardlaw13_awake.Is K g8) (e8 : g8 = some true) (g16 : _) (h16 : jacquardlaw13_right.Is K g16) (e16 : g16 a0 w l2 l3 num = some false)
  : evFn ⟨tys, ⟨op, ok, cmp, neg, not, wrap, mn', mx', idx, len, get, cut, app, byte⟩, lp⟩ (k + 8) K h7 Try.f7 [V.agg [V.sc (.int .i64 a0), V.sc (.int .i64 w), V.sl false (l2.map fun x : Int => [V.sc (.int .i64 x)]), V.sl false (l3.map fun x : S30 => [V.sc (.int .u64 x.f0), V.sc (.int .u64 x.f1), V.sc (.int .i64 x.f2), V.sc (.int .i64 x.f3)]), V.sc (.int .u64 num)]] [] = some (V.sc (.bool true), []) := by
  generalize hR : some (V.sc (.bool true), ([] : Heap)) = R
  obtain ⟨cl2, bl2, p0, hcl2, _, _, _, hul2⟩ := li_int .i64 (get_eq hA) l2
  rw [← hcl2]
  obtain ⟨cl3, bl3, q0, q1, q2, q3, hcl3, _, _, _, _, _, _, hul3⟩ := li_k30 (get_eq hA) l3
  rw [← hcl3]
  subst e8
  cbv
  rewrite [h8]; cbv
  rewrite [h16 _ _ hul2 _ _ hul3, e16]; cbv
  exact hR
set_option maxRecDepth 100000 in
set_option maxHeartbeats 40000000 in
theorem jacquardlaw13_IntervalSmall.ev0 (hk : 20 ≤ k) (a0 w num  r0 r1 r2 r3 : Int) (g8 : _) (h8 : jacquardlaw13_awake.Is K g8) (e8 : g8 = some true) (g16 : _) (h16 : jacquardlaw13_right.Is K g16) (e16 : g16 a0 w [] [] num = some true)
  (g20 : _) (h20 : jacquardref13_Contains.Is K g20) (g10 : _) (h10 : interval_Apply.Is K g10) (e10 : g10 a0 w [] [] num = some (r0, r1, r2, r3)) (g15 : _) (h15 : jacquardref12_Eval.Is K g15) (g19 : _) (h19 : interval_Contains.Is K g19) (P0 P1 P2 : Int → Prop)
  (hP0 : P0 0)
  (hP1 : P1 0)
  (hP2 : P2 0)
  (hF : ∀ x0 x1 x2, P0 x0 → P1 x1 → P2 x2 → ∃ e, g15 a0 w [] [] num = some e ∧ g19 w r0 r1 r2 r3 e = some true)
  : evFn ⟨tys, ⟨op, ok, cmp, neg, not, wrap, mn', mx', idx, len, get, cut, app, byte⟩, lp⟩ (k + 8) K h7 Try.f7 [V.agg [V.sc (.int .i64 a0), V.sc (.int .i64 w), V.sl false [], V.sl false [], V.sc (.int .u64 num)]] [] = some (V.sc (.bool true), []) := by
  generalize hR : some (V.sc (.bool true), ([] : Heap)) = R
  have hcm := rcm hA hc2
  have hop : op = real.op := (eqsA hA).1
  have hokr : ok = real.ok := (eqsA hA).2.1
  have hlen : len = real.len := (eqsA hA).2.2.2.2.2.2.2.2.2
  have hidx : idx = real.idx := (eqsA hA).2.2.2.2.2.2.2.2.1
  have hadd0 : op .add .i64 0 1 = 1 := by rw [hop]; rfl
  have hadd1 : op .add .i64 1 1 = 2 := by rw [hop]; rfl
  have hadd2 : op .add .i64 2 1 = 3 := by rw [hop]; rfl
  have haddi : ∀ n : Int, 0 ≤ n → n ≤ 16 → op .add .i64 n 1 = n + 1 := by intro n h1 h2; rw [hop, rl_add64]; unfold wrap64; omega
  have haddu : ∀ n : Int, 0 ≤ n → n ≤ 16 → op .add .u64 n 1 = n + 1 := by intro n h1 h2; rw [hop, rl_addu]; show (n + 1) % 18446744073709551616 = n + 1; omega
  have hidx0 : idx 0 = some 0 := by rw [hidx]; rfl
  have hidx1 : idx 1 = some 1 := by rw [hidx]; rfl
  have hidx2 : idx 2 = some 2 := by rw [hidx]; rfl
  have hlenm : len [] = 0 := by rw [hlen]; exact rfl
  have hcut : ∀ a b c : Int, cut 1 [[V.sc (.int .u64 a)], [V.sc (.int .u64 b)], [V.sc (.int .u64 c)]] none (some (V.sc (.int .i64 0))) = some [] := by rw [show cut = real.cut from congrArg (fun e : En => e.ar.cut) hA]; intros; exact rfl
  obtain ⟨lp2, hlp2, hlp⟩ : ∃ lp2, lp2 = rounds ∧ ∀ b n0 kp L st, lp b n0 kp L st = lp2 b n0 kp L st := ⟨lp, lp_eq hA, fun _ _ _ _ _ => rfl⟩
  have hun : ∀ b n0 kp m st, lp b n0 kp (m + 1) st = roundN b (lp b n0 kp m) n0 kp st := by rw [lp_eq hA]; intros; rfl
  have hls := fun (L : List Int) (P : Int → Prop) (h : L.length ≤ 16) (hp : ∀ x ∈ L, P x) => lst_ok (get_eq hA) hlen L P h hp
  subst e8
  cbv
  rewrite [h8]; cbv
  rewrite [h16 _ _ (unI_0 ..) _ _ (unk30_0 ..), e16]; cbv
  rewrite [hlenm]; cbv
  rewrite [hun]; cbv
  (rewrite [hc2]; generalize hq : c2 _ _ _ = o; cases o <;> (rewrite [hcm] at hq; simp only [rc] at hq) <;> first | (exfalso; omega) | cbv)
  rewrite [h10 _ _ (unI_0 ..) _ _ (unk30_0 ..), e10]; cbv
  obtain ⟨hl0, hg0⟩ := hls [0] (fun x => x = 0) (by simp) (by simp)
  obtain ⟨cl0, hcl0⟩ : ∃ c : List (List V), c = [[V.sc (.int .u64 0)]] := ⟨_, rfl⟩
  simp only [List.map_cons, List.map_nil, ← hcl0] at hl0 hg0 ⊢
  rewrite [hlp]; generalize hl : lp2 _ _ _ _ _ = o; revert o
  refine loop_rule hlp2 (fun (y : Int) st => ⟨st.s.set 80 (V.sc (.int .i64 y)), st.h⟩) (fun f y => 0 ≤ y ∧ y ≤ 16 ∧ (17 - y).toNat ≤ f) (n := k + 8) (x := 0) ?hst (fun y h => by have := h.2.2; have := h.2.1; omega) ?hq ?hn ?hs
  case hst => exact rfl
  case hq => exact ⟨by omega, by omega, by omega⟩
  case hn => omega
  case hs =>
    intro u0 nz0 i0 hnz0 h
    have h : 0 ≤ i0 ∧ i0 ≤ 16 ∧ (17 - i0).toNat ≤ u0 + 1 := h
    obtain ⟨hi0, hi0', hu0⟩ := h
    cbv
    rewrite [hc2]; generalize hy0 : c2 _ _ _ = o; cases o <;> (rewrite [hcm] at hy0; simp only [rc] at hy0) <;> cbv
    case false =>
      exact hR
    obtain ⟨y0, hx0, hp0⟩ := hg0 i0 hi0 hy0
    rewrite [hx0]; cbv
    rewrite [hlp]; generalize hl : lp2 _ _ _ _ _ = o; revert o
    refine loop_rule hlp2 (fun (y : Int) st => ⟨st.s.set 87 (V.sc (.int .i64 y)), st.h⟩) (fun f y => 0 ≤ y ∧ y ≤ 16 ∧ (17 - y).toNat ≤ f) (n := k + 8) (x := 0) ?hst (fun y h => by have := h.2.2; have := h.2.1; omega) ?hq ?hn ?hs
    case hst => exact rfl
    case hq => exact ⟨by omega, by omega, by omega⟩
    case hn => omega
    case hs =>
      intro u1 nz1 i1 hnz1 h
      have h : 0 ≤ i1 ∧ i1 ≤ 16 ∧ (17 - i1).toNat ≤ u1 + 1 := h
      obtain ⟨hi1, hi1', hu1⟩ := h
      cbv
      rewrite [hc2]; generalize hy1 : c2 _ _ _ = o; cases o <;> (rewrite [hcm] at hy1; simp only [rc] at hy1) <;> cbv
      case false =>
        rewrite [haddi i0 hi0 hi0']; cbv
        exact hnz0 (i0 + 1) ⟨by omega, by omega, by omega⟩
      obtain ⟨y1, hx1, hp1⟩ := hg0 i1 hi1 hy1
      rewrite [hx1]; cbv
      rewrite [hlp]; generalize hl : lp2 _ _ _ _ _ = o; revert o
      refine loop_rule hlp2 (fun (y : Int) st => ⟨st.s.set 94 (V.sc (.int .i64 y)), st.h⟩) (fun f y => 0 ≤ y ∧ y ≤ 16 ∧ (17 - y).toNat ≤ f) (n := k + 8) (x := 0) ?hst (fun y h => by have := h.2.2; have := h.2.1; omega) ?hq ?hn ?hs
      case hst => exact rfl
      case hq => exact ⟨by omega, by omega, by omega⟩
      case hn => omega
      case hs =>
        intro u2 nz2 i2 hnz2 h
        have h : 0 ≤ i2 ∧ i2 ≤ 16 ∧ (17 - i2).toNat ≤ u2 + 1 := h
        obtain ⟨hi2, hi2', hu2⟩ := h
        cbv
        rewrite [hc2]; generalize hy2 : c2 _ _ _ = o; cases o <;> (rewrite [hcm] at hy2; simp only [rc] at hy2) <;> cbv
        case false =>
          rewrite [haddi i1 hi1 hi1']; cbv
          exact hnz1 (i1 + 1) ⟨by omega, by omega, by omega⟩
        obtain ⟨y2, hx2, hp2⟩ := hg0 i2 hi2 hy2
        rewrite [hx2]; cbv
        rewrite [hlenm]; cbv
        rewrite [hcut]; cbv
        obtain ⟨e, he, hE⟩ := hF y0 y1 y2 (hp0 ▸ hP0) (hp1 ▸ hP1) (hp2 ▸ hP2)
        rewrite [h15 _ _ (unI_0 ..) _ _ (unI_0 ..), he]; cbv
        rewrite [h19, hE]; cbv
        rewrite [haddi i2 hi2 hi2']; cbv
        exact hnz2 (i2 + 1) ⟨by omega, by omega, by omega⟩
set_option maxRecDepth 100000 in
set_option maxHeartbeats 40000000 in
theorem jacquardlaw13_IntervalSmall.ev1 (hk : 20 ≤ k) (a0 w num v0 x00 x01 x02 x03 r0 r1 r2 r3 : Int) (g8 : _) (h8 : jacquardlaw13_awake.Is K g8) (e8 : g8 = some true) (g16 : _) (h16 : jacquardlaw13_right.Is K g16) (e16 : g16 a0 w [v0] [(⟨x00, x01, x02, x03⟩ : S30)] num = some true)
  (g20 : _) (h20 : jacquardref13_Contains.Is K g20) (g10 : _) (h10 : interval_Apply.Is K g10) (e10 : g10 a0 w [v0] [(⟨x00, x01, x02, x03⟩ : S30)] num = some (r0, r1, r2, r3)) (g15 : _) (h15 : jacquardref12_Eval.Is K g15) (g19 : _) (h19 : interval_Contains.Is K g19) (P0 P1 P2 : Int → Prop)
  (hv0 : 1 ≤ v0) (hs0 : v0 ≤ 4 → op .shl .u64 1 v0 ≤ 16) (hP0 : v0 ≤ 4 → ∀ n, 0 ≤ n → n < op .shl .u64 1 v0 → ∃ b, g20 v0 x00 x01 x02 x03 n = some b ∧ (b = true → P0 n))
  (hP1 : P1 0)
  (hP2 : P2 0)
  (hF : ∀ x0 x1 x2, P0 x0 → P1 x1 → P2 x2 → ∃ e, g15 a0 w [v0] [x0] num = some e ∧ g19 w r0 r1 r2 r3 e = some true)
  : evFn ⟨tys, ⟨op, ok, cmp, neg, not, wrap, mn', mx', idx, len, get, cut, app, byte⟩, lp⟩ (k + 8) K h7 Try.f7 [V.agg [V.sc (.int .i64 a0), V.sc (.int .i64 w), V.sl false [[V.sc (.int .i64 v0)]], V.sl false [[V.sc (.int .u64 x00), V.sc (.int .u64 x01), V.sc (.int .i64 x02), V.sc (.int .i64 x03)]], V.sc (.int .u64 num)]] [] = some (V.sc (.bool true), []) := by
  generalize hR : some (V.sc (.bool true), ([] : Heap)) = R
  have hcm := rcm hA hc2
  have hop : op = real.op := (eqsA hA).1
  have hokr : ok = real.ok := (eqsA hA).2.1
  have hlen : len = real.len := (eqsA hA).2.2.2.2.2.2.2.2.2
  have hidx : idx = real.idx := (eqsA hA).2.2.2.2.2.2.2.2.1
  have hoks0 : ok .shl v0 = true := by rw [hokr, rl_okshl]; exact decide_eq_true (by omega)
  have hadd0 : op .add .i64 0 1 = 1 := by rw [hop]; rfl
  have hadd1 : op .add .i64 1 1 = 2 := by rw [hop]; rfl
  have hadd2 : op .add .i64 2 1 = 3 := by rw [hop]; rfl
  have haddi : ∀ n : Int, 0 ≤ n → n ≤ 16 → op .add .i64 n 1 = n + 1 := by intro n h1 h2; rw [hop, rl_add64]; unfold wrap64; omega
  have haddu : ∀ n : Int, 0 ≤ n → n ≤ 16 → op .add .u64 n 1 = n + 1 := by intro n h1 h2; rw [hop, rl_addu]; show (n + 1) % 18446744073709551616 = n + 1; omega
  have hidx0 : idx 0 = some 0 := by rw [hidx]; rfl
  have hidx1 : idx 1 = some 1 := by rw [hidx]; rfl
  have hidx2 : idx 2 = some 2 := by rw [hidx]; rfl
  have hlenm : ∀ a, len [a] = 1 := by rw [hlen]; intros; exact rfl
  have hget0 : ∀ a, get [a] 0 = some a := by rw [get_eq hA]; intros; exact rfl
  have hcut : ∀ a b c : Int, cut 1 [[V.sc (.int .u64 a)], [V.sc (.int .u64 b)], [V.sc (.int .u64 c)]] none (some (V.sc (.int .i64 1))) = some [[V.sc (.int .u64 a)]] := by rw [show cut = real.cut from congrArg (fun e : En => e.ar.cut) hA]; intros; exact rfl
  obtain ⟨lp2, hlp2, hlp⟩ : ∃ lp2, lp2 = rounds ∧ ∀ b n0 kp L st, lp b n0 kp L st = lp2 b n0 kp L st := ⟨lp, lp_eq hA, fun _ _ _ _ _ => rfl⟩
  have hun : ∀ b n0 kp m st, lp b n0 kp (m + 1) st = roundN b (lp b n0 kp m) n0 kp st := by rw [lp_eq hA]; intros; rfl
  have hls := fun (L : List Int) (P : Int → Prop) (h : L.length ≤ 16) (hp : ∀ x ∈ L, P x) => lst_ok (get_eq hA) hlen L P h hp
  subst e8
  cbv
  rewrite [h8]; cbv
  rewrite [h16 _ _ (unI_1 ..) _ _ (unk30_1 ..), e16]; cbv
  rewrite [hlenm]; cbv
  rewrite [hun]; cbv
  (rewrite [hc2]; generalize hq : c2 _ _ _ = o; cases o <;> (rewrite [hcm] at hq; simp only [rc] at hq) <;> first | (exfalso; omega) | cbv)
  rewrite [hget0]; cbv
  rewrite [hget0]; cbv
  rewrite [hc2]; generalize hq0 : c2 _ _ _ = o; cases o <;> (rewrite [hcm] at hq0; simp only [rc] at hq0) <;> cbv
  case true => exact hR
  rewrite [hidx0]; cbv
  rewrite [hlp]; generalize hl : lp2 _ _ _ _ _ = o; revert o
  refine loop_rule hlp2 (fun (y : Int × List Int) st => ⟨st.s.set 6 (V.sc (.int .u64 y.1)), st.h.set 1 [V.sl true (y.2.map fun x : Int => [V.sc (.int .u64 x)]), V.sl false [[V.sc (.int .u64 0)]], V.sl false [[V.sc (.int .u64 0)]]]⟩) (fun f y => 0 ≤ y.1 ∧ y.1 ≤ 16 ∧ (17 - y.1).toNat ≤ f ∧ y.2.length ≤ y.1.toNat ∧ ∀ x ∈ y.2, P0 x) (n := k + 8) (x := (0, [])) ?hst (fun y h => by have := h.2.2.1; have := h.2.1; omega) ?hq ?hn ?hs
  case hst => exact rfl
  case hq => exact ⟨by simp, by simp, by simp; omega, by simp, by simp⟩
  case hn => omega
  case hs =>
    intro f0 nx0 ⟨n0, L0⟩ hnx0 h
    have h : 0 ≤ n0 ∧ n0 ≤ 16 ∧ (17 - n0).toNat ≤ f0 + 1 ∧ L0.length ≤ n0.toNat ∧ ∀ x ∈ L0, P0 x := h
    obtain ⟨hn0, hn0', hf0, hL0, hLP0⟩ := h
    obtain ⟨hl0, hg0⟩ := hls L0 P0 (by omega) hLP0
    obtain ⟨cl0, hcl0⟩ : ∃ c, c = L0.map fun x : Int => [V.sc (.int .u64 x)] := ⟨_, rfl⟩
    obtain ⟨d0, hd0⟩ : ∃ d : Int → List (List V), d = fun t => (L0 ++ [t]).map fun x : Int => [V.sc (.int .u64 x)] := ⟨_, rfl⟩
    have happ : ∀ t : Int, app 1 8 cl0 [[V.sc (.int .u64 t)]] = some (d0 t) := by rw [app_eq hA]; subst hcl0 hd0; intro t; exact app_lst L0 t (by omega)
    simp only [← hcl0] at hl0 hg0 ⊢
    cbv
    rewrite [hget0]; cbv
    rewrite [hoks0]; cbv
    rewrite [hc2]; generalize hm0 : c2 _ _ _ = o; cases o <;> (rewrite [hcm] at hm0; simp only [rc] at hm0) <;> cbv
    case true =>
      rewrite [hget0]; cbv
      have hle := hs0 (by omega)
      obtain ⟨b, hb, hbP⟩ := hP0 (by omega) n0 hn0 hm0
      rewrite [h20, hb]; cbv
      cases b <;> cbv
      all_goals repeat' (first | (rewrite [hidx0]; cbv) | (rewrite [happ]; cbv) | (rewrite [haddu n0 hn0 hn0']; cbv))
      · subst hcl0; exact hnx0 (n0 + 1, L0) ⟨by show 0 ≤ n0 + 1; omega, by show n0 + 1 ≤ 16; omega, by show (17 - (n0 + 1)).toNat ≤ f0; omega, by show L0.length ≤ (n0 + 1).toNat; omega, hLP0⟩
      · subst hd0; exact hnx0 (n0 + 1, L0 ++ [n0]) ⟨by show 0 ≤ n0 + 1; omega, by show n0 + 1 ≤ 16; omega, by show (17 - (n0 + 1)).toNat ≤ f0; omega, by show (L0 ++ [n0]).length ≤ (n0 + 1).toNat; simp; omega, fun x hx => by rcases List.mem_append.1 hx with h | h; exact hLP0 x h; simp at h; subst h; exact hbP rfl⟩
    clear hd0 happ
    rewrite [hadd0]; cbv
    rewrite [hun]; cbv
    (rewrite [hc2]; generalize hq : c2 _ _ _ = o; cases o <;> (rewrite [hcm] at hq; simp only [rc] at hq) <;> first | (exfalso; omega) | cbv)
    rewrite [h10 _ _ (unI_1 ..) _ _ (unk30_1 ..), e10]; cbv
    obtain ⟨hl1, hg1⟩ := hls [0] (fun x => x = 0) (by simp) (by simp)
    obtain ⟨cl1, hcl1⟩ : ∃ c : List (List V), c = [[V.sc (.int .u64 0)]] := ⟨_, rfl⟩
    simp only [List.map_cons, List.map_nil, ← hcl1] at hl1 hg1 ⊢
    rewrite [hlp]; generalize hl : lp2 _ _ _ _ _ = o; revert o
    refine loop_rule hlp2 (fun (y : Int) st => ⟨st.s.set 80 (V.sc (.int .i64 y)), st.h⟩) (fun f y => 0 ≤ y ∧ y ≤ 16 ∧ (17 - y).toNat ≤ f) (n := k + 8) (x := 0) ?hst (fun y h => by have := h.2.2; have := h.2.1; omega) ?hq ?hn ?hs
    case hst => exact rfl
    case hq => exact ⟨by omega, by omega, by omega⟩
    case hn => omega
    case hs =>
      intro u0 nz0 i0 hnz0 h
      have h : 0 ≤ i0 ∧ i0 ≤ 16 ∧ (17 - i0).toNat ≤ u0 + 1 := h
      obtain ⟨hi0, hi0', hu0⟩ := h
      cbv
      rewrite [hc2]; generalize hy0 : c2 _ _ _ = o; cases o <;> (rewrite [hcm] at hy0; simp only [rc] at hy0) <;> cbv
      case false =>
        exact hR
      obtain ⟨y0, hx0, hp0⟩ := hg0 i0 hi0 hy0
      rewrite [hx0]; cbv
      rewrite [hlp]; generalize hl : lp2 _ _ _ _ _ = o; revert o
      refine loop_rule hlp2 (fun (y : Int) st => ⟨st.s.set 87 (V.sc (.int .i64 y)), st.h⟩) (fun f y => 0 ≤ y ∧ y ≤ 16 ∧ (17 - y).toNat ≤ f) (n := k + 8) (x := 0) ?hst (fun y h => by have := h.2.2; have := h.2.1; omega) ?hq ?hn ?hs
      case hst => exact rfl
      case hq => exact ⟨by omega, by omega, by omega⟩
      case hn => omega
      case hs =>
        intro u1 nz1 i1 hnz1 h
        have h : 0 ≤ i1 ∧ i1 ≤ 16 ∧ (17 - i1).toNat ≤ u1 + 1 := h
        obtain ⟨hi1, hi1', hu1⟩ := h
        cbv
        rewrite [hc2]; generalize hy1 : c2 _ _ _ = o; cases o <;> (rewrite [hcm] at hy1; simp only [rc] at hy1) <;> cbv
        case false =>
          rewrite [haddi i0 hi0 hi0']; cbv
          exact hnz0 (i0 + 1) ⟨by omega, by omega, by omega⟩
        obtain ⟨y1, hx1, hp1⟩ := hg1 i1 hi1 hy1
        rewrite [hx1]; cbv
        rewrite [hlp]; generalize hl : lp2 _ _ _ _ _ = o; revert o
        refine loop_rule hlp2 (fun (y : Int) st => ⟨st.s.set 94 (V.sc (.int .i64 y)), st.h⟩) (fun f y => 0 ≤ y ∧ y ≤ 16 ∧ (17 - y).toNat ≤ f) (n := k + 8) (x := 0) ?hst (fun y h => by have := h.2.2; have := h.2.1; omega) ?hq ?hn ?hs
        case hst => exact rfl
        case hq => exact ⟨by omega, by omega, by omega⟩
        case hn => omega
        case hs =>
          intro u2 nz2 i2 hnz2 h
          have h : 0 ≤ i2 ∧ i2 ≤ 16 ∧ (17 - i2).toNat ≤ u2 + 1 := h
          obtain ⟨hi2, hi2', hu2⟩ := h
          cbv
          rewrite [hc2]; generalize hy2 : c2 _ _ _ = o; cases o <;> (rewrite [hcm] at hy2; simp only [rc] at hy2) <;> cbv
          case false =>
            rewrite [haddi i1 hi1 hi1']; cbv
            exact hnz1 (i1 + 1) ⟨by omega, by omega, by omega⟩
          obtain ⟨y2, hx2, hp2⟩ := hg1 i2 hi2 hy2
          rewrite [hx2]; cbv
          rewrite [hlenm]; cbv
          rewrite [hcut]; cbv
          obtain ⟨e, he, hE⟩ := hF y0 y1 y2 hp0 (hp1 ▸ hP1) (hp2 ▸ hP2)
          rewrite [h15 _ _ (unI_1 ..) _ _ (unI_1 ..), he]; cbv
          rewrite [h19, hE]; cbv
          rewrite [haddi i2 hi2 hi2']; cbv
          exact hnz2 (i2 + 1) ⟨by omega, by omega, by omega⟩
set_option maxRecDepth 100000 in
set_option maxHeartbeats 40000000 in
theorem jacquardlaw13_IntervalSmall.ev2 (hk : 20 ≤ k) (a0 w num v0 v1 x00 x01 x02 x03 x10 x11 x12 x13 r0 r1 r2 r3 : Int) (g8 : _) (h8 : jacquardlaw13_awake.Is K g8) (e8 : g8 = some true) (g16 : _) (h16 : jacquardlaw13_right.Is K g16) (e16 : g16 a0 w [v0, v1] [(⟨x00, x01, x02, x03⟩ : S30), (⟨x10, x11, x12, x13⟩ : S30)] num = some true)
  (g20 : _) (h20 : jacquardref13_Contains.Is K g20) (g10 : _) (h10 : interval_Apply.Is K g10) (e10 : g10 a0 w [v0, v1] [(⟨x00, x01, x02, x03⟩ : S30), (⟨x10, x11, x12, x13⟩ : S30)] num = some (r0, r1, r2, r3)) (g15 : _) (h15 : jacquardref12_Eval.Is K g15) (g19 : _) (h19 : interval_Contains.Is K g19) (P0 P1 P2 : Int → Prop)
  (hv0 : 1 ≤ v0) (hs0 : v0 ≤ 4 → op .shl .u64 1 v0 ≤ 16) (hP0 : v0 ≤ 4 → ∀ n, 0 ≤ n → n < op .shl .u64 1 v0 → ∃ b, g20 v0 x00 x01 x02 x03 n = some b ∧ (b = true → P0 n))
  (hv1 : 1 ≤ v1) (hs1 : v1 ≤ 4 → op .shl .u64 1 v1 ≤ 16) (hP1 : v1 ≤ 4 → ∀ n, 0 ≤ n → n < op .shl .u64 1 v1 → ∃ b, g20 v1 x10 x11 x12 x13 n = some b ∧ (b = true → P1 n))
  (hP2 : P2 0)
  (hF : ∀ x0 x1 x2, P0 x0 → P1 x1 → P2 x2 → ∃ e, g15 a0 w [v0, v1] [x0, x1] num = some e ∧ g19 w r0 r1 r2 r3 e = some true)
  : evFn ⟨tys, ⟨op, ok, cmp, neg, not, wrap, mn', mx', idx, len, get, cut, app, byte⟩, lp⟩ (k + 8) K h7 Try.f7 [V.agg [V.sc (.int .i64 a0), V.sc (.int .i64 w), V.sl false [[V.sc (.int .i64 v0)], [V.sc (.int .i64 v1)]], V.sl false [[V.sc (.int .u64 x00), V.sc (.int .u64 x01), V.sc (.int .i64 x02), V.sc (.int .i64 x03)], [V.sc (.int .u64 x10), V.sc (.int .u64 x11), V.sc (.int .i64 x12), V.sc (.int .i64 x13)]], V.sc (.int .u64 num)]] [] = some (V.sc (.bool true), []) := by
  generalize hR : some (V.sc (.bool true), ([] : Heap)) = R
  have hcm := rcm hA hc2
  have hop : op = real.op := (eqsA hA).1
  have hokr : ok = real.ok := (eqsA hA).2.1
  have hlen : len = real.len := (eqsA hA).2.2.2.2.2.2.2.2.2
  have hidx : idx = real.idx := (eqsA hA).2.2.2.2.2.2.2.2.1
  have hoks0 : ok .shl v0 = true := by rw [hokr, rl_okshl]; exact decide_eq_true (by omega)
  have hoks1 : ok .shl v1 = true := by rw [hokr, rl_okshl]; exact decide_eq_true (by omega)
  have hadd0 : op .add .i64 0 1 = 1 := by rw [hop]; rfl
  have hadd1 : op .add .i64 1 1 = 2 := by rw [hop]; rfl
  have hadd2 : op .add .i64 2 1 = 3 := by rw [hop]; rfl
  have haddi : ∀ n : Int, 0 ≤ n → n ≤ 16 → op .add .i64 n 1 = n + 1 := by intro n h1 h2; rw [hop, rl_add64]; unfold wrap64; omega
  have haddu : ∀ n : Int, 0 ≤ n → n ≤ 16 → op .add .u64 n 1 = n + 1 := by intro n h1 h2; rw [hop, rl_addu]; show (n + 1) % 18446744073709551616 = n + 1; omega
  have hidx0 : idx 0 = some 0 := by rw [hidx]; rfl
  have hidx1 : idx 1 = some 1 := by rw [hidx]; rfl
  have hidx2 : idx 2 = some 2 := by rw [hidx]; rfl
  have hlenm : ∀ a b, len [a, b] = 2 := by rw [hlen]; intros; exact rfl
  have hget0 : ∀ a b, get [a, b] 0 = some a := by rw [get_eq hA]; intros; exact rfl
  have hget1 : ∀ a b, get [a, b] 1 = some b := by rw [get_eq hA]; intros; exact rfl
  have hcut : ∀ a b c : Int, cut 1 [[V.sc (.int .u64 a)], [V.sc (.int .u64 b)], [V.sc (.int .u64 c)]] none (some (V.sc (.int .i64 2))) = some [[V.sc (.int .u64 a)], [V.sc (.int .u64 b)]] := by rw [show cut = real.cut from congrArg (fun e : En => e.ar.cut) hA]; intros; exact rfl
  obtain ⟨lp2, hlp2, hlp⟩ : ∃ lp2, lp2 = rounds ∧ ∀ b n0 kp L st, lp b n0 kp L st = lp2 b n0 kp L st := ⟨lp, lp_eq hA, fun _ _ _ _ _ => rfl⟩
  have hun : ∀ b n0 kp m st, lp b n0 kp (m + 1) st = roundN b (lp b n0 kp m) n0 kp st := by rw [lp_eq hA]; intros; rfl
  have hls := fun (L : List Int) (P : Int → Prop) (h : L.length ≤ 16) (hp : ∀ x ∈ L, P x) => lst_ok (get_eq hA) hlen L P h hp
  subst e8
  cbv
  rewrite [h8]; cbv
  rewrite [h16 _ _ (unI_2 ..) _ _ (unk30_2 ..), e16]; cbv
  rewrite [hlenm]; cbv
  rewrite [hun]; cbv
  (rewrite [hc2]; generalize hq : c2 _ _ _ = o; cases o <;> (rewrite [hcm] at hq; simp only [rc] at hq) <;> first | (exfalso; omega) | cbv)
  rewrite [hget0]; cbv
  rewrite [hget0]; cbv
  rewrite [hc2]; generalize hq0 : c2 _ _ _ = o; cases o <;> (rewrite [hcm] at hq0; simp only [rc] at hq0) <;> cbv
  case true => exact hR
  rewrite [hidx0]; cbv
  rewrite [hlp]; generalize hl : lp2 _ _ _ _ _ = o; revert o
  refine loop_rule hlp2 (fun (y : Int × List Int) st => ⟨st.s.set 6 (V.sc (.int .u64 y.1)), st.h.set 1 [V.sl true (y.2.map fun x : Int => [V.sc (.int .u64 x)]), V.sl false [[V.sc (.int .u64 0)]], V.sl false [[V.sc (.int .u64 0)]]]⟩) (fun f y => 0 ≤ y.1 ∧ y.1 ≤ 16 ∧ (17 - y.1).toNat ≤ f ∧ y.2.length ≤ y.1.toNat ∧ ∀ x ∈ y.2, P0 x) (n := k + 8) (x := (0, [])) ?hst (fun y h => by have := h.2.2.1; have := h.2.1; omega) ?hq ?hn ?hs
  case hst => exact rfl
  case hq => exact ⟨by simp, by simp, by simp; omega, by simp, by simp⟩
  case hn => omega
  case hs =>
    intro f0 nx0 ⟨n0, L0⟩ hnx0 h
    have h : 0 ≤ n0 ∧ n0 ≤ 16 ∧ (17 - n0).toNat ≤ f0 + 1 ∧ L0.length ≤ n0.toNat ∧ ∀ x ∈ L0, P0 x := h
    obtain ⟨hn0, hn0', hf0, hL0, hLP0⟩ := h
    obtain ⟨hl0, hg0⟩ := hls L0 P0 (by omega) hLP0
    obtain ⟨cl0, hcl0⟩ : ∃ c, c = L0.map fun x : Int => [V.sc (.int .u64 x)] := ⟨_, rfl⟩
    obtain ⟨d0, hd0⟩ : ∃ d : Int → List (List V), d = fun t => (L0 ++ [t]).map fun x : Int => [V.sc (.int .u64 x)] := ⟨_, rfl⟩
    have happ : ∀ t : Int, app 1 8 cl0 [[V.sc (.int .u64 t)]] = some (d0 t) := by rw [app_eq hA]; subst hcl0 hd0; intro t; exact app_lst L0 t (by omega)
    simp only [← hcl0] at hl0 hg0 ⊢
    cbv
    rewrite [hget0]; cbv
    rewrite [hoks0]; cbv
    rewrite [hc2]; generalize hm0 : c2 _ _ _ = o; cases o <;> (rewrite [hcm] at hm0; simp only [rc] at hm0) <;> cbv
    case true =>
      rewrite [hget0]; cbv
      have hle := hs0 (by omega)
      obtain ⟨b, hb, hbP⟩ := hP0 (by omega) n0 hn0 hm0
      rewrite [h20, hb]; cbv
      cases b <;> cbv
      all_goals repeat' (first | (rewrite [hidx0]; cbv) | (rewrite [happ]; cbv) | (rewrite [haddu n0 hn0 hn0']; cbv))
      · subst hcl0; exact hnx0 (n0 + 1, L0) ⟨by show 0 ≤ n0 + 1; omega, by show n0 + 1 ≤ 16; omega, by show (17 - (n0 + 1)).toNat ≤ f0; omega, by show L0.length ≤ (n0 + 1).toNat; omega, hLP0⟩
      · subst hd0; exact hnx0 (n0 + 1, L0 ++ [n0]) ⟨by show 0 ≤ n0 + 1; omega, by show n0 + 1 ≤ 16; omega, by show (17 - (n0 + 1)).toNat ≤ f0; omega, by show (L0 ++ [n0]).length ≤ (n0 + 1).toNat; simp; omega, fun x hx => by rcases List.mem_append.1 hx with h | h; exact hLP0 x h; simp at h; subst h; exact hbP rfl⟩
    clear hd0 happ
    rewrite [hadd0]; cbv
    rewrite [hun]; cbv
    (rewrite [hc2]; generalize hq : c2 _ _ _ = o; cases o <;> (rewrite [hcm] at hq; simp only [rc] at hq) <;> first | (exfalso; omega) | cbv)
    rewrite [hget1]; cbv
    rewrite [hget1]; cbv
    rewrite [hc2]; generalize hq1 : c2 _ _ _ = o; cases o <;> (rewrite [hcm] at hq1; simp only [rc] at hq1) <;> cbv
    case true => exact hR
    rewrite [hidx1]; cbv
    rewrite [hlp]; generalize hl : lp2 _ _ _ _ _ = o; revert o
    refine loop_rule hlp2 (fun (y : Int × List Int) st => ⟨st.s.set 6 (V.sc (.int .u64 y.1)), st.h.set 1 [V.sl true cl0, V.sl true (y.2.map fun x : Int => [V.sc (.int .u64 x)]), V.sl false [[V.sc (.int .u64 0)]]]⟩) (fun f y => 0 ≤ y.1 ∧ y.1 ≤ 16 ∧ (17 - y.1).toNat ≤ f ∧ y.2.length ≤ y.1.toNat ∧ ∀ x ∈ y.2, P1 x) (n := k + 8) (x := (0, [])) ?hst (fun y h => by have := h.2.2.1; have := h.2.1; omega) ?hq ?hn ?hs
    case hst => exact rfl
    case hq => exact ⟨by simp, by simp, by simp; omega, by simp, by simp⟩
    case hn => omega
    case hs =>
      intro f1 nx1 ⟨n1, L1⟩ hnx1 h
      have h : 0 ≤ n1 ∧ n1 ≤ 16 ∧ (17 - n1).toNat ≤ f1 + 1 ∧ L1.length ≤ n1.toNat ∧ ∀ x ∈ L1, P1 x := h
      obtain ⟨hn1, hn1', hf1, hL1, hLP1⟩ := h
      obtain ⟨hl1, hg1⟩ := hls L1 P1 (by omega) hLP1
      obtain ⟨cl1, hcl1⟩ : ∃ c, c = L1.map fun x : Int => [V.sc (.int .u64 x)] := ⟨_, rfl⟩
      obtain ⟨d1, hd1⟩ : ∃ d : Int → List (List V), d = fun t => (L1 ++ [t]).map fun x : Int => [V.sc (.int .u64 x)] := ⟨_, rfl⟩
      have happ : ∀ t : Int, app 1 8 cl1 [[V.sc (.int .u64 t)]] = some (d1 t) := by rw [app_eq hA]; subst hcl1 hd1; intro t; exact app_lst L1 t (by omega)
      simp only [← hcl1] at hl1 hg1 ⊢
      cbv
      rewrite [hget1]; cbv
      rewrite [hoks1]; cbv
      rewrite [hc2]; generalize hm1 : c2 _ _ _ = o; cases o <;> (rewrite [hcm] at hm1; simp only [rc] at hm1) <;> cbv
      case true =>
        rewrite [hget1]; cbv
        have hle := hs1 (by omega)
        obtain ⟨b, hb, hbP⟩ := hP1 (by omega) n1 hn1 hm1
        rewrite [h20, hb]; cbv
        cases b <;> cbv
        all_goals repeat' (first | (rewrite [hidx1]; cbv) | (rewrite [happ]; cbv) | (rewrite [haddu n1 hn1 hn1']; cbv))
        · subst hcl1; exact hnx1 (n1 + 1, L1) ⟨by show 0 ≤ n1 + 1; omega, by show n1 + 1 ≤ 16; omega, by show (17 - (n1 + 1)).toNat ≤ f1; omega, by show L1.length ≤ (n1 + 1).toNat; omega, hLP1⟩
        · subst hd1; exact hnx1 (n1 + 1, L1 ++ [n1]) ⟨by show 0 ≤ n1 + 1; omega, by show n1 + 1 ≤ 16; omega, by show (17 - (n1 + 1)).toNat ≤ f1; omega, by show (L1 ++ [n1]).length ≤ (n1 + 1).toNat; simp; omega, fun x hx => by rcases List.mem_append.1 hx with h | h; exact hLP1 x h; simp at h; subst h; exact hbP rfl⟩
      clear hd1 happ
      rewrite [hadd1]; cbv
      rewrite [hun]; cbv
      (rewrite [hc2]; generalize hq : c2 _ _ _ = o; cases o <;> (rewrite [hcm] at hq; simp only [rc] at hq) <;> first | (exfalso; omega) | cbv)
      rewrite [h10 _ _ (unI_2 ..) _ _ (unk30_2 ..), e10]; cbv
      obtain ⟨hl2, hg2⟩ := hls [0] (fun x => x = 0) (by simp) (by simp)
      obtain ⟨cl2, hcl2⟩ : ∃ c : List (List V), c = [[V.sc (.int .u64 0)]] := ⟨_, rfl⟩
      simp only [List.map_cons, List.map_nil, ← hcl2] at hl2 hg2 ⊢
      rewrite [hlp]; generalize hl : lp2 _ _ _ _ _ = o; revert o
      refine loop_rule hlp2 (fun (y : Int) st => ⟨st.s.set 80 (V.sc (.int .i64 y)), st.h⟩) (fun f y => 0 ≤ y ∧ y ≤ 16 ∧ (17 - y).toNat ≤ f) (n := k + 8) (x := 0) ?hst (fun y h => by have := h.2.2; have := h.2.1; omega) ?hq ?hn ?hs
      case hst => exact rfl
      case hq => exact ⟨by omega, by omega, by omega⟩
      case hn => omega
      case hs =>
        intro u0 nz0 i0 hnz0 h
        have h : 0 ≤ i0 ∧ i0 ≤ 16 ∧ (17 - i0).toNat ≤ u0 + 1 := h
        obtain ⟨hi0, hi0', hu0⟩ := h
        cbv
        rewrite [hc2]; generalize hy0 : c2 _ _ _ = o; cases o <;> (rewrite [hcm] at hy0; simp only [rc] at hy0) <;> cbv
        case false =>
          exact hR
        obtain ⟨y0, hx0, hp0⟩ := hg0 i0 hi0 hy0
        rewrite [hx0]; cbv
        rewrite [hlp]; generalize hl : lp2 _ _ _ _ _ = o; revert o
        refine loop_rule hlp2 (fun (y : Int) st => ⟨st.s.set 87 (V.sc (.int .i64 y)), st.h⟩) (fun f y => 0 ≤ y ∧ y ≤ 16 ∧ (17 - y).toNat ≤ f) (n := k + 8) (x := 0) ?hst (fun y h => by have := h.2.2; have := h.2.1; omega) ?hq ?hn ?hs
        case hst => exact rfl
        case hq => exact ⟨by omega, by omega, by omega⟩
        case hn => omega
        case hs =>
          intro u1 nz1 i1 hnz1 h
          have h : 0 ≤ i1 ∧ i1 ≤ 16 ∧ (17 - i1).toNat ≤ u1 + 1 := h
          obtain ⟨hi1, hi1', hu1⟩ := h
          cbv
          rewrite [hc2]; generalize hy1 : c2 _ _ _ = o; cases o <;> (rewrite [hcm] at hy1; simp only [rc] at hy1) <;> cbv
          case false =>
            rewrite [haddi i0 hi0 hi0']; cbv
            exact hnz0 (i0 + 1) ⟨by omega, by omega, by omega⟩
          obtain ⟨y1, hx1, hp1⟩ := hg1 i1 hi1 hy1
          rewrite [hx1]; cbv
          rewrite [hlp]; generalize hl : lp2 _ _ _ _ _ = o; revert o
          refine loop_rule hlp2 (fun (y : Int) st => ⟨st.s.set 94 (V.sc (.int .i64 y)), st.h⟩) (fun f y => 0 ≤ y ∧ y ≤ 16 ∧ (17 - y).toNat ≤ f) (n := k + 8) (x := 0) ?hst (fun y h => by have := h.2.2; have := h.2.1; omega) ?hq ?hn ?hs
          case hst => exact rfl
          case hq => exact ⟨by omega, by omega, by omega⟩
          case hn => omega
          case hs =>
            intro u2 nz2 i2 hnz2 h
            have h : 0 ≤ i2 ∧ i2 ≤ 16 ∧ (17 - i2).toNat ≤ u2 + 1 := h
            obtain ⟨hi2, hi2', hu2⟩ := h
            cbv
            rewrite [hc2]; generalize hy2 : c2 _ _ _ = o; cases o <;> (rewrite [hcm] at hy2; simp only [rc] at hy2) <;> cbv
            case false =>
              rewrite [haddi i1 hi1 hi1']; cbv
              exact hnz1 (i1 + 1) ⟨by omega, by omega, by omega⟩
            obtain ⟨y2, hx2, hp2⟩ := hg2 i2 hi2 hy2
            rewrite [hx2]; cbv
            rewrite [hlenm]; cbv
            rewrite [hcut]; cbv
            obtain ⟨e, he, hE⟩ := hF y0 y1 y2 hp0 hp1 (hp2 ▸ hP2)
            rewrite [h15 _ _ (unI_2 ..) _ _ (unI_2 ..), he]; cbv
            rewrite [h19, hE]; cbv
            rewrite [haddi i2 hi2 hi2']; cbv
            exact hnz2 (i2 + 1) ⟨by omega, by omega, by omega⟩
set_option maxRecDepth 100000 in
set_option maxHeartbeats 40000000 in
theorem jacquardlaw13_IntervalSmall.ev3 (hk : 20 ≤ k) (a0 w num v0 v1 v2 x00 x01 x02 x03 x10 x11 x12 x13 x20 x21 x22 x23 r0 r1 r2 r3 : Int) (g8 : _) (h8 : jacquardlaw13_awake.Is K g8) (e8 : g8 = some true) (g16 : _) (h16 : jacquardlaw13_right.Is K g16) (e16 : g16 a0 w [v0, v1, v2] [(⟨x00, x01, x02, x03⟩ : S30), (⟨x10, x11, x12, x13⟩ : S30), (⟨x20, x21, x22, x23⟩ : S30)] num = some true)
  (g20 : _) (h20 : jacquardref13_Contains.Is K g20) (g10 : _) (h10 : interval_Apply.Is K g10) (e10 : g10 a0 w [v0, v1, v2] [(⟨x00, x01, x02, x03⟩ : S30), (⟨x10, x11, x12, x13⟩ : S30), (⟨x20, x21, x22, x23⟩ : S30)] num = some (r0, r1, r2, r3)) (g15 : _) (h15 : jacquardref12_Eval.Is K g15) (g19 : _) (h19 : interval_Contains.Is K g19) (P0 P1 P2 : Int → Prop)
  (hv0 : 1 ≤ v0) (hs0 : v0 ≤ 4 → op .shl .u64 1 v0 ≤ 16) (hP0 : v0 ≤ 4 → ∀ n, 0 ≤ n → n < op .shl .u64 1 v0 → ∃ b, g20 v0 x00 x01 x02 x03 n = some b ∧ (b = true → P0 n))
  (hv1 : 1 ≤ v1) (hs1 : v1 ≤ 4 → op .shl .u64 1 v1 ≤ 16) (hP1 : v1 ≤ 4 → ∀ n, 0 ≤ n → n < op .shl .u64 1 v1 → ∃ b, g20 v1 x10 x11 x12 x13 n = some b ∧ (b = true → P1 n))
  (hv2 : 1 ≤ v2) (hs2 : v2 ≤ 4 → op .shl .u64 1 v2 ≤ 16) (hP2 : v2 ≤ 4 → ∀ n, 0 ≤ n → n < op .shl .u64 1 v2 → ∃ b, g20 v2 x20 x21 x22 x23 n = some b ∧ (b = true → P2 n))
  (hF : ∀ x0 x1 x2, P0 x0 → P1 x1 → P2 x2 → ∃ e, g15 a0 w [v0, v1, v2] [x0, x1, x2] num = some e ∧ g19 w r0 r1 r2 r3 e = some true)
  : evFn ⟨tys, ⟨op, ok, cmp, neg, not, wrap, mn', mx', idx, len, get, cut, app, byte⟩, lp⟩ (k + 8) K h7 Try.f7 [V.agg [V.sc (.int .i64 a0), V.sc (.int .i64 w), V.sl false [[V.sc (.int .i64 v0)], [V.sc (.int .i64 v1)], [V.sc (.int .i64 v2)]], V.sl false [[V.sc (.int .u64 x00), V.sc (.int .u64 x01), V.sc (.int .i64 x02), V.sc (.int .i64 x03)], [V.sc (.int .u64 x10), V.sc (.int .u64 x11), V.sc (.int .i64 x12), V.sc (.int .i64 x13)], [V.sc (.int .u64 x20), V.sc (.int .u64 x21), V.sc (.int .i64 x22), V.sc (.int .i64 x23)]], V.sc (.int .u64 num)]] [] = some (V.sc (.bool true), []) := by
  generalize hR : some (V.sc (.bool true), ([] : Heap)) = R
  have hcm := rcm hA hc2
  have hop : op = real.op := (eqsA hA).1
  have hokr : ok = real.ok := (eqsA hA).2.1
  have hlen : len = real.len := (eqsA hA).2.2.2.2.2.2.2.2.2
  have hidx : idx = real.idx := (eqsA hA).2.2.2.2.2.2.2.2.1
  have hoks0 : ok .shl v0 = true := by rw [hokr, rl_okshl]; exact decide_eq_true (by omega)
  have hoks1 : ok .shl v1 = true := by rw [hokr, rl_okshl]; exact decide_eq_true (by omega)
  have hoks2 : ok .shl v2 = true := by rw [hokr, rl_okshl]; exact decide_eq_true (by omega)
  have hadd0 : op .add .i64 0 1 = 1 := by rw [hop]; rfl
  have hadd1 : op .add .i64 1 1 = 2 := by rw [hop]; rfl
  have hadd2 : op .add .i64 2 1 = 3 := by rw [hop]; rfl
  have haddi : ∀ n : Int, 0 ≤ n → n ≤ 16 → op .add .i64 n 1 = n + 1 := by intro n h1 h2; rw [hop, rl_add64]; unfold wrap64; omega
  have haddu : ∀ n : Int, 0 ≤ n → n ≤ 16 → op .add .u64 n 1 = n + 1 := by intro n h1 h2; rw [hop, rl_addu]; show (n + 1) % 18446744073709551616 = n + 1; omega
  have hidx0 : idx 0 = some 0 := by rw [hidx]; rfl
  have hidx1 : idx 1 = some 1 := by rw [hidx]; rfl
  have hidx2 : idx 2 = some 2 := by rw [hidx]; rfl
  have hlenm : ∀ a b c, len [a, b, c] = 3 := by rw [hlen]; intros; exact rfl
  have hget0 : ∀ a b c, get [a, b, c] 0 = some a := by rw [get_eq hA]; intros; exact rfl
  have hget1 : ∀ a b c, get [a, b, c] 1 = some b := by rw [get_eq hA]; intros; exact rfl
  have hget2 : ∀ a b c, get [a, b, c] 2 = some c := by rw [get_eq hA]; intros; exact rfl
  have hcut : ∀ a b c : Int, cut 1 [[V.sc (.int .u64 a)], [V.sc (.int .u64 b)], [V.sc (.int .u64 c)]] none (some (V.sc (.int .i64 3))) = some [[V.sc (.int .u64 a)], [V.sc (.int .u64 b)], [V.sc (.int .u64 c)]] := by rw [show cut = real.cut from congrArg (fun e : En => e.ar.cut) hA]; intros; exact rfl
  obtain ⟨lp2, hlp2, hlp⟩ : ∃ lp2, lp2 = rounds ∧ ∀ b n0 kp L st, lp b n0 kp L st = lp2 b n0 kp L st := ⟨lp, lp_eq hA, fun _ _ _ _ _ => rfl⟩
  have hun : ∀ b n0 kp m st, lp b n0 kp (m + 1) st = roundN b (lp b n0 kp m) n0 kp st := by rw [lp_eq hA]; intros; rfl
  have hls := fun (L : List Int) (P : Int → Prop) (h : L.length ≤ 16) (hp : ∀ x ∈ L, P x) => lst_ok (get_eq hA) hlen L P h hp
  subst e8
  cbv
  rewrite [h8]; cbv
  rewrite [h16 _ _ (unI_3 ..) _ _ (unk30_3 ..), e16]; cbv
  rewrite [hlenm]; cbv
  rewrite [hun]; cbv
  (rewrite [hc2]; generalize hq : c2 _ _ _ = o; cases o <;> (rewrite [hcm] at hq; simp only [rc] at hq) <;> first | (exfalso; omega) | cbv)
  rewrite [hget0]; cbv
  rewrite [hget0]; cbv
  rewrite [hc2]; generalize hq0 : c2 _ _ _ = o; cases o <;> (rewrite [hcm] at hq0; simp only [rc] at hq0) <;> cbv
  case true => exact hR
  rewrite [hidx0]; cbv
  rewrite [hlp]; generalize hl : lp2 _ _ _ _ _ = o; revert o
  refine loop_rule hlp2 (fun (y : Int × List Int) st => ⟨st.s.set 6 (V.sc (.int .u64 y.1)), st.h.set 1 [V.sl true (y.2.map fun x : Int => [V.sc (.int .u64 x)]), V.sl false [[V.sc (.int .u64 0)]], V.sl false [[V.sc (.int .u64 0)]]]⟩) (fun f y => 0 ≤ y.1 ∧ y.1 ≤ 16 ∧ (17 - y.1).toNat ≤ f ∧ y.2.length ≤ y.1.toNat ∧ ∀ x ∈ y.2, P0 x) (n := k + 8) (x := (0, [])) ?hst (fun y h => by have := h.2.2.1; have := h.2.1; omega) ?hq ?hn ?hs
  case hst => exact rfl
  case hq => exact ⟨by simp, by simp, by simp; omega, by simp, by simp⟩
  case hn => omega
  case hs =>
    intro f0 nx0 ⟨n0, L0⟩ hnx0 h
    have h : 0 ≤ n0 ∧ n0 ≤ 16 ∧ (17 - n0).toNat ≤ f0 + 1 ∧ L0.length ≤ n0.toNat ∧ ∀ x ∈ L0, P0 x := h
    obtain ⟨hn0, hn0', hf0, hL0, hLP0⟩ := h
    obtain ⟨hl0, hg0⟩ := hls L0 P0 (by omega) hLP0
    obtain ⟨cl0, hcl0⟩ : ∃ c, c = L0.map fun x : Int => [V.sc (.int .u64 x)] := ⟨_, rfl⟩
    obtain ⟨d0, hd0⟩ : ∃ d : Int → List (List V), d = fun t => (L0 ++ [t]).map fun x : Int => [V.sc (.int .u64 x)] := ⟨_, rfl⟩
    have happ : ∀ t : Int, app 1 8 cl0 [[V.sc (.int .u64 t)]] = some (d0 t) := by rw [app_eq hA]; subst hcl0 hd0; intro t; exact app_lst L0 t (by omega)
    simp only [← hcl0] at hl0 hg0 ⊢
    cbv
    rewrite [hget0]; cbv
    rewrite [hoks0]; cbv
    rewrite [hc2]; generalize hm0 : c2 _ _ _ = o; cases o <;> (rewrite [hcm] at hm0; simp only [rc] at hm0) <;> cbv
    case true =>
      rewrite [hget0]; cbv
      have hle := hs0 (by omega)
      obtain ⟨b, hb, hbP⟩ := hP0 (by omega) n0 hn0 hm0
      rewrite [h20, hb]; cbv
      cases b <;> cbv
      all_goals repeat' (first | (rewrite [hidx0]; cbv) | (rewrite [happ]; cbv) | (rewrite [haddu n0 hn0 hn0']; cbv))
      · subst hcl0; exact hnx0 (n0 + 1, L0) ⟨by show 0 ≤ n0 + 1; omega, by show n0 + 1 ≤ 16; omega, by show (17 - (n0 + 1)).toNat ≤ f0; omega, by show L0.length ≤ (n0 + 1).toNat; omega, hLP0⟩
      · subst hd0; exact hnx0 (n0 + 1, L0 ++ [n0]) ⟨by show 0 ≤ n0 + 1; omega, by show n0 + 1 ≤ 16; omega, by show (17 - (n0 + 1)).toNat ≤ f0; omega, by show (L0 ++ [n0]).length ≤ (n0 + 1).toNat; simp; omega, fun x hx => by rcases List.mem_append.1 hx with h | h; exact hLP0 x h; simp at h; subst h; exact hbP rfl⟩
    clear hd0 happ
    rewrite [hadd0]; cbv
    rewrite [hun]; cbv
    (rewrite [hc2]; generalize hq : c2 _ _ _ = o; cases o <;> (rewrite [hcm] at hq; simp only [rc] at hq) <;> first | (exfalso; omega) | cbv)
    rewrite [hget1]; cbv
    rewrite [hget1]; cbv
    rewrite [hc2]; generalize hq1 : c2 _ _ _ = o; cases o <;> (rewrite [hcm] at hq1; simp only [rc] at hq1) <;> cbv
    case true => exact hR
    rewrite [hidx1]; cbv
    rewrite [hlp]; generalize hl : lp2 _ _ _ _ _ = o; revert o
    refine loop_rule hlp2 (fun (y : Int × List Int) st => ⟨st.s.set 6 (V.sc (.int .u64 y.1)), st.h.set 1 [V.sl true cl0, V.sl true (y.2.map fun x : Int => [V.sc (.int .u64 x)]), V.sl false [[V.sc (.int .u64 0)]]]⟩) (fun f y => 0 ≤ y.1 ∧ y.1 ≤ 16 ∧ (17 - y.1).toNat ≤ f ∧ y.2.length ≤ y.1.toNat ∧ ∀ x ∈ y.2, P1 x) (n := k + 8) (x := (0, [])) ?hst (fun y h => by have := h.2.2.1; have := h.2.1; omega) ?hq ?hn ?hs
    case hst => exact rfl
    case hq => exact ⟨by simp, by simp, by simp; omega, by simp, by simp⟩
    case hn => omega
    case hs =>
      intro f1 nx1 ⟨n1, L1⟩ hnx1 h
      have h : 0 ≤ n1 ∧ n1 ≤ 16 ∧ (17 - n1).toNat ≤ f1 + 1 ∧ L1.length ≤ n1.toNat ∧ ∀ x ∈ L1, P1 x := h
      obtain ⟨hn1, hn1', hf1, hL1, hLP1⟩ := h
      obtain ⟨hl1, hg1⟩ := hls L1 P1 (by omega) hLP1
      obtain ⟨cl1, hcl1⟩ : ∃ c, c = L1.map fun x : Int => [V.sc (.int .u64 x)] := ⟨_, rfl⟩
      obtain ⟨d1, hd1⟩ : ∃ d : Int → List (List V), d = fun t => (L1 ++ [t]).map fun x : Int => [V.sc (.int .u64 x)] := ⟨_, rfl⟩
      have happ : ∀ t : Int, app 1 8 cl1 [[V.sc (.int .u64 t)]] = some (d1 t) := by rw [app_eq hA]; subst hcl1 hd1; intro t; exact app_lst L1 t (by omega)
      simp only [← hcl1] at hl1 hg1 ⊢
      cbv
      rewrite [hget1]; cbv
      rewrite [hoks1]; cbv
      rewrite [hc2]; generalize hm1 : c2 _ _ _ = o; cases o <;> (rewrite [hcm] at hm1; simp only [rc] at hm1) <;> cbv
      case true =>
        rewrite [hget1]; cbv
        have hle := hs1 (by omega)
        obtain ⟨b, hb, hbP⟩ := hP1 (by omega) n1 hn1 hm1
        rewrite [h20, hb]; cbv
        cases b <;> cbv
        all_goals repeat' (first | (rewrite [hidx1]; cbv) | (rewrite [happ]; cbv) | (rewrite [haddu n1 hn1 hn1']; cbv))
        · subst hcl1; exact hnx1 (n1 + 1, L1) ⟨by show 0 ≤ n1 + 1; omega, by show n1 + 1 ≤ 16; omega, by show (17 - (n1 + 1)).toNat ≤ f1; omega, by show L1.length ≤ (n1 + 1).toNat; omega, hLP1⟩
        · subst hd1; exact hnx1 (n1 + 1, L1 ++ [n1]) ⟨by show 0 ≤ n1 + 1; omega, by show n1 + 1 ≤ 16; omega, by show (17 - (n1 + 1)).toNat ≤ f1; omega, by show (L1 ++ [n1]).length ≤ (n1 + 1).toNat; simp; omega, fun x hx => by rcases List.mem_append.1 hx with h | h; exact hLP1 x h; simp at h; subst h; exact hbP rfl⟩
      clear hd1 happ
      rewrite [hadd1]; cbv
      rewrite [hun]; cbv
      (rewrite [hc2]; generalize hq : c2 _ _ _ = o; cases o <;> (rewrite [hcm] at hq; simp only [rc] at hq) <;> first | (exfalso; omega) | cbv)
      rewrite [hget2]; cbv
      rewrite [hget2]; cbv
      rewrite [hc2]; generalize hq2 : c2 _ _ _ = o; cases o <;> (rewrite [hcm] at hq2; simp only [rc] at hq2) <;> cbv
      case true => exact hR
      rewrite [hidx2]; cbv
      rewrite [hlp]; generalize hl : lp2 _ _ _ _ _ = o; revert o
      refine loop_rule hlp2 (fun (y : Int × List Int) st => ⟨st.s.set 6 (V.sc (.int .u64 y.1)), st.h.set 1 [V.sl true cl0, V.sl true cl1, V.sl true (y.2.map fun x : Int => [V.sc (.int .u64 x)])]⟩) (fun f y => 0 ≤ y.1 ∧ y.1 ≤ 16 ∧ (17 - y.1).toNat ≤ f ∧ y.2.length ≤ y.1.toNat ∧ ∀ x ∈ y.2, P2 x) (n := k + 8) (x := (0, [])) ?hst (fun y h => by have := h.2.2.1; have := h.2.1; omega) ?hq ?hn ?hs
      case hst => exact rfl
      case hq => exact ⟨by simp, by simp, by simp; omega, by simp, by simp⟩
      case hn => omega
      case hs =>
        intro f2 nx2 ⟨n2, L2⟩ hnx2 h
        have h : 0 ≤ n2 ∧ n2 ≤ 16 ∧ (17 - n2).toNat ≤ f2 + 1 ∧ L2.length ≤ n2.toNat ∧ ∀ x ∈ L2, P2 x := h
        obtain ⟨hn2, hn2', hf2, hL2, hLP2⟩ := h
        obtain ⟨hl2, hg2⟩ := hls L2 P2 (by omega) hLP2
        obtain ⟨cl2, hcl2⟩ : ∃ c, c = L2.map fun x : Int => [V.sc (.int .u64 x)] := ⟨_, rfl⟩
        obtain ⟨d2, hd2⟩ : ∃ d : Int → List (List V), d = fun t => (L2 ++ [t]).map fun x : Int => [V.sc (.int .u64 x)] := ⟨_, rfl⟩
        have happ : ∀ t : Int, app 1 8 cl2 [[V.sc (.int .u64 t)]] = some (d2 t) := by rw [app_eq hA]; subst hcl2 hd2; intro t; exact app_lst L2 t (by omega)
        simp only [← hcl2] at hl2 hg2 ⊢
        cbv
        rewrite [hget2]; cbv
        rewrite [hoks2]; cbv
        rewrite [hc2]; generalize hm2 : c2 _ _ _ = o; cases o <;> (rewrite [hcm] at hm2; simp only [rc] at hm2) <;> cbv
        case true =>
          rewrite [hget2]; cbv
          have hle := hs2 (by omega)
          obtain ⟨b, hb, hbP⟩ := hP2 (by omega) n2 hn2 hm2
          rewrite [h20, hb]; cbv
          cases b <;> cbv
          all_goals repeat' (first | (rewrite [hidx2]; cbv) | (rewrite [happ]; cbv) | (rewrite [haddu n2 hn2 hn2']; cbv))
          · subst hcl2; exact hnx2 (n2 + 1, L2) ⟨by show 0 ≤ n2 + 1; omega, by show n2 + 1 ≤ 16; omega, by show (17 - (n2 + 1)).toNat ≤ f2; omega, by show L2.length ≤ (n2 + 1).toNat; omega, hLP2⟩
          · subst hd2; exact hnx2 (n2 + 1, L2 ++ [n2]) ⟨by show 0 ≤ n2 + 1; omega, by show n2 + 1 ≤ 16; omega, by show (17 - (n2 + 1)).toNat ≤ f2; omega, by show (L2 ++ [n2]).length ≤ (n2 + 1).toNat; simp; omega, fun x hx => by rcases List.mem_append.1 hx with h | h; exact hLP2 x h; simp at h; subst h; exact hbP rfl⟩
        clear hd2 happ
        rewrite [hadd2]; cbv
        rewrite [hun]; cbv
        (rewrite [hc2]; generalize hq : c2 _ _ _ = o; cases o <;> (rewrite [hcm] at hq; simp only [rc] at hq) <;> first | (exfalso; omega) | cbv)
        rewrite [h10 _ _ (unI_3 ..) _ _ (unk30_3 ..), e10]; cbv
        rewrite [hlp]; generalize hl : lp2 _ _ _ _ _ = o; revert o
        refine loop_rule hlp2 (fun (y : Int) st => ⟨st.s.set 80 (V.sc (.int .i64 y)), st.h⟩) (fun f y => 0 ≤ y ∧ y ≤ 16 ∧ (17 - y).toNat ≤ f) (n := k + 8) (x := 0) ?hst (fun y h => by have := h.2.2; have := h.2.1; omega) ?hq ?hn ?hs
        case hst => exact rfl
        case hq => exact ⟨by omega, by omega, by omega⟩
        case hn => omega
        case hs =>
          intro u0 nz0 i0 hnz0 h
          have h : 0 ≤ i0 ∧ i0 ≤ 16 ∧ (17 - i0).toNat ≤ u0 + 1 := h
          obtain ⟨hi0, hi0', hu0⟩ := h
          cbv
          rewrite [hc2]; generalize hy0 : c2 _ _ _ = o; cases o <;> (rewrite [hcm] at hy0; simp only [rc] at hy0) <;> cbv
          case false =>
            exact hR
          obtain ⟨y0, hx0, hp0⟩ := hg0 i0 hi0 hy0
          rewrite [hx0]; cbv
          rewrite [hlp]; generalize hl : lp2 _ _ _ _ _ = o; revert o
          refine loop_rule hlp2 (fun (y : Int) st => ⟨st.s.set 87 (V.sc (.int .i64 y)), st.h⟩) (fun f y => 0 ≤ y ∧ y ≤ 16 ∧ (17 - y).toNat ≤ f) (n := k + 8) (x := 0) ?hst (fun y h => by have := h.2.2; have := h.2.1; omega) ?hq ?hn ?hs
          case hst => exact rfl
          case hq => exact ⟨by omega, by omega, by omega⟩
          case hn => omega
          case hs =>
            intro u1 nz1 i1 hnz1 h
            have h : 0 ≤ i1 ∧ i1 ≤ 16 ∧ (17 - i1).toNat ≤ u1 + 1 := h
            obtain ⟨hi1, hi1', hu1⟩ := h
            cbv
            rewrite [hc2]; generalize hy1 : c2 _ _ _ = o; cases o <;> (rewrite [hcm] at hy1; simp only [rc] at hy1) <;> cbv
            case false =>
              rewrite [haddi i0 hi0 hi0']; cbv
              exact hnz0 (i0 + 1) ⟨by omega, by omega, by omega⟩
            obtain ⟨y1, hx1, hp1⟩ := hg1 i1 hi1 hy1
            rewrite [hx1]; cbv
            rewrite [hlp]; generalize hl : lp2 _ _ _ _ _ = o; revert o
            refine loop_rule hlp2 (fun (y : Int) st => ⟨st.s.set 94 (V.sc (.int .i64 y)), st.h⟩) (fun f y => 0 ≤ y ∧ y ≤ 16 ∧ (17 - y).toNat ≤ f) (n := k + 8) (x := 0) ?hst (fun y h => by have := h.2.2; have := h.2.1; omega) ?hq ?hn ?hs
            case hst => exact rfl
            case hq => exact ⟨by omega, by omega, by omega⟩
            case hn => omega
            case hs =>
              intro u2 nz2 i2 hnz2 h
              have h : 0 ≤ i2 ∧ i2 ≤ 16 ∧ (17 - i2).toNat ≤ u2 + 1 := h
              obtain ⟨hi2, hi2', hu2⟩ := h
              cbv
              rewrite [hc2]; generalize hy2 : c2 _ _ _ = o; cases o <;> (rewrite [hcm] at hy2; simp only [rc] at hy2) <;> cbv
              case false =>
                rewrite [haddi i1 hi1 hi1']; cbv
                exact hnz1 (i1 + 1) ⟨by omega, by omega, by omega⟩
              obtain ⟨y2, hx2, hp2⟩ := hg2 i2 hi2 hy2
              rewrite [hx2]; cbv
              rewrite [hlenm]; cbv
              rewrite [hcut]; cbv
              obtain ⟨e, he, hE⟩ := hF y0 y1 y2 hp0 hp1 hp2
              rewrite [h15 _ _ (unI_3 ..) _ _ (unI_3 ..), he]; cbv
              rewrite [h19, hE]; cbv
              rewrite [haddi i2 hi2 hi2']; cbv
              exact hnz2 (i2 + 1) ⟨by omega, by omega, by omega⟩
end
end Go.Vm
