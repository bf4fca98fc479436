-- made by a program of this work (wip/mkprint.py, wip/mp.sh) out of the translation
import Derived.Test.YtbiohdgeclokmaaPx0
import Derived.Test.YtbiohdgeclokmaaPx2
namespace Go.Proofs.Ytbiohdgeclokmaa.P
open Go.RowKit Go.Proofs.YtbiohdgeclokmaaW.PrintWords Go.Proofs.YtbiohdgeclokmaaW.PrintLast Go.Proofs.YtbiohdgeclokmaaW.PrintMore
attribute [local go_sem] max2_int min2_int max_two min_two max_three min_three max_four min_four   -- for this text's walks alone
set_option linter.unusedVariables false
set_option linter.unusedSimpArgs false

/-! ### interval_Tighten: function 53 -/
mutual
def interval_Tighten.j2 : Nat → Int → Int → Int → Option (Int × Int × Int × Int × Bool)
 | 0, _, _, _ => none
 | k + 1, x0, x9, x10 => if x9 > x10 then (some (0, 0, 0, 0, false)) else ((bits_Signed.f x0 x9).bind fun t188 => ((bits_Signed.f x0 x10).bind fun t189 => (some (x9, x10, t188, t189, true))))
def interval_Tighten.j0 : Nat → Int → Int → Int → Int → Bool → Int → Int → Int → Int → Option (Int × Int × Int × Int × Bool)
 | 0, _, _, _, _, _, _, _, _, _ => none
 | k + 1, x0, x8, x9, x10, x28, x182000, x182001, x182002, x182003 => if x28 = true then (if x182003 < 0 then (some (0, 0, 0, 0, false)) else (interval_Tighten.j2 k x0 (mx x9 (IntKind.u64.wrap (mx x182002 0))) (mn x10 (IntKind.u64.wrap (x182003))))) else (if x182000 > x8 then (interval_Tighten.j1 k x0 x8 x9 x10 true x182000 x182001 x182002 x182003) else (interval_Tighten.j1 k x0 x8 x9 x10 (decide (x182003 < 0)) x182000 x182001 x182002 x182003))
def interval_Tighten.j1 : Nat → Int → Int → Int → Int → Bool → Int → Int → Int → Int → Option (Int × Int × Int × Int × Bool)
 | 0, _, _, _, _, _, _, _, _, _ => none
 | k + 1, x0, x8, x9, x10, x53, x182000, x182001, x182002, x182003 => if x53 = true then ((bits_From.f x0 x182002).bind fun t186 => (if x182003 < 0 then ((bits_From.f x0 x182003).bind fun t187 => (interval_Tighten.j2 k x0 (mx (mx x9 t186) (IntKind.u64.wrap (x8 + 1))) (mn x10 t187))) else (interval_Tighten.j2 k x0 (mx (mx x9 t186) (IntKind.u64.wrap (x8 + 1))) x10))) else (some (x182000, x182001, x182002, x182003, true))
end
def interval_Tighten.f (k : Nat) (a0 : Int) (a1_0 : Int) (a1_1 : Int) (a1_2 : Int) (a1_3 : Int) : Option (Int × Int × Int × Int × Bool) := (interval_Valid.f a0 a1_0 a1_1 a1_2 a1_3).bind fun t183 => (if t183 = true then ((interval_ends.f a0).bind fun bt184 => (if a1_1 ≤ (IntKind.u64.wrap (bt184.2)) then (interval_Tighten.j0 k a0 (IntKind.u64.wrap (bt184.2)) a1_0 a1_1 true a1_0 a1_1 a1_2 a1_3) else (interval_Tighten.j0 k a0 (IntKind.u64.wrap (bt184.2)) a1_0 a1_1 (decide (a1_2 ≥ 0)) a1_0 a1_1 a1_2 a1_3))) else (some (0, 0, 0, 0, false)))
theorem interval_Tighten.mono_l : ∀ k, (∀ y0 y1 y2, LeO (interval_Tighten.j2 k y0 y1 y2) (interval_Tighten.j2 (k + 1) y0 y1 y2)) ∧ (∀ y0 y1 y2 y3 y4 y5 y6 y7 y8, LeO (interval_Tighten.j0 k y0 y1 y2 y3 y4 y5 y6 y7 y8) (interval_Tighten.j0 (k + 1) y0 y1 y2 y3 y4 y5 y6 y7 y8)) ∧ (∀ y0 y1 y2 y3 y4 y5 y6 y7 y8, LeO (interval_Tighten.j1 k y0 y1 y2 y3 y4 y5 y6 y7 y8) (interval_Tighten.j1 (k + 1) y0 y1 y2 y3 y4 y5 y6 y7 y8))
 | 0 => ⟨fun _ _ _ r h => by simp [interval_Tighten.j2] at h, fun _ _ _ _ _ _ _ _ _ r h => by simp [interval_Tighten.j0] at h, fun _ _ _ _ _ _ _ _ _ r h => by simp [interval_Tighten.j1] at h⟩
 | k + 1 => by
  obtain ⟨ih0, ih1, ih2⟩ := interval_Tighten.mono_l k
  refine ⟨?_, ?_, ?_⟩
  ·
   intro y0 y1 y2
   unfold interval_Tighten.j2
   repeat' first
   | (with_reducible exact ih0 _ _ _)
   | (with_reducible exact ih1 _ _ _ _ _ _ _ _ _)
   | (with_reducible exact ih2 _ _ _ _ _ _ _ _ _)
   | (with_reducible exact LeO.refl _)
   | (with_reducible exact LeO.none _)
   | (with_reducible refine LeO.ite ?_ ?_)
   | (with_reducible refine LeO.bind ?_ (fun _ => ?_))
   | exact ih0 _ _ _
   | exact ih1 _ _ _ _ _ _ _ _ _
   | exact ih2 _ _ _ _ _ _ _ _ _
   | exact LeO.none _
   | refine LeO.ite ?_ ?_
   | refine LeO.bind ?_ (fun _ => ?_)
  ·
   intro y0 y1 y2 y3 y4 y5 y6 y7 y8
   unfold interval_Tighten.j0
   repeat' first
   | (with_reducible exact ih0 _ _ _)
   | (with_reducible exact ih1 _ _ _ _ _ _ _ _ _)
   | (with_reducible exact ih2 _ _ _ _ _ _ _ _ _)
   | (with_reducible exact LeO.refl _)
   | (with_reducible exact LeO.none _)
   | (with_reducible refine LeO.ite ?_ ?_)
   | (with_reducible refine LeO.bind ?_ (fun _ => ?_))
   | exact ih0 _ _ _
   | exact ih1 _ _ _ _ _ _ _ _ _
   | exact ih2 _ _ _ _ _ _ _ _ _
   | exact LeO.none _
   | refine LeO.ite ?_ ?_
   | refine LeO.bind ?_ (fun _ => ?_)
  ·
   intro y0 y1 y2 y3 y4 y5 y6 y7 y8
   unfold interval_Tighten.j1
   repeat' first
   | (with_reducible exact ih0 _ _ _)
   | (with_reducible exact ih1 _ _ _ _ _ _ _ _ _)
   | (with_reducible exact ih2 _ _ _ _ _ _ _ _ _)
   | (with_reducible exact LeO.refl _)
   | (with_reducible exact LeO.none _)
   | (with_reducible refine LeO.ite ?_ ?_)
   | (with_reducible refine LeO.bind ?_ (fun _ => ?_))
   | exact ih0 _ _ _
   | exact ih1 _ _ _ _ _ _ _ _ _
   | exact ih2 _ _ _ _ _ _ _ _ _
   | exact LeO.none _
   | refine LeO.ite ?_ ?_
   | refine LeO.bind ?_ (fun _ => ?_)
theorem interval_Tighten.mono : ∀ a0 a1 a2 a3 a4 k, LeO (interval_Tighten.f k a0 a1 a2 a3 a4) (interval_Tighten.f (k + 1) a0 a1 a2 a3 a4) := by
 intro a0 a1 a2 a3 a4 k
 obtain ⟨ih0, ih1, ih2⟩ := interval_Tighten.mono_l k
 unfold interval_Tighten.f
 repeat' first
   | (with_reducible exact ih0 _ _ _)
   | (with_reducible exact ih1 _ _ _ _ _ _ _ _ _)
   | (with_reducible exact ih2 _ _ _ _ _ _ _ _ _)
   | (with_reducible exact LeO.refl _)
   | (with_reducible exact LeO.none _)
   | (with_reducible refine LeO.ite ?_ ?_)
   | (with_reducible refine LeO.bind ?_ (fun _ => ?_))
   | exact ih0 _ _ _
   | exact ih1 _ _ _ _ _ _ _ _ _
   | exact ih2 _ _ _ _ _ _ _ _ _
   | exact LeO.none _
   | refine LeO.ite ?_ ?_
   | refine LeO.bind ?_ (fun _ => ?_)
set_option maxHeartbeats 8000000 in
set_option maxRecDepth 100000 in
theorem interval_Tighten.calls (k : Nat) (a0 : Int) (a1_0 : Int) (a1_1 : Int) (a1_2 : Int) (a1_3 : Int) (r1 : Int) (r2 : Int) (r3 : Int) (r4 : Int) (r5 : Bool) (w : World) (h : interval_Tighten.f k a0 a1_0 a1_1 a1_2 a1_3 = some (r1, r2, r3, r4, r5)) :
  Calls Try.prog 53 #[.int .i64 a0, .agg #[.int .u64 a1_0, .int .u64 a1_1, .int .i64 a1_2, .int .i64 a1_3]] w fun e w' => e = .returned (.tuple #[.agg #[.int .u64 r1, .int .u64 r2, .int .i64 r3, .int .i64 r4], .bool r5]) ∧ Below w.heap.size w w' := by
 have hu30 := Try.underlying30
 have HB := Aside0.mk (Below.refl w.heap.size w)
 have H : ((interval_Valid.f a0 a1_0 a1_1 a1_2 a1_3).bind fun t183 => (if t183 = true then ((interval_ends.f a0).bind fun bt184 => (if a1_1 ≤ (IntKind.u64.wrap (bt184.2)) then (interval_Tighten.j0 k a0 (IntKind.u64.wrap (bt184.2)) a1_0 a1_1 true a1_0 a1_1 a1_2 a1_3) else (interval_Tighten.j0 k a0 (IntKind.u64.wrap (bt184.2)) a1_0 a1_1 (decide (a1_2 ≥ 0)) a1_0 a1_1 a1_2 a1_3))) else (some (0, 0, 0, 0, false)))) = some (r1, r2, r3, r4, r5) := h
 clear h
 replace H := Option.bind_eq_some_iff.mp H
 obtain ⟨t183, A30, H⟩ := H
 replace H : (if t183 = true then ((interval_ends.f a0).bind fun bt184 => (if a1_1 ≤ (IntKind.u64.wrap (bt184.2)) then (interval_Tighten.j0 k a0 (IntKind.u64.wrap (bt184.2)) a1_0 a1_1 true a1_0 a1_1 a1_2 a1_3) else (interval_Tighten.j0 k a0 (IntKind.u64.wrap (bt184.2)) a1_0 a1_1 (decide (a1_2 ≥ 0)) a1_0 a1_1 a1_2 a1_3))) else (some (0, 0, 0, 0, false))) = some (r1, r2, r3, r4, r5) := H
 have A3 := Aside0.mk A30
 clear A30
 by_cases c4 : t183 = true
 ·
  subst c4
  have H1 : ((interval_ends.f a0).bind fun bt184 => (if a1_1 ≤ (IntKind.u64.wrap (bt184.2)) then (interval_Tighten.j0 k a0 (IntKind.u64.wrap (bt184.2)) a1_0 a1_1 true a1_0 a1_1 a1_2 a1_3) else (interval_Tighten.j0 k a0 (IntKind.u64.wrap (bt184.2)) a1_0 a1_1 (decide (a1_2 ≥ 0)) a1_0 a1_1 a1_2 a1_3))) = some (r1, r2, r3, r4, r5) := by rw [if_pos rfl] at H; exact H
  clear H
  have H := H1
  clear H1
  replace H := Option.bind_eq_some_iff.mp H
  obtain ⟨⟨t184, t185⟩, A50, H⟩ := H
  replace H : (if a1_1 ≤ (IntKind.u64.wrap (t185)) then (interval_Tighten.j0 k a0 (IntKind.u64.wrap (t185)) a1_0 a1_1 true a1_0 a1_1 a1_2 a1_3) else (interval_Tighten.j0 k a0 (IntKind.u64.wrap (t185)) a1_0 a1_1 (decide (a1_2 ≥ 0)) a1_0 a1_1 a1_2 a1_3)) = some (r1, r2, r3, r4, r5) := H
  have A5 := Aside0.mk A50
  clear A50
  have HC6 := Aside0.mk H
  clear H
  go_enter Try.func53, Try.ntmps53
  go_upto_block 0 with (first | ((with_reducible refine gate_dst (N := 3) rfl ?_); refine boxE (N := 3) (cs := #[.int .u64 a1_0, .int .u64 a1_1, .int .i64 a1_2, .int .i64 a1_3]) (t := 30) ?_; intro gb181 hg w7 hbox hb; have BK181 := Aside0.mk (hbox); have GW181 := szB hg HB.out; have GE181 := szB hg HB.out; replace HB := bsB HB.out hb; clear hb hbox hg) | ((with_reducible refine gate_dst (N := 4) rfl ?_); refine boxE (N := 4) (cs := #[.int .u64 0, .int .u64 0, .int .i64 0, .int .i64 0]) (t := 30) ?_; intro gb182 hg w8 hbox hb; have BK182 := Aside0.mk (hbox); have GW182 := szB hg HB.out; have GE182 := szB hg HB.out; have NB181_182 := neL hg BK181.out; have NB182_181 := neG hg BK181.out; replace BK181 := bkB BK181.out hb; replace HB := bsB HB.out hb; clear hb hbox hg; have hnb9 := NB181_182.out; have hnc9 := NB182_181.out; obtain ⟨hcz10_0, hcz10_1, hcz10_2, hcz10_3, hfz10_0, hfz10_1, hfz10_2, hfz10_3⟩ := own4 BK181.out) | (go_at_call 21; (with_reducible refine (interval_Valid.calls a0 a1_0 a1_1 a1_2 a1_3 true _ A3.out).mono ?_); rintro e w11 ⟨rfl, hb⟩; replace BK181 := bkB BK181.out hb; replace BK182 := bkB BK182.out hb; replace HB := bsB HB.out hb; (try clear hb); (try clear hb2); (try clear hk); (try clear hi)) | (go_at_call 55; (with_reducible refine (interval_ends.calls a0 t184 t185 _ A5.out).mono ?_); rintro e w' ⟨rfl, ⟨nd, rfl⟩⟩; (try first | exact ⟨rfl, _, World.drewN_drewN _ _ _⟩ | exact ⟨rfl, _, Eq.trans (World.drewN_drewN _ _ _) (congrArg (World.drewN _) (Nat.add_assoc _ _ _))⟩); obtain ⟨hcz12_0, hcz12_1, hcz12_2, hcz12_3, hfz12_0, hfz12_1, hfz12_2, hfz12_3⟩ := own4 BK181.out))
  repeat (go_quiet (first | ((with_reducible refine gate_dst (N := 3) rfl ?_); refine boxE (N := 3) (cs := #[.int .u64 a1_0, .int .u64 a1_1, .int .i64 a1_2, .int .i64 a1_3]) (t := 30) ?_; intro gb181 hg w7 hbox hb; have BK181 := Aside0.mk (hbox); have GW181 := szB hg HB.out; have GE181 := szB hg HB.out; replace HB := bsB HB.out hb; clear hb hbox hg) | ((with_reducible refine gate_dst (N := 4) rfl ?_); refine boxE (N := 4) (cs := #[.int .u64 0, .int .u64 0, .int .i64 0, .int .i64 0]) (t := 30) ?_; intro gb182 hg w8 hbox hb; have BK182 := Aside0.mk (hbox); have GW182 := szB hg HB.out; have GE182 := szB hg HB.out; have NB181_182 := neL hg BK181.out; have NB182_181 := neG hg BK181.out; replace BK181 := bkB BK181.out hb; replace HB := bsB HB.out hb; clear hb hbox hg; have hnb9 := NB181_182.out; have hnc9 := NB182_181.out; obtain ⟨hcz10_0, hcz10_1, hcz10_2, hcz10_3, hfz10_0, hfz10_1, hfz10_2, hfz10_3⟩ := own4 BK181.out) | (go_at_call 21; (with_reducible refine (interval_Valid.calls a0 a1_0 a1_1 a1_2 a1_3 true _ A3.out).mono ?_); rintro e w11 ⟨rfl, hb⟩; replace BK181 := bkB BK181.out hb; replace BK182 := bkB BK182.out hb; replace HB := bsB HB.out hb; (try clear hb); (try clear hb2); (try clear hk); (try clear hi)) | (go_at_call 55; (with_reducible refine (interval_ends.calls a0 t184 t185 _ A5.out).mono ?_); rintro e w' ⟨rfl, ⟨nd, rfl⟩⟩; (try first | exact ⟨rfl, _, World.drewN_drewN _ _ _⟩ | exact ⟨rfl, _, Eq.trans (World.drewN_drewN _ _ _) (congrArg (World.drewN _) (Nat.add_assoc _ _ _))⟩); obtain ⟨hcz12_0, hcz12_1, hcz12_2, hcz12_3, hfz12_0, hfz12_1, hfz12_2, hfz12_3⟩ := own4 BK181.out)); go_upto_block 0 with (first | ((with_reducible refine gate_dst (N := 3) rfl ?_); refine boxE (N := 3) (cs := #[.int .u64 a1_0, .int .u64 a1_1, .int .i64 a1_2, .int .i64 a1_3]) (t := 30) ?_; intro gb181 hg w7 hbox hb; have BK181 := Aside0.mk (hbox); have GW181 := szB hg HB.out; have GE181 := szB hg HB.out; replace HB := bsB HB.out hb; clear hb hbox hg) | ((with_reducible refine gate_dst (N := 4) rfl ?_); refine boxE (N := 4) (cs := #[.int .u64 0, .int .u64 0, .int .i64 0, .int .i64 0]) (t := 30) ?_; intro gb182 hg w8 hbox hb; have BK182 := Aside0.mk (hbox); have GW182 := szB hg HB.out; have GE182 := szB hg HB.out; have NB181_182 := neL hg BK181.out; have NB182_181 := neG hg BK181.out; replace BK181 := bkB BK181.out hb; replace HB := bsB HB.out hb; clear hb hbox hg; have hnb9 := NB181_182.out; have hnc9 := NB182_181.out; obtain ⟨hcz10_0, hcz10_1, hcz10_2, hcz10_3, hfz10_0, hfz10_1, hfz10_2, hfz10_3⟩ := own4 BK181.out) | (go_at_call 21; (with_reducible refine (interval_Valid.calls a0 a1_0 a1_1 a1_2 a1_3 true _ A3.out).mono ?_); rintro e w11 ⟨rfl, hb⟩; replace BK181 := bkB BK181.out hb; replace BK182 := bkB BK182.out hb; replace HB := bsB HB.out hb; (try clear hb); (try clear hb2); (try clear hk); (try clear hi)) | (go_at_call 55; (with_reducible refine (interval_ends.calls a0 t184 t185 _ A5.out).mono ?_); rintro e w' ⟨rfl, ⟨nd, rfl⟩⟩; (try first | exact ⟨rfl, _, World.drewN_drewN _ _ _⟩ | exact ⟨rfl, _, Eq.trans (World.drewN_drewN _ _ _) (congrArg (World.drewN _) (Nat.add_assoc _ _ _))⟩); obtain ⟨hcz12_0, hcz12_1, hcz12_2, hcz12_3, hfz12_0, hfz12_1, hfz12_2, hfz12_3⟩ := own4 BK181.out)))
  (try simp only [Act.put, List.setIfInBounds_toArray, List.set_cons_zero, List.set_cons_succ])
  go_cut [9, 10] (fun v9 v10 wc => ∃ (kq : Nat) (x9_5 : Int) (x10_5 : Int) (x183000_5 : Int) (x183001_5 : Int) (x183002_5 : Int) (x183003_5 : Int), v9 = .int .u64 x9_5 ∧ v10 = .int .u64 x10_5 ∧ Aside0 (interval_Tighten.j2 kq a0 x9_5 x10_5 = some (r1, r2, r3, r4, r5)) ∧ Aside0 (kq ≤ k) ∧ Aside0 (wc.heap[gb181]? = some (.cells #[.int .u64 a1_0, .int .u64 a1_1, .int .i64 a1_2, .int .i64 a1_3] 30 (0, 0))) ∧ Aside0 (wc.heap[gb182]? = some (.cells #[.int .u64 x183000_5, .int .u64 x183001_5, .int .i64 x183002_5, .int .i64 x183003_5] 30 (0, 0))) ∧ Aside0 (Below w.heap.size w wc))
  case first =>
   have H := HC6.out
   clear HC6
   have HC13 := Aside0.mk H
   clear H
   go_upto_region 7 with (fail)
   repeat (go_quiet (fail); go_upto_region 7 with (fail))
   go_cut [28] (fun v28 wc => ∃ (kq : Nat) (x28_12 : Bool), v28 = .bool x28_12 ∧ Aside0 (interval_Tighten.j0 kq a0 (IntKind.u64.wrap (t185)) a1_0 a1_1 x28_12 a1_0 a1_1 a1_2 a1_3 = some (r1, r2, r3, r4, r5)) ∧ Aside0 (kq ≤ k) ∧ Aside0 (wc.heap[gb181]? = some (.cells #[.int .u64 a1_0, .int .u64 a1_1, .int .i64 a1_2, .int .i64 a1_3] 30 (0, 0))) ∧ Aside0 (wc.heap[gb182]? = some (.cells #[.int .u64 0, .int .u64 0, .int .i64 0, .int .i64 0] 30 (0, 0))) ∧ Aside0 (Below w.heap.size w wc))
   case first =>
    have H := HC13.out
    clear HC13
    by_cases c14 : a1_1 ≤ (IntKind.u64.wrap (t185))
    ·
     rw [if_pos c14] at H
     have c14b0 : decide (a1_1 ≤ (IntKind.u64.wrap (t185))) = true := decide_eq_true c14
     clear c14
     (first | rw [c14b0] | (simp only [i64_w, i32_w]; rw [c14b0]) | skip)
     have H' := Aside0.mk H
     clear H
     have hnb15 := NB181_182.out
     have hnc15 := NB182_181.out
     obtain ⟨hcz16_0, hcz16_1, hcz16_2, hcz16_3, hfz16_0, hfz16_1, hfz16_2, hfz16_3⟩ := own4 BK181.out
     go_wp2
     repeat (go_quiet (fail); try go_wp2)
     go_meet
     case rel => exact ⟨_, (true), (by first | rfl | (simp; done) | (simp [*]; done)), H', ⟨by first | omega | exact Nat.le_refl _⟩, ⟨bkL BK181.out⟩, ⟨bkL BK182.out⟩, ⟨bsL HB.out⟩⟩
    ·
     rw [if_neg c14] at H
     have c14b0 : decide (a1_1 ≤ (IntKind.u64.wrap (t185))) = false := decide_eq_false c14
     clear c14
     (first | rw [c14b0] | (simp only [i64_w, i32_w]; rw [c14b0]) | skip)
     have H' := Aside0.mk H
     clear H
     have hnb17 := NB181_182.out
     have hnc17 := NB182_181.out
     obtain ⟨hcz18_0, hcz18_1, hcz18_2, hcz18_3, hfz18_0, hfz18_1, hfz18_2, hfz18_3⟩ := own4 BK181.out
     go_wp2
     repeat (go_quiet (fail); try go_wp2)
     go_meet
     case rel => exact ⟨_, (decide (a1_2 ≥ 0)), (by first | rfl | (simp; done) | (simp [*]; done)), H', ⟨by first | omega | exact Nat.le_refl _⟩, ⟨bkL BK181.out⟩, ⟨bkL BK182.out⟩, ⟨bsL HB.out⟩⟩
   case rest =>
    clear HC13
    try clear c1
    try clear p2
    try clear c4
    try clear c5
    try clear c9
    try clear c14
    try clear c14b0
    try clear c15
    try clear c17
    try clear hcz10_0
    try clear hcz10_1
    try clear hcz10_2
    try clear hcz10_3
    try clear hcz12_0
    try clear hcz12_1
    try clear hcz12_2
    try clear hcz12_3
    try clear hcz16_0
    try clear hcz16_1
    try clear hcz16_2
    try clear hcz16_3
    try clear hcz18_0
    try clear hcz18_1
    try clear hcz18_2
    try clear hcz18_3
    try clear hfz10_0
    try clear hfz10_1
    try clear hfz10_2
    try clear hfz10_3
    try clear hfz12_0
    try clear hfz12_1
    try clear hfz12_2
    try clear hfz12_3
    try clear hfz16_0
    try clear hfz16_1
    try clear hfz16_2
    try clear hfz16_3
    try clear hfz18_0
    try clear hfz18_1
    try clear hfz18_2
    try clear hfz18_3
    obtain ⟨kq, x28_12, rfl, HA, HJ12, BK181, BK182, HB⟩ := hcut
    cases kq with
    | zero => exact absurd HA.out (by simp [interval_Tighten.j0])
    | succ kj12 =>
     have H := HA.out
     clear HA
     simp only [interval_Tighten.j0] at H
     by_cases c19 : x28_12 = true
     ·
      subst c19
      have H1 : (if a1_3 < 0 then (some (0, 0, 0, 0, false)) else (interval_Tighten.j2 kj12 a0 (mx a1_0 (IntKind.u64.wrap (mx a1_2 0))) (mn a1_1 (IntKind.u64.wrap (a1_3))))) = some (r1, r2, r3, r4, r5) := by rw [if_pos rfl] at H; exact H
      clear H
      have H := H1
      clear H1
      by_cases c20 : a1_3 < 0
      ·
       rw [if_pos c20] at H
       have c20b0 : decide (a1_3 < 0) = true := decide_eq_true c20
       clear c20
       simp only [Option.some.injEq, Prod.mk.injEq] at H
       obtain ⟨rfl, rfl, rfl, rfl, rfl⟩ := H
       have hnb21 := NB181_182.out
       have hnc21 := NB182_181.out
       obtain ⟨hcz22_0, hcz22_1, hcz22_2, hcz22_3, hfz22_0, hfz22_1, hfz22_2, hfz22_3⟩ := own4 BK181.out
       obtain ⟨hcz23_0, hcz23_1, hcz23_2, hcz23_3, hfz23_0, hfz23_1, hfz23_2, hfz23_3⟩ := own4 BK182.out
       go_wp2
       repeat (go_quiet (fail); try go_wp2)
       refine bodyPost_ret (results_ct rfl _ _ gb182 30 #[.int .u64 0, .int .u64 0, .int .i64 0, .int .i64 0] (0, 0) _ rfl (by (with_reducible repeat (first | refine blk_drewN ?_ _ | refine blk_drew ?_ | refine blk_alloc ?_ _)); refine blk_put (cs := #[.int .u64 0, .int .u64 0, .int .i64 0, .int .i64 0]) ?_ 3 _ rfl; (with_reducible repeat (first | refine blk_drewN ?_ _ | refine blk_drew ?_ | refine blk_alloc ?_ _)); refine blk_put (cs := #[.int .u64 0, .int .u64 0, .int .i64 0, .int .i64 0]) ?_ 2 _ rfl; (with_reducible repeat (first | refine blk_drewN ?_ _ | refine blk_drew ?_ | refine blk_alloc ?_ _)); refine blk_put (cs := #[.int .u64 0, .int .u64 0, .int .i64 0, .int .i64 0]) ?_ 1 _ rfl; (with_reducible repeat (first | refine blk_drewN ?_ _ | refine blk_drew ?_ | refine blk_alloc ?_ _)); refine blk_put (cs := #[.int .u64 0, .int .u64 0, .int .i64 0, .int .i64 0]) ?_ 0 _ rfl; exact bfL BK182.out) Try.underlying30 rfl (by kernel_rfl)) rfl ?_
       exact ⟨by first | rfl | (simp [errW_none, errW_some] <;> rfl) | (simp [*, errW_none, errW_some] <;> rfl), bsL HB.out⟩
      ·
       rw [if_neg c20] at H
       have c20b0 : decide (a1_3 < 0) = false := decide_eq_false c20
       clear c20
       obtain ⟨ji24, hji24⟩ : ∃ j_ : Int, (mx a1_2 0) = j_ := ⟨_, rfl⟩
       replace H : (interval_Tighten.j2 kj12 a0 (mx a1_0 (IntKind.u64.wrap (ji24))) (mn a1_1 (IntKind.u64.wrap (a1_3)))) = some (r1, r2, r3, r4, r5) := by first | (rw [hji24] at H; exact H) | (simp only [hji24] at H ⊢; exact H)
       have hji24_ : (if a1_2 < 0 then 0 else a1_2) = ji24 := hji24
       obtain ⟨ji25, hji25⟩ : ∃ j_ : Int, (mx a1_0 (IntKind.u64.wrap (ji24))) = j_ := ⟨_, rfl⟩
       replace H : (interval_Tighten.j2 kj12 a0 ji25 (mn a1_1 (IntKind.u64.wrap (a1_3)))) = some (r1, r2, r3, r4, r5) := by first | (rw [hji25] at H; exact H) | (simp only [hji25] at H ⊢; exact H)
       have hji25_ : (if a1_0 < (IntKind.u64.wrap (ji24)) then (IntKind.u64.wrap (ji24)) else a1_0) = ji25 := hji25
       obtain ⟨ji26, hji26⟩ : ∃ j_ : Int, (mn a1_1 (IntKind.u64.wrap (a1_3))) = j_ := ⟨_, rfl⟩
       replace H : (interval_Tighten.j2 kj12 a0 ji25 ji26) = some (r1, r2, r3, r4, r5) := by first | (rw [hji26] at H; exact H) | (simp only [hji26] at H ⊢; exact H)
       have hji26_ : (if (IntKind.u64.wrap (a1_3)) < a1_1 then (IntKind.u64.wrap (a1_3)) else a1_1) = ji26 := hji26
       have H' := Aside0.mk H
       clear H
       have hnb27 := NB181_182.out
       have hnc27 := NB182_181.out
       obtain ⟨hcz28_0, hcz28_1, hcz28_2, hcz28_3, hfz28_0, hfz28_1, hfz28_2, hfz28_3⟩ := own4 BK181.out
       go_wp2
       repeat (go_quiet (fail); try go_wp2)
       go_meet
       case rel => exact ⟨_, (ji25), (ji26), (0), (0), (0), (0), (by first | rfl | (simp; done) | (simp only [← hji25] <;> (first | rfl | simp)) | (simp [*]; done)), (by first | rfl | (simp; done) | (simp only [← hji26] <;> (first | rfl | simp)) | (simp [*]; done)), H', ⟨by have := HJ12.out; first | omega | exact Nat.le_refl _⟩, ⟨bkL BK181.out⟩, ⟨bkL BK182.out⟩, ⟨bsL HB.out⟩⟩
     ·
      replace c19 := Bool.eq_false_iff.mpr c19
      subst c19
      have H1 : (if a1_0 > (IntKind.u64.wrap (t185)) then (interval_Tighten.j1 kj12 a0 (IntKind.u64.wrap (t185)) a1_0 a1_1 true a1_0 a1_1 a1_2 a1_3) else (interval_Tighten.j1 kj12 a0 (IntKind.u64.wrap (t185)) a1_0 a1_1 (decide (a1_3 < 0)) a1_0 a1_1 a1_2 a1_3)) = some (r1, r2, r3, r4, r5) := by rw [if_neg (show ¬ (false = true) by decide)] at H; exact H
      clear H
      have H := H1
      clear H1
      have HC29 := Aside0.mk H
      clear H
      go_upto_region 11 with (fail)
      repeat (go_quiet (fail); go_upto_region 11 with (fail))
      go_cut [53] (fun v53 wc => ∃ (kq : Nat) (x53_28 : Bool), v53 = .bool x53_28 ∧ Aside0 (interval_Tighten.j1 kq a0 (IntKind.u64.wrap (t185)) a1_0 a1_1 x53_28 a1_0 a1_1 a1_2 a1_3 = some (r1, r2, r3, r4, r5)) ∧ Aside0 (kq ≤ kj12) ∧ Aside0 (wc.heap[gb181]? = some (.cells #[.int .u64 a1_0, .int .u64 a1_1, .int .i64 a1_2, .int .i64 a1_3] 30 (0, 0))) ∧ Aside0 (wc.heap[gb182]? = some (.cells #[.int .u64 0, .int .u64 0, .int .i64 0, .int .i64 0] 30 (0, 0))) ∧ Aside0 (Below w.heap.size w wc))
      case first =>
       have H := HC29.out
       clear HC29
       by_cases c30 : a1_0 > (IntKind.u64.wrap (t185))
       ·
        rw [if_pos c30] at H
        have c30b0 : decide ((IntKind.u64.wrap (t185)) < a1_0) = true := decide_eq_true c30
        clear c30
        (first | rw [c30b0] | (simp only [i64_w, i32_w]; rw [c30b0]) | skip)
        have H' := Aside0.mk H
        clear H
        have hnb31 := NB181_182.out
        have hnc31 := NB182_181.out
        obtain ⟨hcz32_0, hcz32_1, hcz32_2, hcz32_3, hfz32_0, hfz32_1, hfz32_2, hfz32_3⟩ := own4 BK181.out
        go_wp2
        repeat (go_quiet (fail); try go_wp2)
        go_meet
        case rel => exact ⟨_, (true), (by first | rfl | (simp; done) | (simp [*]; done)), H', ⟨by have := HJ12.out; first | omega | exact Nat.le_refl _⟩, ⟨bkL BK181.out⟩, ⟨bkL BK182.out⟩, ⟨bsL HB.out⟩⟩
       ·
        rw [if_neg c30] at H
        have c30b0 : decide ((IntKind.u64.wrap (t185)) < a1_0) = false := decide_eq_false c30
        clear c30
        (first | rw [c30b0] | (simp only [i64_w, i32_w]; rw [c30b0]) | skip)
        have H' := Aside0.mk H
        clear H
        have hnb33 := NB181_182.out
        have hnc33 := NB182_181.out
        obtain ⟨hcz34_0, hcz34_1, hcz34_2, hcz34_3, hfz34_0, hfz34_1, hfz34_2, hfz34_3⟩ := own4 BK181.out
        go_wp2
        repeat (go_quiet (fail); try go_wp2)
        go_meet
        case rel => exact ⟨_, (decide (a1_3 < 0)), (by first | rfl | (simp; done) | (simp [*]; done)), H', ⟨by have := HJ12.out; first | omega | exact Nat.le_refl _⟩, ⟨bkL BK181.out⟩, ⟨bkL BK182.out⟩, ⟨bsL HB.out⟩⟩
      case rest =>
       clear HC29
       try clear c1
       try clear c2
       try clear p2
       try clear c3
       try clear c4
       try clear c5
       try clear c9
       try clear c14
       try clear c14b0
       try clear c15
       try clear c17
       try clear c19
       try clear c20
       try clear c20b0
       try clear c21
       try clear c27
       try clear c30
       try clear c30b0
       try clear c31
       try clear c33
       try clear hcz10_0
       try clear hcz10_1
       try clear hcz10_2
       try clear hcz10_3
       try clear hcz12_0
       try clear hcz12_1
       try clear hcz12_2
       try clear hcz12_3
       try clear hcz16_0
       try clear hcz16_1
       try clear hcz16_2
       try clear hcz16_3
       try clear hcz18_0
       try clear hcz18_1
       try clear hcz18_2
       try clear hcz18_3
       try clear hcz22_0
       try clear hcz22_1
       try clear hcz22_2
       try clear hcz22_3
       try clear hcz23_0
       try clear hcz23_1
       try clear hcz23_2
       try clear hcz23_3
       try clear hcz28_0
       try clear hcz28_1
       try clear hcz28_2
       try clear hcz28_3
       try clear hcz32_0
       try clear hcz32_1
       try clear hcz32_2
       try clear hcz32_3
       try clear hcz34_0
       try clear hcz34_1
       try clear hcz34_2
       try clear hcz34_3
       try clear hfz10_0
       try clear hfz10_1
       try clear hfz10_2
       try clear hfz10_3
       try clear hfz12_0
       try clear hfz12_1
       try clear hfz12_2
       try clear hfz12_3
       try clear hfz16_0
       try clear hfz16_1
       try clear hfz16_2
       try clear hfz16_3
       try clear hfz18_0
       try clear hfz18_1
       try clear hfz18_2
       try clear hfz18_3
       try clear hfz22_0
       try clear hfz22_1
       try clear hfz22_2
       try clear hfz22_3
       try clear hfz23_0
       try clear hfz23_1
       try clear hfz23_2
       try clear hfz23_3
       try clear hfz28_0
       try clear hfz28_1
       try clear hfz28_2
       try clear hfz28_3
       try clear hfz32_0
       try clear hfz32_1
       try clear hfz32_2
       try clear hfz32_3
       try clear hfz34_0
       try clear hfz34_1
       try clear hfz34_2
       try clear hfz34_3
       try clear p2
       obtain ⟨kq, x53_28, rfl, HA, HJ28, BK181, BK182, HB⟩ := hcut
       cases kq with
       | zero => exact absurd HA.out (by simp [interval_Tighten.j1])
       | succ kj28 =>
        have H := HA.out
        clear HA
        simp only [interval_Tighten.j1] at H
        by_cases c35 : x53_28 = true
        ·
         subst c35
         have H1 : ((bits_From.f a0 a1_2).bind fun t186 => (if a1_3 < 0 then ((bits_From.f a0 a1_3).bind fun t187 => (interval_Tighten.j2 kj28 a0 (mx (mx a1_0 t186) (IntKind.u64.wrap ((IntKind.u64.wrap (t185)) + 1))) (mn a1_1 t187))) else (interval_Tighten.j2 kj28 a0 (mx (mx a1_0 t186) (IntKind.u64.wrap ((IntKind.u64.wrap (t185)) + 1))) a1_1))) = some (r1, r2, r3, r4, r5) := by rw [if_pos rfl] at H; exact H
         clear H
         have H := H1
         clear H1
         replace H := Option.bind_eq_some_iff.mp H
         obtain ⟨t186, A360, H⟩ := H
         replace H : (if a1_3 < 0 then ((bits_From.f a0 a1_3).bind fun t187 => (interval_Tighten.j2 kj28 a0 (mx (mx a1_0 t186) (IntKind.u64.wrap ((IntKind.u64.wrap (t185)) + 1))) (mn a1_1 t187))) else (interval_Tighten.j2 kj28 a0 (mx (mx a1_0 t186) (IntKind.u64.wrap ((IntKind.u64.wrap (t185)) + 1))) a1_1)) = some (r1, r2, r3, r4, r5) := H
         have A36 := Aside0.mk A360
         clear A360
         obtain ⟨ji37, hji37⟩ : ∃ j_ : Int, (mx a1_0 t186) = j_ := ⟨_, rfl⟩
         replace H : (if a1_3 < 0 then ((bits_From.f a0 a1_3).bind fun t187 => (interval_Tighten.j2 kj28 a0 (mx (ji37) (IntKind.u64.wrap ((IntKind.u64.wrap (t185)) + 1))) (mn a1_1 t187))) else (interval_Tighten.j2 kj28 a0 (mx (ji37) (IntKind.u64.wrap ((IntKind.u64.wrap (t185)) + 1))) a1_1)) = some (r1, r2, r3, r4, r5) := by first | (rw [hji37] at H; exact H) | (simp only [hji37] at H ⊢; exact H)
         (try rw [hji37] at A36)
         have hji37_ : (if a1_0 < t186 then t186 else a1_0) = ji37 := hji37
         obtain ⟨ji38, hji38⟩ : ∃ j_ : Int, (mx (ji37) (IntKind.u64.wrap ((IntKind.u64.wrap (t185)) + 1))) = j_ := ⟨_, rfl⟩
         replace H : (if a1_3 < 0 then ((bits_From.f a0 a1_3).bind fun t187 => (interval_Tighten.j2 kj28 a0 ji38 (mn a1_1 t187))) else (interval_Tighten.j2 kj28 a0 ji38 a1_1)) = some (r1, r2, r3, r4, r5) := by first | (rw [hji38] at H; exact H) | (simp only [hji38] at H ⊢; exact H)
         (try rw [hji38] at A36)
         have hji38_ : (if (ji37) < (IntKind.u64.wrap ((IntKind.u64.wrap (t185)) + 1)) then (IntKind.u64.wrap ((IntKind.u64.wrap (t185)) + 1)) else (ji37)) = ji38 := hji38
         by_cases c39 : a1_3 < 0
         ·
          rw [if_pos c39] at H
          have c39b0 : decide (a1_3 < 0) = true := decide_eq_true c39
          clear c39
          replace H := Option.bind_eq_some_iff.mp H
          obtain ⟨t187, A400, H⟩ := H
          replace H : (interval_Tighten.j2 kj28 a0 ji38 (mn a1_1 t187)) = some (r1, r2, r3, r4, r5) := H
          have A40 := Aside0.mk A400
          clear A400
          obtain ⟨ji41, hji41⟩ : ∃ j_ : Int, (mn a1_1 t187) = j_ := ⟨_, rfl⟩
          replace H : (interval_Tighten.j2 kj28 a0 ji38 ji41) = some (r1, r2, r3, r4, r5) := by first | (rw [hji41] at H; exact H) | (simp only [hji41] at H ⊢; exact H)
          (try rw [hji41] at A36)
          (try rw [hji41] at A40)
          have hji41_ : (if t187 < a1_1 then t187 else a1_1) = ji41 := hji41
          have H' := Aside0.mk H
          clear H
          have hnb42 := NB181_182.out
          have hnc42 := NB182_181.out
          obtain ⟨hcz43_0, hcz43_1, hcz43_2, hcz43_3, hfz43_0, hfz43_1, hfz43_2, hfz43_3⟩ := own4 BK181.out
          go_wp2_with (first | (go_at_call 121; (with_reducible refine (bits_From.calls a0 a1_2 t186 _ A36.out).mono ?_); rintro e w44 ⟨rfl, hb⟩; replace BK181 := bkB BK181.out hb; replace BK182 := bkB BK182.out hb; replace HB := bsB HB.out hb; (try clear hb); obtain ⟨hcz45_0, hcz45_1, hcz45_2, hcz45_3, hfz45_0, hfz45_1, hfz45_2, hfz45_3⟩ := own4 BK181.out) | (go_at_call 121; (with_reducible refine (bits_From.calls a0 a1_3 t187 _ A40.out).mono ?_); rintro e w46 ⟨rfl, hb⟩; replace BK181 := bkB BK181.out hb; replace BK182 := bkB BK182.out hb; replace HB := bsB HB.out hb; (try clear hb); (try clear hb2); (try clear hk); (try clear hi)))
          repeat (go_quiet (first | (go_at_call 121; (with_reducible refine (bits_From.calls a0 a1_2 t186 _ A36.out).mono ?_); rintro e w44 ⟨rfl, hb⟩; replace BK181 := bkB BK181.out hb; replace BK182 := bkB BK182.out hb; replace HB := bsB HB.out hb; (try clear hb); obtain ⟨hcz45_0, hcz45_1, hcz45_2, hcz45_3, hfz45_0, hfz45_1, hfz45_2, hfz45_3⟩ := own4 BK181.out) | (go_at_call 121; (with_reducible refine (bits_From.calls a0 a1_3 t187 _ A40.out).mono ?_); rintro e w46 ⟨rfl, hb⟩; replace BK181 := bkB BK181.out hb; replace BK182 := bkB BK182.out hb; replace HB := bsB HB.out hb; (try clear hb); (try clear hb2); (try clear hk); (try clear hi))); try go_wp2_with (first | (go_at_call 121; (with_reducible refine (bits_From.calls a0 a1_2 t186 _ A36.out).mono ?_); rintro e w44 ⟨rfl, hb⟩; replace BK181 := bkB BK181.out hb; replace BK182 := bkB BK182.out hb; replace HB := bsB HB.out hb; (try clear hb); (try clear hb2); (try clear hk); (try clear hi); obtain ⟨hcz45_0, hcz45_1, hcz45_2, hcz45_3, hfz45_0, hfz45_1, hfz45_2, hfz45_3⟩ := own4 BK181.out) | (go_at_call 121; (with_reducible refine (bits_From.calls a0 a1_3 t187 _ A40.out).mono ?_); rintro e w46 ⟨rfl, hb⟩; replace BK181 := bkB BK181.out hb; replace BK182 := bkB BK182.out hb; replace HB := bsB HB.out hb; (try clear hb); (try clear hb2); (try clear hk); (try clear hi))))
          go_meet
          case rel => exact ⟨_, (ji38), (ji41), (0), (0), (0), (0), (by first | rfl | (simp; done) | (simp only [← hji38] <;> (first | rfl | simp)) | (simp [*]; done)), (by first | rfl | (simp; done) | (simp only [← hji41] <;> (first | rfl | simp)) | (simp [*]; done)), H', ⟨by have := HJ12.out; have := HJ28.out; first | omega | exact Nat.le_refl _⟩, ⟨bkL BK181.out⟩, ⟨bkL BK182.out⟩, ⟨bsL HB.out⟩⟩
         ·
          rw [if_neg c39] at H
          have c39b0 : decide (a1_3 < 0) = false := decide_eq_false c39
          clear c39
          have H' := Aside0.mk H
          clear H
          have hnb47 := NB181_182.out
          have hnc47 := NB182_181.out
          obtain ⟨hcz48_0, hcz48_1, hcz48_2, hcz48_3, hfz48_0, hfz48_1, hfz48_2, hfz48_3⟩ := own4 BK181.out
          go_wp2_with (first | (go_at_call 121; (with_reducible refine (bits_From.calls a0 a1_2 t186 _ A36.out).mono ?_); rintro e w49 ⟨rfl, hb⟩; replace BK181 := bkB BK181.out hb; replace BK182 := bkB BK182.out hb; replace HB := bsB HB.out hb; (try clear hb); obtain ⟨hcz50_0, hcz50_1, hcz50_2, hcz50_3, hfz50_0, hfz50_1, hfz50_2, hfz50_3⟩ := own4 BK181.out))
          repeat (go_quiet (first | (go_at_call 121; (with_reducible refine (bits_From.calls a0 a1_2 t186 _ A36.out).mono ?_); rintro e w49 ⟨rfl, hb⟩; replace BK181 := bkB BK181.out hb; replace BK182 := bkB BK182.out hb; replace HB := bsB HB.out hb; (try clear hb); obtain ⟨hcz50_0, hcz50_1, hcz50_2, hcz50_3, hfz50_0, hfz50_1, hfz50_2, hfz50_3⟩ := own4 BK181.out)); try go_wp2_with (first | (go_at_call 121; (with_reducible refine (bits_From.calls a0 a1_2 t186 _ A36.out).mono ?_); rintro e w49 ⟨rfl, hb⟩; replace BK181 := bkB BK181.out hb; replace BK182 := bkB BK182.out hb; replace HB := bsB HB.out hb; (try clear hb); (try clear hb2); (try clear hk); (try clear hi); obtain ⟨hcz50_0, hcz50_1, hcz50_2, hcz50_3, hfz50_0, hfz50_1, hfz50_2, hfz50_3⟩ := own4 BK181.out)))
          go_meet
          case rel => exact ⟨_, (ji38), (a1_1), (0), (0), (0), (0), (by first | rfl | (simp; done) | (simp only [← hji38] <;> (first | rfl | simp)) | (simp [*]; done)), (by first | rfl | (simp; done) | (simp [*]; done)), H', ⟨by have := HJ12.out; have := HJ28.out; first | omega | exact Nat.le_refl _⟩, ⟨bkL BK181.out⟩, ⟨bkL BK182.out⟩, ⟨bsL HB.out⟩⟩
        ·
         replace c35 := Bool.eq_false_iff.mpr c35
         subst c35
         have H1 : (some (a1_0, a1_1, a1_2, a1_3, true)) = some (r1, r2, r3, r4, r5) := by rw [if_neg (show ¬ (false = true) by decide)] at H; exact H
         clear H
         have H := H1
         clear H1
         simp only [Option.some.injEq, Prod.mk.injEq] at H
         obtain ⟨rfl, rfl, rfl, rfl, rfl⟩ := H
         have hnb51 := NB181_182.out
         have hnc51 := NB182_181.out
         obtain ⟨hcz52_0, hcz52_1, hcz52_2, hcz52_3, hfz52_0, hfz52_1, hfz52_2, hfz52_3⟩ := own4 BK181.out
         obtain ⟨hcz53_0, hcz53_1, hcz53_2, hcz53_3, hfz53_0, hfz53_1, hfz53_2, hfz53_3⟩ := own4 BK182.out
         go_wp2
         repeat (go_quiet (fail); try go_wp2)
         refine bodyPost_ret (results_ct rfl _ _ gb182 30 #[.int .u64 a1_0, .int .u64 a1_1, .int .i64 a1_2, .int .i64 a1_3] (0, 0) _ rfl (by (with_reducible repeat (first | refine blk_drewN ?_ _ | refine blk_drew ?_ | refine blk_alloc ?_ _)); refine blk_put (cs := #[.int .u64 a1_0, .int .u64 a1_1, .int .i64 a1_2, .int .i64 0]) ?_ 3 _ rfl; (with_reducible repeat (first | refine blk_drewN ?_ _ | refine blk_drew ?_ | refine blk_alloc ?_ _)); refine blk_put (cs := #[.int .u64 a1_0, .int .u64 a1_1, .int .i64 0, .int .i64 0]) ?_ 2 _ rfl; (with_reducible repeat (first | refine blk_drewN ?_ _ | refine blk_drew ?_ | refine blk_alloc ?_ _)); refine blk_put (cs := #[.int .u64 a1_0, .int .u64 0, .int .i64 0, .int .i64 0]) ?_ 1 _ rfl; (with_reducible repeat (first | refine blk_drewN ?_ _ | refine blk_drew ?_ | refine blk_alloc ?_ _)); refine blk_put (cs := #[.int .u64 0, .int .u64 0, .int .i64 0, .int .i64 0]) ?_ 0 _ rfl; exact bfL BK182.out) Try.underlying30 rfl (by kernel_rfl)) rfl ?_
         exact ⟨by first | rfl | (simp [errW_none, errW_some] <;> rfl) | (simp [*, errW_none, errW_some] <;> rfl), bsL HB.out⟩
  case rest =>
   clear HC6
   try clear c1
   try clear c2
   try clear p2
   try clear c3
   try clear c4
   try clear c5
   try clear c9
   try clear c14
   try clear c14b0
   try clear c15
   try clear c17
   try clear c19
   try clear c20
   try clear c20b0
   try clear c21
   try clear c27
   try clear c30
   try clear c30b0
   try clear c31
   try clear c33
   try clear c35
   try clear c39
   try clear c39b0
   try clear c42
   try clear c47
   try clear c51
   try clear c53
   try clear hcz10_0
   try clear hcz10_1
   try clear hcz10_2
   try clear hcz10_3
   try clear hcz12_0
   try clear hcz12_1
   try clear hcz12_2
   try clear hcz12_3
   try clear hcz16_0
   try clear hcz16_1
   try clear hcz16_2
   try clear hcz16_3
   try clear hcz18_0
   try clear hcz18_1
   try clear hcz18_2
   try clear hcz18_3
   try clear hcz22_0
   try clear hcz22_1
   try clear hcz22_2
   try clear hcz22_3
   try clear hcz23_0
   try clear hcz23_1
   try clear hcz23_2
   try clear hcz23_3
   try clear hcz28_0
   try clear hcz28_1
   try clear hcz28_2
   try clear hcz28_3
   try clear hcz32_0
   try clear hcz32_1
   try clear hcz32_2
   try clear hcz32_3
   try clear hcz34_0
   try clear hcz34_1
   try clear hcz34_2
   try clear hcz34_3
   try clear hcz43_0
   try clear hcz43_1
   try clear hcz43_2
   try clear hcz43_3
   try clear hcz45_0
   try clear hcz45_1
   try clear hcz45_2
   try clear hcz45_3
   try clear hcz48_0
   try clear hcz48_1
   try clear hcz48_2
   try clear hcz48_3
   try clear hcz50_0
   try clear hcz50_1
   try clear hcz50_2
   try clear hcz50_3
   try clear hcz52_0
   try clear hcz52_1
   try clear hcz52_2
   try clear hcz52_3
   try clear hcz53_0
   try clear hcz53_1
   try clear hcz53_2
   try clear hcz53_3
   try clear hfz10_0
   try clear hfz10_1
   try clear hfz10_2
   try clear hfz10_3
   try clear hfz12_0
   try clear hfz12_1
   try clear hfz12_2
   try clear hfz12_3
   try clear hfz16_0
   try clear hfz16_1
   try clear hfz16_2
   try clear hfz16_3
   try clear hfz18_0
   try clear hfz18_1
   try clear hfz18_2
   try clear hfz18_3
   try clear hfz22_0
   try clear hfz22_1
   try clear hfz22_2
   try clear hfz22_3
   try clear hfz23_0
   try clear hfz23_1
   try clear hfz23_2
   try clear hfz23_3
   try clear hfz28_0
   try clear hfz28_1
   try clear hfz28_2
   try clear hfz28_3
   try clear hfz32_0
   try clear hfz32_1
   try clear hfz32_2
   try clear hfz32_3
   try clear hfz34_0
   try clear hfz34_1
   try clear hfz34_2
   try clear hfz34_3
   try clear hfz43_0
   try clear hfz43_1
   try clear hfz43_2
   try clear hfz43_3
   try clear hfz45_0
   try clear hfz45_1
   try clear hfz45_2
   try clear hfz45_3
   try clear hfz48_0
   try clear hfz48_1
   try clear hfz48_2
   try clear hfz48_3
   try clear hfz50_0
   try clear hfz50_1
   try clear hfz50_2
   try clear hfz50_3
   try clear hfz52_0
   try clear hfz52_1
   try clear hfz52_2
   try clear hfz52_3
   try clear hfz53_0
   try clear hfz53_1
   try clear hfz53_2
   try clear hfz53_3
   try clear p2
   obtain ⟨kq, x9_5, x10_5, x183000_5, x183001_5, x183002_5, x183003_5, rfl, rfl, HA, HJ5, BK181, BK182, HB⟩ := hcut
   cases kq with
   | zero => exact absurd HA.out (by simp [interval_Tighten.j2])
   | succ kj5 =>
    have H := HA.out
    clear HA
    simp only [interval_Tighten.j2] at H
    by_cases c54 : x9_5 > x10_5
    ·
     rw [if_pos c54] at H
     have c54b0 : decide (x10_5 < x9_5) = true := decide_eq_true c54
     clear c54
     simp only [Option.some.injEq, Prod.mk.injEq] at H
     obtain ⟨rfl, rfl, rfl, rfl, rfl⟩ := H
     have hnb55 := NB182_181.out
     have hnc55 := NB181_182.out
     obtain ⟨hcz56_0, hcz56_1, hcz56_2, hcz56_3, hfz56_0, hfz56_1, hfz56_2, hfz56_3⟩ := own4 BK182.out
     go_wp2
     repeat (go_quiet (fail); try go_wp2)
     refine bodyPost_ret (results_ct rfl _ _ gb182 30 #[.int .u64 0, .int .u64 0, .int .i64 0, .int .i64 0] (0, 0) _ rfl (by (with_reducible repeat (first | refine blk_drewN ?_ _ | refine blk_drew ?_ | refine blk_alloc ?_ _)); refine blk_put (cs := #[.int .u64 0, .int .u64 0, .int .i64 0, .int .i64 x183003_5]) ?_ 3 _ rfl; (with_reducible repeat (first | refine blk_drewN ?_ _ | refine blk_drew ?_ | refine blk_alloc ?_ _)); refine blk_put (cs := #[.int .u64 0, .int .u64 0, .int .i64 x183002_5, .int .i64 x183003_5]) ?_ 2 _ rfl; (with_reducible repeat (first | refine blk_drewN ?_ _ | refine blk_drew ?_ | refine blk_alloc ?_ _)); refine blk_put (cs := #[.int .u64 0, .int .u64 x183001_5, .int .i64 x183002_5, .int .i64 x183003_5]) ?_ 1 _ rfl; (with_reducible repeat (first | refine blk_drewN ?_ _ | refine blk_drew ?_ | refine blk_alloc ?_ _)); refine blk_put (cs := #[.int .u64 x183000_5, .int .u64 x183001_5, .int .i64 x183002_5, .int .i64 x183003_5]) ?_ 0 _ rfl; exact bfL BK182.out) Try.underlying30 rfl (by kernel_rfl)) rfl ?_
     exact ⟨by first | rfl | (simp [errW_none, errW_some] <;> rfl) | (simp [*, errW_none, errW_some] <;> rfl), bsL HB.out⟩
    ·
     rw [if_neg c54] at H
     have c54b0 : decide (x10_5 < x9_5) = false := decide_eq_false c54
     clear c54
     replace H := Option.bind_eq_some_iff.mp H
     obtain ⟨t188, A570, H⟩ := H
     replace H : ((bits_Signed.f a0 x10_5).bind fun t189 => (some (x9_5, x10_5, t188, t189, true))) = some (r1, r2, r3, r4, r5) := H
     have A57 := Aside0.mk A570
     clear A570
     replace H := Option.bind_eq_some_iff.mp H
     obtain ⟨t189, A580, H⟩ := H
     replace H : (some (x9_5, x10_5, t188, t189, true)) = some (r1, r2, r3, r4, r5) := H
     have A58 := Aside0.mk A580
     clear A580
     simp only [Option.some.injEq, Prod.mk.injEq] at H
     obtain ⟨rfl, rfl, rfl, rfl, rfl⟩ := H
     go_wp2_with (first | (go_at_call 68; (with_reducible refine (bits_Signed.calls a0 x9_5 t188 _ A57.out).mono ?_); rintro e w59 ⟨rfl, hb⟩; replace BK181 := bkB BK181.out hb; replace BK182 := bkB BK182.out hb; replace HB := bsB HB.out hb; (try clear hb)) | (go_at_call 68; (with_reducible refine (bits_Signed.calls a0 x10_5 t189 _ A58.out).mono ?_); rintro e w60 ⟨rfl, hb⟩; replace BK181 := bkB BK181.out hb; replace BK182 := bkB BK182.out hb; replace HB := bsB HB.out hb; (try clear hb); (try clear hb2); (try clear hk); (try clear hi); have hnb61 := NB182_181.out; have hnc61 := NB181_182.out; obtain ⟨hcz62_0, hcz62_1, hcz62_2, hcz62_3, hfz62_0, hfz62_1, hfz62_2, hfz62_3⟩ := own4 BK182.out))
     repeat (go_quiet (first | (go_at_call 68; (with_reducible refine (bits_Signed.calls a0 x9_5 t188 _ A57.out).mono ?_); rintro e w59 ⟨rfl, hb⟩; replace BK181 := bkB BK181.out hb; replace BK182 := bkB BK182.out hb; replace HB := bsB HB.out hb; (try clear hb)) | (go_at_call 68; (with_reducible refine (bits_Signed.calls a0 x10_5 t189 _ A58.out).mono ?_); rintro e w60 ⟨rfl, hb⟩; replace BK181 := bkB BK181.out hb; replace BK182 := bkB BK182.out hb; replace HB := bsB HB.out hb; (try clear hb); (try clear hb2); (try clear hk); (try clear hi); have hnb61 := NB182_181.out; have hnc61 := NB181_182.out; obtain ⟨hcz62_0, hcz62_1, hcz62_2, hcz62_3, hfz62_0, hfz62_1, hfz62_2, hfz62_3⟩ := own4 BK182.out)); try go_wp2_with (first | (go_at_call 68; (with_reducible refine (bits_Signed.calls a0 x9_5 t188 _ A57.out).mono ?_); rintro e w59 ⟨rfl, hb⟩; replace BK181 := bkB BK181.out hb; replace BK182 := bkB BK182.out hb; replace HB := bsB HB.out hb; (try clear hb); (try clear hb2); (try clear hk); (try clear hi)) | (go_at_call 68; (with_reducible refine (bits_Signed.calls a0 x10_5 t189 _ A58.out).mono ?_); rintro e w60 ⟨rfl, hb⟩; replace BK181 := bkB BK181.out hb; replace BK182 := bkB BK182.out hb; replace HB := bsB HB.out hb; (try clear hb); (try clear hb2); (try clear hk); (try clear hi); have hnb61 := NB182_181.out; have hnc61 := NB181_182.out; obtain ⟨hcz62_0, hcz62_1, hcz62_2, hcz62_3, hfz62_0, hfz62_1, hfz62_2, hfz62_3⟩ := own4 BK182.out)))
     refine bodyPost_ret (results_ct rfl _ _ gb182 30 #[.int .u64 x9_5, .int .u64 x10_5, .int .i64 t188, .int .i64 t189] (0, 0) _ rfl (by (with_reducible repeat (first | refine blk_drewN ?_ _ | refine blk_drew ?_ | refine blk_alloc ?_ _)); refine blk_put (cs := #[.int .u64 x9_5, .int .u64 x10_5, .int .i64 t188, .int .i64 x183003_5]) ?_ 3 _ rfl; (with_reducible repeat (first | refine blk_drewN ?_ _ | refine blk_drew ?_ | refine blk_alloc ?_ _)); refine blk_put (cs := #[.int .u64 x9_5, .int .u64 x10_5, .int .i64 x183002_5, .int .i64 x183003_5]) ?_ 2 _ rfl; (with_reducible repeat (first | refine blk_drewN ?_ _ | refine blk_drew ?_ | refine blk_alloc ?_ _)); refine blk_put (cs := #[.int .u64 x9_5, .int .u64 x183001_5, .int .i64 x183002_5, .int .i64 x183003_5]) ?_ 1 _ rfl; (with_reducible repeat (first | refine blk_drewN ?_ _ | refine blk_drew ?_ | refine blk_alloc ?_ _)); refine blk_put (cs := #[.int .u64 x183000_5, .int .u64 x183001_5, .int .i64 x183002_5, .int .i64 x183003_5]) ?_ 0 _ rfl; exact bfL BK182.out) Try.underlying30 rfl (by kernel_rfl)) rfl ?_
     exact ⟨by first | rfl | (simp [errW_none, errW_some] <;> rfl) | (simp [*, errW_none, errW_some] <;> rfl), bsL HB.out⟩
 ·
  replace c4 := Bool.eq_false_iff.mpr c4
  subst c4
  have H1 : (some (0, 0, 0, 0, false)) = some (r1, r2, r3, r4, r5) := by rw [if_neg (show ¬ (false = true) by decide)] at H; exact H
  clear H
  have H := H1
  clear H1
  simp only [Option.some.injEq, Prod.mk.injEq] at H
  obtain ⟨rfl, rfl, rfl, rfl, rfl⟩ := H
  go_enter Try.func53, Try.ntmps53
  go_wp2_with (first | ((with_reducible refine gate_dst (N := 3) rfl ?_); refine boxE (N := 3) (cs := #[.int .u64 a1_0, .int .u64 a1_1, .int .i64 a1_2, .int .i64 a1_3]) (t := 30) ?_; intro gb181 hg w63 hbox hb; have BK181 := Aside0.mk (hbox); have GW181 := szB hg HB.out; have GE181 := szB hg HB.out; replace HB := bsB HB.out hb; clear hb hbox hg) | ((with_reducible refine gate_dst (N := 4) rfl ?_); refine boxE (N := 4) (cs := #[.int .u64 0, .int .u64 0, .int .i64 0, .int .i64 0]) (t := 30) ?_; intro gb182 hg w64 hbox hb; have BK182 := Aside0.mk (hbox); have GW182 := szB hg HB.out; have GE182 := szB hg HB.out; have NB181_182 := neL hg BK181.out; have NB182_181 := neG hg BK181.out; replace BK181 := bkB BK181.out hb; replace HB := bsB HB.out hb; clear hb hbox hg; have hnb65 := NB181_182.out; have hnc65 := NB182_181.out; obtain ⟨hcz66_0, hcz66_1, hcz66_2, hcz66_3, hfz66_0, hfz66_1, hfz66_2, hfz66_3⟩ := own4 BK181.out) | (go_at_call 21; (with_reducible refine (interval_Valid.calls a0 a1_0 a1_1 a1_2 a1_3 false _ A3.out).mono ?_); rintro e w67 ⟨rfl, hb⟩; replace BK181 := bkB BK181.out hb; replace BK182 := bkB BK182.out hb; replace HB := bsB HB.out hb; (try clear hb); (try clear hb2); (try clear hk); (try clear hi); obtain ⟨hcz68_0, hcz68_1, hcz68_2, hcz68_3, hfz68_0, hfz68_1, hfz68_2, hfz68_3⟩ := own4 BK182.out))
  repeat (go_quiet (first | ((with_reducible refine gate_dst (N := 3) rfl ?_); refine boxE (N := 3) (cs := #[.int .u64 a1_0, .int .u64 a1_1, .int .i64 a1_2, .int .i64 a1_3]) (t := 30) ?_; intro gb181 hg w63 hbox hb; have BK181 := Aside0.mk (hbox); have GW181 := szB hg HB.out; have GE181 := szB hg HB.out; replace HB := bsB HB.out hb; clear hb hbox hg) | ((with_reducible refine gate_dst (N := 4) rfl ?_); refine boxE (N := 4) (cs := #[.int .u64 0, .int .u64 0, .int .i64 0, .int .i64 0]) (t := 30) ?_; intro gb182 hg w64 hbox hb; have BK182 := Aside0.mk (hbox); have GW182 := szB hg HB.out; have GE182 := szB hg HB.out; have NB181_182 := neL hg BK181.out; have NB182_181 := neG hg BK181.out; replace BK181 := bkB BK181.out hb; replace HB := bsB HB.out hb; clear hb hbox hg; have hnb65 := NB181_182.out; have hnc65 := NB182_181.out; obtain ⟨hcz66_0, hcz66_1, hcz66_2, hcz66_3, hfz66_0, hfz66_1, hfz66_2, hfz66_3⟩ := own4 BK181.out) | (go_at_call 21; (with_reducible refine (interval_Valid.calls a0 a1_0 a1_1 a1_2 a1_3 false _ A3.out).mono ?_); rintro e w67 ⟨rfl, hb⟩; replace BK181 := bkB BK181.out hb; replace BK182 := bkB BK182.out hb; replace HB := bsB HB.out hb; (try clear hb); (try clear hb2); (try clear hk); (try clear hi); obtain ⟨hcz68_0, hcz68_1, hcz68_2, hcz68_3, hfz68_0, hfz68_1, hfz68_2, hfz68_3⟩ := own4 BK182.out)); try go_wp2_with (first | ((with_reducible refine gate_dst (N := 3) rfl ?_); refine boxE (N := 3) (cs := #[.int .u64 a1_0, .int .u64 a1_1, .int .i64 a1_2, .int .i64 a1_3]) (t := 30) ?_; intro gb181 hg w63 hbox hb; have BK181 := Aside0.mk (hbox); have GW181 := szB hg HB.out; have GE181 := szB hg HB.out; replace HB := bsB HB.out hb; clear hb hbox hg) | ((with_reducible refine gate_dst (N := 4) rfl ?_); refine boxE (N := 4) (cs := #[.int .u64 0, .int .u64 0, .int .i64 0, .int .i64 0]) (t := 30) ?_; intro gb182 hg w64 hbox hb; have BK182 := Aside0.mk (hbox); have GW182 := szB hg HB.out; have GE182 := szB hg HB.out; have NB181_182 := neL hg BK181.out; have NB182_181 := neG hg BK181.out; replace BK181 := bkB BK181.out hb; replace HB := bsB HB.out hb; clear hb hbox hg; have hnb65 := NB181_182.out; have hnc65 := NB182_181.out; obtain ⟨hcz66_0, hcz66_1, hcz66_2, hcz66_3, hfz66_0, hfz66_1, hfz66_2, hfz66_3⟩ := own4 BK181.out) | (go_at_call 21; (with_reducible refine (interval_Valid.calls a0 a1_0 a1_1 a1_2 a1_3 false _ A3.out).mono ?_); rintro e w67 ⟨rfl, hb⟩; replace BK181 := bkB BK181.out hb; replace BK182 := bkB BK182.out hb; replace HB := bsB HB.out hb; (try clear hb); (try clear hb2); (try clear hk); (try clear hi); obtain ⟨hcz68_0, hcz68_1, hcz68_2, hcz68_3, hfz68_0, hfz68_1, hfz68_2, hfz68_3⟩ := own4 BK182.out)))
  refine bodyPost_ret (results_ct rfl _ _ gb182 30 #[.int .u64 0, .int .u64 0, .int .i64 0, .int .i64 0] (0, 0) _ rfl (by (with_reducible repeat (first | refine blk_drewN ?_ _ | refine blk_drew ?_ | refine blk_alloc ?_ _)); refine blk_put (cs := #[.int .u64 0, .int .u64 0, .int .i64 0, .int .i64 0]) ?_ 3 _ rfl; (with_reducible repeat (first | refine blk_drewN ?_ _ | refine blk_drew ?_ | refine blk_alloc ?_ _)); refine blk_put (cs := #[.int .u64 0, .int .u64 0, .int .i64 0, .int .i64 0]) ?_ 2 _ rfl; (with_reducible repeat (first | refine blk_drewN ?_ _ | refine blk_drew ?_ | refine blk_alloc ?_ _)); refine blk_put (cs := #[.int .u64 0, .int .u64 0, .int .i64 0, .int .i64 0]) ?_ 1 _ rfl; (with_reducible repeat (first | refine blk_drewN ?_ _ | refine blk_drew ?_ | refine blk_alloc ?_ _)); refine blk_put (cs := #[.int .u64 0, .int .u64 0, .int .i64 0, .int .i64 0]) ?_ 0 _ rfl; exact bfL BK182.out) Try.underlying30 rfl (by kernel_rfl)) rfl ?_
  exact ⟨by first | rfl | (simp [errW_none, errW_some] <;> rfl) | (simp [*, errW_none, errW_some] <;> rfl), bsL HB.out⟩

/-! ### bits_Len64: function 77 -/
def bits_Len64.j0 : Nat → Int → Int → Option (Int)
 | 0, _, _ => none
 | k + 1, x0, x2 => if x0 ≥ 65536 then (if (x0 / 65536) ≥ 256 then (if 0 ≤ (((x0 / 65536) / 256) % 256) then (if (((x0 / 65536) / 256) % 256) < 256 then (some (wrap64 ((wrap64 ((wrap64 (x2 + 16)) + 8)) + (wrap64 (bt (⟨#[0, 1, 2, 2, 3, 3, 3, 3, 4, 4, 4, 4, 4, 4, 4, 4, 5, 5, 5, 5, 5, 5, 5, 5, 5, 5, 5, 5, 5, 5, 5, 5, 6, 6, 6, 6, 6, 6, 6, 6, 6, 6, 6, 6, 6, 6, 6, 6, 6, 6, 6, 6, 6, 6, 6, 6, 6, 6, 6, 6, 6, 6, 6, 6, 7, 7, 7, 7, 7, 7, 7, 7, 7, 7, 7, 7, 7, 7, 7, 7, 7, 7, 7, 7, 7, 7, 7, 7, 7, 7, 7, 7, 7, 7, 7, 7, 7, 7, 7, 7, 7, 7, 7, 7, 7, 7, 7, 7, 7, 7, 7, 7, 7, 7, 7, 7, 7, 7, 7, 7, 7, 7, 7, 7, 7, 7, 7, 7, 8, 8, 8, 8, 8, 8, 8, 8, 8, 8, 8, 8, 8, 8, 8, 8, 8, 8, 8, 8, 8, 8, 8, 8, 8, 8, 8, 8, 8, 8, 8, 8, 8, 8, 8, 8, 8, 8, 8, 8, 8, 8, 8, 8, 8, 8, 8, 8, 8, 8, 8, 8, 8, 8, 8, 8, 8, 8, 8, 8, 8, 8, 8, 8, 8, 8, 8, 8, 8, 8, 8, 8, 8, 8, 8, 8, 8, 8, 8, 8, 8, 8, 8, 8, 8, 8, 8, 8, 8, 8, 8, 8, 8, 8, 8, 8, 8, 8, 8, 8, 8, 8, 8, 8, 8, 8, 8, 8, 8, 8, 8, 8, 8, 8, 8, 8, 8, 8, 8, 8, 8, 8, 8, 8, 8, 8, 8, 8]⟩ : ByteArray) (((x0 / 65536) / 256) % 256)))))) else (none)) else (none)) else (if 0 ≤ ((x0 / 65536) % 256) then (if ((x0 / 65536) % 256) < 256 then (some (wrap64 ((wrap64 (x2 + 16)) + (wrap64 (bt (⟨#[0, 1, 2, 2, 3, 3, 3, 3, 4, 4, 4, 4, 4, 4, 4, 4, 5, 5, 5, 5, 5, 5, 5, 5, 5, 5, 5, 5, 5, 5, 5, 5, 6, 6, 6, 6, 6, 6, 6, 6, 6, 6, 6, 6, 6, 6, 6, 6, 6, 6, 6, 6, 6, 6, 6, 6, 6, 6, 6, 6, 6, 6, 6, 6, 7, 7, 7, 7, 7, 7, 7, 7, 7, 7, 7, 7, 7, 7, 7, 7, 7, 7, 7, 7, 7, 7, 7, 7, 7, 7, 7, 7, 7, 7, 7, 7, 7, 7, 7, 7, 7, 7, 7, 7, 7, 7, 7, 7, 7, 7, 7, 7, 7, 7, 7, 7, 7, 7, 7, 7, 7, 7, 7, 7, 7, 7, 7, 7, 8, 8, 8, 8, 8, 8, 8, 8, 8, 8, 8, 8, 8, 8, 8, 8, 8, 8, 8, 8, 8, 8, 8, 8, 8, 8, 8, 8, 8, 8, 8, 8, 8, 8, 8, 8, 8, 8, 8, 8, 8, 8, 8, 8, 8, 8, 8, 8, 8, 8, 8, 8, 8, 8, 8, 8, 8, 8, 8, 8, 8, 8, 8, 8, 8, 8, 8, 8, 8, 8, 8, 8, 8, 8, 8, 8, 8, 8, 8, 8, 8, 8, 8, 8, 8, 8, 8, 8, 8, 8, 8, 8, 8, 8, 8, 8, 8, 8, 8, 8, 8, 8, 8, 8, 8, 8, 8, 8, 8, 8, 8, 8, 8, 8, 8, 8, 8, 8, 8, 8, 8, 8, 8, 8, 8, 8, 8, 8]⟩ : ByteArray) ((x0 / 65536) % 256)))))) else (none)) else (none))) else (if x0 ≥ 256 then (if 0 ≤ ((x0 / 256) % 256) then (if ((x0 / 256) % 256) < 256 then (some (wrap64 ((wrap64 (x2 + 8)) + (wrap64 (bt (⟨#[0, 1, 2, 2, 3, 3, 3, 3, 4, 4, 4, 4, 4, 4, 4, 4, 5, 5, 5, 5, 5, 5, 5, 5, 5, 5, 5, 5, 5, 5, 5, 5, 6, 6, 6, 6, 6, 6, 6, 6, 6, 6, 6, 6, 6, 6, 6, 6, 6, 6, 6, 6, 6, 6, 6, 6, 6, 6, 6, 6, 6, 6, 6, 6, 7, 7, 7, 7, 7, 7, 7, 7, 7, 7, 7, 7, 7, 7, 7, 7, 7, 7, 7, 7, 7, 7, 7, 7, 7, 7, 7, 7, 7, 7, 7, 7, 7, 7, 7, 7, 7, 7, 7, 7, 7, 7, 7, 7, 7, 7, 7, 7, 7, 7, 7, 7, 7, 7, 7, 7, 7, 7, 7, 7, 7, 7, 7, 7, 8, 8, 8, 8, 8, 8, 8, 8, 8, 8, 8, 8, 8, 8, 8, 8, 8, 8, 8, 8, 8, 8, 8, 8, 8, 8, 8, 8, 8, 8, 8, 8, 8, 8, 8, 8, 8, 8, 8, 8, 8, 8, 8, 8, 8, 8, 8, 8, 8, 8, 8, 8, 8, 8, 8, 8, 8, 8, 8, 8, 8, 8, 8, 8, 8, 8, 8, 8, 8, 8, 8, 8, 8, 8, 8, 8, 8, 8, 8, 8, 8, 8, 8, 8, 8, 8, 8, 8, 8, 8, 8, 8, 8, 8, 8, 8, 8, 8, 8, 8, 8, 8, 8, 8, 8, 8, 8, 8, 8, 8, 8, 8, 8, 8, 8, 8, 8, 8, 8, 8, 8, 8, 8, 8, 8, 8, 8, 8]⟩ : ByteArray) ((x0 / 256) % 256)))))) else (none)) else (none)) else (if 0 ≤ ((x0) % 256) then (if ((x0) % 256) < 256 then (some (wrap64 (x2 + (wrap64 (bt (⟨#[0, 1, 2, 2, 3, 3, 3, 3, 4, 4, 4, 4, 4, 4, 4, 4, 5, 5, 5, 5, 5, 5, 5, 5, 5, 5, 5, 5, 5, 5, 5, 5, 6, 6, 6, 6, 6, 6, 6, 6, 6, 6, 6, 6, 6, 6, 6, 6, 6, 6, 6, 6, 6, 6, 6, 6, 6, 6, 6, 6, 6, 6, 6, 6, 7, 7, 7, 7, 7, 7, 7, 7, 7, 7, 7, 7, 7, 7, 7, 7, 7, 7, 7, 7, 7, 7, 7, 7, 7, 7, 7, 7, 7, 7, 7, 7, 7, 7, 7, 7, 7, 7, 7, 7, 7, 7, 7, 7, 7, 7, 7, 7, 7, 7, 7, 7, 7, 7, 7, 7, 7, 7, 7, 7, 7, 7, 7, 7, 8, 8, 8, 8, 8, 8, 8, 8, 8, 8, 8, 8, 8, 8, 8, 8, 8, 8, 8, 8, 8, 8, 8, 8, 8, 8, 8, 8, 8, 8, 8, 8, 8, 8, 8, 8, 8, 8, 8, 8, 8, 8, 8, 8, 8, 8, 8, 8, 8, 8, 8, 8, 8, 8, 8, 8, 8, 8, 8, 8, 8, 8, 8, 8, 8, 8, 8, 8, 8, 8, 8, 8, 8, 8, 8, 8, 8, 8, 8, 8, 8, 8, 8, 8, 8, 8, 8, 8, 8, 8, 8, 8, 8, 8, 8, 8, 8, 8, 8, 8, 8, 8, 8, 8, 8, 8, 8, 8, 8, 8, 8, 8, 8, 8, 8, 8, 8, 8, 8, 8, 8, 8, 8, 8, 8, 8, 8, 8]⟩ : ByteArray) ((x0) % 256)))))) else (none)) else (none)))
def bits_Len64.f (k : Nat) (a0 : Int) : Option (Int) := if a0 ≥ 4294967296 then (bits_Len64.j0 k (a0 / 4294967296) 32) else (bits_Len64.j0 k a0 0)
theorem bits_Len64.mono_l : ∀ k, (∀ y0 y1, LeO (bits_Len64.j0 k y0 y1) (bits_Len64.j0 (k + 1) y0 y1))
 | 0 => fun _ _ r h => by simp [bits_Len64.j0] at h
 | k + 1 => by
  have ih0 := bits_Len64.mono_l k
  ·
   intro y0 y1
   unfold bits_Len64.j0
   repeat' first
   | (with_reducible exact ih0 _ _)
   | (with_reducible exact LeO.refl _)
   | (with_reducible exact LeO.none _)
   | (with_reducible refine LeO.ite ?_ ?_)
   | (with_reducible refine LeO.bind ?_ (fun _ => ?_))
   | exact ih0 _ _
   | exact LeO.none _
   | refine LeO.ite ?_ ?_
   | refine LeO.bind ?_ (fun _ => ?_)
theorem bits_Len64.mono : ∀ a0 k, LeO (bits_Len64.f k a0) (bits_Len64.f (k + 1) a0) := by
 intro a0 k
 have ih0 := bits_Len64.mono_l k
 unfold bits_Len64.f
 repeat' first
   | (with_reducible exact ih0 _ _)
   | (with_reducible exact LeO.refl _)
   | (with_reducible exact LeO.none _)
   | (with_reducible refine LeO.ite ?_ ?_)
   | (with_reducible refine LeO.bind ?_ (fun _ => ?_))
   | exact ih0 _ _
   | exact LeO.none _
   | refine LeO.ite ?_ ?_
   | refine LeO.bind ?_ (fun _ => ?_)
set_option maxHeartbeats 8000000 in
set_option maxRecDepth 100000 in
theorem bits_Len64.calls (k : Nat) (a0 : Int) (r : Int) (w : World) (h : bits_Len64.f k a0 = some r) :
  Calls Try.prog 77 #[.int .u64 a0] w fun e w' => e = .returned (.int .i64 r) ∧ Drawn0 w w' := by
 have H : (if a0 ≥ 4294967296 then (bits_Len64.j0 k (a0 / 4294967296) 32) else (bits_Len64.j0 k a0 0)) = some r := h
 clear h
 have HC2 := Aside0.mk H
 clear H
 go_enter Try.func77, Try.ntmps77
 go_upto_if 4 with (fail)
 go_cut [0, 2] (fun v0 v2 wc => ∃ (kq : Nat) (x0_1 : Int) (x2_1 : Int), v0 = .int .u64 x0_1 ∧ v2 = .int .i64 x2_1 ∧ Aside0 (bits_Len64.j0 kq x0_1 x2_1 = some r) ∧ Aside0 (kq ≤ k) ∧ Drawn0 w wc)
 case first =>
  have H := HC2.out
  clear HC2
  by_cases c3 : a0 ≥ 4294967296
  ·
   rw [if_pos c3] at H
   have c3b0 : decide (4294967296 ≤ a0) = true := decide_eq_true c3
   clear c3
   (first | rw [c3b0] | (simp only [i64_w, i32_w]; rw [c3b0]) | skip)
   have H' := Aside0.mk H
   clear H
   go_wp2
   go_meet
   case rel => exact ⟨_, (a0 / 4294967296), (32), (by first | rfl | (simp; done) | (simp [*]; done)), (by first | rfl | (simp; done) | (simp [*]; done)), H', ⟨by first | omega | exact Nat.le_refl _⟩, by repeat (first | exact Drawn0.refl _ | apply Drawn0.step)⟩
  ·
   rw [if_neg c3] at H
   have c3b0 : decide (4294967296 ≤ a0) = false := decide_eq_false c3
   clear c3
   (first | rw [c3b0] | (simp only [i64_w, i32_w]; rw [c3b0]) | skip)
   have H' := Aside0.mk H
   clear H
   go_wp2
   go_meet
   case rel => exact ⟨_, (a0), (0), (by first | rfl | (simp; done) | (simp [*]; done)), (by first | rfl | (simp; done) | (simp [*]; done)), H', ⟨by first | omega | exact Nat.le_refl _⟩, by repeat (first | exact Drawn0.refl _ | apply Drawn0.step)⟩
 case rest =>
  clear HC2
  try clear p2
  try clear c3
  try clear c3b0
  obtain ⟨kq, x0_1, x2_1, rfl, rfl, HA, HJ1, ⟨mc1, rfl⟩⟩ := hcut
  cases kq with
  | zero => exact absurd HA.out (by simp [bits_Len64.j0])
  | succ kj1 =>
   have H := HA.out
   clear HA
   simp only [bits_Len64.j0] at H
   by_cases c4 : x0_1 ≥ 65536
   ·
    rw [if_pos c4] at H
    have c4b0 : decide (65536 ≤ x0_1) = true := decide_eq_true c4
    clear c4
    by_cases c5 : (x0_1 / 65536) ≥ 256
    ·
     rw [if_pos c5] at H
     have c5b0 : decide (256 ≤ (x0_1 / 65536)) = true := decide_eq_true c5
     clear c5
     obtain ⟨ji6, hji6⟩ : ∃ j_ : Int, (((x0_1 / 65536) / 256) % 256) = j_ := ⟨_, rfl⟩
     replace H : (if 0 ≤ (ji6) then (if (ji6) < 256 then (some (wrap64 ((wrap64 ((wrap64 (x2_1 + 16)) + 8)) + (wrap64 (bt (⟨#[0, 1, 2, 2, 3, 3, 3, 3, 4, 4, 4, 4, 4, 4, 4, 4, 5, 5, 5, 5, 5, 5, 5, 5, 5, 5, 5, 5, 5, 5, 5, 5, 6, 6, 6, 6, 6, 6, 6, 6, 6, 6, 6, 6, 6, 6, 6, 6, 6, 6, 6, 6, 6, 6, 6, 6, 6, 6, 6, 6, 6, 6, 6, 6, 7, 7, 7, 7, 7, 7, 7, 7, 7, 7, 7, 7, 7, 7, 7, 7, 7, 7, 7, 7, 7, 7, 7, 7, 7, 7, 7, 7, 7, 7, 7, 7, 7, 7, 7, 7, 7, 7, 7, 7, 7, 7, 7, 7, 7, 7, 7, 7, 7, 7, 7, 7, 7, 7, 7, 7, 7, 7, 7, 7, 7, 7, 7, 7, 8, 8, 8, 8, 8, 8, 8, 8, 8, 8, 8, 8, 8, 8, 8, 8, 8, 8, 8, 8, 8, 8, 8, 8, 8, 8, 8, 8, 8, 8, 8, 8, 8, 8, 8, 8, 8, 8, 8, 8, 8, 8, 8, 8, 8, 8, 8, 8, 8, 8, 8, 8, 8, 8, 8, 8, 8, 8, 8, 8, 8, 8, 8, 8, 8, 8, 8, 8, 8, 8, 8, 8, 8, 8, 8, 8, 8, 8, 8, 8, 8, 8, 8, 8, 8, 8, 8, 8, 8, 8, 8, 8, 8, 8, 8, 8, 8, 8, 8, 8, 8, 8, 8, 8, 8, 8, 8, 8, 8, 8, 8, 8, 8, 8, 8, 8, 8, 8, 8, 8, 8, 8, 8, 8, 8, 8, 8, 8]⟩ : ByteArray) (ji6)))))) else (none)) else (none)) = some r := by first | (rw [hji6] at H; exact H) | (simp only [hji6] at H ⊢; exact H)
     by_cases c7 : 0 ≤ (ji6)
     ·
      rw [if_pos c7] at H
      have c7b0 : decide (0 ≤ (ji6)) = true := decide_eq_true c7
      clear c7
      by_cases c8 : (ji6) < 256
      ·
       rw [if_pos c8] at H
       have c8b0 : decide ((ji6) < 256) = true := decide_eq_true c8
       clear c8
       obtain rfl := Option.some.inj H
       have p9 : 0 ≤ ((ji6) : Int) := of_decide_eq_true (by first | (with_reducible assumption) | assumption)
       have q9 : (ji6) < (256 : Int) := of_decide_eq_true (by first | (with_reducible assumption) | assumption)
       have hx9 := bt_at (⟨#[0, 1, 2, 2, 3, 3, 3, 3, 4, 4, 4, 4, 4, 4, 4, 4, 5, 5, 5, 5, 5, 5, 5, 5, 5, 5, 5, 5, 5, 5, 5, 5, 6, 6, 6, 6, 6, 6, 6, 6, 6, 6, 6, 6, 6, 6, 6, 6, 6, 6, 6, 6, 6, 6, 6, 6, 6, 6, 6, 6, 6, 6, 6, 6, 7, 7, 7, 7, 7, 7, 7, 7, 7, 7, 7, 7, 7, 7, 7, 7, 7, 7, 7, 7, 7, 7, 7, 7, 7, 7, 7, 7, 7, 7, 7, 7, 7, 7, 7, 7, 7, 7, 7, 7, 7, 7, 7, 7, 7, 7, 7, 7, 7, 7, 7, 7, 7, 7, 7, 7, 7, 7, 7, 7, 7, 7, 7, 7, 8, 8, 8, 8, 8, 8, 8, 8, 8, 8, 8, 8, 8, 8, 8, 8, 8, 8, 8, 8, 8, 8, 8, 8, 8, 8, 8, 8, 8, 8, 8, 8, 8, 8, 8, 8, 8, 8, 8, 8, 8, 8, 8, 8, 8, 8, 8, 8, 8, 8, 8, 8, 8, 8, 8, 8, 8, 8, 8, 8, 8, 8, 8, 8, 8, 8, 8, 8, 8, 8, 8, 8, 8, 8, 8, 8, 8, 8, 8, 8, 8, 8, 8, 8, 8, 8, 8, 8, 8, 8, 8, 8, 8, 8, 8, 8, 8, 8, 8, 8, 8, 8, 8, 8, 8, 8, 8, 8, 8, 8, 8, 8, 8, 8, 8, 8, 8, 8, 8, 8, 8, 8, 8, 8, 8, 8, 8, 8]⟩ : ByteArray) (ji6)
       replace p9 := eq_true p9
       replace q9 := eq_true q9
       go_wp2
       go_ret
       exact ⟨by first | rfl | (simp; done) | (simp only [← hji6] <;> (first | rfl | simp)) | (simp [*]; done), by repeat (first | exact Drawn0.refl _ | apply Drawn0.step)⟩
      ·
       rw [if_neg c8] at H
       exact absurd H (by simp)
     ·
      rw [if_neg c7] at H
      exact absurd H (by simp)
    ·
     rw [if_neg c5] at H
     have c5b0 : decide (256 ≤ (x0_1 / 65536)) = false := decide_eq_false c5
     clear c5
     obtain ⟨ji10, hji10⟩ : ∃ j_ : Int, ((x0_1 / 65536) % 256) = j_ := ⟨_, rfl⟩
     replace H : (if 0 ≤ (ji10) then (if (ji10) < 256 then (some (wrap64 ((wrap64 (x2_1 + 16)) + (wrap64 (bt (⟨#[0, 1, 2, 2, 3, 3, 3, 3, 4, 4, 4, 4, 4, 4, 4, 4, 5, 5, 5, 5, 5, 5, 5, 5, 5, 5, 5, 5, 5, 5, 5, 5, 6, 6, 6, 6, 6, 6, 6, 6, 6, 6, 6, 6, 6, 6, 6, 6, 6, 6, 6, 6, 6, 6, 6, 6, 6, 6, 6, 6, 6, 6, 6, 6, 7, 7, 7, 7, 7, 7, 7, 7, 7, 7, 7, 7, 7, 7, 7, 7, 7, 7, 7, 7, 7, 7, 7, 7, 7, 7, 7, 7, 7, 7, 7, 7, 7, 7, 7, 7, 7, 7, 7, 7, 7, 7, 7, 7, 7, 7, 7, 7, 7, 7, 7, 7, 7, 7, 7, 7, 7, 7, 7, 7, 7, 7, 7, 7, 8, 8, 8, 8, 8, 8, 8, 8, 8, 8, 8, 8, 8, 8, 8, 8, 8, 8, 8, 8, 8, 8, 8, 8, 8, 8, 8, 8, 8, 8, 8, 8, 8, 8, 8, 8, 8, 8, 8, 8, 8, 8, 8, 8, 8, 8, 8, 8, 8, 8, 8, 8, 8, 8, 8, 8, 8, 8, 8, 8, 8, 8, 8, 8, 8, 8, 8, 8, 8, 8, 8, 8, 8, 8, 8, 8, 8, 8, 8, 8, 8, 8, 8, 8, 8, 8, 8, 8, 8, 8, 8, 8, 8, 8, 8, 8, 8, 8, 8, 8, 8, 8, 8, 8, 8, 8, 8, 8, 8, 8, 8, 8, 8, 8, 8, 8, 8, 8, 8, 8, 8, 8, 8, 8, 8, 8, 8, 8]⟩ : ByteArray) (ji10)))))) else (none)) else (none)) = some r := by first | (rw [hji10] at H; exact H) | (simp only [hji10] at H ⊢; exact H)
     by_cases c11 : 0 ≤ (ji10)
     ·
      rw [if_pos c11] at H
      have c11b0 : decide (0 ≤ (ji10)) = true := decide_eq_true c11
      clear c11
      by_cases c12 : (ji10) < 256
      ·
       rw [if_pos c12] at H
       have c12b0 : decide ((ji10) < 256) = true := decide_eq_true c12
       clear c12
       obtain rfl := Option.some.inj H
       have p13 : 0 ≤ ((ji10) : Int) := of_decide_eq_true (by first | (with_reducible assumption) | assumption)
       have q13 : (ji10) < (256 : Int) := of_decide_eq_true (by first | (with_reducible assumption) | assumption)
       have hx13 := bt_at (⟨#[0, 1, 2, 2, 3, 3, 3, 3, 4, 4, 4, 4, 4, 4, 4, 4, 5, 5, 5, 5, 5, 5, 5, 5, 5, 5, 5, 5, 5, 5, 5, 5, 6, 6, 6, 6, 6, 6, 6, 6, 6, 6, 6, 6, 6, 6, 6, 6, 6, 6, 6, 6, 6, 6, 6, 6, 6, 6, 6, 6, 6, 6, 6, 6, 7, 7, 7, 7, 7, 7, 7, 7, 7, 7, 7, 7, 7, 7, 7, 7, 7, 7, 7, 7, 7, 7, 7, 7, 7, 7, 7, 7, 7, 7, 7, 7, 7, 7, 7, 7, 7, 7, 7, 7, 7, 7, 7, 7, 7, 7, 7, 7, 7, 7, 7, 7, 7, 7, 7, 7, 7, 7, 7, 7, 7, 7, 7, 7, 8, 8, 8, 8, 8, 8, 8, 8, 8, 8, 8, 8, 8, 8, 8, 8, 8, 8, 8, 8, 8, 8, 8, 8, 8, 8, 8, 8, 8, 8, 8, 8, 8, 8, 8, 8, 8, 8, 8, 8, 8, 8, 8, 8, 8, 8, 8, 8, 8, 8, 8, 8, 8, 8, 8, 8, 8, 8, 8, 8, 8, 8, 8, 8, 8, 8, 8, 8, 8, 8, 8, 8, 8, 8, 8, 8, 8, 8, 8, 8, 8, 8, 8, 8, 8, 8, 8, 8, 8, 8, 8, 8, 8, 8, 8, 8, 8, 8, 8, 8, 8, 8, 8, 8, 8, 8, 8, 8, 8, 8, 8, 8, 8, 8, 8, 8, 8, 8, 8, 8, 8, 8, 8, 8, 8, 8, 8, 8]⟩ : ByteArray) (ji10)
       replace p13 := eq_true p13
       replace q13 := eq_true q13
       go_wp2
       go_ret
       exact ⟨by first | rfl | (simp; done) | (simp only [← hji10] <;> (first | rfl | simp)) | (simp [*]; done), by repeat (first | exact Drawn0.refl _ | apply Drawn0.step)⟩
      ·
       rw [if_neg c12] at H
       exact absurd H (by simp)
     ·
      rw [if_neg c11] at H
      exact absurd H (by simp)
   ·
    rw [if_neg c4] at H
    have c4b0 : decide (65536 ≤ x0_1) = false := decide_eq_false c4
    clear c4
    by_cases c14 : x0_1 ≥ 256
    ·
     rw [if_pos c14] at H
     have c14b0 : decide (256 ≤ x0_1) = true := decide_eq_true c14
     clear c14
     obtain ⟨ji15, hji15⟩ : ∃ j_ : Int, ((x0_1 / 256) % 256) = j_ := ⟨_, rfl⟩
     replace H : (if 0 ≤ (ji15) then (if (ji15) < 256 then (some (wrap64 ((wrap64 (x2_1 + 8)) + (wrap64 (bt (⟨#[0, 1, 2, 2, 3, 3, 3, 3, 4, 4, 4, 4, 4, 4, 4, 4, 5, 5, 5, 5, 5, 5, 5, 5, 5, 5, 5, 5, 5, 5, 5, 5, 6, 6, 6, 6, 6, 6, 6, 6, 6, 6, 6, 6, 6, 6, 6, 6, 6, 6, 6, 6, 6, 6, 6, 6, 6, 6, 6, 6, 6, 6, 6, 6, 7, 7, 7, 7, 7, 7, 7, 7, 7, 7, 7, 7, 7, 7, 7, 7, 7, 7, 7, 7, 7, 7, 7, 7, 7, 7, 7, 7, 7, 7, 7, 7, 7, 7, 7, 7, 7, 7, 7, 7, 7, 7, 7, 7, 7, 7, 7, 7, 7, 7, 7, 7, 7, 7, 7, 7, 7, 7, 7, 7, 7, 7, 7, 7, 8, 8, 8, 8, 8, 8, 8, 8, 8, 8, 8, 8, 8, 8, 8, 8, 8, 8, 8, 8, 8, 8, 8, 8, 8, 8, 8, 8, 8, 8, 8, 8, 8, 8, 8, 8, 8, 8, 8, 8, 8, 8, 8, 8, 8, 8, 8, 8, 8, 8, 8, 8, 8, 8, 8, 8, 8, 8, 8, 8, 8, 8, 8, 8, 8, 8, 8, 8, 8, 8, 8, 8, 8, 8, 8, 8, 8, 8, 8, 8, 8, 8, 8, 8, 8, 8, 8, 8, 8, 8, 8, 8, 8, 8, 8, 8, 8, 8, 8, 8, 8, 8, 8, 8, 8, 8, 8, 8, 8, 8, 8, 8, 8, 8, 8, 8, 8, 8, 8, 8, 8, 8, 8, 8, 8, 8, 8, 8]⟩ : ByteArray) (ji15)))))) else (none)) else (none)) = some r := by first | (rw [hji15] at H; exact H) | (simp only [hji15] at H ⊢; exact H)
     by_cases c16 : 0 ≤ (ji15)
     ·
      rw [if_pos c16] at H
      have c16b0 : decide (0 ≤ (ji15)) = true := decide_eq_true c16
      clear c16
      by_cases c17 : (ji15) < 256
      ·
       rw [if_pos c17] at H
       have c17b0 : decide ((ji15) < 256) = true := decide_eq_true c17
       clear c17
       obtain rfl := Option.some.inj H
       have p18 : 0 ≤ ((ji15) : Int) := of_decide_eq_true (by first | (with_reducible assumption) | assumption)
       have q18 : (ji15) < (256 : Int) := of_decide_eq_true (by first | (with_reducible assumption) | assumption)
       have hx18 := bt_at (⟨#[0, 1, 2, 2, 3, 3, 3, 3, 4, 4, 4, 4, 4, 4, 4, 4, 5, 5, 5, 5, 5, 5, 5, 5, 5, 5, 5, 5, 5, 5, 5, 5, 6, 6, 6, 6, 6, 6, 6, 6, 6, 6, 6, 6, 6, 6, 6, 6, 6, 6, 6, 6, 6, 6, 6, 6, 6, 6, 6, 6, 6, 6, 6, 6, 7, 7, 7, 7, 7, 7, 7, 7, 7, 7, 7, 7, 7, 7, 7, 7, 7, 7, 7, 7, 7, 7, 7, 7, 7, 7, 7, 7, 7, 7, 7, 7, 7, 7, 7, 7, 7, 7, 7, 7, 7, 7, 7, 7, 7, 7, 7, 7, 7, 7, 7, 7, 7, 7, 7, 7, 7, 7, 7, 7, 7, 7, 7, 7, 8, 8, 8, 8, 8, 8, 8, 8, 8, 8, 8, 8, 8, 8, 8, 8, 8, 8, 8, 8, 8, 8, 8, 8, 8, 8, 8, 8, 8, 8, 8, 8, 8, 8, 8, 8, 8, 8, 8, 8, 8, 8, 8, 8, 8, 8, 8, 8, 8, 8, 8, 8, 8, 8, 8, 8, 8, 8, 8, 8, 8, 8, 8, 8, 8, 8, 8, 8, 8, 8, 8, 8, 8, 8, 8, 8, 8, 8, 8, 8, 8, 8, 8, 8, 8, 8, 8, 8, 8, 8, 8, 8, 8, 8, 8, 8, 8, 8, 8, 8, 8, 8, 8, 8, 8, 8, 8, 8, 8, 8, 8, 8, 8, 8, 8, 8, 8, 8, 8, 8, 8, 8, 8, 8, 8, 8, 8, 8]⟩ : ByteArray) (ji15)
       replace p18 := eq_true p18
       replace q18 := eq_true q18
       go_wp2
       go_ret
       exact ⟨by first | rfl | (simp; done) | (simp only [← hji15] <;> (first | rfl | simp)) | (simp [*]; done), by repeat (first | exact Drawn0.refl _ | apply Drawn0.step)⟩
      ·
       rw [if_neg c17] at H
       exact absurd H (by simp)
     ·
      rw [if_neg c16] at H
      exact absurd H (by simp)
    ·
     rw [if_neg c14] at H
     have c14b0 : decide (256 ≤ x0_1) = false := decide_eq_false c14
     clear c14
     obtain ⟨ji19, hji19⟩ : ∃ j_ : Int, ((x0_1) % 256) = j_ := ⟨_, rfl⟩
     replace H : (if 0 ≤ (ji19) then (if (ji19) < 256 then (some (wrap64 (x2_1 + (wrap64 (bt (⟨#[0, 1, 2, 2, 3, 3, 3, 3, 4, 4, 4, 4, 4, 4, 4, 4, 5, 5, 5, 5, 5, 5, 5, 5, 5, 5, 5, 5, 5, 5, 5, 5, 6, 6, 6, 6, 6, 6, 6, 6, 6, 6, 6, 6, 6, 6, 6, 6, 6, 6, 6, 6, 6, 6, 6, 6, 6, 6, 6, 6, 6, 6, 6, 6, 7, 7, 7, 7, 7, 7, 7, 7, 7, 7, 7, 7, 7, 7, 7, 7, 7, 7, 7, 7, 7, 7, 7, 7, 7, 7, 7, 7, 7, 7, 7, 7, 7, 7, 7, 7, 7, 7, 7, 7, 7, 7, 7, 7, 7, 7, 7, 7, 7, 7, 7, 7, 7, 7, 7, 7, 7, 7, 7, 7, 7, 7, 7, 7, 8, 8, 8, 8, 8, 8, 8, 8, 8, 8, 8, 8, 8, 8, 8, 8, 8, 8, 8, 8, 8, 8, 8, 8, 8, 8, 8, 8, 8, 8, 8, 8, 8, 8, 8, 8, 8, 8, 8, 8, 8, 8, 8, 8, 8, 8, 8, 8, 8, 8, 8, 8, 8, 8, 8, 8, 8, 8, 8, 8, 8, 8, 8, 8, 8, 8, 8, 8, 8, 8, 8, 8, 8, 8, 8, 8, 8, 8, 8, 8, 8, 8, 8, 8, 8, 8, 8, 8, 8, 8, 8, 8, 8, 8, 8, 8, 8, 8, 8, 8, 8, 8, 8, 8, 8, 8, 8, 8, 8, 8, 8, 8, 8, 8, 8, 8, 8, 8, 8, 8, 8, 8, 8, 8, 8, 8, 8, 8]⟩ : ByteArray) (ji19)))))) else (none)) else (none)) = some r := by first | (rw [hji19] at H; exact H) | (simp only [hji19] at H ⊢; exact H)
     by_cases c20 : 0 ≤ (ji19)
     ·
      rw [if_pos c20] at H
      have c20b0 : decide (0 ≤ (ji19)) = true := decide_eq_true c20
      clear c20
      by_cases c21 : (ji19) < 256
      ·
       rw [if_pos c21] at H
       have c21b0 : decide ((ji19) < 256) = true := decide_eq_true c21
       clear c21
       obtain rfl := Option.some.inj H
       have p22 : 0 ≤ ((ji19) : Int) := of_decide_eq_true (by first | (with_reducible assumption) | assumption)
       have q22 : (ji19) < (256 : Int) := of_decide_eq_true (by first | (with_reducible assumption) | assumption)
       have hx22 := bt_at (⟨#[0, 1, 2, 2, 3, 3, 3, 3, 4, 4, 4, 4, 4, 4, 4, 4, 5, 5, 5, 5, 5, 5, 5, 5, 5, 5, 5, 5, 5, 5, 5, 5, 6, 6, 6, 6, 6, 6, 6, 6, 6, 6, 6, 6, 6, 6, 6, 6, 6, 6, 6, 6, 6, 6, 6, 6, 6, 6, 6, 6, 6, 6, 6, 6, 7, 7, 7, 7, 7, 7, 7, 7, 7, 7, 7, 7, 7, 7, 7, 7, 7, 7, 7, 7, 7, 7, 7, 7, 7, 7, 7, 7, 7, 7, 7, 7, 7, 7, 7, 7, 7, 7, 7, 7, 7, 7, 7, 7, 7, 7, 7, 7, 7, 7, 7, 7, 7, 7, 7, 7, 7, 7, 7, 7, 7, 7, 7, 7, 8, 8, 8, 8, 8, 8, 8, 8, 8, 8, 8, 8, 8, 8, 8, 8, 8, 8, 8, 8, 8, 8, 8, 8, 8, 8, 8, 8, 8, 8, 8, 8, 8, 8, 8, 8, 8, 8, 8, 8, 8, 8, 8, 8, 8, 8, 8, 8, 8, 8, 8, 8, 8, 8, 8, 8, 8, 8, 8, 8, 8, 8, 8, 8, 8, 8, 8, 8, 8, 8, 8, 8, 8, 8, 8, 8, 8, 8, 8, 8, 8, 8, 8, 8, 8, 8, 8, 8, 8, 8, 8, 8, 8, 8, 8, 8, 8, 8, 8, 8, 8, 8, 8, 8, 8, 8, 8, 8, 8, 8, 8, 8, 8, 8, 8, 8, 8, 8, 8, 8, 8, 8, 8, 8, 8, 8, 8, 8]⟩ : ByteArray) (ji19)
       replace p22 := eq_true p22
       replace q22 := eq_true q22
       go_wp2
       go_ret
       exact ⟨by first | rfl | (simp; done) | (simp only [← hji19] <;> (first | rfl | simp)) | (simp [*]; done), by repeat (first | exact Drawn0.refl _ | apply Drawn0.step)⟩
      ·
       rw [if_neg c21] at H
       exact absurd H (by simp)
     ·
      rw [if_neg c20] at H
      exact absurd H (by simp)

end Go.Proofs.Ytbiohdgeclokmaa.P
