-- made by a program of this work (wip/mkprint.py, wip/mp.sh) out of the translation
import Derived.Test.YtbiohdgeclokmaaPx0
import Derived.Test.YtbiohdgeclokmaaPx2
import Derived.Test.YtbiohdgeclokmaaPx4
import Derived.Test.YtbiohdgeclokmaaPx5
namespace Go.Proofs.Ytbiohdgeclokmaa.P
open Go.RowKit Go.Proofs.YtbiohdgeclokmaaW.PrintWords Go.Proofs.YtbiohdgeclokmaaW.PrintLast Go.Proofs.YtbiohdgeclokmaaW.PrintMore
attribute [local go_sem] max2_int min2_int max_two min_two max_three min_three max_four min_four   -- for this text's walks alone
set_option linter.unusedVariables false
set_option linter.unusedSimpArgs false

/-! ### interval_Tighten: function 53 -/
mutual
def interval_Tighten.j2 : Nat → Int → Int → Int → Option (Int × Int × Int × Int × Bool)
 | 0, _, _, _ => none
 | k + 1, x0, x9, x10 => if x9 > x10 then (some (0, 0, 0, 0, false)) else ((bits_Signed.f x0 x9).bind fun t188 => ((bits_Signed.f x0 x10).bind fun t189 => (some (x9, x10, t188, t189, true))))
def interval_Tighten.j0 : Nat → Int → Int → Int → Int → Bool → Int → Int → Int → Int → Option (Int × Int × Int × Int × Bool)
 | 0, _, _, _, _, _, _, _, _, _ => none
 | k + 1, x0, x8, x9, x10, x28, x182000, x182001, x182002, x182003 => if x28 = true then (if x182003 < 0 then (some (0, 0, 0, 0, false)) else (interval_Tighten.j2 k x0 (mx x9 (IntKind.u64.wrap (mx x182002 0))) (mn x10 (IntKind.u64.wrap (x182003))))) else (if x182000 > x8 then (interval_Tighten.j1 k x0 x8 x9 x10 true x182000 x182001 x182002 x182003) else (interval_Tighten.j1 k x0 x8 x9 x10 (decide (x182003 < 0)) x182000 x182001 x182002 x182003))
def interval_Tighten.j1 : Nat → Int → Int → Int → Int → Bool → Int → Int → Int → Int → Option (Int × Int × Int × Int × Bool)
 | 0, _, _, _, _, _, _, _, _, _ => none
 | k + 1, x0, x8, x9, x10, x53, x182000, x182001, x182002, x182003 => if x53 = true then ((bits_From.f x0 x182002).bind fun t186 => (if x182003 < 0 then ((bits_From.f x0 x182003).bind fun t187 => (interval_Tighten.j2 k x0 (mx (mx x9 t186) (IntKind.u64.wrap (x8 + 1))) (mn x10 t187))) else (interval_Tighten.j2 k x0 (mx (mx x9 t186) (IntKind.u64.wrap (x8 + 1))) x10))) else (some (x182000, x182001, x182002, x182003, true))
end
def interval_Tighten.f (k : Nat) (a0 : Int) (a1_0 : Int) (a1_1 : Int) (a1_2 : Int) (a1_3 : Int) : Option (Int × Int × Int × Int × Bool) := (interval_Valid.f a0 a1_0 a1_1 a1_2 a1_3).bind fun t183 => (if t183 = true then ((interval_ends.f a0).bind fun bt184 => (if a1_1 ≤ (IntKind.u64.wrap (bt184.2)) then (interval_Tighten.j0 k a0 (IntKind.u64.wrap (bt184.2)) a1_0 a1_1 true a1_0 a1_1 a1_2 a1_3) else (interval_Tighten.j0 k a0 (IntKind.u64.wrap (bt184.2)) a1_0 a1_1 (decide (a1_2 ≥ 0)) a1_0 a1_1 a1_2 a1_3))) else (some (0, 0, 0, 0, false)))
theorem interval_Tighten.mono_l : ∀ k, (∀ y0 y1 y2, LeO (interval_Tighten.j2 k y0 y1 y2) (interval_Tighten.j2 (k + 1) y0 y1 y2)) ∧ (∀ y0 y1 y2 y3 y4 y5 y6 y7 y8, LeO (interval_Tighten.j0 k y0 y1 y2 y3 y4 y5 y6 y7 y8) (interval_Tighten.j0 (k + 1) y0 y1 y2 y3 y4 y5 y6 y7 y8)) ∧ (∀ y0 y1 y2 y3 y4 y5 y6 y7 y8, LeO (interval_Tighten.j1 k y0 y1 y2 y3 y4 y5 y6 y7 y8) (interval_Tighten.j1 (k + 1) y0 y1 y2 y3 y4 y5 y6 y7 y8))
 | 0 => ⟨fun _ _ _ r h => by simp [interval_Tighten.j2] at h, fun _ _ _ _ _ _ _ _ _ r h => by simp [interval_Tighten.j0] at h, fun _ _ _ _ _ _ _ _ _ r h => by simp [interval_Tighten.j1] at h⟩
 | k + 1 => by
  obtain ⟨ih0, ih1, ih2⟩ := interval_Tighten.mono_l k
  refine ⟨?_, ?_, ?_⟩
  ·
   intro y0 y1 y2
   unfold interval_Tighten.j2
   repeat' first
   | (with_reducible exact ih0 _ _ _)
   | (with_reducible exact ih1 _ _ _ _ _ _ _ _ _)
   | (with_reducible exact ih2 _ _ _ _ _ _ _ _ _)
   | (with_reducible exact LeO.refl _)
   | (with_reducible exact LeO.none _)
   | (with_reducible refine LeO.ite ?_ ?_)
   | (with_reducible refine LeO.bind ?_ (fun _ => ?_))
   | exact ih0 _ _ _
   | exact ih1 _ _ _ _ _ _ _ _ _
   | exact ih2 _ _ _ _ _ _ _ _ _
   | exact LeO.none _
   | refine LeO.ite ?_ ?_
   | refine LeO.bind ?_ (fun _ => ?_)
  ·
   intro y0 y1 y2 y3 y4 y5 y6 y7 y8
   unfold interval_Tighten.j0
   repeat' first
   | (with_reducible exact ih0 _ _ _)
   | (with_reducible exact ih1 _ _ _ _ _ _ _ _ _)
   | (with_reducible exact ih2 _ _ _ _ _ _ _ _ _)
   | (with_reducible exact LeO.refl _)
   | (with_reducible exact LeO.none _)
   | (with_reducible refine LeO.ite ?_ ?_)
   | (with_reducible refine LeO.bind ?_ (fun _ => ?_))
   | exact ih0 _ _ _
   | exact ih1 _ _ _ _ _ _ _ _ _
   | exact ih2 _ _ _ _ _ _ _ _ _
   | exact LeO.none _
   | refine LeO.ite ?_ ?_
   | refine LeO.bind ?_ (fun _ => ?_)
  ·
   intro y0 y1 y2 y3 y4 y5 y6 y7 y8
   unfold interval_Tighten.j1
   repeat' first
   | (with_reducible exact ih0 _ _ _)
   | (with_reducible exact ih1 _ _ _ _ _ _ _ _ _)
   | (with_reducible exact ih2 _ _ _ _ _ _ _ _ _)
   | (with_reducible exact LeO.refl _)
   | (with_reducible exact LeO.none _)
   | (with_reducible refine LeO.ite ?_ ?_)
   | (with_reducible refine LeO.bind ?_ (fun _ => ?_))
   | exact ih0 _ _ _
   | exact ih1 _ _ _ _ _ _ _ _ _
   | exact ih2 _ _ _ _ _ _ _ _ _
   | exact LeO.none _
   | refine LeO.ite ?_ ?_
   | refine LeO.bind ?_ (fun _ => ?_)
theorem interval_Tighten.mono : ∀ a0 a1 a2 a3 a4 k, LeO (interval_Tighten.f k a0 a1 a2 a3 a4) (interval_Tighten.f (k + 1) a0 a1 a2 a3 a4) := by
 intro a0 a1 a2 a3 a4 k
 obtain ⟨ih0, ih1, ih2⟩ := interval_Tighten.mono_l k
 unfold interval_Tighten.f
 repeat' first
   | (with_reducible exact ih0 _ _ _)
   | (with_reducible exact ih1 _ _ _ _ _ _ _ _ _)
   | (with_reducible exact ih2 _ _ _ _ _ _ _ _ _)
   | (with_reducible exact LeO.refl _)
   | (with_reducible exact LeO.none _)
   | (with_reducible refine LeO.ite ?_ ?_)
   | (with_reducible refine LeO.bind ?_ (fun _ => ?_))
   | exact ih0 _ _ _
   | exact ih1 _ _ _ _ _ _ _ _ _
   | exact ih2 _ _ _ _ _ _ _ _ _
   | exact LeO.none _
   | refine LeO.ite ?_ ?_
   | refine LeO.bind ?_ (fun _ => ?_)
set_option maxHeartbeats 8000000 in
set_option maxRecDepth 100000 in
theorem interval_Tighten.calls (k : Nat) (a0 : Int) (a1_0 : Int) (a1_1 : Int) (a1_2 : Int) (a1_3 : Int) (r1 : Int) (r2 : Int) (r3 : Int) (r4 : Int) (r5 : Bool) (w : World) (h : interval_Tighten.f k a0 a1_0 a1_1 a1_2 a1_3 = some (r1, r2, r3, r4, r5)) :
  Calls Try.prog 53 #[.int .i64 a0, .agg #[.int .u64 a1_0, .int .u64 a1_1, .int .i64 a1_2, .int .i64 a1_3]] w fun e w' => e = .returned (.tuple #[.agg #[.int .u64 r1, .int .u64 r2, .int .i64 r3, .int .i64 r4], .bool r5]) ∧ Below w.heap.size w w' := by
 have hu30 := Try.underlying30
 have HB := Aside0.mk (Below.refl w.heap.size w)
 have H : ((interval_Valid.f a0 a1_0 a1_1 a1_2 a1_3).bind fun t183 => (if t183 = true then ((interval_ends.f a0).bind fun bt184 => (if a1_1 ≤ (IntKind.u64.wrap (bt184.2)) then (interval_Tighten.j0 k a0 (IntKind.u64.wrap (bt184.2)) a1_0 a1_1 true a1_0 a1_1 a1_2 a1_3) else (interval_Tighten.j0 k a0 (IntKind.u64.wrap (bt184.2)) a1_0 a1_1 (decide (a1_2 ≥ 0)) a1_0 a1_1 a1_2 a1_3))) else (some (0, 0, 0, 0, false)))) = some (r1, r2, r3, r4, r5) := h
 clear h
 replace H := Option.bind_eq_some_iff.mp H
 obtain ⟨t183, A30, H⟩ := H
 replace H : (if t183 = true then ((interval_ends.f a0).bind fun bt184 => (if a1_1 ≤ (IntKind.u64.wrap (bt184.2)) then (interval_Tighten.j0 k a0 (IntKind.u64.wrap (bt184.2)) a1_0 a1_1 true a1_0 a1_1 a1_2 a1_3) else (interval_Tighten.j0 k a0 (IntKind.u64.wrap (bt184.2)) a1_0 a1_1 (decide (a1_2 ≥ 0)) a1_0 a1_1 a1_2 a1_3))) else (some (0, 0, 0, 0, false))) = some (r1, r2, r3, r4, r5) := H
 have A3 := Aside0.mk A30
 clear A30
 by_cases c4 : t183 = true
 ·
  subst c4
  have H1 : ((interval_ends.f a0).bind fun bt184 => (if a1_1 ≤ (IntKind.u64.wrap (bt184.2)) then (interval_Tighten.j0 k a0 (IntKind.u64.wrap (bt184.2)) a1_0 a1_1 true a1_0 a1_1 a1_2 a1_3) else (interval_Tighten.j0 k a0 (IntKind.u64.wrap (bt184.2)) a1_0 a1_1 (decide (a1_2 ≥ 0)) a1_0 a1_1 a1_2 a1_3))) = some (r1, r2, r3, r4, r5) := by rw [if_pos rfl] at H; exact H
  clear H
  have H := H1
  clear H1
  replace H := Option.bind_eq_some_iff.mp H
  obtain ⟨⟨t184, t185⟩, A50, H⟩ := H
  replace H : (if a1_1 ≤ (IntKind.u64.wrap (t185)) then (interval_Tighten.j0 k a0 (IntKind.u64.wrap (t185)) a1_0 a1_1 true a1_0 a1_1 a1_2 a1_3) else (interval_Tighten.j0 k a0 (IntKind.u64.wrap (t185)) a1_0 a1_1 (decide (a1_2 ≥ 0)) a1_0 a1_1 a1_2 a1_3)) = some (r1, r2, r3, r4, r5) := H
  have A5 := Aside0.mk A50
  clear A50
  have HC6 := Aside0.mk H
  clear H
  go_enter Try.func53, Try.ntmps53
  go_upto_block 0 with (first | ((with_reducible refine gate_dst (N := 3) rfl ?_); refine box_event ?hg (N := 3) ?hd (cs := #[.int .u64 a1_0, .int .u64 a1_1, .int .i64 a1_2, .int .i64 a1_3]) (t := 30) ?hr ?_; (case hd => rfl); (case hg => rfl); (case hr => first | (go_simp; done) | (go_simp; rfl)); intro gb181 hg w7 hbox hb; have n0_ := bsB HB.out hb; have n1_ := Aside0.mk (hbox); have n2_ := szB hg HB.out; have n3_ := szB hg HB.out; clear HB; have HB := n0_; have BK181 := n1_; have GW181 := n2_; have GE181 := n3_; clear n0_ n1_ n2_ n3_; clear hb hbox hg) | ((with_reducible refine gate_dst (N := 4) rfl ?_); refine box_event ?hg (N := 4) ?hd (cs := #[.int .u64 0, .int .u64 0, .int .i64 0, .int .i64 0]) (t := 30) ?hr ?_; (case hd => rfl); (case hg => rfl); (case hr => first | (go_simp; done) | (go_simp; rfl)); intro gb182 hg w8 hbox hb; have n0_ := bkB BK181.out hb; have n1_ := bsB HB.out hb; have n2_ := Aside0.mk (hbox); have n3_ := szB hg HB.out; have n4_ := szB hg HB.out; have n5_ := Aside0.mk ((by rw [hg]; exact Nat.ne_of_lt (blk_lt (g := gb181) (o := .cells #[.int .u64 a1_0, .int .u64 a1_1, .int .i64 a1_2, .int .i64 a1_3] 30 (0, 0)) (by exact bfL BK181.out)) : gb181 ≠ gb182)); have n6_ := Aside0.mk ((by rw [hg]; exact Nat.ne_of_gt (blk_lt (g := gb181) (o := .cells #[.int .u64 a1_0, .int .u64 a1_1, .int .i64 a1_2, .int .i64 a1_3] 30 (0, 0)) (by exact bfL BK181.out)) : gb182 ≠ gb181)); clear BK181; clear HB; have BK181 := n0_; have HB := n1_; have BK182 := n2_; have GW182 := n3_; have GE182 := n4_; have NB181_182 := n5_; have NB182_181 := n6_; clear n0_ n1_ n2_ n3_ n4_ n5_ n6_; clear hb hbox hg; have hnb9 := NB181_182.out; have hnc9 := NB182_181.out; have hcz10_0 : w8.cell? ⟨gb181, 0, none⟩ = some (.int .u64 a1_0) := (blk_cell BK181.out 0).trans rfl; have hcz10_1 : w8.cell? ⟨gb181, 1, none⟩ = some (.int .u64 a1_1) := (blk_cell BK181.out 1).trans rfl; have hcz10_2 : w8.cell? ⟨gb181, 2, none⟩ = some (.int .i64 a1_2) := (blk_cell BK181.out 2).trans rfl; have hcz10_3 : w8.cell? ⟨gb181, 3, none⟩ = some (.int .i64 a1_3) := (blk_cell BK181.out 3).trans rfl; have hfz10_0 := blk_frozen BK181.out 0; have hfz10_1 := blk_frozen BK181.out 1; have hfz10_2 := blk_frozen BK181.out 2; have hfz10_3 := blk_frozen BK181.out 3) | (go_at_call 21; (with_reducible refine (interval_Valid.calls a0 a1_0 a1_1 a1_2 a1_3 true _ A3.out).mono ?_); rintro e w11 ⟨rfl, hb⟩; have n0_ := bkB BK181.out hb; have n1_ := bkB BK182.out hb; have n2_ := bsB HB.out hb; clear BK181; clear BK182; clear HB; have BK181 := n0_; have BK182 := n1_; have HB := n2_; clear n0_ n1_ n2_; (try clear hb); (try clear hb2); (try clear hk); (try clear hi)) | (go_at_call 55; (with_reducible refine (interval_ends.calls a0 t184 t185 _ A5.out).mono ?_); rintro e w' ⟨rfl, ⟨nd, rfl⟩⟩; (try first | exact ⟨rfl, _, World.drewN_drewN _ _ _⟩ | exact ⟨rfl, _, Eq.trans (World.drewN_drewN _ _ _) (congrArg (World.drewN _) (Nat.add_assoc _ _ _))⟩); have hcz12_0 : w11.cell? ⟨gb181, 0, none⟩ = some (.int .u64 a1_0) := (blk_cell BK181.out 0).trans rfl; have hcz12_1 : w11.cell? ⟨gb181, 1, none⟩ = some (.int .u64 a1_1) := (blk_cell BK181.out 1).trans rfl; have hcz12_2 : w11.cell? ⟨gb181, 2, none⟩ = some (.int .i64 a1_2) := (blk_cell BK181.out 2).trans rfl; have hcz12_3 : w11.cell? ⟨gb181, 3, none⟩ = some (.int .i64 a1_3) := (blk_cell BK181.out 3).trans rfl; have hfz12_0 := blk_frozen BK181.out 0; have hfz12_1 := blk_frozen BK181.out 1; have hfz12_2 := blk_frozen BK181.out 2; have hfz12_3 := blk_frozen BK181.out 3))
  repeat (go_quiet (first | ((with_reducible refine gate_dst (N := 3) rfl ?_); refine box_event ?hg (N := 3) ?hd (cs := #[.int .u64 a1_0, .int .u64 a1_1, .int .i64 a1_2, .int .i64 a1_3]) (t := 30) ?hr ?_; (case hd => rfl); (case hg => rfl); (case hr => first | (go_simp; done) | (go_simp; rfl)); intro gb181 hg w7 hbox hb; have n0_ := bsB HB.out hb; have n1_ := Aside0.mk (hbox); have n2_ := szB hg HB.out; have n3_ := szB hg HB.out; clear HB; have HB := n0_; have BK181 := n1_; have GW181 := n2_; have GE181 := n3_; clear n0_ n1_ n2_ n3_; clear hb hbox hg) | ((with_reducible refine gate_dst (N := 4) rfl ?_); refine box_event ?hg (N := 4) ?hd (cs := #[.int .u64 0, .int .u64 0, .int .i64 0, .int .i64 0]) (t := 30) ?hr ?_; (case hd => rfl); (case hg => rfl); (case hr => first | (go_simp; done) | (go_simp; rfl)); intro gb182 hg w8 hbox hb; have n0_ := bkB BK181.out hb; have n1_ := bsB HB.out hb; have n2_ := Aside0.mk (hbox); have n3_ := szB hg HB.out; have n4_ := szB hg HB.out; have n5_ := Aside0.mk ((by rw [hg]; exact Nat.ne_of_lt (blk_lt (g := gb181) (o := .cells #[.int .u64 a1_0, .int .u64 a1_1, .int .i64 a1_2, .int .i64 a1_3] 30 (0, 0)) (by exact bfL BK181.out)) : gb181 ≠ gb182)); have n6_ := Aside0.mk ((by rw [hg]; exact Nat.ne_of_gt (blk_lt (g := gb181) (o := .cells #[.int .u64 a1_0, .int .u64 a1_1, .int .i64 a1_2, .int .i64 a1_3] 30 (0, 0)) (by exact bfL BK181.out)) : gb182 ≠ gb181)); clear BK181; clear HB; have BK181 := n0_; have HB := n1_; have BK182 := n2_; have GW182 := n3_; have GE182 := n4_; have NB181_182 := n5_; have NB182_181 := n6_; clear n0_ n1_ n2_ n3_ n4_ n5_ n6_; clear hb hbox hg; have hnb9 := NB181_182.out; have hnc9 := NB182_181.out; have hcz10_0 : w8.cell? ⟨gb181, 0, none⟩ = some (.int .u64 a1_0) := (blk_cell BK181.out 0).trans rfl; have hcz10_1 : w8.cell? ⟨gb181, 1, none⟩ = some (.int .u64 a1_1) := (blk_cell BK181.out 1).trans rfl; have hcz10_2 : w8.cell? ⟨gb181, 2, none⟩ = some (.int .i64 a1_2) := (blk_cell BK181.out 2).trans rfl; have hcz10_3 : w8.cell? ⟨gb181, 3, none⟩ = some (.int .i64 a1_3) := (blk_cell BK181.out 3).trans rfl; have hfz10_0 := blk_frozen BK181.out 0; have hfz10_1 := blk_frozen BK181.out 1; have hfz10_2 := blk_frozen BK181.out 2; have hfz10_3 := blk_frozen BK181.out 3) | (go_at_call 21; (with_reducible refine (interval_Valid.calls a0 a1_0 a1_1 a1_2 a1_3 true _ A3.out).mono ?_); rintro e w11 ⟨rfl, hb⟩; have n0_ := bkB BK181.out hb; have n1_ := bkB BK182.out hb; have n2_ := bsB HB.out hb; clear BK181; clear BK182; clear HB; have BK181 := n0_; have BK182 := n1_; have HB := n2_; clear n0_ n1_ n2_; (try clear hb); (try clear hb2); (try clear hk); (try clear hi)) | (go_at_call 55; (with_reducible refine (interval_ends.calls a0 t184 t185 _ A5.out).mono ?_); rintro e w' ⟨rfl, ⟨nd, rfl⟩⟩; (try first | exact ⟨rfl, _, World.drewN_drewN _ _ _⟩ | exact ⟨rfl, _, Eq.trans (World.drewN_drewN _ _ _) (congrArg (World.drewN _) (Nat.add_assoc _ _ _))⟩); have hcz12_0 : w11.cell? ⟨gb181, 0, none⟩ = some (.int .u64 a1_0) := (blk_cell BK181.out 0).trans rfl; have hcz12_1 : w11.cell? ⟨gb181, 1, none⟩ = some (.int .u64 a1_1) := (blk_cell BK181.out 1).trans rfl; have hcz12_2 : w11.cell? ⟨gb181, 2, none⟩ = some (.int .i64 a1_2) := (blk_cell BK181.out 2).trans rfl; have hcz12_3 : w11.cell? ⟨gb181, 3, none⟩ = some (.int .i64 a1_3) := (blk_cell BK181.out 3).trans rfl; have hfz12_0 := blk_frozen BK181.out 0; have hfz12_1 := blk_frozen BK181.out 1; have hfz12_2 := blk_frozen BK181.out 2; have hfz12_3 := blk_frozen BK181.out 3)); go_upto_block 0 with (first | ((with_reducible refine gate_dst (N := 3) rfl ?_); refine box_event ?hg (N := 3) ?hd (cs := #[.int .u64 a1_0, .int .u64 a1_1, .int .i64 a1_2, .int .i64 a1_3]) (t := 30) ?hr ?_; (case hd => rfl); (case hg => rfl); (case hr => first | (go_simp; done) | (go_simp; rfl)); intro gb181 hg w7 hbox hb; have n0_ := bsB HB.out hb; have n1_ := Aside0.mk (hbox); have n2_ := szB hg HB.out; have n3_ := szB hg HB.out; clear HB; have HB := n0_; have BK181 := n1_; have GW181 := n2_; have GE181 := n3_; clear n0_ n1_ n2_ n3_; clear hb hbox hg) | ((with_reducible refine gate_dst (N := 4) rfl ?_); refine box_event ?hg (N := 4) ?hd (cs := #[.int .u64 0, .int .u64 0, .int .i64 0, .int .i64 0]) (t := 30) ?hr ?_; (case hd => rfl); (case hg => rfl); (case hr => first | (go_simp; done) | (go_simp; rfl)); intro gb182 hg w8 hbox hb; have n0_ := bkB BK181.out hb; have n1_ := bsB HB.out hb; have n2_ := Aside0.mk (hbox); have n3_ := szB hg HB.out; have n4_ := szB hg HB.out; have n5_ := Aside0.mk ((by rw [hg]; exact Nat.ne_of_lt (blk_lt (g := gb181) (o := .cells #[.int .u64 a1_0, .int .u64 a1_1, .int .i64 a1_2, .int .i64 a1_3] 30 (0, 0)) (by exact bfL BK181.out)) : gb181 ≠ gb182)); have n6_ := Aside0.mk ((by rw [hg]; exact Nat.ne_of_gt (blk_lt (g := gb181) (o := .cells #[.int .u64 a1_0, .int .u64 a1_1, .int .i64 a1_2, .int .i64 a1_3] 30 (0, 0)) (by exact bfL BK181.out)) : gb182 ≠ gb181)); clear BK181; clear HB; have BK181 := n0_; have HB := n1_; have BK182 := n2_; have GW182 := n3_; have GE182 := n4_; have NB181_182 := n5_; have NB182_181 := n6_; clear n0_ n1_ n2_ n3_ n4_ n5_ n6_; clear hb hbox hg; have hnb9 := NB181_182.out; have hnc9 := NB182_181.out; have hcz10_0 : w8.cell? ⟨gb181, 0, none⟩ = some (.int .u64 a1_0) := (blk_cell BK181.out 0).trans rfl; have hcz10_1 : w8.cell? ⟨gb181, 1, none⟩ = some (.int .u64 a1_1) := (blk_cell BK181.out 1).trans rfl; have hcz10_2 : w8.cell? ⟨gb181, 2, none⟩ = some (.int .i64 a1_2) := (blk_cell BK181.out 2).trans rfl; have hcz10_3 : w8.cell? ⟨gb181, 3, none⟩ = some (.int .i64 a1_3) := (blk_cell BK181.out 3).trans rfl; have hfz10_0 := blk_frozen BK181.out 0; have hfz10_1 := blk_frozen BK181.out 1; have hfz10_2 := blk_frozen BK181.out 2; have hfz10_3 := blk_frozen BK181.out 3) | (go_at_call 21; (with_reducible refine (interval_Valid.calls a0 a1_0 a1_1 a1_2 a1_3 true _ A3.out).mono ?_); rintro e w11 ⟨rfl, hb⟩; have n0_ := bkB BK181.out hb; have n1_ := bkB BK182.out hb; have n2_ := bsB HB.out hb; clear BK181; clear BK182; clear HB; have BK181 := n0_; have BK182 := n1_; have HB := n2_; clear n0_ n1_ n2_; (try clear hb); (try clear hb2); (try clear hk); (try clear hi)) | (go_at_call 55; (with_reducible refine (interval_ends.calls a0 t184 t185 _ A5.out).mono ?_); rintro e w' ⟨rfl, ⟨nd, rfl⟩⟩; (try first | exact ⟨rfl, _, World.drewN_drewN _ _ _⟩ | exact ⟨rfl, _, Eq.trans (World.drewN_drewN _ _ _) (congrArg (World.drewN _) (Nat.add_assoc _ _ _))⟩); have hcz12_0 : w11.cell? ⟨gb181, 0, none⟩ = some (.int .u64 a1_0) := (blk_cell BK181.out 0).trans rfl; have hcz12_1 : w11.cell? ⟨gb181, 1, none⟩ = some (.int .u64 a1_1) := (blk_cell BK181.out 1).trans rfl; have hcz12_2 : w11.cell? ⟨gb181, 2, none⟩ = some (.int .i64 a1_2) := (blk_cell BK181.out 2).trans rfl; have hcz12_3 : w11.cell? ⟨gb181, 3, none⟩ = some (.int .i64 a1_3) := (blk_cell BK181.out 3).trans rfl; have hfz12_0 := blk_frozen BK181.out 0; have hfz12_1 := blk_frozen BK181.out 1; have hfz12_2 := blk_frozen BK181.out 2; have hfz12_3 := blk_frozen BK181.out 3)))
  (try simp only [Act.put, List.setIfInBounds_toArray, List.set_cons_zero, List.set_cons_succ])
  go_cut [9, 10] (fun v9 v10 wc => ∃ (kq : Nat) (x9_5 : Int) (x10_5 : Int) (x183000_5 : Int) (x183001_5 : Int) (x183002_5 : Int) (x183003_5 : Int), v9 = .int .u64 x9_5 ∧ v10 = .int .u64 x10_5 ∧ Aside0 (interval_Tighten.j2 kq a0 x9_5 x10_5 = some (r1, r2, r3, r4, r5)) ∧ Aside0 (kq ≤ k) ∧ Aside0 (wc.heap[gb181]? = some (.cells #[.int .u64 a1_0, .int .u64 a1_1, .int .i64 a1_2, .int .i64 a1_3] 30 (0, 0))) ∧ Aside0 (wc.heap[gb182]? = some (.cells #[.int .u64 x183000_5, .int .u64 x183001_5, .int .i64 x183002_5, .int .i64 x183003_5] 30 (0, 0))) ∧ Aside0 (Below w.heap.size w wc))
  case first =>
   have H := HC6.out
   clear HC6
   have HC13 := Aside0.mk H
   clear H
   go_upto_region 7 with (fail)
   repeat (go_quiet (fail); go_upto_region 7 with (fail))
   go_cut [28] (fun v28 wc => ∃ (kq : Nat) (x28_12 : Bool), v28 = .bool x28_12 ∧ Aside0 (interval_Tighten.j0 kq a0 (IntKind.u64.wrap (t185)) a1_0 a1_1 x28_12 a1_0 a1_1 a1_2 a1_3 = some (r1, r2, r3, r4, r5)) ∧ Aside0 (kq ≤ k) ∧ Aside0 (wc.heap[gb181]? = some (.cells #[.int .u64 a1_0, .int .u64 a1_1, .int .i64 a1_2, .int .i64 a1_3] 30 (0, 0))) ∧ Aside0 (wc.heap[gb182]? = some (.cells #[.int .u64 0, .int .u64 0, .int .i64 0, .int .i64 0] 30 (0, 0))) ∧ Aside0 (Below w.heap.size w wc))
   case first =>
    have H := HC13.out
    clear HC13
    by_cases c14 : a1_1 ≤ (IntKind.u64.wrap (t185))
    ·
     rw [if_pos c14] at H
     have c14b0 : decide (a1_1 ≤ (IntKind.u64.wrap (t185))) = true := decide_eq_true c14
     clear c14
     (first | rw [c14b0] | (simp only [i64_w, i32_w]; rw [c14b0]) | skip)
     have H' := Aside0.mk H
     clear H
     have hnb15 := NB181_182.out
     have hnc15 := NB182_181.out
     have hcz16_0 : w11.cell? ⟨gb181, 0, none⟩ = some (.int .u64 a1_0) := (blk_cell BK181.out 0).trans rfl
     have hcz16_1 : w11.cell? ⟨gb181, 1, none⟩ = some (.int .u64 a1_1) := (blk_cell BK181.out 1).trans rfl
     have hcz16_2 : w11.cell? ⟨gb181, 2, none⟩ = some (.int .i64 a1_2) := (blk_cell BK181.out 2).trans rfl
     have hcz16_3 : w11.cell? ⟨gb181, 3, none⟩ = some (.int .i64 a1_3) := (blk_cell BK181.out 3).trans rfl
     have hfz16_0 := blk_frozen BK181.out 0
     have hfz16_1 := blk_frozen BK181.out 1
     have hfz16_2 := blk_frozen BK181.out 2
     have hfz16_3 := blk_frozen BK181.out 3
     go_wp2
     repeat (go_quiet (fail); try go_wp2)
     go_meet
     case rel => exact ⟨_, (true), (by first | rfl | (simp; done) | (simp [*]; done)), H', ⟨by first | omega | exact Nat.le_refl _⟩, ⟨bkL BK181.out⟩, ⟨bkL BK182.out⟩, ⟨bsL HB.out⟩⟩
    ·
     rw [if_neg c14] at H
     have c14b0 : decide (a1_1 ≤ (IntKind.u64.wrap (t185))) = false := decide_eq_false c14
     clear c14
     (first | rw [c14b0] | (simp only [i64_w, i32_w]; rw [c14b0]) | skip)
     have H' := Aside0.mk H
     clear H
     have hnb17 := NB181_182.out
     have hnc17 := NB182_181.out
     have hcz18_0 : w11.cell? ⟨gb181, 0, none⟩ = some (.int .u64 a1_0) := (blk_cell BK181.out 0).trans rfl
     have hcz18_1 : w11.cell? ⟨gb181, 1, none⟩ = some (.int .u64 a1_1) := (blk_cell BK181.out 1).trans rfl
     have hcz18_2 : w11.cell? ⟨gb181, 2, none⟩ = some (.int .i64 a1_2) := (blk_cell BK181.out 2).trans rfl
     have hcz18_3 : w11.cell? ⟨gb181, 3, none⟩ = some (.int .i64 a1_3) := (blk_cell BK181.out 3).trans rfl
     have hfz18_0 := blk_frozen BK181.out 0
     have hfz18_1 := blk_frozen BK181.out 1
     have hfz18_2 := blk_frozen BK181.out 2
     have hfz18_3 := blk_frozen BK181.out 3
     go_wp2
     repeat (go_quiet (fail); try go_wp2)
     go_meet
     case rel => exact ⟨_, (decide (a1_2 ≥ 0)), (by first | rfl | (simp; done) | (simp [*]; done)), H', ⟨by first | omega | exact Nat.le_refl _⟩, ⟨bkL BK181.out⟩, ⟨bkL BK182.out⟩, ⟨bsL HB.out⟩⟩
   case rest =>
    clear HC13
    try clear c1
    try clear p2
    try clear c4
    try clear c5
    try clear c9
    try clear c14
    try clear c14b0
    try clear c15
    try clear c17
    try clear hcz10_0
    try clear hcz10_1
    try clear hcz10_2
    try clear hcz10_3
    try clear hcz12_0
    try clear hcz12_1
    try clear hcz12_2
    try clear hcz12_3
    try clear hcz16_0
    try clear hcz16_1
    try clear hcz16_2
    try clear hcz16_3
    try clear hcz18_0
    try clear hcz18_1
    try clear hcz18_2
    try clear hcz18_3
    try clear hfz10_0
    try clear hfz10_1
    try clear hfz10_2
    try clear hfz10_3
    try clear hfz12_0
    try clear hfz12_1
    try clear hfz12_2
    try clear hfz12_3
    try clear hfz16_0
    try clear hfz16_1
    try clear hfz16_2
    try clear hfz16_3
    try clear hfz18_0
    try clear hfz18_1
    try clear hfz18_2
    try clear hfz18_3
    obtain ⟨kq, x28_12, rfl, HA, HJ12, BK181, BK182, HB⟩ := hcut
    cases kq with
    | zero => exact absurd HA.out (by simp [interval_Tighten.j0])
    | succ kj12 =>
     have H := HA.out
     clear HA
     simp only [interval_Tighten.j0] at H
     by_cases c19 : x28_12 = true
     ·
      subst c19
      have H1 : (if a1_3 < 0 then (some (0, 0, 0, 0, false)) else (interval_Tighten.j2 kj12 a0 (mx a1_0 (IntKind.u64.wrap (mx a1_2 0))) (mn a1_1 (IntKind.u64.wrap (a1_3))))) = some (r1, r2, r3, r4, r5) := by rw [if_pos rfl] at H; exact H
      clear H
      have H := H1
      clear H1
      by_cases c20 : a1_3 < 0
      ·
       rw [if_pos c20] at H
       have c20b0 : decide (a1_3 < 0) = true := decide_eq_true c20
       clear c20
       simp only [Option.some.injEq, Prod.mk.injEq] at H
       obtain ⟨rfl, rfl, rfl, rfl, rfl⟩ := H
       have hnb21 := NB181_182.out
       have hnc21 := NB182_181.out
       have hcz22_0 : wc.cell? ⟨gb181, 0, none⟩ = some (.int .u64 a1_0) := (blk_cell BK181.out 0).trans rfl
       have hcz22_1 : wc.cell? ⟨gb181, 1, none⟩ = some (.int .u64 a1_1) := (blk_cell BK181.out 1).trans rfl
       have hcz22_2 : wc.cell? ⟨gb181, 2, none⟩ = some (.int .i64 a1_2) := (blk_cell BK181.out 2).trans rfl
       have hcz22_3 : wc.cell? ⟨gb181, 3, none⟩ = some (.int .i64 a1_3) := (blk_cell BK181.out 3).trans rfl
       have hfz22_0 := blk_frozen BK181.out 0
       have hfz22_1 := blk_frozen BK181.out 1
       have hfz22_2 := blk_frozen BK181.out 2
       have hfz22_3 := blk_frozen BK181.out 3
       have hcz23_0 : wc.cell? ⟨gb182, 0, none⟩ = some (.int .u64 0) := (blk_cell BK182.out 0).trans rfl
       have hcz23_1 : wc.cell? ⟨gb182, 1, none⟩ = some (.int .u64 0) := (blk_cell BK182.out 1).trans rfl
       have hcz23_2 : wc.cell? ⟨gb182, 2, none⟩ = some (.int .i64 0) := (blk_cell BK182.out 2).trans rfl
       have hcz23_3 : wc.cell? ⟨gb182, 3, none⟩ = some (.int .i64 0) := (blk_cell BK182.out 3).trans rfl
       have hfz23_0 := blk_frozen BK182.out 0
       have hfz23_1 := blk_frozen BK182.out 1
       have hfz23_2 := blk_frozen BK182.out 2
       have hfz23_3 := blk_frozen BK182.out 3
       go_wp2
       repeat (go_quiet (fail); try go_wp2)
       refine bodyPost_ret (results_ct rfl _ _ gb182 30 #[.int .u64 0, .int .u64 0, .int .i64 0, .int .i64 0] (0, 0) _ rfl (by (with_reducible repeat (first | refine blk_drewN ?_ _ | refine blk_drew ?_ | refine blk_alloc ?_ _)); refine blk_put (cs := #[.int .u64 0, .int .u64 0, .int .i64 0, .int .i64 0]) ?_ 3 _ rfl; (with_reducible repeat (first | refine blk_drewN ?_ _ | refine blk_drew ?_ | refine blk_alloc ?_ _)); refine blk_put (cs := #[.int .u64 0, .int .u64 0, .int .i64 0, .int .i64 0]) ?_ 2 _ rfl; (with_reducible repeat (first | refine blk_drewN ?_ _ | refine blk_drew ?_ | refine blk_alloc ?_ _)); refine blk_put (cs := #[.int .u64 0, .int .u64 0, .int .i64 0, .int .i64 0]) ?_ 1 _ rfl; (with_reducible repeat (first | refine blk_drewN ?_ _ | refine blk_drew ?_ | refine blk_alloc ?_ _)); refine blk_put (cs := #[.int .u64 0, .int .u64 0, .int .i64 0, .int .i64 0]) ?_ 0 _ rfl; exact bfL BK182.out) Try.underlying30 rfl (by kernel_rfl)) rfl ?_
       exact ⟨by first | rfl | (simp [errW_none, errW_some] <;> rfl) | (simp [*, errW_none, errW_some] <;> rfl), bsL HB.out⟩
      ·
       rw [if_neg c20] at H
       have c20b0 : decide (a1_3 < 0) = false := decide_eq_false c20
       clear c20
       obtain ⟨ji24, hji24⟩ : ∃ j_ : Int, (mx a1_2 0) = j_ := ⟨_, rfl⟩
       replace H : (interval_Tighten.j2 kj12 a0 (mx a1_0 (IntKind.u64.wrap (ji24))) (mn a1_1 (IntKind.u64.wrap (a1_3)))) = some (r1, r2, r3, r4, r5) := by first | (rw [hji24] at H; exact H) | (simp only [hji24] at H ⊢; exact H)
       have hji24_ : (if a1_2 < 0 then 0 else a1_2) = ji24 := hji24
       obtain ⟨ji25, hji25⟩ : ∃ j_ : Int, (mx a1_0 (IntKind.u64.wrap (ji24))) = j_ := ⟨_, rfl⟩
       replace H : (interval_Tighten.j2 kj12 a0 ji25 (mn a1_1 (IntKind.u64.wrap (a1_3)))) = some (r1, r2, r3, r4, r5) := by first | (rw [hji25] at H; exact H) | (simp only [hji25] at H ⊢; exact H)
       have hji25_ : (if a1_0 < (IntKind.u64.wrap (ji24)) then (IntKind.u64.wrap (ji24)) else a1_0) = ji25 := hji25
       obtain ⟨ji26, hji26⟩ : ∃ j_ : Int, (mn a1_1 (IntKind.u64.wrap (a1_3))) = j_ := ⟨_, rfl⟩
       replace H : (interval_Tighten.j2 kj12 a0 ji25 ji26) = some (r1, r2, r3, r4, r5) := by first | (rw [hji26] at H; exact H) | (simp only [hji26] at H ⊢; exact H)
       have hji26_ : (if (IntKind.u64.wrap (a1_3)) < a1_1 then (IntKind.u64.wrap (a1_3)) else a1_1) = ji26 := hji26
       have H' := Aside0.mk H
       clear H
       have hnb27 := NB181_182.out
       have hnc27 := NB182_181.out
       have hcz28_0 : wc.cell? ⟨gb181, 0, none⟩ = some (.int .u64 a1_0) := (blk_cell BK181.out 0).trans rfl
       have hcz28_1 : wc.cell? ⟨gb181, 1, none⟩ = some (.int .u64 a1_1) := (blk_cell BK181.out 1).trans rfl
       have hcz28_2 : wc.cell? ⟨gb181, 2, none⟩ = some (.int .i64 a1_2) := (blk_cell BK181.out 2).trans rfl
       have hcz28_3 : wc.cell? ⟨gb181, 3, none⟩ = some (.int .i64 a1_3) := (blk_cell BK181.out 3).trans rfl
       have hfz28_0 := blk_frozen BK181.out 0
       have hfz28_1 := blk_frozen BK181.out 1
       have hfz28_2 := blk_frozen BK181.out 2
       have hfz28_3 := blk_frozen BK181.out 3
       go_wp2
       repeat (go_quiet (fail); try go_wp2)
       go_meet
       case rel => exact ⟨_, (ji25), (ji26), (0), (0), (0), (0), (by first | rfl | (simp; done) | (simp only [← hji25] <;> (first | rfl | simp)) | (simp [*]; done)), (by first | rfl | (simp; done) | (simp only [← hji26] <;> (first | rfl | simp)) | (simp [*]; done)), H', ⟨by have := HJ12.out; first | omega | exact Nat.le_refl _⟩, ⟨bkL BK181.out⟩, ⟨bkL BK182.out⟩, ⟨bsL HB.out⟩⟩
     ·
      replace c19 := Bool.eq_false_iff.mpr c19
      subst c19
      have H1 : (if a1_0 > (IntKind.u64.wrap (t185)) then (interval_Tighten.j1 kj12 a0 (IntKind.u64.wrap (t185)) a1_0 a1_1 true a1_0 a1_1 a1_2 a1_3) else (interval_Tighten.j1 kj12 a0 (IntKind.u64.wrap (t185)) a1_0 a1_1 (decide (a1_3 < 0)) a1_0 a1_1 a1_2 a1_3)) = some (r1, r2, r3, r4, r5) := by rw [if_neg (show ¬ (false = true) by decide)] at H; exact H
      clear H
      have H := H1
      clear H1
      have HC29 := Aside0.mk H
      clear H
      go_upto_region 11 with (fail)
      repeat (go_quiet (fail); go_upto_region 11 with (fail))
      go_cut [53] (fun v53 wc => ∃ (kq : Nat) (x53_28 : Bool), v53 = .bool x53_28 ∧ Aside0 (interval_Tighten.j1 kq a0 (IntKind.u64.wrap (t185)) a1_0 a1_1 x53_28 a1_0 a1_1 a1_2 a1_3 = some (r1, r2, r3, r4, r5)) ∧ Aside0 (kq ≤ kj12) ∧ Aside0 (wc.heap[gb181]? = some (.cells #[.int .u64 a1_0, .int .u64 a1_1, .int .i64 a1_2, .int .i64 a1_3] 30 (0, 0))) ∧ Aside0 (wc.heap[gb182]? = some (.cells #[.int .u64 0, .int .u64 0, .int .i64 0, .int .i64 0] 30 (0, 0))) ∧ Aside0 (Below w.heap.size w wc))
      case first =>
       have H := HC29.out
       clear HC29
       by_cases c30 : a1_0 > (IntKind.u64.wrap (t185))
       ·
        rw [if_pos c30] at H
        have c30b0 : decide ((IntKind.u64.wrap (t185)) < a1_0) = true := decide_eq_true c30
        clear c30
        (first | rw [c30b0] | (simp only [i64_w, i32_w]; rw [c30b0]) | skip)
        have H' := Aside0.mk H
        clear H
        have hnb31 := NB181_182.out
        have hnc31 := NB182_181.out
        have hcz32_0 : wc.cell? ⟨gb181, 0, none⟩ = some (.int .u64 a1_0) := (blk_cell BK181.out 0).trans rfl
        have hcz32_1 : wc.cell? ⟨gb181, 1, none⟩ = some (.int .u64 a1_1) := (blk_cell BK181.out 1).trans rfl
        have hcz32_2 : wc.cell? ⟨gb181, 2, none⟩ = some (.int .i64 a1_2) := (blk_cell BK181.out 2).trans rfl
        have hcz32_3 : wc.cell? ⟨gb181, 3, none⟩ = some (.int .i64 a1_3) := (blk_cell BK181.out 3).trans rfl
        have hfz32_0 := blk_frozen BK181.out 0
        have hfz32_1 := blk_frozen BK181.out 1
        have hfz32_2 := blk_frozen BK181.out 2
        have hfz32_3 := blk_frozen BK181.out 3
        go_wp2
        repeat (go_quiet (fail); try go_wp2)
        go_meet
        case rel => exact ⟨_, (true), (by first | rfl | (simp; done) | (simp [*]; done)), H', ⟨by have := HJ12.out; first | omega | exact Nat.le_refl _⟩, ⟨bkL BK181.out⟩, ⟨bkL BK182.out⟩, ⟨bsL HB.out⟩⟩
       ·
        rw [if_neg c30] at H
        have c30b0 : decide ((IntKind.u64.wrap (t185)) < a1_0) = false := decide_eq_false c30
        clear c30
        (first | rw [c30b0] | (simp only [i64_w, i32_w]; rw [c30b0]) | skip)
        have H' := Aside0.mk H
        clear H
        have hnb33 := NB181_182.out
        have hnc33 := NB182_181.out
        have hcz34_0 : wc.cell? ⟨gb181, 0, none⟩ = some (.int .u64 a1_0) := (blk_cell BK181.out 0).trans rfl
        have hcz34_1 : wc.cell? ⟨gb181, 1, none⟩ = some (.int .u64 a1_1) := (blk_cell BK181.out 1).trans rfl
        have hcz34_2 : wc.cell? ⟨gb181, 2, none⟩ = some (.int .i64 a1_2) := (blk_cell BK181.out 2).trans rfl
        have hcz34_3 : wc.cell? ⟨gb181, 3, none⟩ = some (.int .i64 a1_3) := (blk_cell BK181.out 3).trans rfl
        have hfz34_0 := blk_frozen BK181.out 0
        have hfz34_1 := blk_frozen BK181.out 1
        have hfz34_2 := blk_frozen BK181.out 2
        have hfz34_3 := blk_frozen BK181.out 3
        go_wp2
        repeat (go_quiet (fail); try go_wp2)
        go_meet
        case rel => exact ⟨_, (decide (a1_3 < 0)), (by first | rfl | (simp; done) | (simp [*]; done)), H', ⟨by have := HJ12.out; first | omega | exact Nat.le_refl _⟩, ⟨bkL BK181.out⟩, ⟨bkL BK182.out⟩, ⟨bsL HB.out⟩⟩
      case rest =>
       clear HC29
       try clear c1
       try clear c2
       try clear p2
       try clear c3
       try clear c4
       try clear c5
       try clear c9
       try clear c14
       try clear c14b0
       try clear c15
       try clear c17
       try clear c19
       try clear c20
       try clear c20b0
       try clear c21
       try clear c27
       try clear c30
       try clear c30b0
       try clear c31
       try clear c33
       try clear hcz10_0
       try clear hcz10_1
       try clear hcz10_2
       try clear hcz10_3
       try clear hcz12_0
       try clear hcz12_1
       try clear hcz12_2
       try clear hcz12_3
       try clear hcz16_0
       try clear hcz16_1
       try clear hcz16_2
       try clear hcz16_3
       try clear hcz18_0
       try clear hcz18_1
       try clear hcz18_2
       try clear hcz18_3
       try clear hcz22_0
       try clear hcz22_1
       try clear hcz22_2
       try clear hcz22_3
       try clear hcz23_0
       try clear hcz23_1
       try clear hcz23_2
       try clear hcz23_3
       try clear hcz28_0
       try clear hcz28_1
       try clear hcz28_2
       try clear hcz28_3
       try clear hcz32_0
       try clear hcz32_1
       try clear hcz32_2
       try clear hcz32_3
       try clear hcz34_0
       try clear hcz34_1
       try clear hcz34_2
       try clear hcz34_3
       try clear hfz10_0
       try clear hfz10_1
       try clear hfz10_2
       try clear hfz10_3
       try clear hfz12_0
       try clear hfz12_1
       try clear hfz12_2
       try clear hfz12_3
       try clear hfz16_0
       try clear hfz16_1
       try clear hfz16_2
       try clear hfz16_3
       try clear hfz18_0
       try clear hfz18_1
       try clear hfz18_2
       try clear hfz18_3
       try clear hfz22_0
       try clear hfz22_1
       try clear hfz22_2
       try clear hfz22_3
       try clear hfz23_0
       try clear hfz23_1
       try clear hfz23_2
       try clear hfz23_3
       try clear hfz28_0
       try clear hfz28_1
       try clear hfz28_2
       try clear hfz28_3
       try clear hfz32_0
       try clear hfz32_1
       try clear hfz32_2
       try clear hfz32_3
       try clear hfz34_0
       try clear hfz34_1
       try clear hfz34_2
       try clear hfz34_3
       try clear p2
       obtain ⟨kq, x53_28, rfl, HA, HJ28, BK181, BK182, HB⟩ := hcut
       cases kq with
       | zero => exact absurd HA.out (by simp [interval_Tighten.j1])
       | succ kj28 =>
        have H := HA.out
        clear HA
        simp only [interval_Tighten.j1] at H
        by_cases c35 : x53_28 = true
        ·
         subst c35
         have H1 : ((bits_From.f a0 a1_2).bind fun t186 => (if a1_3 < 0 then ((bits_From.f a0 a1_3).bind fun t187 => (interval_Tighten.j2 kj28 a0 (mx (mx a1_0 t186) (IntKind.u64.wrap ((IntKind.u64.wrap (t185)) + 1))) (mn a1_1 t187))) else (interval_Tighten.j2 kj28 a0 (mx (mx a1_0 t186) (IntKind.u64.wrap ((IntKind.u64.wrap (t185)) + 1))) a1_1))) = some (r1, r2, r3, r4, r5) := by rw [if_pos rfl] at H; exact H
         clear H
         have H := H1
         clear H1
         replace H := Option.bind_eq_some_iff.mp H
         obtain ⟨t186, A360, H⟩ := H
         replace H : (if a1_3 < 0 then ((bits_From.f a0 a1_3).bind fun t187 => (interval_Tighten.j2 kj28 a0 (mx (mx a1_0 t186) (IntKind.u64.wrap ((IntKind.u64.wrap (t185)) + 1))) (mn a1_1 t187))) else (interval_Tighten.j2 kj28 a0 (mx (mx a1_0 t186) (IntKind.u64.wrap ((IntKind.u64.wrap (t185)) + 1))) a1_1)) = some (r1, r2, r3, r4, r5) := H
         have A36 := Aside0.mk A360
         clear A360
         obtain ⟨ji37, hji37⟩ : ∃ j_ : Int, (mx a1_0 t186) = j_ := ⟨_, rfl⟩
         replace H : (if a1_3 < 0 then ((bits_From.f a0 a1_3).bind fun t187 => (interval_Tighten.j2 kj28 a0 (mx (ji37) (IntKind.u64.wrap ((IntKind.u64.wrap (t185)) + 1))) (mn a1_1 t187))) else (interval_Tighten.j2 kj28 a0 (mx (ji37) (IntKind.u64.wrap ((IntKind.u64.wrap (t185)) + 1))) a1_1)) = some (r1, r2, r3, r4, r5) := by first | (rw [hji37] at H; exact H) | (simp only [hji37] at H ⊢; exact H)
         (try rw [hji37] at A36)
         have hji37_ : (if a1_0 < t186 then t186 else a1_0) = ji37 := hji37
         obtain ⟨ji38, hji38⟩ : ∃ j_ : Int, (mx (ji37) (IntKind.u64.wrap ((IntKind.u64.wrap (t185)) + 1))) = j_ := ⟨_, rfl⟩
         replace H : (if a1_3 < 0 then ((bits_From.f a0 a1_3).bind fun t187 => (interval_Tighten.j2 kj28 a0 ji38 (mn a1_1 t187))) else (interval_Tighten.j2 kj28 a0 ji38 a1_1)) = some (r1, r2, r3, r4, r5) := by first | (rw [hji38] at H; exact H) | (simp only [hji38] at H ⊢; exact H)
         (try rw [hji38] at A36)
         have hji38_ : (if (ji37) < (IntKind.u64.wrap ((IntKind.u64.wrap (t185)) + 1)) then (IntKind.u64.wrap ((IntKind.u64.wrap (t185)) + 1)) else (ji37)) = ji38 := hji38
         by_cases c39 : a1_3 < 0
         ·
          rw [if_pos c39] at H
          have c39b0 : decide (a1_3 < 0) = true := decide_eq_true c39
          clear c39
          replace H := Option.bind_eq_some_iff.mp H
          obtain ⟨t187, A400, H⟩ := H
          replace H : (interval_Tighten.j2 kj28 a0 ji38 (mn a1_1 t187)) = some (r1, r2, r3, r4, r5) := H
          have A40 := Aside0.mk A400
          clear A400
          obtain ⟨ji41, hji41⟩ : ∃ j_ : Int, (mn a1_1 t187) = j_ := ⟨_, rfl⟩
          replace H : (interval_Tighten.j2 kj28 a0 ji38 ji41) = some (r1, r2, r3, r4, r5) := by first | (rw [hji41] at H; exact H) | (simp only [hji41] at H ⊢; exact H)
          (try rw [hji41] at A36)
          (try rw [hji41] at A40)
          have hji41_ : (if t187 < a1_1 then t187 else a1_1) = ji41 := hji41
          have H' := Aside0.mk H
          clear H
          have hnb42 := NB181_182.out
          have hnc42 := NB182_181.out
          have hcz43_0 : wc.cell? ⟨gb181, 0, none⟩ = some (.int .u64 a1_0) := (blk_cell BK181.out 0).trans rfl
          have hcz43_1 : wc.cell? ⟨gb181, 1, none⟩ = some (.int .u64 a1_1) := (blk_cell BK181.out 1).trans rfl
          have hcz43_2 : wc.cell? ⟨gb181, 2, none⟩ = some (.int .i64 a1_2) := (blk_cell BK181.out 2).trans rfl
          have hcz43_3 : wc.cell? ⟨gb181, 3, none⟩ = some (.int .i64 a1_3) := (blk_cell BK181.out 3).trans rfl
          have hfz43_0 := blk_frozen BK181.out 0
          have hfz43_1 := blk_frozen BK181.out 1
          have hfz43_2 := blk_frozen BK181.out 2
          have hfz43_3 := blk_frozen BK181.out 3
          go_wp2_with (first | (go_at_call 121; (with_reducible refine (bits_From.calls a0 a1_2 t186 _ A36.out).mono ?_); rintro e w44 ⟨rfl, hb⟩; replace BK181 := bkB BK181.out hb; replace BK182 := bkB BK182.out hb; replace HB := bsB HB.out hb; (try clear hb); have hcz45_0 : w44.cell? ⟨gb181, 0, none⟩ = some (.int .u64 a1_0) := (blk_cell BK181.out 0).trans rfl; have hcz45_1 : w44.cell? ⟨gb181, 1, none⟩ = some (.int .u64 a1_1) := (blk_cell BK181.out 1).trans rfl; have hcz45_2 : w44.cell? ⟨gb181, 2, none⟩ = some (.int .i64 a1_2) := (blk_cell BK181.out 2).trans rfl; have hcz45_3 : w44.cell? ⟨gb181, 3, none⟩ = some (.int .i64 a1_3) := (blk_cell BK181.out 3).trans rfl; have hfz45_0 := blk_frozen BK181.out 0; have hfz45_1 := blk_frozen BK181.out 1; have hfz45_2 := blk_frozen BK181.out 2; have hfz45_3 := blk_frozen BK181.out 3) | (go_at_call 121; (with_reducible refine (bits_From.calls a0 a1_3 t187 _ A40.out).mono ?_); rintro e w46 ⟨rfl, hb⟩; have n0_ := bkB BK181.out hb; have n1_ := bkB BK182.out hb; have n2_ := bsB HB.out hb; clear BK181; clear BK182; clear HB; have BK181 := n0_; have BK182 := n1_; have HB := n2_; clear n0_ n1_ n2_; (try clear hb); (try clear hb2); (try clear hk); (try clear hi)))
          repeat (go_quiet (first | (go_at_call 121; (with_reducible refine (bits_From.calls a0 a1_2 t186 _ A36.out).mono ?_); rintro e w44 ⟨rfl, hb⟩; replace BK181 := bkB BK181.out hb; replace BK182 := bkB BK182.out hb; replace HB := bsB HB.out hb; (try clear hb); have hcz45_0 : w44.cell? ⟨gb181, 0, none⟩ = some (.int .u64 a1_0) := (blk_cell BK181.out 0).trans rfl; have hcz45_1 : w44.cell? ⟨gb181, 1, none⟩ = some (.int .u64 a1_1) := (blk_cell BK181.out 1).trans rfl; have hcz45_2 : w44.cell? ⟨gb181, 2, none⟩ = some (.int .i64 a1_2) := (blk_cell BK181.out 2).trans rfl; have hcz45_3 : w44.cell? ⟨gb181, 3, none⟩ = some (.int .i64 a1_3) := (blk_cell BK181.out 3).trans rfl; have hfz45_0 := blk_frozen BK181.out 0; have hfz45_1 := blk_frozen BK181.out 1; have hfz45_2 := blk_frozen BK181.out 2; have hfz45_3 := blk_frozen BK181.out 3) | (go_at_call 121; (with_reducible refine (bits_From.calls a0 a1_3 t187 _ A40.out).mono ?_); rintro e w46 ⟨rfl, hb⟩; have n0_ := bkB BK181.out hb; have n1_ := bkB BK182.out hb; have n2_ := bsB HB.out hb; clear BK181; clear BK182; clear HB; have BK181 := n0_; have BK182 := n1_; have HB := n2_; clear n0_ n1_ n2_; (try clear hb); (try clear hb2); (try clear hk); (try clear hi))); try go_wp2_with (first | (go_at_call 121; (with_reducible refine (bits_From.calls a0 a1_2 t186 _ A36.out).mono ?_); rintro e w44 ⟨rfl, hb⟩; have n0_ := bkB BK181.out hb; have n1_ := bkB BK182.out hb; have n2_ := bsB HB.out hb; clear BK181; clear BK182; clear HB; have BK181 := n0_; have BK182 := n1_; have HB := n2_; clear n0_ n1_ n2_; (try clear hb); (try clear hb2); (try clear hk); (try clear hi); have hcz45_0 : w44.cell? ⟨gb181, 0, none⟩ = some (.int .u64 a1_0) := (blk_cell BK181.out 0).trans rfl; have hcz45_1 : w44.cell? ⟨gb181, 1, none⟩ = some (.int .u64 a1_1) := (blk_cell BK181.out 1).trans rfl; have hcz45_2 : w44.cell? ⟨gb181, 2, none⟩ = some (.int .i64 a1_2) := (blk_cell BK181.out 2).trans rfl; have hcz45_3 : w44.cell? ⟨gb181, 3, none⟩ = some (.int .i64 a1_3) := (blk_cell BK181.out 3).trans rfl; have hfz45_0 := blk_frozen BK181.out 0; have hfz45_1 := blk_frozen BK181.out 1; have hfz45_2 := blk_frozen BK181.out 2; have hfz45_3 := blk_frozen BK181.out 3) | (go_at_call 121; (with_reducible refine (bits_From.calls a0 a1_3 t187 _ A40.out).mono ?_); rintro e w46 ⟨rfl, hb⟩; have n0_ := bkB BK181.out hb; have n1_ := bkB BK182.out hb; have n2_ := bsB HB.out hb; clear BK181; clear BK182; clear HB; have BK181 := n0_; have BK182 := n1_; have HB := n2_; clear n0_ n1_ n2_; (try clear hb); (try clear hb2); (try clear hk); (try clear hi))))
          go_meet
          case rel => exact ⟨_, (ji38), (ji41), (0), (0), (0), (0), (by first | rfl | (simp; done) | (simp only [← hji38] <;> (first | rfl | simp)) | (simp [*]; done)), (by first | rfl | (simp; done) | (simp only [← hji41] <;> (first | rfl | simp)) | (simp [*]; done)), H', ⟨by have := HJ12.out; have := HJ28.out; first | omega | exact Nat.le_refl _⟩, ⟨bkL BK181.out⟩, ⟨bkL BK182.out⟩, ⟨bsL HB.out⟩⟩
         ·
          rw [if_neg c39] at H
          have c39b0 : decide (a1_3 < 0) = false := decide_eq_false c39
          clear c39
          have H' := Aside0.mk H
          clear H
          have hnb47 := NB181_182.out
          have hnc47 := NB182_181.out
          have hcz48_0 : wc.cell? ⟨gb181, 0, none⟩ = some (.int .u64 a1_0) := (blk_cell BK181.out 0).trans rfl
          have hcz48_1 : wc.cell? ⟨gb181, 1, none⟩ = some (.int .u64 a1_1) := (blk_cell BK181.out 1).trans rfl
          have hcz48_2 : wc.cell? ⟨gb181, 2, none⟩ = some (.int .i64 a1_2) := (blk_cell BK181.out 2).trans rfl
          have hcz48_3 : wc.cell? ⟨gb181, 3, none⟩ = some (.int .i64 a1_3) := (blk_cell BK181.out 3).trans rfl
          have hfz48_0 := blk_frozen BK181.out 0
          have hfz48_1 := blk_frozen BK181.out 1
          have hfz48_2 := blk_frozen BK181.out 2
          have hfz48_3 := blk_frozen BK181.out 3
          go_wp2_with (first | (go_at_call 121; (with_reducible refine (bits_From.calls a0 a1_2 t186 _ A36.out).mono ?_); rintro e w49 ⟨rfl, hb⟩; replace BK181 := bkB BK181.out hb; replace BK182 := bkB BK182.out hb; replace HB := bsB HB.out hb; (try clear hb); have hcz50_0 : w49.cell? ⟨gb181, 0, none⟩ = some (.int .u64 a1_0) := (blk_cell BK181.out 0).trans rfl; have hcz50_1 : w49.cell? ⟨gb181, 1, none⟩ = some (.int .u64 a1_1) := (blk_cell BK181.out 1).trans rfl; have hcz50_2 : w49.cell? ⟨gb181, 2, none⟩ = some (.int .i64 a1_2) := (blk_cell BK181.out 2).trans rfl; have hcz50_3 : w49.cell? ⟨gb181, 3, none⟩ = some (.int .i64 a1_3) := (blk_cell BK181.out 3).trans rfl; have hfz50_0 := blk_frozen BK181.out 0; have hfz50_1 := blk_frozen BK181.out 1; have hfz50_2 := blk_frozen BK181.out 2; have hfz50_3 := blk_frozen BK181.out 3))
          repeat (go_quiet (first | (go_at_call 121; (with_reducible refine (bits_From.calls a0 a1_2 t186 _ A36.out).mono ?_); rintro e w49 ⟨rfl, hb⟩; replace BK181 := bkB BK181.out hb; replace BK182 := bkB BK182.out hb; replace HB := bsB HB.out hb; (try clear hb); have hcz50_0 : w49.cell? ⟨gb181, 0, none⟩ = some (.int .u64 a1_0) := (blk_cell BK181.out 0).trans rfl; have hcz50_1 : w49.cell? ⟨gb181, 1, none⟩ = some (.int .u64 a1_1) := (blk_cell BK181.out 1).trans rfl; have hcz50_2 : w49.cell? ⟨gb181, 2, none⟩ = some (.int .i64 a1_2) := (blk_cell BK181.out 2).trans rfl; have hcz50_3 : w49.cell? ⟨gb181, 3, none⟩ = some (.int .i64 a1_3) := (blk_cell BK181.out 3).trans rfl; have hfz50_0 := blk_frozen BK181.out 0; have hfz50_1 := blk_frozen BK181.out 1; have hfz50_2 := blk_frozen BK181.out 2; have hfz50_3 := blk_frozen BK181.out 3)); try go_wp2_with (first | (go_at_call 121; (with_reducible refine (bits_From.calls a0 a1_2 t186 _ A36.out).mono ?_); rintro e w49 ⟨rfl, hb⟩; have n0_ := bkB BK181.out hb; have n1_ := bkB BK182.out hb; have n2_ := bsB HB.out hb; clear BK181; clear BK182; clear HB; have BK181 := n0_; have BK182 := n1_; have HB := n2_; clear n0_ n1_ n2_; (try clear hb); (try clear hb2); (try clear hk); (try clear hi); have hcz50_0 : w49.cell? ⟨gb181, 0, none⟩ = some (.int .u64 a1_0) := (blk_cell BK181.out 0).trans rfl; have hcz50_1 : w49.cell? ⟨gb181, 1, none⟩ = some (.int .u64 a1_1) := (blk_cell BK181.out 1).trans rfl; have hcz50_2 : w49.cell? ⟨gb181, 2, none⟩ = some (.int .i64 a1_2) := (blk_cell BK181.out 2).trans rfl; have hcz50_3 : w49.cell? ⟨gb181, 3, none⟩ = some (.int .i64 a1_3) := (blk_cell BK181.out 3).trans rfl; have hfz50_0 := blk_frozen BK181.out 0; have hfz50_1 := blk_frozen BK181.out 1; have hfz50_2 := blk_frozen BK181.out 2; have hfz50_3 := blk_frozen BK181.out 3)))
          go_meet
          case rel => exact ⟨_, (ji38), (a1_1), (0), (0), (0), (0), (by first | rfl | (simp; done) | (simp only [← hji38] <;> (first | rfl | simp)) | (simp [*]; done)), (by first | rfl | (simp; done) | (simp [*]; done)), H', ⟨by have := HJ12.out; have := HJ28.out; first | omega | exact Nat.le_refl _⟩, ⟨bkL BK181.out⟩, ⟨bkL BK182.out⟩, ⟨bsL HB.out⟩⟩
        ·
         replace c35 := Bool.eq_false_iff.mpr c35
         subst c35
         have H1 : (some (a1_0, a1_1, a1_2, a1_3, true)) = some (r1, r2, r3, r4, r5) := by rw [if_neg (show ¬ (false = true) by decide)] at H; exact H
         clear H
         have H := H1
         clear H1
         simp only [Option.some.injEq, Prod.mk.injEq] at H
         obtain ⟨rfl, rfl, rfl, rfl, rfl⟩ := H
         have hnb51 := NB181_182.out
         have hnc51 := NB182_181.out
         have hcz52_0 : wc.cell? ⟨gb181, 0, none⟩ = some (.int .u64 a1_0) := (blk_cell BK181.out 0).trans rfl
         have hcz52_1 : wc.cell? ⟨gb181, 1, none⟩ = some (.int .u64 a1_1) := (blk_cell BK181.out 1).trans rfl
         have hcz52_2 : wc.cell? ⟨gb181, 2, none⟩ = some (.int .i64 a1_2) := (blk_cell BK181.out 2).trans rfl
         have hcz52_3 : wc.cell? ⟨gb181, 3, none⟩ = some (.int .i64 a1_3) := (blk_cell BK181.out 3).trans rfl
         have hfz52_0 := blk_frozen BK181.out 0
         have hfz52_1 := blk_frozen BK181.out 1
         have hfz52_2 := blk_frozen BK181.out 2
         have hfz52_3 := blk_frozen BK181.out 3
         have hcz53_0 : wc.cell? ⟨gb182, 0, none⟩ = some (.int .u64 0) := (blk_cell BK182.out 0).trans rfl
         have hcz53_1 : wc.cell? ⟨gb182, 1, none⟩ = some (.int .u64 0) := (blk_cell BK182.out 1).trans rfl
         have hcz53_2 : wc.cell? ⟨gb182, 2, none⟩ = some (.int .i64 0) := (blk_cell BK182.out 2).trans rfl
         have hcz53_3 : wc.cell? ⟨gb182, 3, none⟩ = some (.int .i64 0) := (blk_cell BK182.out 3).trans rfl
         have hfz53_0 := blk_frozen BK182.out 0
         have hfz53_1 := blk_frozen BK182.out 1
         have hfz53_2 := blk_frozen BK182.out 2
         have hfz53_3 := blk_frozen BK182.out 3
         go_wp2
         repeat (go_quiet (fail); try go_wp2)
         refine bodyPost_ret (results_ct rfl _ _ gb182 30 #[.int .u64 a1_0, .int .u64 a1_1, .int .i64 a1_2, .int .i64 a1_3] (0, 0) _ rfl (by (with_reducible repeat (first | refine blk_drewN ?_ _ | refine blk_drew ?_ | refine blk_alloc ?_ _)); refine blk_put (cs := #[.int .u64 a1_0, .int .u64 a1_1, .int .i64 a1_2, .int .i64 0]) ?_ 3 _ rfl; (with_reducible repeat (first | refine blk_drewN ?_ _ | refine blk_drew ?_ | refine blk_alloc ?_ _)); refine blk_put (cs := #[.int .u64 a1_0, .int .u64 a1_1, .int .i64 0, .int .i64 0]) ?_ 2 _ rfl; (with_reducible repeat (first | refine blk_drewN ?_ _ | refine blk_drew ?_ | refine blk_alloc ?_ _)); refine blk_put (cs := #[.int .u64 a1_0, .int .u64 0, .int .i64 0, .int .i64 0]) ?_ 1 _ rfl; (with_reducible repeat (first | refine blk_drewN ?_ _ | refine blk_drew ?_ | refine blk_alloc ?_ _)); refine blk_put (cs := #[.int .u64 0, .int .u64 0, .int .i64 0, .int .i64 0]) ?_ 0 _ rfl; exact bfL BK182.out) Try.underlying30 rfl (by kernel_rfl)) rfl ?_
         exact ⟨by first | rfl | (simp [errW_none, errW_some] <;> rfl) | (simp [*, errW_none, errW_some] <;> rfl), bsL HB.out⟩
  case rest =>
   clear HC6
   try clear c1
   try clear c2
   try clear p2
   try clear c3
   try clear c4
   try clear c5
   try clear c9
   try clear c14
   try clear c14b0
   try clear c15
   try clear c17
   try clear c19
   try clear c20
   try clear c20b0
   try clear c21
   try clear c27
   try clear c30
   try clear c30b0
   try clear c31
   try clear c33
   try clear c35
   try clear c39
   try clear c39b0
   try clear c42
   try clear c47
   try clear c51
   try clear c53
   try clear hcz10_0
   try clear hcz10_1
   try clear hcz10_2
   try clear hcz10_3
   try clear hcz12_0
   try clear hcz12_1
   try clear hcz12_2
   try clear hcz12_3
   try clear hcz16_0
   try clear hcz16_1
   try clear hcz16_2
   try clear hcz16_3
   try clear hcz18_0
   try clear hcz18_1
   try clear hcz18_2
   try clear hcz18_3
   try clear hcz22_0
   try clear hcz22_1
   try clear hcz22_2
   try clear hcz22_3
   try clear hcz23_0
   try clear hcz23_1
   try clear hcz23_2
   try clear hcz23_3
   try clear hcz28_0
   try clear hcz28_1
   try clear hcz28_2
   try clear hcz28_3
   try clear hcz32_0
   try clear hcz32_1
   try clear hcz32_2
   try clear hcz32_3
   try clear hcz34_0
   try clear hcz34_1
   try clear hcz34_2
   try clear hcz34_3
   try clear hcz43_0
   try clear hcz43_1
   try clear hcz43_2
   try clear hcz43_3
   try clear hcz45_0
   try clear hcz45_1
   try clear hcz45_2
   try clear hcz45_3
   try clear hcz48_0
   try clear hcz48_1
   try clear hcz48_2
   try clear hcz48_3
   try clear hcz50_0
   try clear hcz50_1
   try clear hcz50_2
   try clear hcz50_3
   try clear hcz52_0
   try clear hcz52_1
   try clear hcz52_2
   try clear hcz52_3
   try clear hcz53_0
   try clear hcz53_1
   try clear hcz53_2
   try clear hcz53_3
   try clear hfz10_0
   try clear hfz10_1
   try clear hfz10_2
   try clear hfz10_3
   try clear hfz12_0
   try clear hfz12_1
   try clear hfz12_2
   try clear hfz12_3
   try clear hfz16_0
   try clear hfz16_1
   try clear hfz16_2
   try clear hfz16_3
   try clear hfz18_0
   try clear hfz18_1
   try clear hfz18_2
   try clear hfz18_3
   try clear hfz22_0
   try clear hfz22_1
   try clear hfz22_2
   try clear hfz22_3
   try clear hfz23_0
   try clear hfz23_1
   try clear hfz23_2
   try clear hfz23_3
   try clear hfz28_0
   try clear hfz28_1
   try clear hfz28_2
   try clear hfz28_3
   try clear hfz32_0
   try clear hfz32_1
   try clear hfz32_2
   try clear hfz32_3
   try clear hfz34_0
   try clear hfz34_1
   try clear hfz34_2
   try clear hfz34_3
   try clear hfz43_0
   try clear hfz43_1
   try clear hfz43_2
   try clear hfz43_3
   try clear hfz45_0
   try clear hfz45_1
   try clear hfz45_2
   try clear hfz45_3
   try clear hfz48_0
   try clear hfz48_1
   try clear hfz48_2
   try clear hfz48_3
   try clear hfz50_0
   try clear hfz50_1
   try clear hfz50_2
   try clear hfz50_3
   try clear hfz52_0
   try clear hfz52_1
   try clear hfz52_2
   try clear hfz52_3
   try clear hfz53_0
   try clear hfz53_1
   try clear hfz53_2
   try clear hfz53_3
   try clear p2
   obtain ⟨kq, x9_5, x10_5, x183000_5, x183001_5, x183002_5, x183003_5, rfl, rfl, HA, HJ5, BK181, BK182, HB⟩ := hcut
   cases kq with
   | zero => exact absurd HA.out (by simp [interval_Tighten.j2])
   | succ kj5 =>
    have H := HA.out
    clear HA
    simp only [interval_Tighten.j2] at H
    by_cases c54 : x9_5 > x10_5
    ·
     rw [if_pos c54] at H
     have c54b0 : decide (x10_5 < x9_5) = true := decide_eq_true c54
     clear c54
     simp only [Option.some.injEq, Prod.mk.injEq] at H
     obtain ⟨rfl, rfl, rfl, rfl, rfl⟩ := H
     have hnb55 := NB182_181.out
     have hnc55 := NB181_182.out
     have hcz56_0 : wc.cell? ⟨gb182, 0, none⟩ = some (.int .u64 x183000_5) := (blk_cell BK182.out 0).trans rfl
     have hcz56_1 : wc.cell? ⟨gb182, 1, none⟩ = some (.int .u64 x183001_5) := (blk_cell BK182.out 1).trans rfl
     have hcz56_2 : wc.cell? ⟨gb182, 2, none⟩ = some (.int .i64 x183002_5) := (blk_cell BK182.out 2).trans rfl
     have hcz56_3 : wc.cell? ⟨gb182, 3, none⟩ = some (.int .i64 x183003_5) := (blk_cell BK182.out 3).trans rfl
     have hfz56_0 := blk_frozen BK182.out 0
     have hfz56_1 := blk_frozen BK182.out 1
     have hfz56_2 := blk_frozen BK182.out 2
     have hfz56_3 := blk_frozen BK182.out 3
     go_wp2
     repeat (go_quiet (fail); try go_wp2)
     refine bodyPost_ret (results_ct rfl _ _ gb182 30 #[.int .u64 0, .int .u64 0, .int .i64 0, .int .i64 0] (0, 0) _ rfl (by (with_reducible repeat (first | refine blk_drewN ?_ _ | refine blk_drew ?_ | refine blk_alloc ?_ _)); refine blk_put (cs := #[.int .u64 0, .int .u64 0, .int .i64 0, .int .i64 x183003_5]) ?_ 3 _ rfl; (with_reducible repeat (first | refine blk_drewN ?_ _ | refine blk_drew ?_ | refine blk_alloc ?_ _)); refine blk_put (cs := #[.int .u64 0, .int .u64 0, .int .i64 x183002_5, .int .i64 x183003_5]) ?_ 2 _ rfl; (with_reducible repeat (first | refine blk_drewN ?_ _ | refine blk_drew ?_ | refine blk_alloc ?_ _)); refine blk_put (cs := #[.int .u64 0, .int .u64 x183001_5, .int .i64 x183002_5, .int .i64 x183003_5]) ?_ 1 _ rfl; (with_reducible repeat (first | refine blk_drewN ?_ _ | refine blk_drew ?_ | refine blk_alloc ?_ _)); refine blk_put (cs := #[.int .u64 x183000_5, .int .u64 x183001_5, .int .i64 x183002_5, .int .i64 x183003_5]) ?_ 0 _ rfl; exact bfL BK182.out) Try.underlying30 rfl (by kernel_rfl)) rfl ?_
     exact ⟨by first | rfl | (simp [errW_none, errW_some] <;> rfl) | (simp [*, errW_none, errW_some] <;> rfl), bsL HB.out⟩
    ·
     rw [if_neg c54] at H
     have c54b0 : decide (x10_5 < x9_5) = false := decide_eq_false c54
     clear c54
     replace H := Option.bind_eq_some_iff.mp H
     obtain ⟨t188, A570, H⟩ := H
     replace H : ((bits_Signed.f a0 x10_5).bind fun t189 => (some (x9_5, x10_5, t188, t189, true))) = some (r1, r2, r3, r4, r5) := H
     have A57 := Aside0.mk A570
     clear A570
     replace H := Option.bind_eq_some_iff.mp H
     obtain ⟨t189, A580, H⟩ := H
     replace H : (some (x9_5, x10_5, t188, t189, true)) = some (r1, r2, r3, r4, r5) := H
     have A58 := Aside0.mk A580
     clear A580
     simp only [Option.some.injEq, Prod.mk.injEq] at H
     obtain ⟨rfl, rfl, rfl, rfl, rfl⟩ := H
     go_wp2_with (first | (go_at_call 68; (with_reducible refine (bits_Signed.calls a0 x9_5 t188 _ A57.out).mono ?_); rintro e w59 ⟨rfl, hb⟩; replace BK181 := bkB BK181.out hb; replace BK182 := bkB BK182.out hb; replace HB := bsB HB.out hb; (try clear hb)) | (go_at_call 68; (with_reducible refine (bits_Signed.calls a0 x10_5 t189 _ A58.out).mono ?_); rintro e w60 ⟨rfl, hb⟩; have n0_ := bkB BK181.out hb; have n1_ := bkB BK182.out hb; have n2_ := bsB HB.out hb; clear BK181; clear BK182; clear HB; have BK181 := n0_; have BK182 := n1_; have HB := n2_; clear n0_ n1_ n2_; (try clear hb); (try clear hb2); (try clear hk); (try clear hi); have hnb61 := NB182_181.out; have hnc61 := NB181_182.out; have hcz62_0 : w60.cell? ⟨gb182, 0, none⟩ = some (.int .u64 x183000_5) := (blk_cell BK182.out 0).trans rfl; have hcz62_1 : w60.cell? ⟨gb182, 1, none⟩ = some (.int .u64 x183001_5) := (blk_cell BK182.out 1).trans rfl; have hcz62_2 : w60.cell? ⟨gb182, 2, none⟩ = some (.int .i64 x183002_5) := (blk_cell BK182.out 2).trans rfl; have hcz62_3 : w60.cell? ⟨gb182, 3, none⟩ = some (.int .i64 x183003_5) := (blk_cell BK182.out 3).trans rfl; have hfz62_0 := blk_frozen BK182.out 0; have hfz62_1 := blk_frozen BK182.out 1; have hfz62_2 := blk_frozen BK182.out 2; have hfz62_3 := blk_frozen BK182.out 3))
     repeat (go_quiet (first | (go_at_call 68; (with_reducible refine (bits_Signed.calls a0 x9_5 t188 _ A57.out).mono ?_); rintro e w59 ⟨rfl, hb⟩; replace BK181 := bkB BK181.out hb; replace BK182 := bkB BK182.out hb; replace HB := bsB HB.out hb; (try clear hb)) | (go_at_call 68; (with_reducible refine (bits_Signed.calls a0 x10_5 t189 _ A58.out).mono ?_); rintro e w60 ⟨rfl, hb⟩; have n0_ := bkB BK181.out hb; have n1_ := bkB BK182.out hb; have n2_ := bsB HB.out hb; clear BK181; clear BK182; clear HB; have BK181 := n0_; have BK182 := n1_; have HB := n2_; clear n0_ n1_ n2_; (try clear hb); (try clear hb2); (try clear hk); (try clear hi); have hnb61 := NB182_181.out; have hnc61 := NB181_182.out; have hcz62_0 : w60.cell? ⟨gb182, 0, none⟩ = some (.int .u64 x183000_5) := (blk_cell BK182.out 0).trans rfl; have hcz62_1 : w60.cell? ⟨gb182, 1, none⟩ = some (.int .u64 x183001_5) := (blk_cell BK182.out 1).trans rfl; have hcz62_2 : w60.cell? ⟨gb182, 2, none⟩ = some (.int .i64 x183002_5) := (blk_cell BK182.out 2).trans rfl; have hcz62_3 : w60.cell? ⟨gb182, 3, none⟩ = some (.int .i64 x183003_5) := (blk_cell BK182.out 3).trans rfl; have hfz62_0 := blk_frozen BK182.out 0; have hfz62_1 := blk_frozen BK182.out 1; have hfz62_2 := blk_frozen BK182.out 2; have hfz62_3 := blk_frozen BK182.out 3)); try go_wp2_with (first | (go_at_call 68; (with_reducible refine (bits_Signed.calls a0 x9_5 t188 _ A57.out).mono ?_); rintro e w59 ⟨rfl, hb⟩; have n0_ := bkB BK181.out hb; have n1_ := bkB BK182.out hb; have n2_ := bsB HB.out hb; clear BK181; clear BK182; clear HB; have BK181 := n0_; have BK182 := n1_; have HB := n2_; clear n0_ n1_ n2_; (try clear hb); (try clear hb2); (try clear hk); (try clear hi)) | (go_at_call 68; (with_reducible refine (bits_Signed.calls a0 x10_5 t189 _ A58.out).mono ?_); rintro e w60 ⟨rfl, hb⟩; have n0_ := bkB BK181.out hb; have n1_ := bkB BK182.out hb; have n2_ := bsB HB.out hb; clear BK181; clear BK182; clear HB; have BK181 := n0_; have BK182 := n1_; have HB := n2_; clear n0_ n1_ n2_; (try clear hb); (try clear hb2); (try clear hk); (try clear hi); have hnb61 := NB182_181.out; have hnc61 := NB181_182.out; have hcz62_0 : w60.cell? ⟨gb182, 0, none⟩ = some (.int .u64 x183000_5) := (blk_cell BK182.out 0).trans rfl; have hcz62_1 : w60.cell? ⟨gb182, 1, none⟩ = some (.int .u64 x183001_5) := (blk_cell BK182.out 1).trans rfl; have hcz62_2 : w60.cell? ⟨gb182, 2, none⟩ = some (.int .i64 x183002_5) := (blk_cell BK182.out 2).trans rfl; have hcz62_3 : w60.cell? ⟨gb182, 3, none⟩ = some (.int .i64 x183003_5) := (blk_cell BK182.out 3).trans rfl; have hfz62_0 := blk_frozen BK182.out 0; have hfz62_1 := blk_frozen BK182.out 1; have hfz62_2 := blk_frozen BK182.out 2; have hfz62_3 := blk_frozen BK182.out 3)))
     refine bodyPost_ret (results_ct rfl _ _ gb182 30 #[.int .u64 x9_5, .int .u64 x10_5, .int .i64 t188, .int .i64 t189] (0, 0) _ rfl (by (with_reducible repeat (first | refine blk_drewN ?_ _ | refine blk_drew ?_ | refine blk_alloc ?_ _)); refine blk_put (cs := #[.int .u64 x9_5, .int .u64 x10_5, .int .i64 t188, .int .i64 x183003_5]) ?_ 3 _ rfl; (with_reducible repeat (first | refine blk_drewN ?_ _ | refine blk_drew ?_ | refine blk_alloc ?_ _)); refine blk_put (cs := #[.int .u64 x9_5, .int .u64 x10_5, .int .i64 x183002_5, .int .i64 x183003_5]) ?_ 2 _ rfl; (with_reducible repeat (first | refine blk_drewN ?_ _ | refine blk_drew ?_ | refine blk_alloc ?_ _)); refine blk_put (cs := #[.int .u64 x9_5, .int .u64 x183001_5, .int .i64 x183002_5, .int .i64 x183003_5]) ?_ 1 _ rfl; (with_reducible repeat (first | refine blk_drewN ?_ _ | refine blk_drew ?_ | refine blk_alloc ?_ _)); refine blk_put (cs := #[.int .u64 x183000_5, .int .u64 x183001_5, .int .i64 x183002_5, .int .i64 x183003_5]) ?_ 0 _ rfl; exact bfL BK182.out) Try.underlying30 rfl (by kernel_rfl)) rfl ?_
     exact ⟨by first | rfl | (simp [errW_none, errW_some] <;> rfl) | (simp [*, errW_none, errW_some] <;> rfl), bsL HB.out⟩
 ·
  replace c4 := Bool.eq_false_iff.mpr c4
  subst c4
  have H1 : (some (0, 0, 0, 0, false)) = some (r1, r2, r3, r4, r5) := by rw [if_neg (show ¬ (false = true) by decide)] at H; exact H
  clear H
  have H := H1
  clear H1
  simp only [Option.some.injEq, Prod.mk.injEq] at H
  obtain ⟨rfl, rfl, rfl, rfl, rfl⟩ := H
  go_enter Try.func53, Try.ntmps53
  go_wp2_with (first | ((with_reducible refine gate_dst (N := 3) rfl ?_); refine box_event ?hg (N := 3) ?hd (cs := #[.int .u64 a1_0, .int .u64 a1_1, .int .i64 a1_2, .int .i64 a1_3]) (t := 30) ?hr ?_; (case hd => rfl); (case hg => rfl); (case hr => first | (go_simp; done) | (go_simp; rfl)); intro gb181 hg w63 hbox hb; have n0_ := bsB HB.out hb; have n1_ := Aside0.mk (hbox); have n2_ := szB hg HB.out; have n3_ := szB hg HB.out; clear HB; have HB := n0_; have BK181 := n1_; have GW181 := n2_; have GE181 := n3_; clear n0_ n1_ n2_ n3_; clear hb hbox hg) | ((with_reducible refine gate_dst (N := 4) rfl ?_); refine box_event ?hg (N := 4) ?hd (cs := #[.int .u64 0, .int .u64 0, .int .i64 0, .int .i64 0]) (t := 30) ?hr ?_; (case hd => rfl); (case hg => rfl); (case hr => first | (go_simp; done) | (go_simp; rfl)); intro gb182 hg w64 hbox hb; have n0_ := bkB BK181.out hb; have n1_ := bsB HB.out hb; have n2_ := Aside0.mk (hbox); have n3_ := szB hg HB.out; have n4_ := szB hg HB.out; have n5_ := Aside0.mk ((by rw [hg]; exact Nat.ne_of_lt (blk_lt (g := gb181) (o := .cells #[.int .u64 a1_0, .int .u64 a1_1, .int .i64 a1_2, .int .i64 a1_3] 30 (0, 0)) (by exact bfL BK181.out)) : gb181 ≠ gb182)); have n6_ := Aside0.mk ((by rw [hg]; exact Nat.ne_of_gt (blk_lt (g := gb181) (o := .cells #[.int .u64 a1_0, .int .u64 a1_1, .int .i64 a1_2, .int .i64 a1_3] 30 (0, 0)) (by exact bfL BK181.out)) : gb182 ≠ gb181)); clear BK181; clear HB; have BK181 := n0_; have HB := n1_; have BK182 := n2_; have GW182 := n3_; have GE182 := n4_; have NB181_182 := n5_; have NB182_181 := n6_; clear n0_ n1_ n2_ n3_ n4_ n5_ n6_; clear hb hbox hg; have hnb65 := NB181_182.out; have hnc65 := NB182_181.out; have hcz66_0 : w64.cell? ⟨gb181, 0, none⟩ = some (.int .u64 a1_0) := (blk_cell BK181.out 0).trans rfl; have hcz66_1 : w64.cell? ⟨gb181, 1, none⟩ = some (.int .u64 a1_1) := (blk_cell BK181.out 1).trans rfl; have hcz66_2 : w64.cell? ⟨gb181, 2, none⟩ = some (.int .i64 a1_2) := (blk_cell BK181.out 2).trans rfl; have hcz66_3 : w64.cell? ⟨gb181, 3, none⟩ = some (.int .i64 a1_3) := (blk_cell BK181.out 3).trans rfl; have hfz66_0 := blk_frozen BK181.out 0; have hfz66_1 := blk_frozen BK181.out 1; have hfz66_2 := blk_frozen BK181.out 2; have hfz66_3 := blk_frozen BK181.out 3) | (go_at_call 21; (with_reducible refine (interval_Valid.calls a0 a1_0 a1_1 a1_2 a1_3 false _ A3.out).mono ?_); rintro e w67 ⟨rfl, hb⟩; have n0_ := bkB BK181.out hb; have n1_ := bkB BK182.out hb; have n2_ := bsB HB.out hb; clear BK181; clear BK182; clear HB; have BK181 := n0_; have BK182 := n1_; have HB := n2_; clear n0_ n1_ n2_; (try clear hb); (try clear hb2); (try clear hk); (try clear hi); have hcz68_0 : w67.cell? ⟨gb182, 0, none⟩ = some (.int .u64 0) := (blk_cell BK182.out 0).trans rfl; have hcz68_1 : w67.cell? ⟨gb182, 1, none⟩ = some (.int .u64 0) := (blk_cell BK182.out 1).trans rfl; have hcz68_2 : w67.cell? ⟨gb182, 2, none⟩ = some (.int .i64 0) := (blk_cell BK182.out 2).trans rfl; have hcz68_3 : w67.cell? ⟨gb182, 3, none⟩ = some (.int .i64 0) := (blk_cell BK182.out 3).trans rfl; have hfz68_0 := blk_frozen BK182.out 0; have hfz68_1 := blk_frozen BK182.out 1; have hfz68_2 := blk_frozen BK182.out 2; have hfz68_3 := blk_frozen BK182.out 3))
  repeat (go_quiet (first | ((with_reducible refine gate_dst (N := 3) rfl ?_); refine box_event ?hg (N := 3) ?hd (cs := #[.int .u64 a1_0, .int .u64 a1_1, .int .i64 a1_2, .int .i64 a1_3]) (t := 30) ?hr ?_; (case hd => rfl); (case hg => rfl); (case hr => first | (go_simp; done) | (go_simp; rfl)); intro gb181 hg w63 hbox hb; have n0_ := bsB HB.out hb; have n1_ := Aside0.mk (hbox); have n2_ := szB hg HB.out; have n3_ := szB hg HB.out; clear HB; have HB := n0_; have BK181 := n1_; have GW181 := n2_; have GE181 := n3_; clear n0_ n1_ n2_ n3_; clear hb hbox hg) | ((with_reducible refine gate_dst (N := 4) rfl ?_); refine box_event ?hg (N := 4) ?hd (cs := #[.int .u64 0, .int .u64 0, .int .i64 0, .int .i64 0]) (t := 30) ?hr ?_; (case hd => rfl); (case hg => rfl); (case hr => first | (go_simp; done) | (go_simp; rfl)); intro gb182 hg w64 hbox hb; have n0_ := bkB BK181.out hb; have n1_ := bsB HB.out hb; have n2_ := Aside0.mk (hbox); have n3_ := szB hg HB.out; have n4_ := szB hg HB.out; have n5_ := Aside0.mk ((by rw [hg]; exact Nat.ne_of_lt (blk_lt (g := gb181) (o := .cells #[.int .u64 a1_0, .int .u64 a1_1, .int .i64 a1_2, .int .i64 a1_3] 30 (0, 0)) (by exact bfL BK181.out)) : gb181 ≠ gb182)); have n6_ := Aside0.mk ((by rw [hg]; exact Nat.ne_of_gt (blk_lt (g := gb181) (o := .cells #[.int .u64 a1_0, .int .u64 a1_1, .int .i64 a1_2, .int .i64 a1_3] 30 (0, 0)) (by exact bfL BK181.out)) : gb182 ≠ gb181)); clear BK181; clear HB; have BK181 := n0_; have HB := n1_; have BK182 := n2_; have GW182 := n3_; have GE182 := n4_; have NB181_182 := n5_; have NB182_181 := n6_; clear n0_ n1_ n2_ n3_ n4_ n5_ n6_; clear hb hbox hg; have hnb65 := NB181_182.out; have hnc65 := NB182_181.out; have hcz66_0 : w64.cell? ⟨gb181, 0, none⟩ = some (.int .u64 a1_0) := (blk_cell BK181.out 0).trans rfl; have hcz66_1 : w64.cell? ⟨gb181, 1, none⟩ = some (.int .u64 a1_1) := (blk_cell BK181.out 1).trans rfl; have hcz66_2 : w64.cell? ⟨gb181, 2, none⟩ = some (.int .i64 a1_2) := (blk_cell BK181.out 2).trans rfl; have hcz66_3 : w64.cell? ⟨gb181, 3, none⟩ = some (.int .i64 a1_3) := (blk_cell BK181.out 3).trans rfl; have hfz66_0 := blk_frozen BK181.out 0; have hfz66_1 := blk_frozen BK181.out 1; have hfz66_2 := blk_frozen BK181.out 2; have hfz66_3 := blk_frozen BK181.out 3) | (go_at_call 21; (with_reducible refine (interval_Valid.calls a0 a1_0 a1_1 a1_2 a1_3 false _ A3.out).mono ?_); rintro e w67 ⟨rfl, hb⟩; have n0_ := bkB BK181.out hb; have n1_ := bkB BK182.out hb; have n2_ := bsB HB.out hb; clear BK181; clear BK182; clear HB; have BK181 := n0_; have BK182 := n1_; have HB := n2_; clear n0_ n1_ n2_; (try clear hb); (try clear hb2); (try clear hk); (try clear hi); have hcz68_0 : w67.cell? ⟨gb182, 0, none⟩ = some (.int .u64 0) := (blk_cell BK182.out 0).trans rfl; have hcz68_1 : w67.cell? ⟨gb182, 1, none⟩ = some (.int .u64 0) := (blk_cell BK182.out 1).trans rfl; have hcz68_2 : w67.cell? ⟨gb182, 2, none⟩ = some (.int .i64 0) := (blk_cell BK182.out 2).trans rfl; have hcz68_3 : w67.cell? ⟨gb182, 3, none⟩ = some (.int .i64 0) := (blk_cell BK182.out 3).trans rfl; have hfz68_0 := blk_frozen BK182.out 0; have hfz68_1 := blk_frozen BK182.out 1; have hfz68_2 := blk_frozen BK182.out 2; have hfz68_3 := blk_frozen BK182.out 3)); try go_wp2_with (first | ((with_reducible refine gate_dst (N := 3) rfl ?_); refine box_event ?hg (N := 3) ?hd (cs := #[.int .u64 a1_0, .int .u64 a1_1, .int .i64 a1_2, .int .i64 a1_3]) (t := 30) ?hr ?_; (case hd => rfl); (case hg => rfl); (case hr => first | (go_simp; done) | (go_simp; rfl)); intro gb181 hg w63 hbox hb; have n0_ := bsB HB.out hb; have n1_ := Aside0.mk (hbox); have n2_ := szB hg HB.out; have n3_ := szB hg HB.out; clear HB; have HB := n0_; have BK181 := n1_; have GW181 := n2_; have GE181 := n3_; clear n0_ n1_ n2_ n3_; clear hb hbox hg) | ((with_reducible refine gate_dst (N := 4) rfl ?_); refine box_event ?hg (N := 4) ?hd (cs := #[.int .u64 0, .int .u64 0, .int .i64 0, .int .i64 0]) (t := 30) ?hr ?_; (case hd => rfl); (case hg => rfl); (case hr => first | (go_simp; done) | (go_simp; rfl)); intro gb182 hg w64 hbox hb; have n0_ := bkB BK181.out hb; have n1_ := bsB HB.out hb; have n2_ := Aside0.mk (hbox); have n3_ := szB hg HB.out; have n4_ := szB hg HB.out; have n5_ := Aside0.mk ((by rw [hg]; exact Nat.ne_of_lt (blk_lt (g := gb181) (o := .cells #[.int .u64 a1_0, .int .u64 a1_1, .int .i64 a1_2, .int .i64 a1_3] 30 (0, 0)) (by exact bfL BK181.out)) : gb181 ≠ gb182)); have n6_ := Aside0.mk ((by rw [hg]; exact Nat.ne_of_gt (blk_lt (g := gb181) (o := .cells #[.int .u64 a1_0, .int .u64 a1_1, .int .i64 a1_2, .int .i64 a1_3] 30 (0, 0)) (by exact bfL BK181.out)) : gb182 ≠ gb181)); clear BK181; clear HB; have BK181 := n0_; have HB := n1_; have BK182 := n2_; have GW182 := n3_; have GE182 := n4_; have NB181_182 := n5_; have NB182_181 := n6_; clear n0_ n1_ n2_ n3_ n4_ n5_ n6_; clear hb hbox hg; have hnb65 := NB181_182.out; have hnc65 := NB182_181.out; have hcz66_0 : w64.cell? ⟨gb181, 0, none⟩ = some (.int .u64 a1_0) := (blk_cell BK181.out 0).trans rfl; have hcz66_1 : w64.cell? ⟨gb181, 1, none⟩ = some (.int .u64 a1_1) := (blk_cell BK181.out 1).trans rfl; have hcz66_2 : w64.cell? ⟨gb181, 2, none⟩ = some (.int .i64 a1_2) := (blk_cell BK181.out 2).trans rfl; have hcz66_3 : w64.cell? ⟨gb181, 3, none⟩ = some (.int .i64 a1_3) := (blk_cell BK181.out 3).trans rfl; have hfz66_0 := blk_frozen BK181.out 0; have hfz66_1 := blk_frozen BK181.out 1; have hfz66_2 := blk_frozen BK181.out 2; have hfz66_3 := blk_frozen BK181.out 3) | (go_at_call 21; (with_reducible refine (interval_Valid.calls a0 a1_0 a1_1 a1_2 a1_3 false _ A3.out).mono ?_); rintro e w67 ⟨rfl, hb⟩; have n0_ := bkB BK181.out hb; have n1_ := bkB BK182.out hb; have n2_ := bsB HB.out hb; clear BK181; clear BK182; clear HB; have BK181 := n0_; have BK182 := n1_; have HB := n2_; clear n0_ n1_ n2_; (try clear hb); (try clear hb2); (try clear hk); (try clear hi); have hcz68_0 : w67.cell? ⟨gb182, 0, none⟩ = some (.int .u64 0) := (blk_cell BK182.out 0).trans rfl; have hcz68_1 : w67.cell? ⟨gb182, 1, none⟩ = some (.int .u64 0) := (blk_cell BK182.out 1).trans rfl; have hcz68_2 : w67.cell? ⟨gb182, 2, none⟩ = some (.int .i64 0) := (blk_cell BK182.out 2).trans rfl; have hcz68_3 : w67.cell? ⟨gb182, 3, none⟩ = some (.int .i64 0) := (blk_cell BK182.out 3).trans rfl; have hfz68_0 := blk_frozen BK182.out 0; have hfz68_1 := blk_frozen BK182.out 1; have hfz68_2 := blk_frozen BK182.out 2; have hfz68_3 := blk_frozen BK182.out 3)))
  refine bodyPost_ret (results_ct rfl _ _ gb182 30 #[.int .u64 0, .int .u64 0, .int .i64 0, .int .i64 0] (0, 0) _ rfl (by (with_reducible repeat (first | refine blk_drewN ?_ _ | refine blk_drew ?_ | refine blk_alloc ?_ _)); refine blk_put (cs := #[.int .u64 0, .int .u64 0, .int .i64 0, .int .i64 0]) ?_ 3 _ rfl; (with_reducible repeat (first | refine blk_drewN ?_ _ | refine blk_drew ?_ | refine blk_alloc ?_ _)); refine blk_put (cs := #[.int .u64 0, .int .u64 0, .int .i64 0, .int .i64 0]) ?_ 2 _ rfl; (with_reducible repeat (first | refine blk_drewN ?_ _ | refine blk_drew ?_ | refine blk_alloc ?_ _)); refine blk_put (cs := #[.int .u64 0, .int .u64 0, .int .i64 0, .int .i64 0]) ?_ 1 _ rfl; (with_reducible repeat (first | refine blk_drewN ?_ _ | refine blk_drew ?_ | refine blk_alloc ?_ _)); refine blk_put (cs := #[.int .u64 0, .int .u64 0, .int .i64 0, .int .i64 0]) ?_ 0 _ rfl; exact bfL BK182.out) Try.underlying30 rfl (by kernel_rfl)) rfl ?_
  exact ⟨by first | rfl | (simp [errW_none, errW_some] <;> rfl) | (simp [*, errW_none, errW_some] <;> rfl), bsL HB.out⟩

end Go.Proofs.Ytbiohdgeclokmaa.P
