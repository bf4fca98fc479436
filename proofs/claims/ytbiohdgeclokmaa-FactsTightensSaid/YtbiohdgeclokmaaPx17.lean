-- made by a program of this work (wip/mkprint.py, wip/mp.sh) out of the translation
import Derived.Test.YtbiohdgeclokmaaPx0
import Derived.Test.YtbiohdgeclokmaaPx1
import Derived.Test.YtbiohdgeclokmaaPx5
import Derived.Test.YtbiohdgeclokmaaPx8
import Derived.Test.YtbiohdgeclokmaaPx11
import Derived.Test.YtbiohdgeclokmaaPx14
import Derived.Test.YtbiohdgeclokmaaPx15
import Derived.Test.YtbiohdgeclokmaaPx16
namespace Go.Proofs.Ytbiohdgeclokmaa.P
open Go.RowKit Go.Proofs.YtbiohdgeclokmaaW.PrintWords Go.Proofs.YtbiohdgeclokmaaW.PrintLast Go.Proofs.YtbiohdgeclokmaaW.PrintMore
attribute [local go_sem] max2_int min2_int max_two min_two max_three min_three max_four min_four   -- for this text's walks alone
set_option linter.unusedVariables false
set_option linter.unusedSimpArgs false

attribute [local go_sem high] eqA50
/-! ### jacquardlaw14_FactsTightens: function 8 -/
def jacquardlaw14_FactsTightens.j0 : Nat → Int → Int → Bool → Bool → Int → Int → Int → Int → Int → Int → Int → Int → Int → Int → Int → Int → Option (Bool)
 | 0, _, _, _, _, _, _, _, _, _, _, _, _, _, _, _, _ => none
 | k + 1, x0, x2, x8, x32, x344000, x344001, x344002, x344003, x344004, x344005, x353000, x353001, x353002, x353003, x353004, x353005 => if x32 = true then (some false) else ((jacquardref14_Valid.f k x0 x344000 x344001 x344002 x344003 x344004 x344005).bind fun t361 => (if t361 = true then (if x8 = true then ((facts_Leq.f x353000 x353001 x353002 x353003 x353004 x353005 x344000 x344001 x344002 x344003 x344004 x344005).bind fun t362 => (if t362 = true then ((facts_Contains.f x0 x353000 x353001 x353002 x353003 x353004 x353005 x2).bind fun t363 => ((facts_Contains.f x0 x344000 x344001 x344002 x344003 x344004 x344005 x2).bind fun t364 => (some (t363 == t364)))) else (some false))) else ((facts_Contains.f x0 x344000 x344001 x344002 x344003 x344004 x344005 x2).bind fun t365 => (some (!t365)))) else (some (!x8))))
def jacquardlaw14_FactsTightens.f (k : Nat) (a0 : Int) (a1_0 : Int) (a1_1 : Int) (a1_2 : Int) (a1_3 : Int) (a1_4 : Int) (a1_5 : Int) (a2 : Int) : Option (Bool) := (jacquardlaw14_awake.f).bind fun t344 => (if t344 = true then ((facts_Tighten.f k a0 a1_0 a1_1 a1_2 a1_3 a1_4 a1_5).bind fun bt345 => ((jacquardref14_Tighten.f k a0 a1_0 a1_1 a1_2 a1_3 a1_4 a1_5).bind fun bt353 => (if (!(bt345.1 == bt353.1) || (!(bt345.2.1 == bt353.2.1) || (!(bt345.2.2.1 == bt353.2.2.1) || (!(bt345.2.2.2.1 == bt353.2.2.2.1) || (!(bt345.2.2.2.2.1 == bt353.2.2.2.2.1) || (!(bt345.2.2.2.2.2.1 == bt353.2.2.2.2.2.1))))))) = true then (jacquardlaw14_FactsTightens.j0 k a0 a2 bt345.2.2.2.2.2.2 true a1_0 a1_1 a1_2 a1_3 a1_4 a1_5 bt345.1 bt345.2.1 bt345.2.2.1 bt345.2.2.2.1 bt345.2.2.2.2.1 bt345.2.2.2.2.2.1) else (jacquardlaw14_FactsTightens.j0 k a0 a2 bt345.2.2.2.2.2.2 (bt345.2.2.2.2.2.2 != bt353.2.2.2.2.2.2) a1_0 a1_1 a1_2 a1_3 a1_4 a1_5 bt345.1 bt345.2.1 bt345.2.2.1 bt345.2.2.2.1 bt345.2.2.2.2.1 bt345.2.2.2.2.2.1)))) else (some false))
theorem jacquardlaw14_FactsTightens.mono_l : ∀ k, (∀ y0 y1 y2 y3 y4 y5 y6 y7 y8 y9 y10 y11 y12 y13 y14 y15, LeO (jacquardlaw14_FactsTightens.j0 k y0 y1 y2 y3 y4 y5 y6 y7 y8 y9 y10 y11 y12 y13 y14 y15) (jacquardlaw14_FactsTightens.j0 (k + 1) y0 y1 y2 y3 y4 y5 y6 y7 y8 y9 y10 y11 y12 y13 y14 y15))
 | 0 => fun _ _ _ _ _ _ _ _ _ _ _ _ _ _ _ _ r h => by simp [jacquardlaw14_FactsTightens.j0] at h
 | k + 1 => by
  have ih0 := jacquardlaw14_FactsTightens.mono_l k
  ·
   intro y0 y1 y2 y3 y4 y5 y6 y7 y8 y9 y10 y11 y12 y13 y14 y15
   unfold jacquardlaw14_FactsTightens.j0
   repeat' first
   | (with_reducible exact ih0 _ _ _ _ _ _ _ _ _ _ _ _ _ _ _ _)
   | (with_reducible exact facts_Tighten.mono _ _ _ _ _ _ _ _)
   | (with_reducible exact jacquardref14_Tighten.mono _ _ _ _ _ _ _ _)
   | (with_reducible exact jacquardref14_Valid.mono _ _ _ _ _ _ _ _)
   | (with_reducible exact LeO.refl _)
   | (with_reducible exact LeO.none _)
   | (with_reducible refine LeO.ite ?_ ?_)
   | (with_reducible refine LeO.bind ?_ (fun _ => ?_))
   | exact ih0 _ _ _ _ _ _ _ _ _ _ _ _ _ _ _ _
   | exact facts_Tighten.mono _ _ _ _ _ _ _ _
   | exact jacquardref14_Tighten.mono _ _ _ _ _ _ _ _
   | exact jacquardref14_Valid.mono _ _ _ _ _ _ _ _
   | exact LeO.none _
   | refine LeO.ite ?_ ?_
   | refine LeO.bind ?_ (fun _ => ?_)
theorem jacquardlaw14_FactsTightens.mono : ∀ a0 a1 a2 a3 a4 a5 a6 a7 k, LeO (jacquardlaw14_FactsTightens.f k a0 a1 a2 a3 a4 a5 a6 a7) (jacquardlaw14_FactsTightens.f (k + 1) a0 a1 a2 a3 a4 a5 a6 a7) := by
 intro a0 a1 a2 a3 a4 a5 a6 a7 k
 have ih0 := jacquardlaw14_FactsTightens.mono_l k
 unfold jacquardlaw14_FactsTightens.f
 repeat' first
   | (with_reducible exact ih0 _ _ _ _ _ _ _ _ _ _ _ _ _ _ _ _)
   | (with_reducible exact facts_Tighten.mono _ _ _ _ _ _ _ _)
   | (with_reducible exact jacquardref14_Tighten.mono _ _ _ _ _ _ _ _)
   | (with_reducible exact jacquardref14_Valid.mono _ _ _ _ _ _ _ _)
   | (with_reducible exact LeO.refl _)
   | (with_reducible exact LeO.none _)
   | (with_reducible refine LeO.ite ?_ ?_)
   | (with_reducible refine LeO.bind ?_ (fun _ => ?_))
   | exact ih0 _ _ _ _ _ _ _ _ _ _ _ _ _ _ _ _
   | exact facts_Tighten.mono _ _ _ _ _ _ _ _
   | exact jacquardref14_Tighten.mono _ _ _ _ _ _ _ _
   | exact jacquardref14_Valid.mono _ _ _ _ _ _ _ _
   | exact LeO.none _
   | refine LeO.ite ?_ ?_
   | refine LeO.bind ?_ (fun _ => ?_)
def jacquardlaw14_FactsTightens.T11 : Bool × List (List Nat × List Nat) := (true, [([], []), ([], []), ([0, 1], [0, 1]), ([2, 2], [2]), ([3], [3]), ([3], [3]), ([3], [3]), ([4, 5, 6, 3, 3], [3, 4, 5, 6]), ([3], [3]), ([3], [3]), ([3], [3]), ([8, 9, 10, 7, 3], [3, 8, 9, 10]), ([7, 11, 3], [3, 7, 11]), ([3, 12], [3, 12]), ([13, 11, 0, 1, 2, 3, 4, 5, 6, 7, 8, 9, 10, 11, 12, 13], [13])])
def jacquardlaw14_FactsTightens.B11 : List Nat := [0, 0, 3, 7, 15, 15, 15, 127, 15, 15, 15, 2047, 4095, 8191, 16383]
theorem jacquardlaw14_FactsTightens.tab11 : rtab .any (opsOf Try.f8 11) = jacquardlaw14_FactsTightens.T11 := by kernel_rfl
theorem jacquardlaw14_FactsTightens.bits11 : waitsOk jacquardlaw14_FactsTightens.T11.2 jacquardlaw14_FactsTightens.B11 = true := by kernel_rfl
set_option maxHeartbeats 8000000 in
set_option maxRecDepth 100000 in
theorem jacquardlaw14_FactsTightens.calls (k : Nat) (a0 : Int) (a1_0 : Int) (a1_1 : Int) (a1_2 : Int) (a1_3 : Int) (a1_4 : Int) (a1_5 : Int) (a2 : Int) (r : Bool) (w : World) (h : jacquardlaw14_FactsTightens.f k a0 a1_0 a1_1 a1_2 a1_3 a1_4 a1_5 a2 = some r) :
  Calls Try.prog 8 #[.int .i64 a0, .agg #[.int .u64 a1_0, .int .u64 a1_1, .int .u64 a1_2, .int .u64 a1_3, .int .i64 a1_4, .int .i64 a1_5], .int .u64 a2] w fun e w' => e = .returned (.bool r) ∧ Below w.heap.size w w' := by
 have hu50 := Try.underlying50
 have HB := Aside0.mk (Below.refl w.heap.size w)
 have H : ((jacquardlaw14_awake.f).bind fun t344 => (if t344 = true then ((facts_Tighten.f k a0 a1_0 a1_1 a1_2 a1_3 a1_4 a1_5).bind fun bt345 => ((jacquardref14_Tighten.f k a0 a1_0 a1_1 a1_2 a1_3 a1_4 a1_5).bind fun bt353 => (if (!(bt345.1 == bt353.1) || (!(bt345.2.1 == bt353.2.1) || (!(bt345.2.2.1 == bt353.2.2.1) || (!(bt345.2.2.2.1 == bt353.2.2.2.1) || (!(bt345.2.2.2.2.1 == bt353.2.2.2.2.1) || (!(bt345.2.2.2.2.2.1 == bt353.2.2.2.2.2.1))))))) = true then (jacquardlaw14_FactsTightens.j0 k a0 a2 bt345.2.2.2.2.2.2 true a1_0 a1_1 a1_2 a1_3 a1_4 a1_5 bt345.1 bt345.2.1 bt345.2.2.1 bt345.2.2.2.1 bt345.2.2.2.2.1 bt345.2.2.2.2.2.1) else (jacquardlaw14_FactsTightens.j0 k a0 a2 bt345.2.2.2.2.2.2 (bt345.2.2.2.2.2.2 != bt353.2.2.2.2.2.2) a1_0 a1_1 a1_2 a1_3 a1_4 a1_5 bt345.1 bt345.2.1 bt345.2.2.1 bt345.2.2.2.1 bt345.2.2.2.2.1 bt345.2.2.2.2.2.1)))) else (some false))) = some r := h
 clear h
 replace H := Option.bind_eq_some_iff.mp H
 obtain ⟨t344, A40, H⟩ := H
 replace H : (if t344 = true then ((facts_Tighten.f k a0 a1_0 a1_1 a1_2 a1_3 a1_4 a1_5).bind fun bt345 => ((jacquardref14_Tighten.f k a0 a1_0 a1_1 a1_2 a1_3 a1_4 a1_5).bind fun bt353 => (if (!(bt345.1 == bt353.1) || (!(bt345.2.1 == bt353.2.1) || (!(bt345.2.2.1 == bt353.2.2.1) || (!(bt345.2.2.2.1 == bt353.2.2.2.1) || (!(bt345.2.2.2.2.1 == bt353.2.2.2.2.1) || (!(bt345.2.2.2.2.2.1 == bt353.2.2.2.2.2.1))))))) = true then (jacquardlaw14_FactsTightens.j0 k a0 a2 bt345.2.2.2.2.2.2 true a1_0 a1_1 a1_2 a1_3 a1_4 a1_5 bt345.1 bt345.2.1 bt345.2.2.1 bt345.2.2.2.1 bt345.2.2.2.2.1 bt345.2.2.2.2.2.1) else (jacquardlaw14_FactsTightens.j0 k a0 a2 bt345.2.2.2.2.2.2 (bt345.2.2.2.2.2.2 != bt353.2.2.2.2.2.2) a1_0 a1_1 a1_2 a1_3 a1_4 a1_5 bt345.1 bt345.2.1 bt345.2.2.1 bt345.2.2.2.1 bt345.2.2.2.2.1 bt345.2.2.2.2.2.1)))) else (some false)) = some r := H
 have A4 := Aside0.mk A40
 clear A40
 by_cases c5 : t344 = true
 ·
  subst c5
  have H1 : ((facts_Tighten.f k a0 a1_0 a1_1 a1_2 a1_3 a1_4 a1_5).bind fun bt345 => ((jacquardref14_Tighten.f k a0 a1_0 a1_1 a1_2 a1_3 a1_4 a1_5).bind fun bt353 => (if (!(bt345.1 == bt353.1) || (!(bt345.2.1 == bt353.2.1) || (!(bt345.2.2.1 == bt353.2.2.1) || (!(bt345.2.2.2.1 == bt353.2.2.2.1) || (!(bt345.2.2.2.2.1 == bt353.2.2.2.2.1) || (!(bt345.2.2.2.2.2.1 == bt353.2.2.2.2.2.1))))))) = true then (jacquardlaw14_FactsTightens.j0 k a0 a2 bt345.2.2.2.2.2.2 true a1_0 a1_1 a1_2 a1_3 a1_4 a1_5 bt345.1 bt345.2.1 bt345.2.2.1 bt345.2.2.2.1 bt345.2.2.2.2.1 bt345.2.2.2.2.2.1) else (jacquardlaw14_FactsTightens.j0 k a0 a2 bt345.2.2.2.2.2.2 (bt345.2.2.2.2.2.2 != bt353.2.2.2.2.2.2) a1_0 a1_1 a1_2 a1_3 a1_4 a1_5 bt345.1 bt345.2.1 bt345.2.2.1 bt345.2.2.2.1 bt345.2.2.2.2.1 bt345.2.2.2.2.2.1)))) = some r := by rw [if_pos rfl] at H; exact H
  clear H
  have H := H1
  clear H1
  replace H := Option.bind_eq_some_iff.mp H
  obtain ⟨⟨t345, t346, t347, t348, t349, t350, t351⟩, A60, H⟩ := H
  replace H : ((jacquardref14_Tighten.f k a0 a1_0 a1_1 a1_2 a1_3 a1_4 a1_5).bind fun bt353 => (if (!(t345 == bt353.1) || (!(t346 == bt353.2.1) || (!(t347 == bt353.2.2.1) || (!(t348 == bt353.2.2.2.1) || (!(t349 == bt353.2.2.2.2.1) || (!(t350 == bt353.2.2.2.2.2.1))))))) = true then (jacquardlaw14_FactsTightens.j0 k a0 a2 t351 true a1_0 a1_1 a1_2 a1_3 a1_4 a1_5 t345 t346 t347 t348 t349 t350) else (jacquardlaw14_FactsTightens.j0 k a0 a2 t351 (t351 != bt353.2.2.2.2.2.2) a1_0 a1_1 a1_2 a1_3 a1_4 a1_5 t345 t346 t347 t348 t349 t350))) = some r := H
  have A6 := Aside0.mk A60
  clear A60
  replace H := Option.bind_eq_some_iff.mp H
  obtain ⟨⟨t353, t354, t355, t356, t357, t358, t359⟩, A70, H⟩ := H
  replace H : (if (!(t345 == t353) || (!(t346 == t354) || (!(t347 == t355) || (!(t348 == t356) || (!(t349 == t357) || (!(t350 == t358))))))) = true then (jacquardlaw14_FactsTightens.j0 k a0 a2 t351 true a1_0 a1_1 a1_2 a1_3 a1_4 a1_5 t345 t346 t347 t348 t349 t350) else (jacquardlaw14_FactsTightens.j0 k a0 a2 t351 (t351 != t359) a1_0 a1_1 a1_2 a1_3 a1_4 a1_5 t345 t346 t347 t348 t349 t350)) = some r := H
  have A7 := Aside0.mk A70
  clear A70
  have HC8 := Aside0.mk H
  clear H
  go_enter Try.func8, Try.ntmps8
  go_upto_region 5 with (first | ((with_reducible refine gate_dst (N := 4) rfl ?_); refine box_event ?hg (N := 4) ?hd (cs := #[.int .u64 a1_0, .int .u64 a1_1, .int .u64 a1_2, .int .u64 a1_3, .int .i64 a1_4, .int .i64 a1_5]) (t := 50) ?hr ?_; (case hd => rfl); (case hg => rfl); (case hr => first | (go_simp; done) | (go_simp; rfl)); intro gb343 hg w9 hbox hb; have n0_ := bsB HB.out hb; have n1_ := Aside0.mk (hbox); have n2_ := szB hg HB.out; have n3_ := szB hg HB.out; clear HB; have HB := n0_; have BK343 := n1_; have GW343 := n2_; have GE343 := n3_; clear n0_ n1_ n2_ n3_; clear hb hbox hg) | ((with_reducible refine gate_callee (f := 24) rfl ?_); refine gL (some 11) Try.func24 #[] ?_; (with_reducible refine (jacquardlaw14_awake.calls  true _ A4.out).mono ?_); rintro e w10 ⟨rfl, hb⟩; refine ⟨_, rfl, ?_⟩; have n0_ := bkB BK343.out hb; have n1_ := bsB HB.out hb; clear BK343; clear HB; have BK343 := n0_; have HB := n1_; clear n0_ n1_; (try clear hb); (try clear hb2); (try clear hk); (try clear hi); have hcz11_0 : w10.cell? ⟨gb343, 0, none⟩ = some (.int .u64 a1_0) := (blk_cell BK343.out 0).trans rfl; have hcz11_1 : w10.cell? ⟨gb343, 1, none⟩ = some (.int .u64 a1_1) := (blk_cell BK343.out 1).trans rfl; have hcz11_2 : w10.cell? ⟨gb343, 2, none⟩ = some (.int .u64 a1_2) := (blk_cell BK343.out 2).trans rfl; have hcz11_3 : w10.cell? ⟨gb343, 3, none⟩ = some (.int .u64 a1_3) := (blk_cell BK343.out 3).trans rfl; have hcz11_4 : w10.cell? ⟨gb343, 4, none⟩ = some (.int .i64 a1_4) := (blk_cell BK343.out 4).trans rfl; have hcz11_5 : w10.cell? ⟨gb343, 5, none⟩ = some (.int .i64 a1_5) := (blk_cell BK343.out 5).trans rfl; have hfz11_0 := blk_frozen BK343.out 0; have hfz11_1 := blk_frozen BK343.out 1; have hfz11_2 := blk_frozen BK343.out 2; have hfz11_3 := blk_frozen BK343.out 3; have hfz11_4 := blk_frozen BK343.out 4; have hfz11_5 := blk_frozen BK343.out 5) | ((with_reducible refine gate_callee (f := 25) rfl ?_); refine gL (some 16) Try.func25 #[.int .i64 a0, .agg #[.int .u64 a1_0, .int .u64 a1_1, .int .u64 a1_2, .int .u64 a1_3, .int .i64 a1_4, .int .i64 a1_5]] ?_; (with_reducible refine (facts_Tighten.calls k a0 a1_0 a1_1 a1_2 a1_3 a1_4 a1_5 t345 t346 t347 t348 t349 t350 t351 _ A6.out).mono ?_); rintro e w12 ⟨rfl, hb⟩; refine ⟨_, rfl, ?_⟩; have n0_ := bkB BK343.out hb; have n1_ := bsB HB.out hb; clear BK343; clear HB; have BK343 := n0_; have HB := n1_; clear n0_ n1_; (try clear hb); (try clear hb2); (try clear hk); (try clear hi)) | ((with_reducible refine gate_dst (N := 7) rfl ?_); refine box_event ?hg (N := 7) ?hd (cs := #[.int .u64 0, .int .u64 0, .int .u64 0, .int .u64 0, .int .i64 0, .int .i64 0]) (t := 50) ?hr ?_; (case hd => rfl); (case hg => rfl); (case hr => first | (go_simp; done) | (go_simp; rfl)); intro gb352 hg w13 hbox hb; have n0_ := bkB BK343.out hb; have n1_ := bsB HB.out hb; have n2_ := Aside0.mk (hbox); have n3_ := szB hg HB.out; have n4_ := szB hg HB.out; have n5_ := Aside0.mk ((by rw [hg]; exact Nat.ne_of_lt (blk_lt (g := gb343) (o := .cells #[.int .u64 a1_0, .int .u64 a1_1, .int .u64 a1_2, .int .u64 a1_3, .int .i64 a1_4, .int .i64 a1_5] 50 (0, 0)) (by exact bfL BK343.out)) : gb343 ≠ gb352)); have n6_ := Aside0.mk ((by rw [hg]; exact Nat.ne_of_gt (blk_lt (g := gb343) (o := .cells #[.int .u64 a1_0, .int .u64 a1_1, .int .u64 a1_2, .int .u64 a1_3, .int .i64 a1_4, .int .i64 a1_5] 50 (0, 0)) (by exact bfL BK343.out)) : gb352 ≠ gb343)); clear BK343; clear HB; have BK343 := n0_; have HB := n1_; have BK352 := n2_; have GW352 := n3_; have GE352 := n4_; have NB343_352 := n5_; have NB352_343 := n6_; clear n0_ n1_ n2_ n3_ n4_ n5_ n6_; clear hb hbox hg; have hnb14 := NB352_343.out; have hnc14 := NB343_352.out; have hcz15_0 : w13.cell? ⟨gb352, 0, none⟩ = some (.int .u64 0) := (blk_cell BK352.out 0).trans rfl; have hcz15_1 : w13.cell? ⟨gb352, 1, none⟩ = some (.int .u64 0) := (blk_cell BK352.out 1).trans rfl; have hcz15_2 : w13.cell? ⟨gb352, 2, none⟩ = some (.int .u64 0) := (blk_cell BK352.out 2).trans rfl; have hcz15_3 : w13.cell? ⟨gb352, 3, none⟩ = some (.int .u64 0) := (blk_cell BK352.out 3).trans rfl; have hcz15_4 : w13.cell? ⟨gb352, 4, none⟩ = some (.int .i64 0) := (blk_cell BK352.out 4).trans rfl; have hcz15_5 : w13.cell? ⟨gb352, 5, none⟩ = some (.int .i64 0) := (blk_cell BK352.out 5).trans rfl; have hfz15_0 := blk_frozen BK352.out 0; have hfz15_1 := blk_frozen BK352.out 1; have hfz15_2 := blk_frozen BK352.out 2; have hfz15_3 := blk_frozen BK352.out 3; have hfz15_4 := blk_frozen BK352.out 4; have hfz15_5 := blk_frozen BK352.out 5; have hcz16_0 : w13.cell? ⟨gb343, 0, none⟩ = some (.int .u64 a1_0) := (blk_cell BK343.out 0).trans rfl; have hcz16_1 : w13.cell? ⟨gb343, 1, none⟩ = some (.int .u64 a1_1) := (blk_cell BK343.out 1).trans rfl; have hcz16_2 : w13.cell? ⟨gb343, 2, none⟩ = some (.int .u64 a1_2) := (blk_cell BK343.out 2).trans rfl; have hcz16_3 : w13.cell? ⟨gb343, 3, none⟩ = some (.int .u64 a1_3) := (blk_cell BK343.out 3).trans rfl; have hcz16_4 : w13.cell? ⟨gb343, 4, none⟩ = some (.int .i64 a1_4) := (blk_cell BK343.out 4).trans rfl; have hcz16_5 : w13.cell? ⟨gb343, 5, none⟩ = some (.int .i64 a1_5) := (blk_cell BK343.out 5).trans rfl; have hfz16_0 := blk_frozen BK343.out 0; have hfz16_1 := blk_frozen BK343.out 1; have hfz16_2 := blk_frozen BK343.out 2; have hfz16_3 := blk_frozen BK343.out 3; have hfz16_4 := blk_frozen BK343.out 4; have hfz16_5 := blk_frozen BK343.out 5) | ((with_reducible refine gate_callee (f := 26) rfl ?_); refine gL (some 22) Try.func26 #[.int .i64 a0, .agg #[.int .u64 a1_0, .int .u64 a1_1, .int .u64 a1_2, .int .u64 a1_3, .int .i64 a1_4, .int .i64 a1_5]] ?_; (with_reducible refine (jacquardref14_Tighten.calls k a0 a1_0 a1_1 a1_2 a1_3 a1_4 a1_5 t353 t354 t355 t356 t357 t358 t359 _ A7.out).mono ?_); rintro e w17 ⟨rfl, hb⟩; refine ⟨_, rfl, ?_⟩; have n0_ := Aside0.mk (blk_below (g := gb343) (o := .cells #[.int .u64 a1_0, .int .u64 a1_1, .int .u64 a1_2, .int .u64 a1_3, .int .i64 a1_4, .int .i64 a1_5] 50 (0, 0)) (by exact bfL BK343.out) hb); have n1_ := Aside0.mk (blk_below (g := gb352) (o := .cells #[.int .u64 t345, .int .u64 t346, .int .u64 t347, .int .u64 t348, .int .i64 t349, .int .i64 t350] 50 (0, 0)) (by (with_reducible repeat (first | refine blk_drewN ?_ _ | refine blk_drew ?_ | refine blk_alloc ?_ _)); refine blk_put (cs := #[.int .u64 t345, .int .u64 t346, .int .u64 t347, .int .u64 t348, .int .i64 t349, .int .i64 0]) ?_ 5 _ rfl; (with_reducible repeat (first | refine blk_drewN ?_ _ | refine blk_drew ?_ | refine blk_alloc ?_ _)); refine blk_put (cs := #[.int .u64 t345, .int .u64 t346, .int .u64 t347, .int .u64 t348, .int .i64 0, .int .i64 0]) ?_ 4 _ rfl; (with_reducible repeat (first | refine blk_drewN ?_ _ | refine blk_drew ?_ | refine blk_alloc ?_ _)); refine blk_put (cs := #[.int .u64 t345, .int .u64 t346, .int .u64 t347, .int .u64 0, .int .i64 0, .int .i64 0]) ?_ 3 _ rfl; (with_reducible repeat (first | refine blk_drewN ?_ _ | refine blk_drew ?_ | refine blk_alloc ?_ _)); refine blk_put (cs := #[.int .u64 t345, .int .u64 t346, .int .u64 0, .int .u64 0, .int .i64 0, .int .i64 0]) ?_ 2 _ rfl; (with_reducible repeat (first | refine blk_drewN ?_ _ | refine blk_drew ?_ | refine blk_alloc ?_ _)); refine blk_put (cs := #[.int .u64 t345, .int .u64 0, .int .u64 0, .int .u64 0, .int .i64 0, .int .i64 0]) ?_ 1 _ rfl; (with_reducible repeat (first | refine blk_drewN ?_ _ | refine blk_drew ?_ | refine blk_alloc ?_ _)); refine blk_put (cs := #[.int .u64 0, .int .u64 0, .int .u64 0, .int .u64 0, .int .i64 0, .int .i64 0]) ?_ 0 _ rfl; exact bfL BK352.out) hb); have n2_ := bsB HB.out hb; clear BK343; clear BK352; clear HB; have BK343 := n0_; have BK352 := n1_; have HB := n2_; clear n0_ n1_ n2_; (try clear hb); (try clear hb2); (try clear hk); (try clear hi)) | ((with_reducible refine gate_dst (N := 9) rfl ?_); refine box_event ?hg (N := 9) ?hd (cs := #[.int .u64 0, .int .u64 0, .int .u64 0, .int .u64 0, .int .i64 0, .int .i64 0]) (t := 50) ?hr ?_; (case hd => rfl); (case hg => rfl); (case hr => first | (go_simp; done) | (go_simp; rfl)); intro gb360 hg w18 hbox hb; have n0_ := bkB BK343.out hb; have n1_ := bkB BK352.out hb; have n2_ := bsB HB.out hb; have n3_ := Aside0.mk (hbox); have n4_ := szB hg HB.out; have n5_ := szB hg HB.out; have n6_ := Aside0.mk ((by rw [hg]; exact Nat.ne_of_lt (blk_lt (g := gb343) (o := .cells #[.int .u64 a1_0, .int .u64 a1_1, .int .u64 a1_2, .int .u64 a1_3, .int .i64 a1_4, .int .i64 a1_5] 50 (0, 0)) (by exact bfL BK343.out)) : gb343 ≠ gb360)); have n7_ := Aside0.mk ((by rw [hg]; exact Nat.ne_of_gt (blk_lt (g := gb343) (o := .cells #[.int .u64 a1_0, .int .u64 a1_1, .int .u64 a1_2, .int .u64 a1_3, .int .i64 a1_4, .int .i64 a1_5] 50 (0, 0)) (by exact bfL BK343.out)) : gb360 ≠ gb343)); have n8_ := Aside0.mk ((by rw [hg]; exact Nat.ne_of_lt (blk_lt (g := gb352) (o := .cells #[.int .u64 t345, .int .u64 t346, .int .u64 t347, .int .u64 t348, .int .i64 t349, .int .i64 t350] 50 (0, 0)) (by exact bfL BK352.out)) : gb352 ≠ gb360)); have n9_ := Aside0.mk ((by rw [hg]; exact Nat.ne_of_gt (blk_lt (g := gb352) (o := .cells #[.int .u64 t345, .int .u64 t346, .int .u64 t347, .int .u64 t348, .int .i64 t349, .int .i64 t350] 50 (0, 0)) (by exact bfL BK352.out)) : gb360 ≠ gb352)); clear BK343; clear BK352; clear HB; have BK343 := n0_; have BK352 := n1_; have HB := n2_; have BK360 := n3_; have GW360 := n4_; have GE360 := n5_; have NB343_360 := n6_; have NB360_343 := n7_; have NB352_360 := n8_; have NB360_352 := n9_; clear n0_ n1_ n2_ n3_ n4_ n5_ n6_ n7_ n8_ n9_; clear hb hbox hg; have hnb19 := NB360_343.out; have hnc19 := NB343_360.out; have hnb20 := NB360_352.out; have hnc20 := NB352_360.out; have hcz21_0 : w18.cell? ⟨gb360, 0, none⟩ = some (.int .u64 0) := (blk_cell BK360.out 0).trans rfl; have hcz21_1 : w18.cell? ⟨gb360, 1, none⟩ = some (.int .u64 0) := (blk_cell BK360.out 1).trans rfl; have hcz21_2 : w18.cell? ⟨gb360, 2, none⟩ = some (.int .u64 0) := (blk_cell BK360.out 2).trans rfl; have hcz21_3 : w18.cell? ⟨gb360, 3, none⟩ = some (.int .u64 0) := (blk_cell BK360.out 3).trans rfl; have hcz21_4 : w18.cell? ⟨gb360, 4, none⟩ = some (.int .i64 0) := (blk_cell BK360.out 4).trans rfl; have hcz21_5 : w18.cell? ⟨gb360, 5, none⟩ = some (.int .i64 0) := (blk_cell BK360.out 5).trans rfl; have hfz21_0 := blk_frozen BK360.out 0; have hfz21_1 := blk_frozen BK360.out 1; have hfz21_2 := blk_frozen BK360.out 2; have hfz21_3 := blk_frozen BK360.out 3; have hfz21_4 := blk_frozen BK360.out 4; have hfz21_5 := blk_frozen BK360.out 5))
  (try simp only [Act.put, List.setIfInBounds_toArray, List.set_cons_zero, List.set_cons_succ])
  go_cut [32] (fun v32 wc => ∃ (kq : Nat) (x32_7 : Bool), v32 = .bool x32_7 ∧ Aside0 (jacquardlaw14_FactsTightens.j0 kq a0 a2 t351 x32_7 a1_0 a1_1 a1_2 a1_3 a1_4 a1_5 t345 t346 t347 t348 t349 t350 = some r) ∧ Aside0 (kq ≤ k) ∧ Aside0 (wc.heap[gb343]? = some (.cells #[.int .u64 a1_0, .int .u64 a1_1, .int .u64 a1_2, .int .u64 a1_3, .int .i64 a1_4, .int .i64 a1_5] 50 (0, 0))) ∧ Aside0 (wc.heap[gb352]? = some (.cells #[.int .u64 t345, .int .u64 t346, .int .u64 t347, .int .u64 t348, .int .i64 t349, .int .i64 t350] 50 (0, 0))) ∧ Aside0 (wc.heap[gb360]? = some (.cells #[.int .u64 t353, .int .u64 t354, .int .u64 t355, .int .u64 t356, .int .i64 t357, .int .i64 t358] 50 (0, 0))) ∧ Aside0 (Below w.heap.size w wc))
  case first =>
   have H := HC8.out
   clear HC8
   by_cases c22 : (!(t345 == t353) || (!(t346 == t354) || (!(t347 == t355) || (!(t348 == t356) || (!(t349 == t357) || (!(t350 == t358))))))) = true
   ·
    rw [if_pos c22] at H
    have c22b0 : (!(t345 == t353) || (!(t346 == t354) || (!(t347 == t355) || (!(t348 == t356) || (!(t349 == t357) || (!(t350 == t358))))))) = true := c22
    clear c22
    (first | rw [c22b0] | (simp only [i64_w, i32_w]; rw [c22b0]) | skip)
    have H' := Aside0.mk H
    clear H
    have hnb23 := NB352_343.out
    have hnc23 := NB343_352.out
    have hnb24 := NB352_360.out
    have hnc24 := NB360_352.out
    have hcz25_0 : w18.cell? ⟨gb352, 0, none⟩ = some (.int .u64 t345) := (blk_cell BK352.out 0).trans rfl
    have hcz25_1 : w18.cell? ⟨gb352, 1, none⟩ = some (.int .u64 t346) := (blk_cell BK352.out 1).trans rfl
    have hcz25_2 : w18.cell? ⟨gb352, 2, none⟩ = some (.int .u64 t347) := (blk_cell BK352.out 2).trans rfl
    have hcz25_3 : w18.cell? ⟨gb352, 3, none⟩ = some (.int .u64 t348) := (blk_cell BK352.out 3).trans rfl
    have hcz25_4 : w18.cell? ⟨gb352, 4, none⟩ = some (.int .i64 t349) := (blk_cell BK352.out 4).trans rfl
    have hcz25_5 : w18.cell? ⟨gb352, 5, none⟩ = some (.int .i64 t350) := (blk_cell BK352.out 5).trans rfl
    have hfz25_0 := blk_frozen BK352.out 0
    have hfz25_1 := blk_frozen BK352.out 1
    have hfz25_2 := blk_frozen BK352.out 2
    have hfz25_3 := blk_frozen BK352.out 3
    have hfz25_4 := blk_frozen BK352.out 4
    have hfz25_5 := blk_frozen BK352.out 5
    have hnb26 := NB360_343.out
    have hnc26 := NB343_360.out
    have hcz27_0 : w18.cell? ⟨gb360, 0, none⟩ = some (.int .u64 0) := (blk_cell BK360.out 0).trans rfl
    have hcz27_1 : w18.cell? ⟨gb360, 1, none⟩ = some (.int .u64 0) := (blk_cell BK360.out 1).trans rfl
    have hcz27_2 : w18.cell? ⟨gb360, 2, none⟩ = some (.int .u64 0) := (blk_cell BK360.out 2).trans rfl
    have hcz27_3 : w18.cell? ⟨gb360, 3, none⟩ = some (.int .u64 0) := (blk_cell BK360.out 3).trans rfl
    have hcz27_4 : w18.cell? ⟨gb360, 4, none⟩ = some (.int .i64 0) := (blk_cell BK360.out 4).trans rfl
    have hcz27_5 : w18.cell? ⟨gb360, 5, none⟩ = some (.int .i64 0) := (blk_cell BK360.out 5).trans rfl
    have hfz27_0 := blk_frozen BK360.out 0
    have hfz27_1 := blk_frozen BK360.out 1
    have hfz27_2 := blk_frozen BK360.out 2
    have hfz27_3 := blk_frozen BK360.out 3
    have hfz27_4 := blk_frozen BK360.out 4
    have hfz27_5 := blk_frozen BK360.out 5
    go_wp2
    go_meet
    case rel => exact ⟨_, (true), (by first | rfl | (simp; done) | (simp [*]; done)), H', ⟨by first | omega | exact Nat.le_refl _⟩, ⟨by exact bfL BK343.out⟩, ⟨by exact bfL BK352.out⟩, ⟨by (with_reducible repeat (first | refine blk_drewN ?_ _ | refine blk_drew ?_ | refine blk_alloc ?_ _)); refine blk_put (cs := #[.int .u64 t353, .int .u64 t354, .int .u64 t355, .int .u64 t356, .int .i64 t357, .int .i64 0]) ?_ 5 _ rfl; (with_reducible repeat (first | refine blk_drewN ?_ _ | refine blk_drew ?_ | refine blk_alloc ?_ _)); refine blk_put (cs := #[.int .u64 t353, .int .u64 t354, .int .u64 t355, .int .u64 t356, .int .i64 0, .int .i64 0]) ?_ 4 _ rfl; (with_reducible repeat (first | refine blk_drewN ?_ _ | refine blk_drew ?_ | refine blk_alloc ?_ _)); refine blk_put (cs := #[.int .u64 t353, .int .u64 t354, .int .u64 t355, .int .u64 0, .int .i64 0, .int .i64 0]) ?_ 3 _ rfl; (with_reducible repeat (first | refine blk_drewN ?_ _ | refine blk_drew ?_ | refine blk_alloc ?_ _)); refine blk_put (cs := #[.int .u64 t353, .int .u64 t354, .int .u64 0, .int .u64 0, .int .i64 0, .int .i64 0]) ?_ 2 _ rfl; (with_reducible repeat (first | refine blk_drewN ?_ _ | refine blk_drew ?_ | refine blk_alloc ?_ _)); refine blk_put (cs := #[.int .u64 t353, .int .u64 0, .int .u64 0, .int .u64 0, .int .i64 0, .int .i64 0]) ?_ 1 _ rfl; (with_reducible repeat (first | refine blk_drewN ?_ _ | refine blk_drew ?_ | refine blk_alloc ?_ _)); refine blk_put (cs := #[.int .u64 0, .int .u64 0, .int .u64 0, .int .u64 0, .int .i64 0, .int .i64 0]) ?_ 0 _ rfl; exact bfL BK360.out⟩, ⟨bsL HB.out⟩⟩
   ·
    rw [if_neg c22] at H
    have c22b0 : (!(t345 == t353) || (!(t346 == t354) || (!(t347 == t355) || (!(t348 == t356) || (!(t349 == t357) || (!(t350 == t358))))))) = false := by simpa using c22
    clear c22
    (first | rw [c22b0] | (simp only [i64_w, i32_w]; rw [c22b0]) | skip)
    have H' := Aside0.mk H
    clear H
    have hnb28 := NB352_343.out
    have hnc28 := NB343_352.out
    have hnb29 := NB352_360.out
    have hnc29 := NB360_352.out
    have hcz30_0 : w18.cell? ⟨gb352, 0, none⟩ = some (.int .u64 t345) := (blk_cell BK352.out 0).trans rfl
    have hcz30_1 : w18.cell? ⟨gb352, 1, none⟩ = some (.int .u64 t346) := (blk_cell BK352.out 1).trans rfl
    have hcz30_2 : w18.cell? ⟨gb352, 2, none⟩ = some (.int .u64 t347) := (blk_cell BK352.out 2).trans rfl
    have hcz30_3 : w18.cell? ⟨gb352, 3, none⟩ = some (.int .u64 t348) := (blk_cell BK352.out 3).trans rfl
    have hcz30_4 : w18.cell? ⟨gb352, 4, none⟩ = some (.int .i64 t349) := (blk_cell BK352.out 4).trans rfl
    have hcz30_5 : w18.cell? ⟨gb352, 5, none⟩ = some (.int .i64 t350) := (blk_cell BK352.out 5).trans rfl
    have hfz30_0 := blk_frozen BK352.out 0
    have hfz30_1 := blk_frozen BK352.out 1
    have hfz30_2 := blk_frozen BK352.out 2
    have hfz30_3 := blk_frozen BK352.out 3
    have hfz30_4 := blk_frozen BK352.out 4
    have hfz30_5 := blk_frozen BK352.out 5
    have hnb31 := NB360_343.out
    have hnc31 := NB343_360.out
    have hcz32_0 : w18.cell? ⟨gb360, 0, none⟩ = some (.int .u64 0) := (blk_cell BK360.out 0).trans rfl
    have hcz32_1 : w18.cell? ⟨gb360, 1, none⟩ = some (.int .u64 0) := (blk_cell BK360.out 1).trans rfl
    have hcz32_2 : w18.cell? ⟨gb360, 2, none⟩ = some (.int .u64 0) := (blk_cell BK360.out 2).trans rfl
    have hcz32_3 : w18.cell? ⟨gb360, 3, none⟩ = some (.int .u64 0) := (blk_cell BK360.out 3).trans rfl
    have hcz32_4 : w18.cell? ⟨gb360, 4, none⟩ = some (.int .i64 0) := (blk_cell BK360.out 4).trans rfl
    have hcz32_5 : w18.cell? ⟨gb360, 5, none⟩ = some (.int .i64 0) := (blk_cell BK360.out 5).trans rfl
    have hfz32_0 := blk_frozen BK360.out 0
    have hfz32_1 := blk_frozen BK360.out 1
    have hfz32_2 := blk_frozen BK360.out 2
    have hfz32_3 := blk_frozen BK360.out 3
    have hfz32_4 := blk_frozen BK360.out 4
    have hfz32_5 := blk_frozen BK360.out 5
    go_wp2
    go_meet
    case rel => exact ⟨_, ((t351 != t359)), (by first | rfl | (simp; done) | (simp [*]; done)), H', ⟨by first | omega | exact Nat.le_refl _⟩, ⟨by exact bfL BK343.out⟩, ⟨by exact bfL BK352.out⟩, ⟨by (with_reducible repeat (first | refine blk_drewN ?_ _ | refine blk_drew ?_ | refine blk_alloc ?_ _)); refine blk_put (cs := #[.int .u64 t353, .int .u64 t354, .int .u64 t355, .int .u64 t356, .int .i64 t357, .int .i64 0]) ?_ 5 _ rfl; (with_reducible repeat (first | refine blk_drewN ?_ _ | refine blk_drew ?_ | refine blk_alloc ?_ _)); refine blk_put (cs := #[.int .u64 t353, .int .u64 t354, .int .u64 t355, .int .u64 t356, .int .i64 0, .int .i64 0]) ?_ 4 _ rfl; (with_reducible repeat (first | refine blk_drewN ?_ _ | refine blk_drew ?_ | refine blk_alloc ?_ _)); refine blk_put (cs := #[.int .u64 t353, .int .u64 t354, .int .u64 t355, .int .u64 0, .int .i64 0, .int .i64 0]) ?_ 3 _ rfl; (with_reducible repeat (first | refine blk_drewN ?_ _ | refine blk_drew ?_ | refine blk_alloc ?_ _)); refine blk_put (cs := #[.int .u64 t353, .int .u64 t354, .int .u64 0, .int .u64 0, .int .i64 0, .int .i64 0]) ?_ 2 _ rfl; (with_reducible repeat (first | refine blk_drewN ?_ _ | refine blk_drew ?_ | refine blk_alloc ?_ _)); refine blk_put (cs := #[.int .u64 t353, .int .u64 0, .int .u64 0, .int .u64 0, .int .i64 0, .int .i64 0]) ?_ 1 _ rfl; (with_reducible repeat (first | refine blk_drewN ?_ _ | refine blk_drew ?_ | refine blk_alloc ?_ _)); refine blk_put (cs := #[.int .u64 0, .int .u64 0, .int .u64 0, .int .u64 0, .int .i64 0, .int .i64 0]) ?_ 0 _ rfl; exact bfL BK360.out⟩, ⟨bsL HB.out⟩⟩
  case rest =>
   clear HC8
   try clear c1
   try clear c2
   try clear p2
   try clear c3
   try clear c5
   try clear c8
   try clear c14
   try clear c19
   try clear c20
   try clear c22
   try clear c22b0
   try clear c23
   try clear c24
   try clear c25
   try clear c26
   try clear c28
   try clear c29
   try clear c31
   try clear hcz11_0
   try clear hcz11_1
   try clear hcz11_2
   try clear hcz11_3
   try clear hcz11_4
   try clear hcz11_5
   try clear hcz15_0
   try clear hcz15_1
   try clear hcz15_2
   try clear hcz15_3
   try clear hcz15_4
   try clear hcz15_5
   try clear hcz16_0
   try clear hcz16_1
   try clear hcz16_2
   try clear hcz16_3
   try clear hcz16_4
   try clear hcz16_5
   try clear hcz21_0
   try clear hcz21_1
   try clear hcz21_2
   try clear hcz21_3
   try clear hcz21_4
   try clear hcz21_5
   try clear hcz25_0
   try clear hcz25_1
   try clear hcz25_2
   try clear hcz25_3
   try clear hcz25_4
   try clear hcz25_5
   try clear hcz27_0
   try clear hcz27_1
   try clear hcz27_2
   try clear hcz27_3
   try clear hcz27_4
   try clear hcz27_5
   try clear hcz30_0
   try clear hcz30_1
   try clear hcz30_2
   try clear hcz30_3
   try clear hcz30_4
   try clear hcz30_5
   try clear hcz32_0
   try clear hcz32_1
   try clear hcz32_2
   try clear hcz32_3
   try clear hcz32_4
   try clear hcz32_5
   try clear hfz11_0
   try clear hfz11_1
   try clear hfz11_2
   try clear hfz11_3
   try clear hfz11_4
   try clear hfz11_5
   try clear hfz15_0
   try clear hfz15_1
   try clear hfz15_2
   try clear hfz15_3
   try clear hfz15_4
   try clear hfz15_5
   try clear hfz16_0
   try clear hfz16_1
   try clear hfz16_2
   try clear hfz16_3
   try clear hfz16_4
   try clear hfz16_5
   try clear hfz21_0
   try clear hfz21_1
   try clear hfz21_2
   try clear hfz21_3
   try clear hfz21_4
   try clear hfz21_5
   try clear hfz25_0
   try clear hfz25_1
   try clear hfz25_2
   try clear hfz25_3
   try clear hfz25_4
   try clear hfz25_5
   try clear hfz27_0
   try clear hfz27_1
   try clear hfz27_2
   try clear hfz27_3
   try clear hfz27_4
   try clear hfz27_5
   try clear hfz30_0
   try clear hfz30_1
   try clear hfz30_2
   try clear hfz30_3
   try clear hfz30_4
   try clear hfz30_5
   try clear hfz32_0
   try clear hfz32_1
   try clear hfz32_2
   try clear hfz32_3
   try clear hfz32_4
   try clear hfz32_5
   obtain ⟨kq, x32_7, rfl, HA, HJ7, BK343, BK352, BK360, HB⟩ := hcut
   cases kq with
   | zero => exact absurd HA.out (by simp [jacquardlaw14_FactsTightens.j0])
   | succ kj7 =>
    have H := HA.out
    clear HA
    simp only [jacquardlaw14_FactsTightens.j0] at H
    by_cases c33 : x32_7 = true
    ·
     subst c33
     have H1 : (some false) = some r := by rw [if_pos rfl] at H; exact H
     clear H
     have H := H1
     clear H1
     obtain rfl := Option.some.inj H
     go_wp2
     go_ret
     exact ⟨by first | rfl | (simp [errW_none, errW_some] <;> rfl) | (simp [*, errW_none, errW_some] <;> rfl), bsL HB.out⟩
    ·
     replace c33 := Bool.eq_false_iff.mpr c33
     subst c33
     have H1 : ((jacquardref14_Valid.f kj7 a0 a1_0 a1_1 a1_2 a1_3 a1_4 a1_5).bind fun t361 => (if t361 = true then (if t351 = true then ((facts_Leq.f t345 t346 t347 t348 t349 t350 a1_0 a1_1 a1_2 a1_3 a1_4 a1_5).bind fun t362 => (if t362 = true then ((facts_Contains.f a0 t345 t346 t347 t348 t349 t350 a2).bind fun t363 => ((facts_Contains.f a0 a1_0 a1_1 a1_2 a1_3 a1_4 a1_5 a2).bind fun t364 => (some (t363 == t364)))) else (some false))) else ((facts_Contains.f a0 a1_0 a1_1 a1_2 a1_3 a1_4 a1_5 a2).bind fun t365 => (some (!t365)))) else (some (!t351)))) = some r := by rw [if_neg (show ¬ (false = true) by decide)] at H; exact H
     clear H
     have H := H1
     clear H1
     replace H := Option.bind_eq_some_iff.mp H
     obtain ⟨t361, A340, H⟩ := H
     replace H : (if t361 = true then (if t351 = true then ((facts_Leq.f t345 t346 t347 t348 t349 t350 a1_0 a1_1 a1_2 a1_3 a1_4 a1_5).bind fun t362 => (if t362 = true then ((facts_Contains.f a0 t345 t346 t347 t348 t349 t350 a2).bind fun t363 => ((facts_Contains.f a0 a1_0 a1_1 a1_2 a1_3 a1_4 a1_5 a2).bind fun t364 => (some (t363 == t364)))) else (some false))) else ((facts_Contains.f a0 a1_0 a1_1 a1_2 a1_3 a1_4 a1_5 a2).bind fun t365 => (some (!t365)))) else (some (!t351))) = some r := H
     have A34 := Aside0.mk A340
     clear A340
     by_cases c35 : t361 = true
     ·
      subst c35
      have H1 : (if t351 = true then ((facts_Leq.f t345 t346 t347 t348 t349 t350 a1_0 a1_1 a1_2 a1_3 a1_4 a1_5).bind fun t362 => (if t362 = true then ((facts_Contains.f a0 t345 t346 t347 t348 t349 t350 a2).bind fun t363 => ((facts_Contains.f a0 a1_0 a1_1 a1_2 a1_3 a1_4 a1_5 a2).bind fun t364 => (some (t363 == t364)))) else (some false))) else ((facts_Contains.f a0 a1_0 a1_1 a1_2 a1_3 a1_4 a1_5 a2).bind fun t365 => (some (!t365)))) = some r := by rw [if_pos rfl] at H; exact H
      clear H
      have H := H1
      clear H1
      by_cases c36 : t351 = true
      ·
       subst c36
       have H1 : ((facts_Leq.f t345 t346 t347 t348 t349 t350 a1_0 a1_1 a1_2 a1_3 a1_4 a1_5).bind fun t362 => (if t362 = true then ((facts_Contains.f a0 t345 t346 t347 t348 t349 t350 a2).bind fun t363 => ((facts_Contains.f a0 a1_0 a1_1 a1_2 a1_3 a1_4 a1_5 a2).bind fun t364 => (some (t363 == t364)))) else (some false))) = some r := by rw [if_pos rfl] at H; exact H
       clear H
       have H := H1
       clear H1
       replace H := Option.bind_eq_some_iff.mp H
       obtain ⟨t362, A370, H⟩ := H
       replace H : (if t362 = true then ((facts_Contains.f a0 t345 t346 t347 t348 t349 t350 a2).bind fun t363 => ((facts_Contains.f a0 a1_0 a1_1 a1_2 a1_3 a1_4 a1_5 a2).bind fun t364 => (some (t363 == t364)))) else (some false)) = some r := H
       have A37 := Aside0.mk A370
       clear A370
       by_cases c38 : t362 = true
       ·
        subst c38
        have H1 : ((facts_Contains.f a0 t345 t346 t347 t348 t349 t350 a2).bind fun t363 => ((facts_Contains.f a0 a1_0 a1_1 a1_2 a1_3 a1_4 a1_5 a2).bind fun t364 => (some (t363 == t364)))) = some r := by rw [if_pos rfl] at H; exact H
        clear H
        have H := H1
        clear H1
        replace H := Option.bind_eq_some_iff.mp H
        obtain ⟨t363, A390, H⟩ := H
        replace H : ((facts_Contains.f a0 a1_0 a1_1 a1_2 a1_3 a1_4 a1_5 a2).bind fun t364 => (some (t363 == t364))) = some r := H
        have A39 := Aside0.mk A390
        clear A390
        replace H := Option.bind_eq_some_iff.mp H
        obtain ⟨t364, A400, H⟩ := H
        replace H : (some (t363 == t364)) = some r := H
        have A40 := Aside0.mk A400
        clear A400
        obtain rfl := Option.some.inj H
        have hnb41 := NB343_352.out
        have hnc41 := NB352_343.out
        have hnb42 := NB343_360.out
        have hnc42 := NB360_343.out
        have hcz43_0 : wc.cell? ⟨gb343, 0, none⟩ = some (.int .u64 a1_0) := (blk_cell BK343.out 0).trans rfl
        have hcz43_1 : wc.cell? ⟨gb343, 1, none⟩ = some (.int .u64 a1_1) := (blk_cell BK343.out 1).trans rfl
        have hcz43_2 : wc.cell? ⟨gb343, 2, none⟩ = some (.int .u64 a1_2) := (blk_cell BK343.out 2).trans rfl
        have hcz43_3 : wc.cell? ⟨gb343, 3, none⟩ = some (.int .u64 a1_3) := (blk_cell BK343.out 3).trans rfl
        have hcz43_4 : wc.cell? ⟨gb343, 4, none⟩ = some (.int .i64 a1_4) := (blk_cell BK343.out 4).trans rfl
        have hcz43_5 : wc.cell? ⟨gb343, 5, none⟩ = some (.int .i64 a1_5) := (blk_cell BK343.out 5).trans rfl
        have hfz43_0 := blk_frozen BK343.out 0
        have hfz43_1 := blk_frozen BK343.out 1
        have hfz43_2 := blk_frozen BK343.out 2
        have hfz43_3 := blk_frozen BK343.out 3
        have hfz43_4 := blk_frozen BK343.out 4
        have hfz43_5 := blk_frozen BK343.out 5
        try go_wp2_with (first | ((with_reducible refine gate_callee (f := 27) rfl ?_); refine gL (some 35) Try.func27 #[.int .i64 a0, .agg #[.int .u64 a1_0, .int .u64 a1_1, .int .u64 a1_2, .int .u64 a1_3, .int .i64 a1_4, .int .i64 a1_5]] ?_; (with_reducible refine (jacquardref14_Valid.calls kj7 a0 a1_0 a1_1 a1_2 a1_3 a1_4 a1_5 true _ A34.out).mono ?_); rintro e w44 ⟨rfl, hb⟩; refine ⟨_, rfl, ?_⟩; replace BK343 := bkB BK343.out hb; replace BK352 := bkB BK352.out hb; replace BK360 := bkB BK360.out hb; replace HB := bsB HB.out hb; (try clear hb)))
        have n0_ := Aside0.mk (blk_drew BK343.out)
        have n1_ := Aside0.mk (blk_drew BK352.out)
        have n2_ := Aside0.mk (blk_drew BK360.out)
        have n3_ := Aside0.mk (below_drew1 HB.out)
        clear BK343
        clear BK352
        clear BK360
        clear HB
        have BK343 := n0_
        have BK352 := n1_
        have BK360 := n2_
        have HB := n3_
        clear n0_ n1_ n2_ n3_
        refine start_ (n := 15) (S := fun w' => w'.cell? ⟨gb352, 0, none⟩ = some (.int .u64 t345) ∧ w'.cell? ⟨gb352, 1, none⟩ = some (.int .u64 t346) ∧ w'.cell? ⟨gb352, 2, none⟩ = some (.int .u64 t347) ∧ w'.cell? ⟨gb352, 3, none⟩ = some (.int .u64 t348) ∧ w'.cell? ⟨gb352, 4, none⟩ = some (.int .i64 t349) ∧ w'.cell? ⟨gb352, 5, none⟩ = some (.int .i64 t350) ∧ w'.cell? ⟨gb343, 0, none⟩ = some (.int .u64 a1_0) ∧ w'.cell? ⟨gb343, 1, none⟩ = some (.int .u64 a1_1) ∧ w'.cell? ⟨gb343, 2, none⟩ = some (.int .u64 a1_2) ∧ w'.cell? ⟨gb343, 3, none⟩ = some (.int .u64 a1_3) ∧ w'.cell? ⟨gb343, 4, none⟩ = some (.int .i64 a1_4) ∧ w'.cell? ⟨gb343, 5, none⟩ = some (.int .i64 a1_5)) (ds := []) (bA 15 0) (by kernel_rfl) rfl rfl (by repeat' (first | apply And.intro | exact (blk_cell BK352.out _).trans rfl | exact (blk_cell BK343.out _).trans rfl)) (fun hHeld => ?_); refine with_tabW jacquardlaw14_FactsTightens.tab11 jacquardlaw14_FactsTightens.bits11 (fun HT_ HW_ => ?_)
        generalize w44.drew = w45 at BK343 BK352 BK360 HB hHeld ⊢
        refine takeA HT_ HW_ hHeld (i := 0) (N := some 46) (bA 15 1) ?_ (hy := by rintro w' ⟨s0, s1, s2, s3, s4, s5, s6, s7, s8, s9, s10, s11⟩; go_simp; with_reducible rfl)
        refine takeA HT_ HW_ hHeld (i := 1) (N := some 47) (bA 15 3) ?_ (hy := by rintro w' ⟨s0, s1, s2, s3, s4, s5, s6, s7, s8, s9, s10, s11⟩; go_simp; with_reducible rfl)
        refine one_ (i := 2) (N := some 48) (bA 15 7) rfl rfl (one_of HT_.out (by kernel_rfl)) (by decide) (fun K hK => ?_)
        refine gO Try.func29 #[.agg #[.int .u64 t345, .int .u64 t346, .int .u64 t347, .int .u64 t348, .int .i64 t349, .int .i64 t350], .agg #[.int .u64 a1_0, .int .u64 a1_1, .int .u64 a1_2, .int .u64 a1_3, .int .i64 a1_4, .int .i64 a1_5]] ?_
        with_reducible refine (facts_Leq.calls t345 t346 t347 t348 t349 t350 a1_0 a1_1 a1_2 a1_3 a1_4 a1_5 true _ A37.out).mono ?_
        rintro e w46 ⟨rfl, hb⟩
        refine ⟨_, rfl, ?_⟩
        replace BK343 := bkB BK343.out hb
        replace BK352 := bkB BK352.out hb
        replace BK360 := bkB BK360.out hb
        replace HB := bsB HB.out hb
        (try clear hb)
        refine hK.out _ _ (by repeat' (first | apply And.intro | exact (blk_cell BK352.out _).trans rfl | exact (blk_cell BK343.out _).trans rfl)) (fun hHeld => ?_)
        clear hK K
        refine normA (some 48) ?_
        refine pureA HT_ (i := 3) (N := some 49) (bA 15 15) ?_
        refine pureA HT_ (i := 4) (N := some 50) (bA 15 31) ?_
        refine pureA HT_ (i := 6) (N := some 52) (bA 15 95) ?_
        refine pureA HT_ (i := 8) (N := some 54) (bA 15 351) ?_
        refine pureA HT_ (i := 10) (N := some 56) (bA 15 1375) ?_
        refine takeA HT_ HW_ hHeld (i := 5) (N := some 51) (bA 15 1407) ?_ (hy := by rintro w' ⟨s0, s1, s2, s3, s4, s5, s6, s7, s8, s9, s10, s11⟩; go_simp; with_reducible rfl)
        refine takeA HT_ HW_ hHeld (i := 9) (N := some 55) (bA 15 1919) ?_ (hy := by rintro w' ⟨s0, s1, s2, s3, s4, s5, s6, s7, s8, s9, s10, s11⟩; go_simp; with_reducible rfl)
        refine one_ (i := 7) (N := some 53) (bA 15 2047) rfl rfl (one_of HT_.out (by kernel_rfl)) (by decide) (fun K hK => ?_)
        refine gO Try.func28 #[.int .i64 a0, .agg #[.int .u64 t345, .int .u64 t346, .int .u64 t347, .int .u64 t348, .int .i64 t349, .int .i64 t350], .int .u64 a2] ?_
        with_reducible refine (facts_Contains.calls a0 t345 t346 t347 t348 t349 t350 a2 t363 _ A39.out).mono ?_
        rintro e w47 ⟨rfl, hb⟩
        refine ⟨_, rfl, ?_⟩
        replace BK343 := bkB BK343.out hb
        replace BK352 := bkB BK352.out hb
        replace BK360 := bkB BK360.out hb
        replace HB := bsB HB.out hb
        (try clear hb)
        refine hK.out _ _ (by repeat' (first | apply And.intro | exact (blk_cell BK352.out _).trans rfl | exact (blk_cell BK343.out _).trans rfl)) (fun hHeld => ?_)
        clear hK K
        refine normA (some 53) ?_
        refine one_ (i := 11) (N := some 57) (bA 15 4095) rfl rfl (one_of HT_.out (by kernel_rfl)) (by decide) (fun K hK => ?_)
        refine gO Try.func28 #[.int .i64 a0, .agg #[.int .u64 a1_0, .int .u64 a1_1, .int .u64 a1_2, .int .u64 a1_3, .int .i64 a1_4, .int .i64 a1_5], .int .u64 a2] ?_
        with_reducible refine (facts_Contains.calls a0 a1_0 a1_1 a1_2 a1_3 a1_4 a1_5 a2 t364 _ A40.out).mono ?_
        rintro e w48 ⟨rfl, hb⟩
        refine ⟨_, rfl, ?_⟩
        replace BK343 := bkB BK343.out hb
        replace BK352 := bkB BK352.out hb
        replace BK360 := bkB BK360.out hb
        replace HB := bsB HB.out hb
        (try clear hb)
        refine hK.out _ _ (by repeat' (first | apply And.intro | exact (blk_cell BK352.out _).trans rfl | exact (blk_cell BK343.out _).trans rfl)) (fun hHeld => ?_)
        clear hK K
        refine normA (some 57) ?_
        refine pureA HT_ (i := 12) (N := some 58) (bA 15 8191) ?_
        refine pureA HT_ (i := 13) (N := some 59) (bA 15 16383) ?_
        refine pureA HT_ (i := 14) (N := some 6) (bA 15 32767) ?_
        refine done_ (done_of HT_.out (by kernel_rfl)) ?_
        try go_wp2
        go_ret
        exact ⟨by first | rfl | (simp [errW_none, errW_some] <;> rfl) | (simp [*, errW_none, errW_some] <;> rfl), bsL HB.out⟩
       ·
        replace c38 := Bool.eq_false_iff.mpr c38
        subst c38
        have H1 : (some false) = some r := by rw [if_neg (show ¬ (false = true) by decide)] at H; exact H
        clear H
        have H := H1
        clear H1
        obtain rfl := Option.some.inj H
        have hnb49 := NB343_352.out
        have hnc49 := NB352_343.out
        have hnb50 := NB343_360.out
        have hnc50 := NB360_343.out
        have hcz51_0 : wc.cell? ⟨gb343, 0, none⟩ = some (.int .u64 a1_0) := (blk_cell BK343.out 0).trans rfl
        have hcz51_1 : wc.cell? ⟨gb343, 1, none⟩ = some (.int .u64 a1_1) := (blk_cell BK343.out 1).trans rfl
        have hcz51_2 : wc.cell? ⟨gb343, 2, none⟩ = some (.int .u64 a1_2) := (blk_cell BK343.out 2).trans rfl
        have hcz51_3 : wc.cell? ⟨gb343, 3, none⟩ = some (.int .u64 a1_3) := (blk_cell BK343.out 3).trans rfl
        have hcz51_4 : wc.cell? ⟨gb343, 4, none⟩ = some (.int .i64 a1_4) := (blk_cell BK343.out 4).trans rfl
        have hcz51_5 : wc.cell? ⟨gb343, 5, none⟩ = some (.int .i64 a1_5) := (blk_cell BK343.out 5).trans rfl
        have hfz51_0 := blk_frozen BK343.out 0
        have hfz51_1 := blk_frozen BK343.out 1
        have hfz51_2 := blk_frozen BK343.out 2
        have hfz51_3 := blk_frozen BK343.out 3
        have hfz51_4 := blk_frozen BK343.out 4
        have hfz51_5 := blk_frozen BK343.out 5
        try go_wp2_with (first | ((with_reducible refine gate_callee (f := 27) rfl ?_); refine gL (some 35) Try.func27 #[.int .i64 a0, .agg #[.int .u64 a1_0, .int .u64 a1_1, .int .u64 a1_2, .int .u64 a1_3, .int .i64 a1_4, .int .i64 a1_5]] ?_; (with_reducible refine (jacquardref14_Valid.calls kj7 a0 a1_0 a1_1 a1_2 a1_3 a1_4 a1_5 true _ A34.out).mono ?_); rintro e w52 ⟨rfl, hb⟩; refine ⟨_, rfl, ?_⟩; replace BK343 := bkB BK343.out hb; replace BK352 := bkB BK352.out hb; replace BK360 := bkB BK360.out hb; replace HB := bsB HB.out hb; (try clear hb)))
        have n0_ := Aside0.mk (blk_drew BK343.out)
        have n1_ := Aside0.mk (blk_drew BK352.out)
        have n2_ := Aside0.mk (blk_drew BK360.out)
        have n3_ := Aside0.mk (below_drew1 HB.out)
        clear BK343
        clear BK352
        clear BK360
        clear HB
        have BK343 := n0_
        have BK352 := n1_
        have BK360 := n2_
        have HB := n3_
        clear n0_ n1_ n2_ n3_
        refine start_ (n := 15) (S := fun w' => w'.cell? ⟨gb352, 0, none⟩ = some (.int .u64 t345) ∧ w'.cell? ⟨gb352, 1, none⟩ = some (.int .u64 t346) ∧ w'.cell? ⟨gb352, 2, none⟩ = some (.int .u64 t347) ∧ w'.cell? ⟨gb352, 3, none⟩ = some (.int .u64 t348) ∧ w'.cell? ⟨gb352, 4, none⟩ = some (.int .i64 t349) ∧ w'.cell? ⟨gb352, 5, none⟩ = some (.int .i64 t350) ∧ w'.cell? ⟨gb343, 0, none⟩ = some (.int .u64 a1_0) ∧ w'.cell? ⟨gb343, 1, none⟩ = some (.int .u64 a1_1) ∧ w'.cell? ⟨gb343, 2, none⟩ = some (.int .u64 a1_2) ∧ w'.cell? ⟨gb343, 3, none⟩ = some (.int .u64 a1_3) ∧ w'.cell? ⟨gb343, 4, none⟩ = some (.int .i64 a1_4) ∧ w'.cell? ⟨gb343, 5, none⟩ = some (.int .i64 a1_5)) (ds := []) (bA 15 0) (by kernel_rfl) rfl rfl (by repeat' (first | apply And.intro | exact (blk_cell BK352.out _).trans rfl | exact (blk_cell BK343.out _).trans rfl)) (fun hHeld => ?_); refine with_tabW jacquardlaw14_FactsTightens.tab11 jacquardlaw14_FactsTightens.bits11 (fun HT_ HW_ => ?_)
        generalize w52.drew = w53 at BK343 BK352 BK360 HB hHeld ⊢
        refine takeA HT_ HW_ hHeld (i := 0) (N := some 46) (bA 15 1) ?_ (hy := by rintro w' ⟨s0, s1, s2, s3, s4, s5, s6, s7, s8, s9, s10, s11⟩; go_simp; with_reducible rfl)
        refine takeA HT_ HW_ hHeld (i := 1) (N := some 47) (bA 15 3) ?_ (hy := by rintro w' ⟨s0, s1, s2, s3, s4, s5, s6, s7, s8, s9, s10, s11⟩; go_simp; with_reducible rfl)
        refine one_ (i := 2) (N := some 48) (bA 15 7) rfl rfl (one_of HT_.out (by kernel_rfl)) (by decide) (fun K hK => ?_)
        refine gO Try.func29 #[.agg #[.int .u64 t345, .int .u64 t346, .int .u64 t347, .int .u64 t348, .int .i64 t349, .int .i64 t350], .agg #[.int .u64 a1_0, .int .u64 a1_1, .int .u64 a1_2, .int .u64 a1_3, .int .i64 a1_4, .int .i64 a1_5]] ?_
        with_reducible refine (facts_Leq.calls t345 t346 t347 t348 t349 t350 a1_0 a1_1 a1_2 a1_3 a1_4 a1_5 false _ A37.out).mono ?_
        rintro e w54 ⟨rfl, hb⟩
        refine ⟨_, rfl, ?_⟩
        replace BK343 := bkB BK343.out hb
        replace BK352 := bkB BK352.out hb
        replace BK360 := bkB BK360.out hb
        replace HB := bsB HB.out hb
        (try clear hb)
        refine hK.out _ _ (by repeat' (first | apply And.intro | exact (blk_cell BK352.out _).trans rfl | exact (blk_cell BK343.out _).trans rfl)) (fun hHeld => ?_)
        clear hK K
        refine normA (some 48) ?_
        refine pureA HT_ (i := 3) (N := some 49) (bA 15 15) ?_
        refine pureU HT_ (i := 4) (N := some 50) (bA 15 31) ?_
        refine pureU HT_ (i := 5) (N := some 51) (bA 15 63) ?_
        refine pureU HT_ (i := 6) (N := some 52) (bA 15 127) ?_
        refine pureU HT_ (i := 7) (N := some 53) (bA 15 255) ?_
        refine pureU HT_ (i := 8) (N := some 54) (bA 15 511) ?_
        refine pureU HT_ (i := 9) (N := some 55) (bA 15 1023) ?_
        refine pureU HT_ (i := 10) (N := some 56) (bA 15 2047) ?_
        refine pureU HT_ (i := 11) (N := some 57) (bA 15 4095) ?_
        refine pureU HT_ (i := 12) (N := some 58) (bA 15 8191) ?_
        refine pureA HT_ (i := 13) (N := some 59) (bA 15 16383) ?_
        refine pureA HT_ (i := 14) (N := some 6) (bA 15 32767) ?_
        refine done_ (done_of HT_.out (by kernel_rfl)) ?_
        try go_wp2
        go_ret
        exact ⟨by first | rfl | (simp [errW_none, errW_some] <;> rfl) | (simp [*, errW_none, errW_some] <;> rfl), bsL HB.out⟩
      ·
       replace c36 := Bool.eq_false_iff.mpr c36
       subst c36
       have H1 : ((facts_Contains.f a0 a1_0 a1_1 a1_2 a1_3 a1_4 a1_5 a2).bind fun t365 => (some (!t365))) = some r := by rw [if_neg (show ¬ (false = true) by decide)] at H; exact H
       clear H
       have H := H1
       clear H1
       replace H := Option.bind_eq_some_iff.mp H
       obtain ⟨t365, A550, H⟩ := H
       replace H : (some (!t365)) = some r := H
       have A55 := Aside0.mk A550
       clear A550
       obtain rfl := Option.some.inj H
       have hnb56 := NB343_352.out
       have hnc56 := NB352_343.out
       have hnb57 := NB343_360.out
       have hnc57 := NB360_343.out
       have hcz58_0 : wc.cell? ⟨gb343, 0, none⟩ = some (.int .u64 a1_0) := (blk_cell BK343.out 0).trans rfl
       have hcz58_1 : wc.cell? ⟨gb343, 1, none⟩ = some (.int .u64 a1_1) := (blk_cell BK343.out 1).trans rfl
       have hcz58_2 : wc.cell? ⟨gb343, 2, none⟩ = some (.int .u64 a1_2) := (blk_cell BK343.out 2).trans rfl
       have hcz58_3 : wc.cell? ⟨gb343, 3, none⟩ = some (.int .u64 a1_3) := (blk_cell BK343.out 3).trans rfl
       have hcz58_4 : wc.cell? ⟨gb343, 4, none⟩ = some (.int .i64 a1_4) := (blk_cell BK343.out 4).trans rfl
       have hcz58_5 : wc.cell? ⟨gb343, 5, none⟩ = some (.int .i64 a1_5) := (blk_cell BK343.out 5).trans rfl
       have hfz58_0 := blk_frozen BK343.out 0
       have hfz58_1 := blk_frozen BK343.out 1
       have hfz58_2 := blk_frozen BK343.out 2
       have hfz58_3 := blk_frozen BK343.out 3
       have hfz58_4 := blk_frozen BK343.out 4
       have hfz58_5 := blk_frozen BK343.out 5
       go_wp2_with (first | ((with_reducible refine gate_callee (f := 27) rfl ?_); refine gL (some 35) Try.func27 #[.int .i64 a0, .agg #[.int .u64 a1_0, .int .u64 a1_1, .int .u64 a1_2, .int .u64 a1_3, .int .i64 a1_4, .int .i64 a1_5]] ?_; (with_reducible refine (jacquardref14_Valid.calls kj7 a0 a1_0 a1_1 a1_2 a1_3 a1_4 a1_5 true _ A34.out).mono ?_); rintro e w59 ⟨rfl, hb⟩; refine ⟨_, rfl, ?_⟩; replace BK343 := bkB BK343.out hb; replace BK352 := bkB BK352.out hb; replace BK360 := bkB BK360.out hb; replace HB := bsB HB.out hb; (try clear hb); have hcz60_0 : w59.cell? ⟨gb343, 0, none⟩ = some (.int .u64 a1_0) := (blk_cell BK343.out 0).trans rfl; have hcz60_1 : w59.cell? ⟨gb343, 1, none⟩ = some (.int .u64 a1_1) := (blk_cell BK343.out 1).trans rfl; have hcz60_2 : w59.cell? ⟨gb343, 2, none⟩ = some (.int .u64 a1_2) := (blk_cell BK343.out 2).trans rfl; have hcz60_3 : w59.cell? ⟨gb343, 3, none⟩ = some (.int .u64 a1_3) := (blk_cell BK343.out 3).trans rfl; have hcz60_4 : w59.cell? ⟨gb343, 4, none⟩ = some (.int .i64 a1_4) := (blk_cell BK343.out 4).trans rfl; have hcz60_5 : w59.cell? ⟨gb343, 5, none⟩ = some (.int .i64 a1_5) := (blk_cell BK343.out 5).trans rfl; have hfz60_0 := blk_frozen BK343.out 0; have hfz60_1 := blk_frozen BK343.out 1; have hfz60_2 := blk_frozen BK343.out 2; have hfz60_3 := blk_frozen BK343.out 3; have hfz60_4 := blk_frozen BK343.out 4; have hfz60_5 := blk_frozen BK343.out 5) | ((with_reducible refine gate_callee (f := 28) rfl ?_); refine gL (some 44) Try.func28 #[.int .i64 a0, .agg #[.int .u64 a1_0, .int .u64 a1_1, .int .u64 a1_2, .int .u64 a1_3, .int .i64 a1_4, .int .i64 a1_5], .int .u64 a2] ?_; (with_reducible refine (facts_Contains.calls a0 a1_0 a1_1 a1_2 a1_3 a1_4 a1_5 a2 t365 _ A55.out).mono ?_); rintro e w61 ⟨rfl, hb⟩; refine ⟨_, rfl, ?_⟩; have n0_ := bkB BK343.out hb; have n1_ := bkB BK352.out hb; have n2_ := bkB BK360.out hb; have n3_ := bsB HB.out hb; clear BK343; clear BK352; clear BK360; clear HB; have BK343 := n0_; have BK352 := n1_; have BK360 := n2_; have HB := n3_; clear n0_ n1_ n2_ n3_; (try clear hb); (try clear hb2); (try clear hk); (try clear hi)))
       go_ret
       exact ⟨by first | rfl | (simp [errW_none, errW_some] <;> rfl) | (simp [*, errW_none, errW_some] <;> rfl), bsL HB.out⟩
     ·
      replace c35 := Bool.eq_false_iff.mpr c35
      subst c35
      have H1 : (some (!t351)) = some r := by rw [if_neg (show ¬ (false = true) by decide)] at H; exact H
      clear H
      have H := H1
      clear H1
      obtain rfl := Option.some.inj H
      have hnb62 := NB343_352.out
      have hnc62 := NB352_343.out
      have hnb63 := NB343_360.out
      have hnc63 := NB360_343.out
      have hcz64_0 : wc.cell? ⟨gb343, 0, none⟩ = some (.int .u64 a1_0) := (blk_cell BK343.out 0).trans rfl
      have hcz64_1 : wc.cell? ⟨gb343, 1, none⟩ = some (.int .u64 a1_1) := (blk_cell BK343.out 1).trans rfl
      have hcz64_2 : wc.cell? ⟨gb343, 2, none⟩ = some (.int .u64 a1_2) := (blk_cell BK343.out 2).trans rfl
      have hcz64_3 : wc.cell? ⟨gb343, 3, none⟩ = some (.int .u64 a1_3) := (blk_cell BK343.out 3).trans rfl
      have hcz64_4 : wc.cell? ⟨gb343, 4, none⟩ = some (.int .i64 a1_4) := (blk_cell BK343.out 4).trans rfl
      have hcz64_5 : wc.cell? ⟨gb343, 5, none⟩ = some (.int .i64 a1_5) := (blk_cell BK343.out 5).trans rfl
      have hfz64_0 := blk_frozen BK343.out 0
      have hfz64_1 := blk_frozen BK343.out 1
      have hfz64_2 := blk_frozen BK343.out 2
      have hfz64_3 := blk_frozen BK343.out 3
      have hfz64_4 := blk_frozen BK343.out 4
      have hfz64_5 := blk_frozen BK343.out 5
      go_wp2_with (first | ((with_reducible refine gate_callee (f := 27) rfl ?_); refine gL (some 35) Try.func27 #[.int .i64 a0, .agg #[.int .u64 a1_0, .int .u64 a1_1, .int .u64 a1_2, .int .u64 a1_3, .int .i64 a1_4, .int .i64 a1_5]] ?_; (with_reducible refine (jacquardref14_Valid.calls kj7 a0 a1_0 a1_1 a1_2 a1_3 a1_4 a1_5 false _ A34.out).mono ?_); rintro e w65 ⟨rfl, hb⟩; refine ⟨_, rfl, ?_⟩; replace BK343 := bkB BK343.out hb; replace BK352 := bkB BK352.out hb; replace BK360 := bkB BK360.out hb; replace HB := bsB HB.out hb; (try clear hb)))
      go_ret
      exact ⟨by first | rfl | (simp [errW_none, errW_some] <;> rfl) | (simp [*, errW_none, errW_some] <;> rfl), bsL HB.out⟩
 ·
  replace c5 := Bool.eq_false_iff.mpr c5
  subst c5
  have H1 : (some false) = some r := by rw [if_neg (show ¬ (false = true) by decide)] at H; exact H
  clear H
  have H := H1
  clear H1
  obtain rfl := Option.some.inj H
  go_enter Try.func8, Try.ntmps8
  go_wp2_with (first | ((with_reducible refine gate_dst (N := 4) rfl ?_); refine box_event ?hg (N := 4) ?hd (cs := #[.int .u64 a1_0, .int .u64 a1_1, .int .u64 a1_2, .int .u64 a1_3, .int .i64 a1_4, .int .i64 a1_5]) (t := 50) ?hr ?_; (case hd => rfl); (case hg => rfl); (case hr => first | (go_simp; done) | (go_simp; rfl)); intro gb343 hg w66 hbox hb; have n0_ := bsB HB.out hb; have n1_ := Aside0.mk (hbox); have n2_ := szB hg HB.out; have n3_ := szB hg HB.out; clear HB; have HB := n0_; have BK343 := n1_; have GW343 := n2_; have GE343 := n3_; clear n0_ n1_ n2_ n3_; clear hb hbox hg) | ((with_reducible refine gate_callee (f := 24) rfl ?_); refine gL (some 11) Try.func24 #[] ?_; (with_reducible refine (jacquardlaw14_awake.calls  false _ A4.out).mono ?_); rintro e w67 ⟨rfl, hb⟩; refine ⟨_, rfl, ?_⟩; have n0_ := bkB BK343.out hb; have n1_ := bsB HB.out hb; clear BK343; clear HB; have BK343 := n0_; have HB := n1_; clear n0_ n1_; (try clear hb); (try clear hb2); (try clear hk); (try clear hi)))
  go_ret
  exact ⟨by first | rfl | (simp [errW_none, errW_some] <;> rfl) | (simp [*, errW_none, errW_some] <;> rfl), bsL HB.out⟩

/-- THE ONE PURE STATEMENT of jacquardlaw14_FactsTightens. -/
def jacquardlaw14_FactsTightens.Pure : Prop := ∀ (a0 : Int) (a1_0 : Int) (a1_1 : Int) (a1_2 : Int) (a1_3 : Int) (a1_4 : Int) (a1_5 : Int) (a2 : Int), (Lit.int .i64 a0).wf = true → (Lit.int .u64 a1_0).wf = true → (Lit.int .u64 a1_1).wf = true → (Lit.int .u64 a1_2).wf = true → (Lit.int .u64 a1_3).wf = true → (Lit.int .i64 a1_4).wf = true → (Lit.int .i64 a1_5).wf = true → (Lit.int .u64 a2).wf = true → ∃ k, jacquardlaw14_FactsTightens.f k a0 a1_0 a1_1 a1_2 a1_3 a1_4 a1_5 a2 = some true

end Go.Proofs.Ytbiohdgeclokmaa.P
