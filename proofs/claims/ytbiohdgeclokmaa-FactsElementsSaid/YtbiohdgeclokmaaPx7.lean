-- made by a program of this work (wip/mkprint.py, wip/mp.sh) out of the translation
import Derived.Test.YtbiohdgeclokmaaPx0
import Derived.Test.YtbiohdgeclokmaaPx1
import Derived.Test.YtbiohdgeclokmaaPx2
import Derived.Test.YtbiohdgeclokmaaPx4
import Derived.Test.YtbiohdgeclokmaaPx5
import Derived.Test.YtbiohdgeclokmaaPx6
namespace Go.Proofs.Ytbiohdgeclokmaa.P
open Go.RowKit Go.Proofs.YtbiohdgeclokmaaW.PrintWords Go.Proofs.YtbiohdgeclokmaaW.PrintLast Go.Proofs.YtbiohdgeclokmaaW.PrintMore
attribute [local go_sem] max2_int min2_int max_two min_two max_three min_three max_four min_four   -- for this text's walks alone
set_option linter.unusedVariables false
set_option linter.unusedSimpArgs false

attribute [local go_sem high] eqA50
/-! ### jacquardlaw14_FactsTightens: function 8 -/
def jacquardlaw14_FactsTightens.j0 : Nat → Int → Int → Bool → Bool → Int → Int → Int → Int → Int → Int → Int → Int → Int → Int → Int → Int → Option (Bool)
 | 0, _, _, _, _, _, _, _, _, _, _, _, _, _, _, _, _ => none
 | k + 1, x0, x2, x8, x32, x344000, x344001, x344002, x344003, x344004, x344005, x353000, x353001, x353002, x353003, x353004, x353005 => if x32 = true then (some false) else ((jacquardref14_Valid.f k x0 x344000 x344001 x344002 x344003 x344004 x344005).bind fun t361 => (if t361 = true then (if x8 = true then ((facts_Leq.f x353000 x353001 x353002 x353003 x353004 x353005 x344000 x344001 x344002 x344003 x344004 x344005).bind fun t362 => (if t362 = true then ((facts_Contains.f x0 x353000 x353001 x353002 x353003 x353004 x353005 x2).bind fun t363 => ((facts_Contains.f x0 x344000 x344001 x344002 x344003 x344004 x344005 x2).bind fun t364 => (some (t363 == t364)))) else (some false))) else ((facts_Contains.f x0 x344000 x344001 x344002 x344003 x344004 x344005 x2).bind fun t365 => (some (!t365)))) else (some (!x8))))
def jacquardlaw14_FactsTightens.f (k : Nat) (a0 : Int) (a1_0 : Int) (a1_1 : Int) (a1_2 : Int) (a1_3 : Int) (a1_4 : Int) (a1_5 : Int) (a2 : Int) : Option (Bool) := (jacquardlaw14_awake.f).bind fun t344 => (if t344 = true then ((facts_Tighten.f k a0 a1_0 a1_1 a1_2 a1_3 a1_4 a1_5).bind fun bt345 => ((jacquardref14_Tighten.f k a0 a1_0 a1_1 a1_2 a1_3 a1_4 a1_5).bind fun bt353 => (if (!(bt345.1 == bt353.1) || (!(bt345.2.1 == bt353.2.1) || (!(bt345.2.2.1 == bt353.2.2.1) || (!(bt345.2.2.2.1 == bt353.2.2.2.1) || (!(bt345.2.2.2.2.1 == bt353.2.2.2.2.1) || (!(bt345.2.2.2.2.2.1 == bt353.2.2.2.2.2.1))))))) = true then (jacquardlaw14_FactsTightens.j0 k a0 a2 bt345.2.2.2.2.2.2 true a1_0 a1_1 a1_2 a1_3 a1_4 a1_5 bt345.1 bt345.2.1 bt345.2.2.1 bt345.2.2.2.1 bt345.2.2.2.2.1 bt345.2.2.2.2.2.1) else (jacquardlaw14_FactsTightens.j0 k a0 a2 bt345.2.2.2.2.2.2 (bt345.2.2.2.2.2.2 != bt353.2.2.2.2.2.2) a1_0 a1_1 a1_2 a1_3 a1_4 a1_5 bt345.1 bt345.2.1 bt345.2.2.1 bt345.2.2.2.1 bt345.2.2.2.2.1 bt345.2.2.2.2.2.1)))) else (some false))
theorem jacquardlaw14_FactsTightens.mono_l : ∀ k, (∀ y0 y1 y2 y3 y4 y5 y6 y7 y8 y9 y10 y11 y12 y13 y14 y15, LeO (jacquardlaw14_FactsTightens.j0 k y0 y1 y2 y3 y4 y5 y6 y7 y8 y9 y10 y11 y12 y13 y14 y15) (jacquardlaw14_FactsTightens.j0 (k + 1) y0 y1 y2 y3 y4 y5 y6 y7 y8 y9 y10 y11 y12 y13 y14 y15))
 | 0 => fun _ _ _ _ _ _ _ _ _ _ _ _ _ _ _ _ r h => by simp [jacquardlaw14_FactsTightens.j0] at h
 | k + 1 => by
  have ih0 := jacquardlaw14_FactsTightens.mono_l k
  ·
   intro y0 y1 y2 y3 y4 y5 y6 y7 y8 y9 y10 y11 y12 y13 y14 y15
   unfold jacquardlaw14_FactsTightens.j0
   repeat' first
   | (with_reducible exact ih0 _ _ _ _ _ _ _ _ _ _ _ _ _ _ _ _)
   | (with_reducible exact facts_Tighten.mono _ _ _ _ _ _ _ _)
   | (with_reducible exact jacquardref14_Tighten.mono _ _ _ _ _ _ _ _)
   | (with_reducible exact jacquardref14_Valid.mono _ _ _ _ _ _ _ _)
   | (with_reducible exact LeO.refl _)
   | (with_reducible exact LeO.none _)
   | (with_reducible refine LeO.ite ?_ ?_)
   | (with_reducible refine LeO.bind ?_ (fun _ => ?_))
   | exact ih0 _ _ _ _ _ _ _ _ _ _ _ _ _ _ _ _
   | exact facts_Tighten.mono _ _ _ _ _ _ _ _
   | exact jacquardref14_Tighten.mono _ _ _ _ _ _ _ _
   | exact jacquardref14_Valid.mono _ _ _ _ _ _ _ _
   | exact LeO.none _
   | refine LeO.ite ?_ ?_
   | refine LeO.bind ?_ (fun _ => ?_)
theorem jacquardlaw14_FactsTightens.mono : ∀ a0 a1 a2 a3 a4 a5 a6 a7 k, LeO (jacquardlaw14_FactsTightens.f k a0 a1 a2 a3 a4 a5 a6 a7) (jacquardlaw14_FactsTightens.f (k + 1) a0 a1 a2 a3 a4 a5 a6 a7) := by
 intro a0 a1 a2 a3 a4 a5 a6 a7 k
 have ih0 := jacquardlaw14_FactsTightens.mono_l k
 unfold jacquardlaw14_FactsTightens.f
 repeat' first
   | (with_reducible exact ih0 _ _ _ _ _ _ _ _ _ _ _ _ _ _ _ _)
   | (with_reducible exact facts_Tighten.mono _ _ _ _ _ _ _ _)
   | (with_reducible exact jacquardref14_Tighten.mono _ _ _ _ _ _ _ _)
   | (with_reducible exact jacquardref14_Valid.mono _ _ _ _ _ _ _ _)
   | (with_reducible exact LeO.refl _)
   | (with_reducible exact LeO.none _)
   | (with_reducible refine LeO.ite ?_ ?_)
   | (with_reducible refine LeO.bind ?_ (fun _ => ?_))
   | exact ih0 _ _ _ _ _ _ _ _ _ _ _ _ _ _ _ _
   | exact facts_Tighten.mono _ _ _ _ _ _ _ _
   | exact jacquardref14_Tighten.mono _ _ _ _ _ _ _ _
   | exact jacquardref14_Valid.mono _ _ _ _ _ _ _ _
   | exact LeO.none _
   | refine LeO.ite ?_ ?_
   | refine LeO.bind ?_ (fun _ => ?_)
def jacquardlaw14_FactsTightens.T11 : Bool × List (List Nat × List Nat) := (true, [([], []), ([], []), ([0, 1], [0, 1]), ([2, 2], [2]), ([3], [3]), ([3], [3]), ([3], [3]), ([4, 5, 6, 3, 3], [3, 4, 5, 6]), ([3], [3]), ([3], [3]), ([3], [3]), ([8, 9, 10, 7, 3], [3, 8, 9, 10]), ([7, 11, 3], [3, 7, 11]), ([3, 12], [3, 12]), ([13, 11, 0, 1, 2, 3, 4, 5, 6, 7, 8, 9, 10, 11, 12, 13], [13])])
def jacquardlaw14_FactsTightens.B11 : List Nat := [0, 0, 3, 7, 15, 15, 15, 127, 15, 15, 15, 2047, 4095, 8191, 16383]
theorem jacquardlaw14_FactsTightens.tab11 : rtab .any (opsOf Try.f8 11) = jacquardlaw14_FactsTightens.T11 := by kernel_rfl
theorem jacquardlaw14_FactsTightens.bits11 : waitsOk jacquardlaw14_FactsTightens.T11.2 jacquardlaw14_FactsTightens.B11 = true := by kernel_rfl
set_option maxHeartbeats 8000000 in
set_option maxRecDepth 100000 in
theorem jacquardlaw14_FactsTightens.calls (k : Nat) (a0 : Int) (a1_0 : Int) (a1_1 : Int) (a1_2 : Int) (a1_3 : Int) (a1_4 : Int) (a1_5 : Int) (a2 : Int) (r : Bool) (w : World) (h : jacquardlaw14_FactsTightens.f k a0 a1_0 a1_1 a1_2 a1_3 a1_4 a1_5 a2 = some r) :
  Calls Try.prog 8 #[.int .i64 a0, .agg #[.int .u64 a1_0, .int .u64 a1_1, .int .u64 a1_2, .int .u64 a1_3, .int .i64 a1_4, .int .i64 a1_5], .int .u64 a2] w fun e w' => e = .returned (.bool r) ∧ Below w.heap.size w w' := by
 have hu50 := Try.underlying50
 have HB := Aside0.mk (Below.refl w.heap.size w)
 have H : ((jacquardlaw14_awake.f).bind fun t344 => (if t344 = true then ((facts_Tighten.f k a0 a1_0 a1_1 a1_2 a1_3 a1_4 a1_5).bind fun bt345 => ((jacquardref14_Tighten.f k a0 a1_0 a1_1 a1_2 a1_3 a1_4 a1_5).bind fun bt353 => (if (!(bt345.1 == bt353.1) || (!(bt345.2.1 == bt353.2.1) || (!(bt345.2.2.1 == bt353.2.2.1) || (!(bt345.2.2.2.1 == bt353.2.2.2.1) || (!(bt345.2.2.2.2.1 == bt353.2.2.2.2.1) || (!(bt345.2.2.2.2.2.1 == bt353.2.2.2.2.2.1))))))) = true then (jacquardlaw14_FactsTightens.j0 k a0 a2 bt345.2.2.2.2.2.2 true a1_0 a1_1 a1_2 a1_3 a1_4 a1_5 bt345.1 bt345.2.1 bt345.2.2.1 bt345.2.2.2.1 bt345.2.2.2.2.1 bt345.2.2.2.2.2.1) else (jacquardlaw14_FactsTightens.j0 k a0 a2 bt345.2.2.2.2.2.2 (bt345.2.2.2.2.2.2 != bt353.2.2.2.2.2.2) a1_0 a1_1 a1_2 a1_3 a1_4 a1_5 bt345.1 bt345.2.1 bt345.2.2.1 bt345.2.2.2.1 bt345.2.2.2.2.1 bt345.2.2.2.2.2.1)))) else (some false))) = some r := h
 clear h
 replace H := Option.bind_eq_some_iff.mp H
 obtain ⟨t344, A40, H⟩ := H
 replace H : (if t344 = true then ((facts_Tighten.f k a0 a1_0 a1_1 a1_2 a1_3 a1_4 a1_5).bind fun bt345 => ((jacquardref14_Tighten.f k a0 a1_0 a1_1 a1_2 a1_3 a1_4 a1_5).bind fun bt353 => (if (!(bt345.1 == bt353.1) || (!(bt345.2.1 == bt353.2.1) || (!(bt345.2.2.1 == bt353.2.2.1) || (!(bt345.2.2.2.1 == bt353.2.2.2.1) || (!(bt345.2.2.2.2.1 == bt353.2.2.2.2.1) || (!(bt345.2.2.2.2.2.1 == bt353.2.2.2.2.2.1))))))) = true then (jacquardlaw14_FactsTightens.j0 k a0 a2 bt345.2.2.2.2.2.2 true a1_0 a1_1 a1_2 a1_3 a1_4 a1_5 bt345.1 bt345.2.1 bt345.2.2.1 bt345.2.2.2.1 bt345.2.2.2.2.1 bt345.2.2.2.2.2.1) else (jacquardlaw14_FactsTightens.j0 k a0 a2 bt345.2.2.2.2.2.2 (bt345.2.2.2.2.2.2 != bt353.2.2.2.2.2.2) a1_0 a1_1 a1_2 a1_3 a1_4 a1_5 bt345.1 bt345.2.1 bt345.2.2.1 bt345.2.2.2.1 bt345.2.2.2.2.1 bt345.2.2.2.2.2.1)))) else (some false)) = some r := H
 have A4 := Aside0.mk A40
 clear A40
 by_cases c5 : t344 = true
 ·
  subst c5
  have H1 : ((facts_Tighten.f k a0 a1_0 a1_1 a1_2 a1_3 a1_4 a1_5).bind fun bt345 => ((jacquardref14_Tighten.f k a0 a1_0 a1_1 a1_2 a1_3 a1_4 a1_5).bind fun bt353 => (if (!(bt345.1 == bt353.1) || (!(bt345.2.1 == bt353.2.1) || (!(bt345.2.2.1 == bt353.2.2.1) || (!(bt345.2.2.2.1 == bt353.2.2.2.1) || (!(bt345.2.2.2.2.1 == bt353.2.2.2.2.1) || (!(bt345.2.2.2.2.2.1 == bt353.2.2.2.2.2.1))))))) = true then (jacquardlaw14_FactsTightens.j0 k a0 a2 bt345.2.2.2.2.2.2 true a1_0 a1_1 a1_2 a1_3 a1_4 a1_5 bt345.1 bt345.2.1 bt345.2.2.1 bt345.2.2.2.1 bt345.2.2.2.2.1 bt345.2.2.2.2.2.1) else (jacquardlaw14_FactsTightens.j0 k a0 a2 bt345.2.2.2.2.2.2 (bt345.2.2.2.2.2.2 != bt353.2.2.2.2.2.2) a1_0 a1_1 a1_2 a1_3 a1_4 a1_5 bt345.1 bt345.2.1 bt345.2.2.1 bt345.2.2.2.1 bt345.2.2.2.2.1 bt345.2.2.2.2.2.1)))) = some r := by rw [if_pos rfl] at H; exact H
  clear H
  have H := H1
  clear H1
  replace H := Option.bind_eq_some_iff.mp H
  obtain ⟨⟨t345, t346, t347, t348, t349, t350, t351⟩, A60, H⟩ := H
  replace H : ((jacquardref14_Tighten.f k a0 a1_0 a1_1 a1_2 a1_3 a1_4 a1_5).bind fun bt353 => (if (!(t345 == bt353.1) || (!(t346 == bt353.2.1) || (!(t347 == bt353.2.2.1) || (!(t348 == bt353.2.2.2.1) || (!(t349 == bt353.2.2.2.2.1) || (!(t350 == bt353.2.2.2.2.2.1))))))) = true then (jacquardlaw14_FactsTightens.j0 k a0 a2 t351 true a1_0 a1_1 a1_2 a1_3 a1_4 a1_5 t345 t346 t347 t348 t349 t350) else (jacquardlaw14_FactsTightens.j0 k a0 a2 t351 (t351 != bt353.2.2.2.2.2.2) a1_0 a1_1 a1_2 a1_3 a1_4 a1_5 t345 t346 t347 t348 t349 t350))) = some r := H
  have A6 := Aside0.mk A60
  clear A60
  replace H := Option.bind_eq_some_iff.mp H
  obtain ⟨⟨t353, t354, t355, t356, t357, t358, t359⟩, A70, H⟩ := H
  replace H : (if (!(t345 == t353) || (!(t346 == t354) || (!(t347 == t355) || (!(t348 == t356) || (!(t349 == t357) || (!(t350 == t358))))))) = true then (jacquardlaw14_FactsTightens.j0 k a0 a2 t351 true a1_0 a1_1 a1_2 a1_3 a1_4 a1_5 t345 t346 t347 t348 t349 t350) else (jacquardlaw14_FactsTightens.j0 k a0 a2 t351 (t351 != t359) a1_0 a1_1 a1_2 a1_3 a1_4 a1_5 t345 t346 t347 t348 t349 t350)) = some r := H
  have A7 := Aside0.mk A70
  clear A70
  have HC8 := Aside0.mk H
  clear H
  go_enter Try.func8, Try.ntmps8
  go_upto_region 5 with (first | ((with_reducible refine gate_dst (N := 4) rfl ?_); refine boxE (N := 4) (cs := #[.int .u64 a1_0, .int .u64 a1_1, .int .u64 a1_2, .int .u64 a1_3, .int .i64 a1_4, .int .i64 a1_5]) (t := 50) ?_; intro gb343 hg w9 hbox hb; have BK343 := Aside0.mk (hbox); have GW343 := szB hg HB.out; have GE343 := szB hg HB.out; replace HB := bsB HB.out hb; clear hb hbox hg) | ((with_reducible refine gate_callee (f := 24) rfl ?_); refine gL (some 11) Try.func24 #[] ?_; (with_reducible refine (jacquardlaw14_awake.calls  true _ A4.out).mono ?_); rintro e w10 ⟨rfl, hb⟩; refine ⟨_, rfl, ?_⟩; replace BK343 := bkB BK343.out hb; replace HB := bsB HB.out hb; (try clear hb); (try clear hb2); (try clear hk); (try clear hi); obtain ⟨hcz11_0, hcz11_1, hcz11_2, hcz11_3, hcz11_4, hcz11_5, hfz11_0, hfz11_1, hfz11_2, hfz11_3, hfz11_4, hfz11_5⟩ := own6 BK343.out) | ((with_reducible refine gate_callee (f := 25) rfl ?_); refine gL (some 16) Try.func25 #[.int .i64 a0, .agg #[.int .u64 a1_0, .int .u64 a1_1, .int .u64 a1_2, .int .u64 a1_3, .int .i64 a1_4, .int .i64 a1_5]] ?_; (with_reducible refine (facts_Tighten.calls k a0 a1_0 a1_1 a1_2 a1_3 a1_4 a1_5 t345 t346 t347 t348 t349 t350 t351 _ A6.out).mono ?_); rintro e w12 ⟨rfl, hb⟩; refine ⟨_, rfl, ?_⟩; replace BK343 := bkB BK343.out hb; replace HB := bsB HB.out hb; (try clear hb); (try clear hb2); (try clear hk); (try clear hi)) | ((with_reducible refine gate_dst (N := 7) rfl ?_); refine boxE (N := 7) (cs := #[.int .u64 0, .int .u64 0, .int .u64 0, .int .u64 0, .int .i64 0, .int .i64 0]) (t := 50) ?_; intro gb352 hg w13 hbox hb; have BK352 := Aside0.mk (hbox); have GW352 := szB hg HB.out; have GE352 := szB hg HB.out; have NB343_352 := neL hg BK343.out; have NB352_343 := neG hg BK343.out; replace BK343 := bkB BK343.out hb; replace HB := bsB HB.out hb; clear hb hbox hg; have hnb14 := NB352_343.out; have hnc14 := NB343_352.out; obtain ⟨hcz15_0, hcz15_1, hcz15_2, hcz15_3, hcz15_4, hcz15_5, hfz15_0, hfz15_1, hfz15_2, hfz15_3, hfz15_4, hfz15_5⟩ := own6 BK352.out; obtain ⟨hcz16_0, hcz16_1, hcz16_2, hcz16_3, hcz16_4, hcz16_5, hfz16_0, hfz16_1, hfz16_2, hfz16_3, hfz16_4, hfz16_5⟩ := own6 BK343.out) | ((with_reducible refine gate_callee (f := 26) rfl ?_); refine gL (some 22) Try.func26 #[.int .i64 a0, .agg #[.int .u64 a1_0, .int .u64 a1_1, .int .u64 a1_2, .int .u64 a1_3, .int .i64 a1_4, .int .i64 a1_5]] ?_; (with_reducible refine (jacquardref14_Tighten.calls k a0 a1_0 a1_1 a1_2 a1_3 a1_4 a1_5 t353 t354 t355 t356 t357 t358 t359 _ A7.out).mono ?_); rintro e w17 ⟨rfl, hb⟩; refine ⟨_, rfl, ?_⟩; replace BK343 := Aside0.mk (blk_below (g := gb343) (o := .cells #[.int .u64 a1_0, .int .u64 a1_1, .int .u64 a1_2, .int .u64 a1_3, .int .i64 a1_4, .int .i64 a1_5] 50 (0, 0)) (by exact bfL BK343.out) hb); replace BK352 := Aside0.mk (blk_below (g := gb352) (o := .cells #[.int .u64 t345, .int .u64 t346, .int .u64 t347, .int .u64 t348, .int .i64 t349, .int .i64 t350] 50 (0, 0)) (by (with_reducible repeat (first | refine blk_drewN ?_ _ | refine blk_drew ?_ | refine blk_alloc ?_ _)); refine blk_put (cs := #[.int .u64 t345, .int .u64 t346, .int .u64 t347, .int .u64 t348, .int .i64 t349, .int .i64 0]) ?_ 5 _ rfl; (with_reducible repeat (first | refine blk_drewN ?_ _ | refine blk_drew ?_ | refine blk_alloc ?_ _)); refine blk_put (cs := #[.int .u64 t345, .int .u64 t346, .int .u64 t347, .int .u64 t348, .int .i64 0, .int .i64 0]) ?_ 4 _ rfl; (with_reducible repeat (first | refine blk_drewN ?_ _ | refine blk_drew ?_ | refine blk_alloc ?_ _)); refine blk_put (cs := #[.int .u64 t345, .int .u64 t346, .int .u64 t347, .int .u64 0, .int .i64 0, .int .i64 0]) ?_ 3 _ rfl; (with_reducible repeat (first | refine blk_drewN ?_ _ | refine blk_drew ?_ | refine blk_alloc ?_ _)); refine blk_put (cs := #[.int .u64 t345, .int .u64 t346, .int .u64 0, .int .u64 0, .int .i64 0, .int .i64 0]) ?_ 2 _ rfl; (with_reducible repeat (first | refine blk_drewN ?_ _ | refine blk_drew ?_ | refine blk_alloc ?_ _)); refine blk_put (cs := #[.int .u64 t345, .int .u64 0, .int .u64 0, .int .u64 0, .int .i64 0, .int .i64 0]) ?_ 1 _ rfl; (with_reducible repeat (first | refine blk_drewN ?_ _ | refine blk_drew ?_ | refine blk_alloc ?_ _)); refine blk_put (cs := #[.int .u64 0, .int .u64 0, .int .u64 0, .int .u64 0, .int .i64 0, .int .i64 0]) ?_ 0 _ rfl; exact bfL BK352.out) hb); replace HB := bsB HB.out hb; (try clear hb); (try clear hb2); (try clear hk); (try clear hi)) | ((with_reducible refine gate_dst (N := 9) rfl ?_); refine boxE (N := 9) (cs := #[.int .u64 0, .int .u64 0, .int .u64 0, .int .u64 0, .int .i64 0, .int .i64 0]) (t := 50) ?_; intro gb360 hg w18 hbox hb; have BK360 := Aside0.mk (hbox); have GW360 := szB hg HB.out; have GE360 := szB hg HB.out; have NB343_360 := neL hg BK343.out; have NB360_343 := neG hg BK343.out; have NB352_360 := neL hg BK352.out; have NB360_352 := neG hg BK352.out; replace BK343 := bkB BK343.out hb; replace BK352 := bkB BK352.out hb; replace HB := bsB HB.out hb; clear hb hbox hg; have hnb19 := NB360_343.out; have hnc19 := NB343_360.out; have hnb20 := NB360_352.out; have hnc20 := NB352_360.out; obtain ⟨hcz21_0, hcz21_1, hcz21_2, hcz21_3, hcz21_4, hcz21_5, hfz21_0, hfz21_1, hfz21_2, hfz21_3, hfz21_4, hfz21_5⟩ := own6 BK360.out))
  (try simp only [Act.put, List.setIfInBounds_toArray, List.set_cons_zero, List.set_cons_succ])
  go_cut [32] (fun v32 wc => ∃ (kq : Nat) (x32_7 : Bool), v32 = .bool x32_7 ∧ Aside0 (jacquardlaw14_FactsTightens.j0 kq a0 a2 t351 x32_7 a1_0 a1_1 a1_2 a1_3 a1_4 a1_5 t345 t346 t347 t348 t349 t350 = some r) ∧ Aside0 (kq ≤ k) ∧ Aside0 (wc.heap[gb343]? = some (.cells #[.int .u64 a1_0, .int .u64 a1_1, .int .u64 a1_2, .int .u64 a1_3, .int .i64 a1_4, .int .i64 a1_5] 50 (0, 0))) ∧ Aside0 (wc.heap[gb352]? = some (.cells #[.int .u64 t345, .int .u64 t346, .int .u64 t347, .int .u64 t348, .int .i64 t349, .int .i64 t350] 50 (0, 0))) ∧ Aside0 (wc.heap[gb360]? = some (.cells #[.int .u64 t353, .int .u64 t354, .int .u64 t355, .int .u64 t356, .int .i64 t357, .int .i64 t358] 50 (0, 0))) ∧ Aside0 (Below w.heap.size w wc))
  case first =>
   have H := HC8.out
   clear HC8
   by_cases c22 : (!(t345 == t353) || (!(t346 == t354) || (!(t347 == t355) || (!(t348 == t356) || (!(t349 == t357) || (!(t350 == t358))))))) = true
   ·
    rw [if_pos c22] at H
    have c22b0 : (!(t345 == t353) || (!(t346 == t354) || (!(t347 == t355) || (!(t348 == t356) || (!(t349 == t357) || (!(t350 == t358))))))) = true := c22
    clear c22
    (first | rw [c22b0] | (simp only [i64_w, i32_w]; rw [c22b0]) | skip)
    have H' := Aside0.mk H
    clear H
    have hnb23 := NB352_343.out
    have hnc23 := NB343_352.out
    have hnb24 := NB352_360.out
    have hnc24 := NB360_352.out
    obtain ⟨hcz25_0, hcz25_1, hcz25_2, hcz25_3, hcz25_4, hcz25_5, hfz25_0, hfz25_1, hfz25_2, hfz25_3, hfz25_4, hfz25_5⟩ := own6 BK352.out
    have hnb26 := NB360_343.out
    have hnc26 := NB343_360.out
    obtain ⟨hcz27_0, hcz27_1, hcz27_2, hcz27_3, hcz27_4, hcz27_5, hfz27_0, hfz27_1, hfz27_2, hfz27_3, hfz27_4, hfz27_5⟩ := own6 BK360.out
    go_wp2
    go_meet
    case rel => exact ⟨_, (true), (by first | rfl | (simp; done) | (simp [*]; done)), H', ⟨by first | omega | exact Nat.le_refl _⟩, ⟨by exact bfL BK343.out⟩, ⟨by exact bfL BK352.out⟩, ⟨by (with_reducible repeat (first | refine blk_drewN ?_ _ | refine blk_drew ?_ | refine blk_alloc ?_ _)); refine blk_put (cs := #[.int .u64 t353, .int .u64 t354, .int .u64 t355, .int .u64 t356, .int .i64 t357, .int .i64 0]) ?_ 5 _ rfl; (with_reducible repeat (first | refine blk_drewN ?_ _ | refine blk_drew ?_ | refine blk_alloc ?_ _)); refine blk_put (cs := #[.int .u64 t353, .int .u64 t354, .int .u64 t355, .int .u64 t356, .int .i64 0, .int .i64 0]) ?_ 4 _ rfl; (with_reducible repeat (first | refine blk_drewN ?_ _ | refine blk_drew ?_ | refine blk_alloc ?_ _)); refine blk_put (cs := #[.int .u64 t353, .int .u64 t354, .int .u64 t355, .int .u64 0, .int .i64 0, .int .i64 0]) ?_ 3 _ rfl; (with_reducible repeat (first | refine blk_drewN ?_ _ | refine blk_drew ?_ | refine blk_alloc ?_ _)); refine blk_put (cs := #[.int .u64 t353, .int .u64 t354, .int .u64 0, .int .u64 0, .int .i64 0, .int .i64 0]) ?_ 2 _ rfl; (with_reducible repeat (first | refine blk_drewN ?_ _ | refine blk_drew ?_ | refine blk_alloc ?_ _)); refine blk_put (cs := #[.int .u64 t353, .int .u64 0, .int .u64 0, .int .u64 0, .int .i64 0, .int .i64 0]) ?_ 1 _ rfl; (with_reducible repeat (first | refine blk_drewN ?_ _ | refine blk_drew ?_ | refine blk_alloc ?_ _)); refine blk_put (cs := #[.int .u64 0, .int .u64 0, .int .u64 0, .int .u64 0, .int .i64 0, .int .i64 0]) ?_ 0 _ rfl; exact bfL BK360.out⟩, ⟨bsL HB.out⟩⟩
   ·
    rw [if_neg c22] at H
    have c22b0 : (!(t345 == t353) || (!(t346 == t354) || (!(t347 == t355) || (!(t348 == t356) || (!(t349 == t357) || (!(t350 == t358))))))) = false := by simpa using c22
    clear c22
    (first | rw [c22b0] | (simp only [i64_w, i32_w]; rw [c22b0]) | skip)
    have H' := Aside0.mk H
    clear H
    have hnb28 := NB352_343.out
    have hnc28 := NB343_352.out
    have hnb29 := NB352_360.out
    have hnc29 := NB360_352.out
    obtain ⟨hcz30_0, hcz30_1, hcz30_2, hcz30_3, hcz30_4, hcz30_5, hfz30_0, hfz30_1, hfz30_2, hfz30_3, hfz30_4, hfz30_5⟩ := own6 BK352.out
    have hnb31 := NB360_343.out
    have hnc31 := NB343_360.out
    obtain ⟨hcz32_0, hcz32_1, hcz32_2, hcz32_3, hcz32_4, hcz32_5, hfz32_0, hfz32_1, hfz32_2, hfz32_3, hfz32_4, hfz32_5⟩ := own6 BK360.out
    go_wp2
    go_meet
    case rel => exact ⟨_, ((t351 != t359)), (by first | rfl | (simp; done) | (simp [*]; done)), H', ⟨by first | omega | exact Nat.le_refl _⟩, ⟨by exact bfL BK343.out⟩, ⟨by exact bfL BK352.out⟩, ⟨by (with_reducible repeat (first | refine blk_drewN ?_ _ | refine blk_drew ?_ | refine blk_alloc ?_ _)); refine blk_put (cs := #[.int .u64 t353, .int .u64 t354, .int .u64 t355, .int .u64 t356, .int .i64 t357, .int .i64 0]) ?_ 5 _ rfl; (with_reducible repeat (first | refine blk_drewN ?_ _ | refine blk_drew ?_ | refine blk_alloc ?_ _)); refine blk_put (cs := #[.int .u64 t353, .int .u64 t354, .int .u64 t355, .int .u64 t356, .int .i64 0, .int .i64 0]) ?_ 4 _ rfl; (with_reducible repeat (first | refine blk_drewN ?_ _ | refine blk_drew ?_ | refine blk_alloc ?_ _)); refine blk_put (cs := #[.int .u64 t353, .int .u64 t354, .int .u64 t355, .int .u64 0, .int .i64 0, .int .i64 0]) ?_ 3 _ rfl; (with_reducible repeat (first | refine blk_drewN ?_ _ | refine blk_drew ?_ | refine blk_alloc ?_ _)); refine blk_put (cs := #[.int .u64 t353, .int .u64 t354, .int .u64 0, .int .u64 0, .int .i64 0, .int .i64 0]) ?_ 2 _ rfl; (with_reducible repeat (first | refine blk_drewN ?_ _ | refine blk_drew ?_ | refine blk_alloc ?_ _)); refine blk_put (cs := #[.int .u64 t353, .int .u64 0, .int .u64 0, .int .u64 0, .int .i64 0, .int .i64 0]) ?_ 1 _ rfl; (with_reducible repeat (first | refine blk_drewN ?_ _ | refine blk_drew ?_ | refine blk_alloc ?_ _)); refine blk_put (cs := #[.int .u64 0, .int .u64 0, .int .u64 0, .int .u64 0, .int .i64 0, .int .i64 0]) ?_ 0 _ rfl; exact bfL BK360.out⟩, ⟨bsL HB.out⟩⟩
  case rest =>
   clear HC8
   try clear c1
   try clear c2
   try clear p2
   try clear c3
   try clear c5
   try clear c8
   try clear c14
   try clear c19
   try clear c20
   try clear c22
   try clear c22b0
   try clear c23
   try clear c24
   try clear c25
   try clear c26
   try clear c28
   try clear c29
   try clear c31
   try clear hcz11_0
   try clear hcz11_1
   try clear hcz11_2
   try clear hcz11_3
   try clear hcz11_4
   try clear hcz11_5
   try clear hcz15_0
   try clear hcz15_1
   try clear hcz15_2
   try clear hcz15_3
   try clear hcz15_4
   try clear hcz15_5
   try clear hcz16_0
   try clear hcz16_1
   try clear hcz16_2
   try clear hcz16_3
   try clear hcz16_4
   try clear hcz16_5
   try clear hcz21_0
   try clear hcz21_1
   try clear hcz21_2
   try clear hcz21_3
   try clear hcz21_4
   try clear hcz21_5
   try clear hcz25_0
   try clear hcz25_1
   try clear hcz25_2
   try clear hcz25_3
   try clear hcz25_4
   try clear hcz25_5
   try clear hcz27_0
   try clear hcz27_1
   try clear hcz27_2
   try clear hcz27_3
   try clear hcz27_4
   try clear hcz27_5
   try clear hcz30_0
   try clear hcz30_1
   try clear hcz30_2
   try clear hcz30_3
   try clear hcz30_4
   try clear hcz30_5
   try clear hcz32_0
   try clear hcz32_1
   try clear hcz32_2
   try clear hcz32_3
   try clear hcz32_4
   try clear hcz32_5
   try clear hfz11_0
   try clear hfz11_1
   try clear hfz11_2
   try clear hfz11_3
   try clear hfz11_4
   try clear hfz11_5
   try clear hfz15_0
   try clear hfz15_1
   try clear hfz15_2
   try clear hfz15_3
   try clear hfz15_4
   try clear hfz15_5
   try clear hfz16_0
   try clear hfz16_1
   try clear hfz16_2
   try clear hfz16_3
   try clear hfz16_4
   try clear hfz16_5
   try clear hfz21_0
   try clear hfz21_1
   try clear hfz21_2
   try clear hfz21_3
   try clear hfz21_4
   try clear hfz21_5
   try clear hfz25_0
   try clear hfz25_1
   try clear hfz25_2
   try clear hfz25_3
   try clear hfz25_4
   try clear hfz25_5
   try clear hfz27_0
   try clear hfz27_1
   try clear hfz27_2
   try clear hfz27_3
   try clear hfz27_4
   try clear hfz27_5
   try clear hfz30_0
   try clear hfz30_1
   try clear hfz30_2
   try clear hfz30_3
   try clear hfz30_4
   try clear hfz30_5
   try clear hfz32_0
   try clear hfz32_1
   try clear hfz32_2
   try clear hfz32_3
   try clear hfz32_4
   try clear hfz32_5
   obtain ⟨kq, x32_7, rfl, HA, HJ7, BK343, BK352, BK360, HB⟩ := hcut
   cases kq with
   | zero => exact absurd HA.out (by simp [jacquardlaw14_FactsTightens.j0])
   | succ kj7 =>
    have H := HA.out
    clear HA
    simp only [jacquardlaw14_FactsTightens.j0] at H
    by_cases c33 : x32_7 = true
    ·
     subst c33
     have H1 : (some false) = some r := by rw [if_pos rfl] at H; exact H
     clear H
     have H := H1
     clear H1
     obtain rfl := Option.some.inj H
     go_wp2
     go_ret
     exact ⟨by first | rfl | (simp [errW_none, errW_some] <;> rfl) | (simp [*, errW_none, errW_some] <;> rfl), bsL HB.out⟩
    ·
     replace c33 := Bool.eq_false_iff.mpr c33
     subst c33
     have H1 : ((jacquardref14_Valid.f kj7 a0 a1_0 a1_1 a1_2 a1_3 a1_4 a1_5).bind fun t361 => (if t361 = true then (if t351 = true then ((facts_Leq.f t345 t346 t347 t348 t349 t350 a1_0 a1_1 a1_2 a1_3 a1_4 a1_5).bind fun t362 => (if t362 = true then ((facts_Contains.f a0 t345 t346 t347 t348 t349 t350 a2).bind fun t363 => ((facts_Contains.f a0 a1_0 a1_1 a1_2 a1_3 a1_4 a1_5 a2).bind fun t364 => (some (t363 == t364)))) else (some false))) else ((facts_Contains.f a0 a1_0 a1_1 a1_2 a1_3 a1_4 a1_5 a2).bind fun t365 => (some (!t365)))) else (some (!t351)))) = some r := by rw [if_neg (show ¬ (false = true) by decide)] at H; exact H
     clear H
     have H := H1
     clear H1
     replace H := Option.bind_eq_some_iff.mp H
     obtain ⟨t361, A340, H⟩ := H
     replace H : (if t361 = true then (if t351 = true then ((facts_Leq.f t345 t346 t347 t348 t349 t350 a1_0 a1_1 a1_2 a1_3 a1_4 a1_5).bind fun t362 => (if t362 = true then ((facts_Contains.f a0 t345 t346 t347 t348 t349 t350 a2).bind fun t363 => ((facts_Contains.f a0 a1_0 a1_1 a1_2 a1_3 a1_4 a1_5 a2).bind fun t364 => (some (t363 == t364)))) else (some false))) else ((facts_Contains.f a0 a1_0 a1_1 a1_2 a1_3 a1_4 a1_5 a2).bind fun t365 => (some (!t365)))) else (some (!t351))) = some r := H
     have A34 := Aside0.mk A340
     clear A340
     by_cases c35 : t361 = true
     ·
      subst c35
      have H1 : (if t351 = true then ((facts_Leq.f t345 t346 t347 t348 t349 t350 a1_0 a1_1 a1_2 a1_3 a1_4 a1_5).bind fun t362 => (if t362 = true then ((facts_Contains.f a0 t345 t346 t347 t348 t349 t350 a2).bind fun t363 => ((facts_Contains.f a0 a1_0 a1_1 a1_2 a1_3 a1_4 a1_5 a2).bind fun t364 => (some (t363 == t364)))) else (some false))) else ((facts_Contains.f a0 a1_0 a1_1 a1_2 a1_3 a1_4 a1_5 a2).bind fun t365 => (some (!t365)))) = some r := by rw [if_pos rfl] at H; exact H
      clear H
      have H := H1
      clear H1
      by_cases c36 : t351 = true
      ·
       subst c36
       have H1 : ((facts_Leq.f t345 t346 t347 t348 t349 t350 a1_0 a1_1 a1_2 a1_3 a1_4 a1_5).bind fun t362 => (if t362 = true then ((facts_Contains.f a0 t345 t346 t347 t348 t349 t350 a2).bind fun t363 => ((facts_Contains.f a0 a1_0 a1_1 a1_2 a1_3 a1_4 a1_5 a2).bind fun t364 => (some (t363 == t364)))) else (some false))) = some r := by rw [if_pos rfl] at H; exact H
       clear H
       have H := H1
       clear H1
       replace H := Option.bind_eq_some_iff.mp H
       obtain ⟨t362, A370, H⟩ := H
       replace H : (if t362 = true then ((facts_Contains.f a0 t345 t346 t347 t348 t349 t350 a2).bind fun t363 => ((facts_Contains.f a0 a1_0 a1_1 a1_2 a1_3 a1_4 a1_5 a2).bind fun t364 => (some (t363 == t364)))) else (some false)) = some r := H
       have A37 := Aside0.mk A370
       clear A370
       by_cases c38 : t362 = true
       ·
        subst c38
        have H1 : ((facts_Contains.f a0 t345 t346 t347 t348 t349 t350 a2).bind fun t363 => ((facts_Contains.f a0 a1_0 a1_1 a1_2 a1_3 a1_4 a1_5 a2).bind fun t364 => (some (t363 == t364)))) = some r := by rw [if_pos rfl] at H; exact H
        clear H
        have H := H1
        clear H1
        replace H := Option.bind_eq_some_iff.mp H
        obtain ⟨t363, A390, H⟩ := H
        replace H : ((facts_Contains.f a0 a1_0 a1_1 a1_2 a1_3 a1_4 a1_5 a2).bind fun t364 => (some (t363 == t364))) = some r := H
        have A39 := Aside0.mk A390
        clear A390
        replace H := Option.bind_eq_some_iff.mp H
        obtain ⟨t364, A400, H⟩ := H
        replace H : (some (t363 == t364)) = some r := H
        have A40 := Aside0.mk A400
        clear A400
        obtain rfl := Option.some.inj H
        have hnb41 := NB343_352.out
        have hnc41 := NB352_343.out
        have hnb42 := NB343_360.out
        have hnc42 := NB360_343.out
        obtain ⟨hcz43_0, hcz43_1, hcz43_2, hcz43_3, hcz43_4, hcz43_5, hfz43_0, hfz43_1, hfz43_2, hfz43_3, hfz43_4, hfz43_5⟩ := own6 BK343.out
        try go_wp2_with (first | ((with_reducible refine gate_callee (f := 27) rfl ?_); refine gL (some 35) Try.func27 #[.int .i64 a0, .agg #[.int .u64 a1_0, .int .u64 a1_1, .int .u64 a1_2, .int .u64 a1_3, .int .i64 a1_4, .int .i64 a1_5]] ?_; (with_reducible refine (jacquardref14_Valid.calls kj7 a0 a1_0 a1_1 a1_2 a1_3 a1_4 a1_5 true _ A34.out).mono ?_); rintro e w44 ⟨rfl, hb⟩; refine ⟨_, rfl, ?_⟩; replace BK343 := bkB BK343.out hb; replace BK352 := bkB BK352.out hb; replace BK360 := bkB BK360.out hb; replace HB := bsB HB.out hb; (try clear hb)))
        replace BK343 := Aside0.mk (blk_drew BK343.out)
        replace BK352 := Aside0.mk (blk_drew BK352.out)
        replace BK360 := Aside0.mk (blk_drew BK360.out)
        replace HB := Aside0.mk (below_drew1 HB.out)
        refine start_ (n := 15) (S := fun w' => w'.cell? ⟨gb352, 0, none⟩ = some (.int .u64 t345) ∧ w'.cell? ⟨gb352, 1, none⟩ = some (.int .u64 t346) ∧ w'.cell? ⟨gb352, 2, none⟩ = some (.int .u64 t347) ∧ w'.cell? ⟨gb352, 3, none⟩ = some (.int .u64 t348) ∧ w'.cell? ⟨gb352, 4, none⟩ = some (.int .i64 t349) ∧ w'.cell? ⟨gb352, 5, none⟩ = some (.int .i64 t350) ∧ w'.cell? ⟨gb343, 0, none⟩ = some (.int .u64 a1_0) ∧ w'.cell? ⟨gb343, 1, none⟩ = some (.int .u64 a1_1) ∧ w'.cell? ⟨gb343, 2, none⟩ = some (.int .u64 a1_2) ∧ w'.cell? ⟨gb343, 3, none⟩ = some (.int .u64 a1_3) ∧ w'.cell? ⟨gb343, 4, none⟩ = some (.int .i64 a1_4) ∧ w'.cell? ⟨gb343, 5, none⟩ = some (.int .i64 a1_5)) (ds := []) (bA 15 0) (by kernel_rfl) rfl rfl (by repeat' (first | apply And.intro | exact (blk_cell BK352.out _).trans rfl | exact (blk_cell BK343.out _).trans rfl)) (fun hHeld => ?_); refine with_tabW jacquardlaw14_FactsTightens.tab11 jacquardlaw14_FactsTightens.bits11 (fun HT_ HW_ => ?_)
        generalize w44.drew = w45 at BK343 BK352 BK360 HB hHeld ⊢
        refine takeA HT_ HW_ hHeld (i := 0) (N := some 46) (bA 15 1) ?_ (hy := by rintro w' ⟨s0, s1, s2, s3, s4, s5, s6, s7, s8, s9, s10, s11⟩; go_simp; with_reducible rfl)
        refine takeA HT_ HW_ hHeld (i := 1) (N := some 47) (bA 15 3) ?_ (hy := by rintro w' ⟨s0, s1, s2, s3, s4, s5, s6, s7, s8, s9, s10, s11⟩; go_simp; with_reducible rfl)
        refine one_ (i := 2) (N := some 48) (bA 15 7) rfl rfl (one_of HT_.out (by kernel_rfl)) (by decide) (fun K hK => ?_)
        refine gO Try.func29 #[.agg #[.int .u64 t345, .int .u64 t346, .int .u64 t347, .int .u64 t348, .int .i64 t349, .int .i64 t350], .agg #[.int .u64 a1_0, .int .u64 a1_1, .int .u64 a1_2, .int .u64 a1_3, .int .i64 a1_4, .int .i64 a1_5]] ?_
        with_reducible refine (facts_Leq.calls t345 t346 t347 t348 t349 t350 a1_0 a1_1 a1_2 a1_3 a1_4 a1_5 true _ A37.out).mono ?_
        rintro e w46 ⟨rfl, hb⟩
        refine ⟨_, rfl, ?_⟩
        replace BK343 := bkB BK343.out hb
        replace BK352 := bkB BK352.out hb
        replace BK360 := bkB BK360.out hb
        replace HB := bsB HB.out hb
        (try clear hb)
        refine hK.out _ _ (by repeat' (first | apply And.intro | exact (blk_cell BK352.out _).trans rfl | exact (blk_cell BK343.out _).trans rfl)) (fun hHeld => ?_)
        clear hK K
        refine normA (some 48) ?_
        refine pureA HT_ (i := 3) (N := some 49) (bA 15 15) ?_
        refine pureA HT_ (i := 4) (N := some 50) (bA 15 31) ?_
        refine pureA HT_ (i := 6) (N := some 52) (bA 15 95) ?_
        refine pureA HT_ (i := 8) (N := some 54) (bA 15 351) ?_
        refine pureA HT_ (i := 10) (N := some 56) (bA 15 1375) ?_
        refine takeA HT_ HW_ hHeld (i := 5) (N := some 51) (bA 15 1407) ?_ (hy := by rintro w' ⟨s0, s1, s2, s3, s4, s5, s6, s7, s8, s9, s10, s11⟩; go_simp; with_reducible rfl)
        refine takeA HT_ HW_ hHeld (i := 9) (N := some 55) (bA 15 1919) ?_ (hy := by rintro w' ⟨s0, s1, s2, s3, s4, s5, s6, s7, s8, s9, s10, s11⟩; go_simp; with_reducible rfl)
        refine one_ (i := 7) (N := some 53) (bA 15 2047) rfl rfl (one_of HT_.out (by kernel_rfl)) (by decide) (fun K hK => ?_)
        refine gO Try.func28 #[.int .i64 a0, .agg #[.int .u64 t345, .int .u64 t346, .int .u64 t347, .int .u64 t348, .int .i64 t349, .int .i64 t350], .int .u64 a2] ?_
        with_reducible refine (facts_Contains.calls a0 t345 t346 t347 t348 t349 t350 a2 t363 _ A39.out).mono ?_
        rintro e w47 ⟨rfl, hb⟩
        refine ⟨_, rfl, ?_⟩
        replace BK343 := bkB BK343.out hb
        replace BK352 := bkB BK352.out hb
        replace BK360 := bkB BK360.out hb
        replace HB := bsB HB.out hb
        (try clear hb)
        refine hK.out _ _ (by repeat' (first | apply And.intro | exact (blk_cell BK352.out _).trans rfl | exact (blk_cell BK343.out _).trans rfl)) (fun hHeld => ?_)
        clear hK K
        refine normA (some 53) ?_
        refine one_ (i := 11) (N := some 57) (bA 15 4095) rfl rfl (one_of HT_.out (by kernel_rfl)) (by decide) (fun K hK => ?_)
        refine gO Try.func28 #[.int .i64 a0, .agg #[.int .u64 a1_0, .int .u64 a1_1, .int .u64 a1_2, .int .u64 a1_3, .int .i64 a1_4, .int .i64 a1_5], .int .u64 a2] ?_
        with_reducible refine (facts_Contains.calls a0 a1_0 a1_1 a1_2 a1_3 a1_4 a1_5 a2 t364 _ A40.out).mono ?_
        rintro e w48 ⟨rfl, hb⟩
        refine ⟨_, rfl, ?_⟩
        replace BK343 := bkB BK343.out hb
        replace BK352 := bkB BK352.out hb
        replace BK360 := bkB BK360.out hb
        replace HB := bsB HB.out hb
        (try clear hb)
        refine hK.out _ _ (by repeat' (first | apply And.intro | exact (blk_cell BK352.out _).trans rfl | exact (blk_cell BK343.out _).trans rfl)) (fun hHeld => ?_)
        clear hK K
        refine normA (some 57) ?_
        refine pureA HT_ (i := 12) (N := some 58) (bA 15 8191) ?_
        refine pureA HT_ (i := 13) (N := some 59) (bA 15 16383) ?_
        refine pureA HT_ (i := 14) (N := some 6) (bA 15 32767) ?_
        refine done_ (done_of HT_.out (by kernel_rfl)) ?_
        try go_wp2
        go_ret
        exact ⟨by first | rfl | (simp [errW_none, errW_some] <;> rfl) | (simp [*, errW_none, errW_some] <;> rfl), bsL HB.out⟩
       ·
        replace c38 := Bool.eq_false_iff.mpr c38
        subst c38
        have H1 : (some false) = some r := by rw [if_neg (show ¬ (false = true) by decide)] at H; exact H
        clear H
        have H := H1
        clear H1
        obtain rfl := Option.some.inj H
        have hnb49 := NB343_352.out
        have hnc49 := NB352_343.out
        have hnb50 := NB343_360.out
        have hnc50 := NB360_343.out
        obtain ⟨hcz51_0, hcz51_1, hcz51_2, hcz51_3, hcz51_4, hcz51_5, hfz51_0, hfz51_1, hfz51_2, hfz51_3, hfz51_4, hfz51_5⟩ := own6 BK343.out
        try go_wp2_with (first | ((with_reducible refine gate_callee (f := 27) rfl ?_); refine gL (some 35) Try.func27 #[.int .i64 a0, .agg #[.int .u64 a1_0, .int .u64 a1_1, .int .u64 a1_2, .int .u64 a1_3, .int .i64 a1_4, .int .i64 a1_5]] ?_; (with_reducible refine (jacquardref14_Valid.calls kj7 a0 a1_0 a1_1 a1_2 a1_3 a1_4 a1_5 true _ A34.out).mono ?_); rintro e w52 ⟨rfl, hb⟩; refine ⟨_, rfl, ?_⟩; replace BK343 := bkB BK343.out hb; replace BK352 := bkB BK352.out hb; replace BK360 := bkB BK360.out hb; replace HB := bsB HB.out hb; (try clear hb)))
        replace BK343 := Aside0.mk (blk_drew BK343.out)
        replace BK352 := Aside0.mk (blk_drew BK352.out)
        replace BK360 := Aside0.mk (blk_drew BK360.out)
        replace HB := Aside0.mk (below_drew1 HB.out)
        refine start_ (n := 15) (S := fun w' => w'.cell? ⟨gb352, 0, none⟩ = some (.int .u64 t345) ∧ w'.cell? ⟨gb352, 1, none⟩ = some (.int .u64 t346) ∧ w'.cell? ⟨gb352, 2, none⟩ = some (.int .u64 t347) ∧ w'.cell? ⟨gb352, 3, none⟩ = some (.int .u64 t348) ∧ w'.cell? ⟨gb352, 4, none⟩ = some (.int .i64 t349) ∧ w'.cell? ⟨gb352, 5, none⟩ = some (.int .i64 t350) ∧ w'.cell? ⟨gb343, 0, none⟩ = some (.int .u64 a1_0) ∧ w'.cell? ⟨gb343, 1, none⟩ = some (.int .u64 a1_1) ∧ w'.cell? ⟨gb343, 2, none⟩ = some (.int .u64 a1_2) ∧ w'.cell? ⟨gb343, 3, none⟩ = some (.int .u64 a1_3) ∧ w'.cell? ⟨gb343, 4, none⟩ = some (.int .i64 a1_4) ∧ w'.cell? ⟨gb343, 5, none⟩ = some (.int .i64 a1_5)) (ds := []) (bA 15 0) (by kernel_rfl) rfl rfl (by repeat' (first | apply And.intro | exact (blk_cell BK352.out _).trans rfl | exact (blk_cell BK343.out _).trans rfl)) (fun hHeld => ?_); refine with_tabW jacquardlaw14_FactsTightens.tab11 jacquardlaw14_FactsTightens.bits11 (fun HT_ HW_ => ?_)
        generalize w52.drew = w53 at BK343 BK352 BK360 HB hHeld ⊢
        refine takeA HT_ HW_ hHeld (i := 0) (N := some 46) (bA 15 1) ?_ (hy := by rintro w' ⟨s0, s1, s2, s3, s4, s5, s6, s7, s8, s9, s10, s11⟩; go_simp; with_reducible rfl)
        refine takeA HT_ HW_ hHeld (i := 1) (N := some 47) (bA 15 3) ?_ (hy := by rintro w' ⟨s0, s1, s2, s3, s4, s5, s6, s7, s8, s9, s10, s11⟩; go_simp; with_reducible rfl)
        refine one_ (i := 2) (N := some 48) (bA 15 7) rfl rfl (one_of HT_.out (by kernel_rfl)) (by decide) (fun K hK => ?_)
        refine gO Try.func29 #[.agg #[.int .u64 t345, .int .u64 t346, .int .u64 t347, .int .u64 t348, .int .i64 t349, .int .i64 t350], .agg #[.int .u64 a1_0, .int .u64 a1_1, .int .u64 a1_2, .int .u64 a1_3, .int .i64 a1_4, .int .i64 a1_5]] ?_
        with_reducible refine (facts_Leq.calls t345 t346 t347 t348 t349 t350 a1_0 a1_1 a1_2 a1_3 a1_4 a1_5 false _ A37.out).mono ?_
        rintro e w54 ⟨rfl, hb⟩
        refine ⟨_, rfl, ?_⟩
        replace BK343 := bkB BK343.out hb
        replace BK352 := bkB BK352.out hb
        replace BK360 := bkB BK360.out hb
        replace HB := bsB HB.out hb
        (try clear hb)
        refine hK.out _ _ (by repeat' (first | apply And.intro | exact (blk_cell BK352.out _).trans rfl | exact (blk_cell BK343.out _).trans rfl)) (fun hHeld => ?_)
        clear hK K
        refine normA (some 48) ?_
        refine pureA HT_ (i := 3) (N := some 49) (bA 15 15) ?_
        refine pureU HT_ (i := 4) (N := some 50) (bA 15 31) ?_
        refine pureU HT_ (i := 5) (N := some 51) (bA 15 63) ?_
        refine pureU HT_ (i := 6) (N := some 52) (bA 15 127) ?_
        refine pureU HT_ (i := 7) (N := some 53) (bA 15 255) ?_
        refine pureU HT_ (i := 8) (N := some 54) (bA 15 511) ?_
        refine pureU HT_ (i := 9) (N := some 55) (bA 15 1023) ?_
        refine pureU HT_ (i := 10) (N := some 56) (bA 15 2047) ?_
        refine pureU HT_ (i := 11) (N := some 57) (bA 15 4095) ?_
        refine pureU HT_ (i := 12) (N := some 58) (bA 15 8191) ?_
        refine pureA HT_ (i := 13) (N := some 59) (bA 15 16383) ?_
        refine pureA HT_ (i := 14) (N := some 6) (bA 15 32767) ?_
        refine done_ (done_of HT_.out (by kernel_rfl)) ?_
        try go_wp2
        go_ret
        exact ⟨by first | rfl | (simp [errW_none, errW_some] <;> rfl) | (simp [*, errW_none, errW_some] <;> rfl), bsL HB.out⟩
      ·
       replace c36 := Bool.eq_false_iff.mpr c36
       subst c36
       have H1 : ((facts_Contains.f a0 a1_0 a1_1 a1_2 a1_3 a1_4 a1_5 a2).bind fun t365 => (some (!t365))) = some r := by rw [if_neg (show ¬ (false = true) by decide)] at H; exact H
       clear H
       have H := H1
       clear H1
       replace H := Option.bind_eq_some_iff.mp H
       obtain ⟨t365, A550, H⟩ := H
       replace H : (some (!t365)) = some r := H
       have A55 := Aside0.mk A550
       clear A550
       obtain rfl := Option.some.inj H
       have hnb56 := NB343_352.out
       have hnc56 := NB352_343.out
       have hnb57 := NB343_360.out
       have hnc57 := NB360_343.out
       obtain ⟨hcz58_0, hcz58_1, hcz58_2, hcz58_3, hcz58_4, hcz58_5, hfz58_0, hfz58_1, hfz58_2, hfz58_3, hfz58_4, hfz58_5⟩ := own6 BK343.out
       go_wp2_with (first | ((with_reducible refine gate_callee (f := 27) rfl ?_); refine gL (some 35) Try.func27 #[.int .i64 a0, .agg #[.int .u64 a1_0, .int .u64 a1_1, .int .u64 a1_2, .int .u64 a1_3, .int .i64 a1_4, .int .i64 a1_5]] ?_; (with_reducible refine (jacquardref14_Valid.calls kj7 a0 a1_0 a1_1 a1_2 a1_3 a1_4 a1_5 true _ A34.out).mono ?_); rintro e w59 ⟨rfl, hb⟩; refine ⟨_, rfl, ?_⟩; replace BK343 := bkB BK343.out hb; replace BK352 := bkB BK352.out hb; replace BK360 := bkB BK360.out hb; replace HB := bsB HB.out hb; (try clear hb); obtain ⟨hcz60_0, hcz60_1, hcz60_2, hcz60_3, hcz60_4, hcz60_5, hfz60_0, hfz60_1, hfz60_2, hfz60_3, hfz60_4, hfz60_5⟩ := own6 BK343.out) | ((with_reducible refine gate_callee (f := 28) rfl ?_); refine gL (some 44) Try.func28 #[.int .i64 a0, .agg #[.int .u64 a1_0, .int .u64 a1_1, .int .u64 a1_2, .int .u64 a1_3, .int .i64 a1_4, .int .i64 a1_5], .int .u64 a2] ?_; (with_reducible refine (facts_Contains.calls a0 a1_0 a1_1 a1_2 a1_3 a1_4 a1_5 a2 t365 _ A55.out).mono ?_); rintro e w61 ⟨rfl, hb⟩; refine ⟨_, rfl, ?_⟩; replace BK343 := bkB BK343.out hb; replace BK352 := bkB BK352.out hb; replace BK360 := bkB BK360.out hb; replace HB := bsB HB.out hb; (try clear hb); (try clear hb2); (try clear hk); (try clear hi)))
       go_ret
       exact ⟨by first | rfl | (simp [errW_none, errW_some] <;> rfl) | (simp [*, errW_none, errW_some] <;> rfl), bsL HB.out⟩
     ·
      replace c35 := Bool.eq_false_iff.mpr c35
      subst c35
      have H1 : (some (!t351)) = some r := by rw [if_neg (show ¬ (false = true) by decide)] at H; exact H
      clear H
      have H := H1
      clear H1
      obtain rfl := Option.some.inj H
      have hnb62 := NB343_352.out
      have hnc62 := NB352_343.out
      have hnb63 := NB343_360.out
      have hnc63 := NB360_343.out
      obtain ⟨hcz64_0, hcz64_1, hcz64_2, hcz64_3, hcz64_4, hcz64_5, hfz64_0, hfz64_1, hfz64_2, hfz64_3, hfz64_4, hfz64_5⟩ := own6 BK343.out
      go_wp2_with (first | ((with_reducible refine gate_callee (f := 27) rfl ?_); refine gL (some 35) Try.func27 #[.int .i64 a0, .agg #[.int .u64 a1_0, .int .u64 a1_1, .int .u64 a1_2, .int .u64 a1_3, .int .i64 a1_4, .int .i64 a1_5]] ?_; (with_reducible refine (jacquardref14_Valid.calls kj7 a0 a1_0 a1_1 a1_2 a1_3 a1_4 a1_5 false _ A34.out).mono ?_); rintro e w65 ⟨rfl, hb⟩; refine ⟨_, rfl, ?_⟩; replace BK343 := bkB BK343.out hb; replace BK352 := bkB BK352.out hb; replace BK360 := bkB BK360.out hb; replace HB := bsB HB.out hb; (try clear hb)))
      go_ret
      exact ⟨by first | rfl | (simp [errW_none, errW_some] <;> rfl) | (simp [*, errW_none, errW_some] <;> rfl), bsL HB.out⟩
 ·
  replace c5 := Bool.eq_false_iff.mpr c5
  subst c5
  have H1 : (some false) = some r := by rw [if_neg (show ¬ (false = true) by decide)] at H; exact H
  clear H
  have H := H1
  clear H1
  obtain rfl := Option.some.inj H
  go_enter Try.func8, Try.ntmps8
  go_wp2_with (first | ((with_reducible refine gate_dst (N := 4) rfl ?_); refine boxE (N := 4) (cs := #[.int .u64 a1_0, .int .u64 a1_1, .int .u64 a1_2, .int .u64 a1_3, .int .i64 a1_4, .int .i64 a1_5]) (t := 50) ?_; intro gb343 hg w66 hbox hb; have BK343 := Aside0.mk (hbox); have GW343 := szB hg HB.out; have GE343 := szB hg HB.out; replace HB := bsB HB.out hb; clear hb hbox hg) | ((with_reducible refine gate_callee (f := 24) rfl ?_); refine gL (some 11) Try.func24 #[] ?_; (with_reducible refine (jacquardlaw14_awake.calls  false _ A4.out).mono ?_); rintro e w67 ⟨rfl, hb⟩; refine ⟨_, rfl, ?_⟩; replace BK343 := bkB BK343.out hb; replace HB := bsB HB.out hb; (try clear hb); (try clear hb2); (try clear hk); (try clear hi)))
  go_ret
  exact ⟨by first | rfl | (simp [errW_none, errW_some] <;> rfl) | (simp [*, errW_none, errW_some] <;> rfl), bsL HB.out⟩

/-- THE ONE PURE STATEMENT of jacquardlaw14_FactsTightens. -/
def jacquardlaw14_FactsTightens.Pure : Prop := ∀ (a0 : Int) (a1_0 : Int) (a1_1 : Int) (a1_2 : Int) (a1_3 : Int) (a1_4 : Int) (a1_5 : Int) (a2 : Int), (Lit.int .i64 a0).wf = true → (Lit.int .u64 a1_0).wf = true → (Lit.int .u64 a1_1).wf = true → (Lit.int .u64 a1_2).wf = true → (Lit.int .u64 a1_3).wf = true → (Lit.int .i64 a1_4).wf = true → (Lit.int .i64 a1_5).wf = true → (Lit.int .u64 a2).wf = true → ∃ k, jacquardlaw14_FactsTightens.f k a0 a1_0 a1_1 a1_2 a1_3 a1_4 a1_5 a2 = some true

/-! ### jacquardref13_Top: function 58 -/
def jacquardref13_Top.j0 : Nat → Int → Bool → Option (Int × Int × Int × Int)
 | 0, _, _ => none
 | k + 1, x0, x8 => if x8 = true then (some (0, 0, 0, 0)) else ((jacquardref13_Umax.f k x0).bind fun t367 => ((jacquardref13_Smin.f k x0).bind fun t368 => ((jacquardref13_Smax.f k x0).bind fun t369 => (some (0, t367, t368, t369)))))
def jacquardref13_Top.f (k : Nat) (a0 : Int) : Option (Int × Int × Int × Int) := if a0 < 1 then (jacquardref13_Top.j0 k a0 true) else (jacquardref13_Top.j0 k a0 (decide (a0 > 64)))
theorem jacquardref13_Top.mono_l : ∀ k, (∀ y0 y1, LeO (jacquardref13_Top.j0 k y0 y1) (jacquardref13_Top.j0 (k + 1) y0 y1))
 | 0 => fun _ _ r h => by simp [jacquardref13_Top.j0] at h
 | k + 1 => by
  have ih0 := jacquardref13_Top.mono_l k
  ·
   intro y0 y1
   unfold jacquardref13_Top.j0
   repeat' first
   | (with_reducible exact ih0 _ _)
   | (with_reducible exact jacquardref13_Smax.mono _ _)
   | (with_reducible exact jacquardref13_Smin.mono _ _)
   | (with_reducible exact jacquardref13_Umax.mono _ _)
   | (with_reducible exact LeO.refl _)
   | (with_reducible exact LeO.none _)
   | (with_reducible refine LeO.ite ?_ ?_)
   | (with_reducible refine LeO.bind ?_ (fun _ => ?_))
   | exact ih0 _ _
   | exact jacquardref13_Smax.mono _ _
   | exact jacquardref13_Smin.mono _ _
   | exact jacquardref13_Umax.mono _ _
   | exact LeO.none _
   | refine LeO.ite ?_ ?_
   | refine LeO.bind ?_ (fun _ => ?_)
theorem jacquardref13_Top.mono : ∀ a0 k, LeO (jacquardref13_Top.f k a0) (jacquardref13_Top.f (k + 1) a0) := by
 intro a0 k
 have ih0 := jacquardref13_Top.mono_l k
 unfold jacquardref13_Top.f
 repeat' first
   | (with_reducible exact ih0 _ _)
   | (with_reducible exact jacquardref13_Smax.mono _ _)
   | (with_reducible exact jacquardref13_Smin.mono _ _)
   | (with_reducible exact jacquardref13_Umax.mono _ _)
   | (with_reducible exact LeO.refl _)
   | (with_reducible exact LeO.none _)
   | (with_reducible refine LeO.ite ?_ ?_)
   | (with_reducible refine LeO.bind ?_ (fun _ => ?_))
   | exact ih0 _ _
   | exact jacquardref13_Smax.mono _ _
   | exact jacquardref13_Smin.mono _ _
   | exact jacquardref13_Umax.mono _ _
   | exact LeO.none _
   | refine LeO.ite ?_ ?_
   | refine LeO.bind ?_ (fun _ => ?_)
set_option maxHeartbeats 8000000 in
set_option maxRecDepth 100000 in
theorem jacquardref13_Top.calls (k : Nat) (a0 : Int) (r1 : Int) (r2 : Int) (r3 : Int) (r4 : Int) (w : World) (h : jacquardref13_Top.f k a0 = some (r1, r2, r3, r4)) :
  Calls Try.prog 58 #[.int .i64 a0] w fun e w' => e = .returned (.agg #[.int .u64 r1, .int .u64 r2, .int .i64 r3, .int .i64 r4]) ∧ Below w.heap.size w w' := by
 have hu30 := Try.underlying30
 have HB := Aside0.mk (Below.refl w.heap.size w)
 have H : (if a0 < 1 then (jacquardref13_Top.j0 k a0 true) else (jacquardref13_Top.j0 k a0 (decide (a0 > 64)))) = some (r1, r2, r3, r4) := h
 clear h
 have HC2 := Aside0.mk H
 clear H
 go_enter Try.func58, Try.ntmps58
 go_upto_region 1 with (first | ((with_reducible refine gate_dst (N := 2) rfl ?_); refine boxE (N := 2) (cs := #[.int .u64 0, .int .u64 0, .int .i64 0, .int .i64 0]) (t := 30) ?_; intro gb366 hg w3 hbox hb; have BK366 := Aside0.mk (hbox); have GW366 := szB hg HB.out; have GE366 := szB hg HB.out; replace HB := bsB HB.out hb; clear hb hbox hg))
 (try simp only [Act.put, List.setIfInBounds_toArray, List.set_cons_zero, List.set_cons_succ])
 go_cut [8] (fun v8 wc => ∃ (kq : Nat) (x8_1 : Bool), v8 = .bool x8_1 ∧ Aside0 (jacquardref13_Top.j0 kq a0 x8_1 = some (r1, r2, r3, r4)) ∧ Aside0 (kq ≤ k) ∧ Aside0 (wc.heap[gb366]? = some (.cells #[.int .u64 0, .int .u64 0, .int .i64 0, .int .i64 0] 30 (0, 0))) ∧ Aside0 (Below w.heap.size w wc))
 case first =>
  have H := HC2.out
  clear HC2
  by_cases c4 : a0 < 1
  ·
   rw [if_pos c4] at H
   have c4b0 : decide (a0 < 1) = true := decide_eq_true c4
   clear c4
   (first | rw [c4b0] | (simp only [i64_w, i32_w]; rw [c4b0]) | skip)
   have H' := Aside0.mk H
   clear H
   go_wp2
   go_meet
   case rel => exact ⟨_, (true), (by first | rfl | (simp; done) | (simp [*]; done)), H', ⟨by first | omega | exact Nat.le_refl _⟩, ⟨bkL BK366.out⟩, ⟨bsL HB.out⟩⟩
  ·
   rw [if_neg c4] at H
   have c4b0 : decide (a0 < 1) = false := decide_eq_false c4
   clear c4
   (first | rw [c4b0] | (simp only [i64_w, i32_w]; rw [c4b0]) | skip)
   have H' := Aside0.mk H
   clear H
   go_wp2
   go_meet
   case rel => exact ⟨_, (decide (a0 > 64)), (by first | rfl | (simp; done) | (simp [*]; done)), H', ⟨by first | omega | exact Nat.le_refl _⟩, ⟨bkL BK366.out⟩, ⟨bsL HB.out⟩⟩
 case rest =>
  clear HC2
  try clear p2
  try clear c4
  try clear c4b0
  obtain ⟨kq, x8_1, rfl, HA, HJ1, BK366, HB⟩ := hcut
  cases kq with
  | zero => exact absurd HA.out (by simp [jacquardref13_Top.j0])
  | succ kj1 =>
   have H := HA.out
   clear HA
   simp only [jacquardref13_Top.j0] at H
   by_cases c5 : x8_1 = true
   ·
    subst c5
    have H1 : (some (0, 0, 0, 0)) = some (r1, r2, r3, r4) := by rw [if_pos rfl] at H; exact H
    clear H
    have H := H1
    clear H1
    simp only [Option.some.injEq, Prod.mk.injEq] at H
    obtain ⟨rfl, rfl, rfl, rfl⟩ := H
    obtain ⟨hcz6_0, hcz6_1, hcz6_2, hcz6_3, hfz6_0, hfz6_1, hfz6_2, hfz6_3⟩ := own4 BK366.out
    go_wp2
    refine bodyPost_ret (results_cell_row rfl _ _ gb366 30 #[.int .u64 0, .int .u64 0, .int .i64 0, .int .i64 0] (0, 0) _ rfl (by (with_reducible repeat (first | refine blk_drewN ?_ _ | refine blk_drew ?_ | refine blk_alloc ?_ _)); refine blk_put (cs := #[.int .u64 0, .int .u64 0, .int .i64 0, .int .i64 0]) ?_ 3 _ rfl; (with_reducible repeat (first | refine blk_drewN ?_ _ | refine blk_drew ?_ | refine blk_alloc ?_ _)); refine blk_put (cs := #[.int .u64 0, .int .u64 0, .int .i64 0, .int .i64 0]) ?_ 2 _ rfl; (with_reducible repeat (first | refine blk_drewN ?_ _ | refine blk_drew ?_ | refine blk_alloc ?_ _)); refine blk_put (cs := #[.int .u64 0, .int .u64 0, .int .i64 0, .int .i64 0]) ?_ 1 _ rfl; (with_reducible repeat (first | refine blk_drewN ?_ _ | refine blk_drew ?_ | refine blk_alloc ?_ _)); refine blk_put (cs := #[.int .u64 0, .int .u64 0, .int .i64 0, .int .i64 0]) ?_ 0 _ rfl; exact bfL BK366.out) Try.underlying30 rfl (by kernel_rfl)) rfl ?_
    exact ⟨by first | rfl | (simp [errW_none, errW_some] <;> rfl) | (simp [*, errW_none, errW_some] <;> rfl), bsL HB.out⟩
   ·
    replace c5 := Bool.eq_false_iff.mpr c5
    subst c5
    have H1 : ((jacquardref13_Umax.f kj1 a0).bind fun t367 => ((jacquardref13_Smin.f kj1 a0).bind fun t368 => ((jacquardref13_Smax.f kj1 a0).bind fun t369 => (some (0, t367, t368, t369))))) = some (r1, r2, r3, r4) := by rw [if_neg (show ¬ (false = true) by decide)] at H; exact H
    clear H
    have H := H1
    clear H1
    replace H := Option.bind_eq_some_iff.mp H
    obtain ⟨t367, A70, H⟩ := H
    replace H : ((jacquardref13_Smin.f kj1 a0).bind fun t368 => ((jacquardref13_Smax.f kj1 a0).bind fun t369 => (some (0, t367, t368, t369)))) = some (r1, r2, r3, r4) := H
    have A7 := Aside0.mk A70
    clear A70
    replace H := Option.bind_eq_some_iff.mp H
    obtain ⟨t368, A80, H⟩ := H
    replace H : ((jacquardref13_Smax.f kj1 a0).bind fun t369 => (some (0, t367, t368, t369))) = some (r1, r2, r3, r4) := H
    have A8 := Aside0.mk A80
    clear A80
    replace H := Option.bind_eq_some_iff.mp H
    obtain ⟨t369, A90, H⟩ := H
    replace H : (some (0, t367, t368, t369)) = some (r1, r2, r3, r4) := H
    have A9 := Aside0.mk A90
    clear A90
    simp only [Option.some.injEq, Prod.mk.injEq] at H
    obtain ⟨rfl, rfl, rfl, rfl⟩ := H
    go_wp2_with (first | ((with_reducible refine gate_callee (f := 75) rfl ?_); refine gL (some 11) Try.func75 #[.int .i64 a0] ?_; (with_reducible refine (jacquardref13_Umax.calls kj1 a0 t367 _ A7.out).mono ?_); rintro e w' ⟨rfl, ⟨nd, rfl⟩⟩; refine ⟨_, rfl, ?_⟩; (try (rw [drewN_self wc]; generalize hq_ : World.drewN wc _ = wc; have n0_ : Aside0 (wc.heap[gb366]? = some (.cells #[.int .u64 0, .int .u64 0, .int .i64 0, .int .i64 0] 30 (0, 0))) := ⟨by rw [← hq_]; exact (by exact bfL BK366.out)⟩; have n1_ : Aside0 (Below w.heap.size w wc) := ⟨by rw [← hq_]; exact (by repeat (first | (with_reducible first | exact HB.out | apply below_alloc | apply pw_below_drewN | apply below_drew1 | refine below_set ?_ GE366.out) | exact HB.out))⟩; clear BK366 HB hq_; have BK366 := n0_; have HB := n1_; clear n0_ n1_))) | ((with_reducible refine gate_callee (f := 133) rfl ?_); refine gL (some 13) Try.func133 #[.int .i64 a0] ?_; (with_reducible refine (jacquardref13_Smin.calls kj1 a0 t368 _ A8.out).mono ?_); rintro e w' ⟨rfl, ⟨nd, rfl⟩⟩; refine ⟨_, rfl, ?_⟩; (try (rw [drewN_self wc]; generalize hq_ : World.drewN wc _ = wc; have n0_ : Aside0 (wc.heap[gb366]? = some (.cells #[.int .u64 0, .int .u64 0, .int .i64 0, .int .i64 0] 30 (0, 0))) := ⟨by rw [← hq_]; exact (by exact bfL BK366.out)⟩; have n1_ : Aside0 (Below w.heap.size w wc) := ⟨by rw [← hq_]; exact (by repeat (first | (with_reducible first | exact HB.out | apply below_alloc | apply pw_below_drewN | apply below_drew1 | refine below_set ?_ GE366.out) | exact HB.out))⟩; clear BK366 HB hq_; have BK366 := n0_; have HB := n1_; clear n0_ n1_))) | ((with_reducible refine gate_callee (f := 134) rfl ?_); refine gL (some 15) Try.func134 #[.int .i64 a0] ?_; (with_reducible refine (jacquardref13_Smax.calls kj1 a0 t369 _ A9.out).mono ?_); rintro e w' ⟨rfl, ⟨nd, rfl⟩⟩; refine ⟨_, rfl, ?_⟩; (try (rw [drewN_self wc]; generalize hq_ : World.drewN wc _ = wc; have n0_ : Aside0 (wc.heap[gb366]? = some (.cells #[.int .u64 0, .int .u64 0, .int .i64 0, .int .i64 0] 30 (0, 0))) := ⟨by rw [← hq_]; exact (by exact bfL BK366.out)⟩; have n1_ : Aside0 (Below w.heap.size w wc) := ⟨by rw [← hq_]; exact (by repeat (first | (with_reducible first | exact HB.out | apply below_alloc | apply pw_below_drewN | apply below_drew1 | refine below_set ?_ GE366.out) | exact HB.out))⟩; clear BK366 HB hq_; have BK366 := n0_; have HB := n1_; clear n0_ n1_)); obtain ⟨hcz10_0, hcz10_1, hcz10_2, hcz10_3, hfz10_0, hfz10_1, hfz10_2, hfz10_3⟩ := own4 BK366.out))
    refine bodyPost_ret (results_cell_row rfl _ _ gb366 30 #[.int .u64 0, .int .u64 t367, .int .i64 t368, .int .i64 t369] (0, 0) _ rfl (by (with_reducible repeat (first | refine blk_drewN ?_ _ | refine blk_drew ?_ | refine blk_alloc ?_ _)); refine blk_put (cs := #[.int .u64 0, .int .u64 t367, .int .i64 t368, .int .i64 0]) ?_ 3 _ rfl; (with_reducible repeat (first | refine blk_drewN ?_ _ | refine blk_drew ?_ | refine blk_alloc ?_ _)); refine blk_put (cs := #[.int .u64 0, .int .u64 t367, .int .i64 0, .int .i64 0]) ?_ 2 _ rfl; (with_reducible repeat (first | refine blk_drewN ?_ _ | refine blk_drew ?_ | refine blk_alloc ?_ _)); refine blk_put (cs := #[.int .u64 0, .int .u64 0, .int .i64 0, .int .i64 0]) ?_ 1 _ rfl; (with_reducible repeat (first | refine blk_drewN ?_ _ | refine blk_drew ?_ | refine blk_alloc ?_ _)); refine blk_put (cs := #[.int .u64 0, .int .u64 0, .int .i64 0, .int .i64 0]) ?_ 0 _ rfl; exact bfL BK366.out) Try.underlying30 rfl (by kernel_rfl)) rfl ?_
    exact ⟨by first | rfl | (simp [errW_none, errW_some] <;> rfl) | (simp [*, errW_none, errW_some] <;> rfl), bsL HB.out⟩

/-! ### jacquardref14_Top: function 31 -/
def jacquardref14_Top.f (k : Nat) (a0 : Int) : Option (Int × Int × Int × Int × Int × Int) := (jacquardref13_Top.f k a0).bind fun bt371 => ((jacquardref14_fact.f 0 0 bt371.1 bt371.2.1 bt371.2.2.1 bt371.2.2.2).bind fun bt375 => (some (bt375.1, bt375.2.1, bt375.2.2.1, bt375.2.2.2.1, bt375.2.2.2.2.1, bt375.2.2.2.2.2)))
theorem jacquardref14_Top.mono : ∀ a0 k, LeO (jacquardref14_Top.f k a0) (jacquardref14_Top.f (k + 1) a0) := by
 intro a0 k
 unfold jacquardref14_Top.f
 repeat' first
   | (with_reducible exact jacquardref13_Top.mono _ _)
   | (with_reducible exact LeO.refl _)
   | (with_reducible exact LeO.none _)
   | (with_reducible refine LeO.ite ?_ ?_)
   | (with_reducible refine LeO.bind ?_ (fun _ => ?_))
   | exact jacquardref13_Top.mono _ _
   | exact LeO.none _
   | refine LeO.ite ?_ ?_
   | refine LeO.bind ?_ (fun _ => ?_)
set_option maxHeartbeats 8000000 in
set_option maxRecDepth 100000 in
theorem jacquardref14_Top.calls (k : Nat) (a0 : Int) (r1 : Int) (r2 : Int) (r3 : Int) (r4 : Int) (r5 : Int) (r6 : Int) (w : World) (h : jacquardref14_Top.f k a0 = some (r1, r2, r3, r4, r5, r6)) :
  Calls Try.prog 31 #[.int .i64 a0] w fun e w' => e = .returned (.agg #[.int .u64 r1, .int .u64 r2, .int .u64 r3, .int .u64 r4, .int .i64 r5, .int .i64 r6]) ∧ Below w.heap.size w w' := by
 have hu50 := Try.underlying50
 have hu110 := Try.underlying110
 have HB := Aside0.mk (Below.refl w.heap.size w)
 have H : ((jacquardref13_Top.f k a0).bind fun bt371 => ((jacquardref14_fact.f 0 0 bt371.1 bt371.2.1 bt371.2.2.1 bt371.2.2.2).bind fun bt375 => (some (bt375.1, bt375.2.1, bt375.2.2.1, bt375.2.2.2.1, bt375.2.2.2.2.1, bt375.2.2.2.2.2)))) = some (r1, r2, r3, r4, r5, r6) := h
 clear h
 replace H := Option.bind_eq_some_iff.mp H
 obtain ⟨⟨t371, t372, t373, t374⟩, A20, H⟩ := H
 replace H : ((jacquardref14_fact.f 0 0 t371 t372 t373 t374).bind fun bt375 => (some (bt375.1, bt375.2.1, bt375.2.2.1, bt375.2.2.2.1, bt375.2.2.2.2.1, bt375.2.2.2.2.2))) = some (r1, r2, r3, r4, r5, r6) := H
 have A2 := Aside0.mk A20
 clear A20
 replace H := Option.bind_eq_some_iff.mp H
 obtain ⟨⟨t375, t376, t377, t378, t379, t380⟩, A30, H⟩ := H
 replace H : (some (t375, t376, t377, t378, t379, t380)) = some (r1, r2, r3, r4, r5, r6) := H
 have A3 := Aside0.mk A30
 clear A30
 simp only [Option.some.injEq, Prod.mk.injEq] at H
 obtain ⟨rfl, rfl, rfl, rfl, rfl, rfl⟩ := H
 go_enter Try.func31, Try.ntmps31
 go_wp2_with (first | ((with_reducible refine gate_dst (N := 2) rfl ?_); refine boxE (N := 2) (cs := #[.int .u64 0, .int .u64 0, .int .u64 0, .int .u64 0, .int .i64 0, .int .i64 0]) (t := 50) ?_; intro gb370 hg w4 hbox hb; have BK370 := Aside0.mk (hbox); have GW370 := szB hg HB.out; have GE370 := szB hg HB.out; replace HB := bsB HB.out hb; clear hb hbox hg) | ((with_reducible refine gate_callee (f := 58) rfl ?_); refine gL (some 5) Try.func58 #[.int .i64 a0] ?_; (with_reducible refine (jacquardref13_Top.calls k a0 t371 t372 t373 t374 _ A2.out).mono ?_); rintro e w5 ⟨rfl, hb⟩; refine ⟨_, rfl, ?_⟩; replace BK370 := bkB BK370.out hb; replace HB := bsB HB.out hb; (try clear hb); (try clear hb2); (try clear hk); (try clear hi)) | ((with_reducible refine gate_callee (f := 82) rfl ?_); refine gL (some 6) Try.func82 #[.agg #[.int .u64 0, .int .u64 0], .agg #[.int .u64 t371, .int .u64 t372, .int .i64 t373, .int .i64 t374]] ?_; (with_reducible refine (jacquardref14_fact.calls 0 0 t371 t372 t373 t374 t375 t376 t377 t378 t379 t380 _ A3.out).mono ?_); rintro e w6 ⟨rfl, hb⟩; refine ⟨_, rfl, ?_⟩; replace BK370 := bkB BK370.out hb; replace HB := bsB HB.out hb; (try clear hb); (try clear hb2); (try clear hk); (try clear hi); obtain ⟨hcz7_0, hcz7_1, hcz7_2, hcz7_3, hcz7_4, hcz7_5, hfz7_0, hfz7_1, hfz7_2, hfz7_3, hfz7_4, hfz7_5⟩ := own6 BK370.out))
 refine bodyPost_ret (results_cell_row rfl _ _ gb370 50 #[.int .u64 t375, .int .u64 t376, .int .u64 t377, .int .u64 t378, .int .i64 t379, .int .i64 t380] (0, 0) _ rfl (by (with_reducible repeat (first | refine blk_drewN ?_ _ | refine blk_drew ?_ | refine blk_alloc ?_ _)); refine blk_put (cs := #[.int .u64 t375, .int .u64 t376, .int .u64 t377, .int .u64 t378, .int .i64 t379, .int .i64 0]) ?_ 5 _ rfl; (with_reducible repeat (first | refine blk_drewN ?_ _ | refine blk_drew ?_ | refine blk_alloc ?_ _)); refine blk_put (cs := #[.int .u64 t375, .int .u64 t376, .int .u64 t377, .int .u64 t378, .int .i64 0, .int .i64 0]) ?_ 4 _ rfl; (with_reducible repeat (first | refine blk_drewN ?_ _ | refine blk_drew ?_ | refine blk_alloc ?_ _)); refine blk_put (cs := #[.int .u64 t375, .int .u64 t376, .int .u64 t377, .int .u64 0, .int .i64 0, .int .i64 0]) ?_ 3 _ rfl; (with_reducible repeat (first | refine blk_drewN ?_ _ | refine blk_drew ?_ | refine blk_alloc ?_ _)); refine blk_put (cs := #[.int .u64 t375, .int .u64 t376, .int .u64 0, .int .u64 0, .int .i64 0, .int .i64 0]) ?_ 2 _ rfl; (with_reducible repeat (first | refine blk_drewN ?_ _ | refine blk_drew ?_ | refine blk_alloc ?_ _)); refine blk_put (cs := #[.int .u64 t375, .int .u64 0, .int .u64 0, .int .u64 0, .int .i64 0, .int .i64 0]) ?_ 1 _ rfl; (with_reducible repeat (first | refine blk_drewN ?_ _ | refine blk_drew ?_ | refine blk_alloc ?_ _)); refine blk_put (cs := #[.int .u64 0, .int .u64 0, .int .u64 0, .int .u64 0, .int .i64 0, .int .i64 0]) ?_ 0 _ rfl; exact bfL BK370.out) Try.underlying50 rfl (by kernel_rfl)) rfl ?_
 exact ⟨by first | rfl | (simp [errW_none, errW_some] <;> rfl) | (simp [*, errW_none, errW_some] <;> rfl), bsL HB.out⟩

/-! ### jacquardref13_Of: function 60 -/
def jacquardref13_Of.j0 : Nat → Int → Int → Bool → Option (Int × Int × Int × Int)
 | 0, _, _, _ => none
 | k + 1, x0, x1, x11 => if x11 = true then (some (0, 0, 0, 0)) else ((jacquardref13_Umax.f k x0).bind fun t382 => ((jacquardref12_Signed.f k x0 (Go.bits .and .u64 x1 t382)).bind fun t383 => (some (Go.bits .and .u64 x1 t382, Go.bits .and .u64 x1 t382, t383, t383))))
def jacquardref13_Of.f (k : Nat) (a0 : Int) (a1 : Int) : Option (Int × Int × Int × Int) := if a0 < 1 then (jacquardref13_Of.j0 k a0 a1 true) else (jacquardref13_Of.j0 k a0 a1 (decide (a0 > 64)))
theorem jacquardref13_Of.mono_l : ∀ k, (∀ y0 y1 y2, LeO (jacquardref13_Of.j0 k y0 y1 y2) (jacquardref13_Of.j0 (k + 1) y0 y1 y2))
 | 0 => fun _ _ _ r h => by simp [jacquardref13_Of.j0] at h
 | k + 1 => by
  have ih0 := jacquardref13_Of.mono_l k
  ·
   intro y0 y1 y2
   unfold jacquardref13_Of.j0
   repeat' first
   | (with_reducible exact ih0 _ _ _)
   | (with_reducible exact jacquardref12_Signed.mono _ _ _)
   | (with_reducible exact jacquardref13_Umax.mono _ _)
   | (with_reducible exact LeO.refl _)
   | (with_reducible exact LeO.none _)
   | (with_reducible refine LeO.ite ?_ ?_)
   | (with_reducible refine LeO.bind ?_ (fun _ => ?_))
   | exact ih0 _ _ _
   | exact jacquardref12_Signed.mono _ _ _
   | exact jacquardref13_Umax.mono _ _
   | exact LeO.none _
   | refine LeO.ite ?_ ?_
   | refine LeO.bind ?_ (fun _ => ?_)
theorem jacquardref13_Of.mono : ∀ a0 a1 k, LeO (jacquardref13_Of.f k a0 a1) (jacquardref13_Of.f (k + 1) a0 a1) := by
 intro a0 a1 k
 have ih0 := jacquardref13_Of.mono_l k
 unfold jacquardref13_Of.f
 repeat' first
   | (with_reducible exact ih0 _ _ _)
   | (with_reducible exact jacquardref12_Signed.mono _ _ _)
   | (with_reducible exact jacquardref13_Umax.mono _ _)
   | (with_reducible exact LeO.refl _)
   | (with_reducible exact LeO.none _)
   | (with_reducible refine LeO.ite ?_ ?_)
   | (with_reducible refine LeO.bind ?_ (fun _ => ?_))
   | exact ih0 _ _ _
   | exact jacquardref12_Signed.mono _ _ _
   | exact jacquardref13_Umax.mono _ _
   | exact LeO.none _
   | refine LeO.ite ?_ ?_
   | refine LeO.bind ?_ (fun _ => ?_)
set_option maxHeartbeats 8000000 in
set_option maxRecDepth 100000 in
theorem jacquardref13_Of.calls (k : Nat) (a0 : Int) (a1 : Int) (r1 : Int) (r2 : Int) (r3 : Int) (r4 : Int) (w : World) (h : jacquardref13_Of.f k a0 a1 = some (r1, r2, r3, r4)) :
  Calls Try.prog 60 #[.int .i64 a0, .int .u64 a1] w fun e w' => e = .returned (.agg #[.int .u64 r1, .int .u64 r2, .int .i64 r3, .int .i64 r4]) ∧ Below w.heap.size w w' := by
 have hu30 := Try.underlying30
 have HB := Aside0.mk (Below.refl w.heap.size w)
 have H : (if a0 < 1 then (jacquardref13_Of.j0 k a0 a1 true) else (jacquardref13_Of.j0 k a0 a1 (decide (a0 > 64)))) = some (r1, r2, r3, r4) := h
 clear h
 have HC3 := Aside0.mk H
 clear H
 go_enter Try.func60, Try.ntmps60
 go_upto_region 1 with (first | ((with_reducible refine gate_dst (N := 4) rfl ?_); refine boxE (N := 4) (cs := #[.int .u64 0, .int .u64 0, .int .i64 0, .int .i64 0]) (t := 30) ?_; intro gb381 hg w4 hbox hb; have BK381 := Aside0.mk (hbox); have GW381 := szB hg HB.out; have GE381 := szB hg HB.out; replace HB := bsB HB.out hb; clear hb hbox hg))
 (try simp only [Act.put, List.setIfInBounds_toArray, List.set_cons_zero, List.set_cons_succ])
 go_cut [11] (fun v11 wc => ∃ (kq : Nat) (x11_2 : Bool), v11 = .bool x11_2 ∧ Aside0 (jacquardref13_Of.j0 kq a0 a1 x11_2 = some (r1, r2, r3, r4)) ∧ Aside0 (kq ≤ k) ∧ Aside0 (wc.heap[gb381]? = some (.cells #[.int .u64 0, .int .u64 0, .int .i64 0, .int .i64 0] 30 (0, 0))) ∧ Aside0 (Below w.heap.size w wc))
 case first =>
  have H := HC3.out
  clear HC3
  by_cases c5 : a0 < 1
  ·
   rw [if_pos c5] at H
   have c5b0 : decide (a0 < 1) = true := decide_eq_true c5
   clear c5
   (first | rw [c5b0] | (simp only [i64_w, i32_w]; rw [c5b0]) | skip)
   have H' := Aside0.mk H
   clear H
   go_wp2
   go_meet
   case rel => exact ⟨_, (true), (by first | rfl | (simp; done) | (simp [*]; done)), H', ⟨by first | omega | exact Nat.le_refl _⟩, ⟨bkL BK381.out⟩, ⟨bsL HB.out⟩⟩
  ·
   rw [if_neg c5] at H
   have c5b0 : decide (a0 < 1) = false := decide_eq_false c5
   clear c5
   (first | rw [c5b0] | (simp only [i64_w, i32_w]; rw [c5b0]) | skip)
   have H' := Aside0.mk H
   clear H
   go_wp2
   go_meet
   case rel => exact ⟨_, (decide (a0 > 64)), (by first | rfl | (simp; done) | (simp [*]; done)), H', ⟨by first | omega | exact Nat.le_refl _⟩, ⟨bkL BK381.out⟩, ⟨bsL HB.out⟩⟩
 case rest =>
  clear HC3
  try clear p2
  try clear c5
  try clear c5b0
  obtain ⟨kq, x11_2, rfl, HA, HJ2, BK381, HB⟩ := hcut
  cases kq with
  | zero => exact absurd HA.out (by simp [jacquardref13_Of.j0])
  | succ kj2 =>
   have H := HA.out
   clear HA
   simp only [jacquardref13_Of.j0] at H
   by_cases c6 : x11_2 = true
   ·
    subst c6
    have H1 : (some (0, 0, 0, 0)) = some (r1, r2, r3, r4) := by rw [if_pos rfl] at H; exact H
    clear H
    have H := H1
    clear H1
    simp only [Option.some.injEq, Prod.mk.injEq] at H
    obtain ⟨rfl, rfl, rfl, rfl⟩ := H
    obtain ⟨hcz7_0, hcz7_1, hcz7_2, hcz7_3, hfz7_0, hfz7_1, hfz7_2, hfz7_3⟩ := own4 BK381.out
    go_wp2
    refine bodyPost_ret (results_cell_row rfl _ _ gb381 30 #[.int .u64 0, .int .u64 0, .int .i64 0, .int .i64 0] (0, 0) _ rfl (by (with_reducible repeat (first | refine blk_drewN ?_ _ | refine blk_drew ?_ | refine blk_alloc ?_ _)); refine blk_put (cs := #[.int .u64 0, .int .u64 0, .int .i64 0, .int .i64 0]) ?_ 3 _ rfl; (with_reducible repeat (first | refine blk_drewN ?_ _ | refine blk_drew ?_ | refine blk_alloc ?_ _)); refine blk_put (cs := #[.int .u64 0, .int .u64 0, .int .i64 0, .int .i64 0]) ?_ 2 _ rfl; (with_reducible repeat (first | refine blk_drewN ?_ _ | refine blk_drew ?_ | refine blk_alloc ?_ _)); refine blk_put (cs := #[.int .u64 0, .int .u64 0, .int .i64 0, .int .i64 0]) ?_ 1 _ rfl; (with_reducible repeat (first | refine blk_drewN ?_ _ | refine blk_drew ?_ | refine blk_alloc ?_ _)); refine blk_put (cs := #[.int .u64 0, .int .u64 0, .int .i64 0, .int .i64 0]) ?_ 0 _ rfl; exact bfL BK381.out) Try.underlying30 rfl (by kernel_rfl)) rfl ?_
    exact ⟨by first | rfl | (simp [errW_none, errW_some] <;> rfl) | (simp [*, errW_none, errW_some] <;> rfl), bsL HB.out⟩
   ·
    replace c6 := Bool.eq_false_iff.mpr c6
    subst c6
    have H1 : ((jacquardref13_Umax.f kj2 a0).bind fun t382 => ((jacquardref12_Signed.f kj2 a0 (Go.bits .and .u64 a1 t382)).bind fun t383 => (some (Go.bits .and .u64 a1 t382, Go.bits .and .u64 a1 t382, t383, t383)))) = some (r1, r2, r3, r4) := by rw [if_neg (show ¬ (false = true) by decide)] at H; exact H
    clear H
    have H := H1
    clear H1
    replace H := Option.bind_eq_some_iff.mp H
    obtain ⟨t382, A80, H⟩ := H
    replace H : ((jacquardref12_Signed.f kj2 a0 (Go.bits .and .u64 a1 t382)).bind fun t383 => (some (Go.bits .and .u64 a1 t382, Go.bits .and .u64 a1 t382, t383, t383))) = some (r1, r2, r3, r4) := H
    have A8 := Aside0.mk A80
    clear A80
    replace H := Option.bind_eq_some_iff.mp H
    obtain ⟨t383, A90, H⟩ := H
    replace H : (some (Go.bits .and .u64 a1 t382, Go.bits .and .u64 a1 t382, t383, t383)) = some (r1, r2, r3, r4) := H
    have A9 := Aside0.mk A90
    clear A90
    simp only [Option.some.injEq, Prod.mk.injEq] at H
    obtain ⟨rfl, rfl, rfl, rfl⟩ := H
    go_wp2_with (first | ((with_reducible refine gate_callee (f := 75) rfl ?_); refine gL (some 15) Try.func75 #[.int .i64 a0] ?_; (with_reducible refine (jacquardref13_Umax.calls kj2 a0 t382 _ A8.out).mono ?_); rintro e w' ⟨rfl, ⟨nd, rfl⟩⟩; refine ⟨_, rfl, ?_⟩; (try (rw [drewN_self wc]; generalize hq_ : World.drewN wc _ = wc; have n0_ : Aside0 (wc.heap[gb381]? = some (.cells #[.int .u64 0, .int .u64 0, .int .i64 0, .int .i64 0] 30 (0, 0))) := ⟨by rw [← hq_]; exact (by exact bfL BK381.out)⟩; have n1_ : Aside0 (Below w.heap.size w wc) := ⟨by rw [← hq_]; exact (by repeat (first | (with_reducible first | exact HB.out | apply below_alloc | apply pw_below_drewN | apply below_drew1 | refine below_set ?_ GE381.out) | exact HB.out))⟩; clear BK381 HB hq_; have BK381 := n0_; have HB := n1_; clear n0_ n1_))) | ((with_reducible refine gate_callee (f := 73) rfl ?_); refine gL (some 19) Try.func73 #[.int .i64 a0, .int .u64 (Go.bits .and .u64 a1 t382)] ?_; (with_reducible refine (jacquardref12_Signed.calls kj2 a0 (Go.bits .and .u64 a1 t382) t383 _ A9.out).mono ?_); rintro e w' ⟨rfl, ⟨nd, rfl⟩⟩; refine ⟨_, rfl, ?_⟩; (try (rw [drewN_self wc]; generalize hq_ : World.drewN wc _ = wc; have n0_ : Aside0 (wc.heap[gb381]? = some (.cells #[.int .u64 0, .int .u64 0, .int .i64 0, .int .i64 0] 30 (0, 0))) := ⟨by rw [← hq_]; exact (by exact bfL BK381.out)⟩; have n1_ : Aside0 (Below w.heap.size w wc) := ⟨by rw [← hq_]; exact (by repeat (first | (with_reducible first | exact HB.out | apply below_alloc | apply pw_below_drewN | apply below_drew1 | refine below_set ?_ GE381.out) | exact HB.out))⟩; clear BK381 HB hq_; have BK381 := n0_; have HB := n1_; clear n0_ n1_)); obtain ⟨hcz10_0, hcz10_1, hcz10_2, hcz10_3, hfz10_0, hfz10_1, hfz10_2, hfz10_3⟩ := own4 BK381.out))
    refine bodyPost_ret (results_cell_row rfl _ _ gb381 30 #[.int .u64 (Go.bits .and .u64 a1 t382), .int .u64 (Go.bits .and .u64 a1 t382), .int .i64 t383, .int .i64 t383] (0, 0) _ rfl (by (with_reducible repeat (first | refine blk_drewN ?_ _ | refine blk_drew ?_ | refine blk_alloc ?_ _)); refine blk_put (cs := #[.int .u64 (Go.bits .and .u64 a1 t382), .int .u64 (Go.bits .and .u64 a1 t382), .int .i64 t383, .int .i64 0]) ?_ 3 _ rfl; (with_reducible repeat (first | refine blk_drewN ?_ _ | refine blk_drew ?_ | refine blk_alloc ?_ _)); refine blk_put (cs := #[.int .u64 (Go.bits .and .u64 a1 t382), .int .u64 (Go.bits .and .u64 a1 t382), .int .i64 0, .int .i64 0]) ?_ 2 _ rfl; (with_reducible repeat (first | refine blk_drewN ?_ _ | refine blk_drew ?_ | refine blk_alloc ?_ _)); refine blk_put (cs := #[.int .u64 (Go.bits .and .u64 a1 t382), .int .u64 0, .int .i64 0, .int .i64 0]) ?_ 1 _ rfl; (with_reducible repeat (first | refine blk_drewN ?_ _ | refine blk_drew ?_ | refine blk_alloc ?_ _)); refine blk_put (cs := #[.int .u64 0, .int .u64 0, .int .i64 0, .int .i64 0]) ?_ 0 _ rfl; exact bfL BK381.out) Try.underlying30 rfl (by kernel_rfl)) rfl ?_
    exact ⟨by first | rfl | (simp [errW_none, errW_some] <;> rfl) | (simp [*, errW_none, errW_some] <;> rfl), bsL HB.out⟩

/-! ### jacquardref12_Of: function 90 -/
def jacquardref12_Of.f (k : Nat) (a0 : Int) (a1 : Int) : Option (Int × Int) := (jacquardref12_Mask.f k a0).bind fun t385 => (some (Go.bits .andNot .u64 t385 a1, Go.bits .and .u64 a1 t385))
theorem jacquardref12_Of.mono : ∀ a0 a1 k, LeO (jacquardref12_Of.f k a0 a1) (jacquardref12_Of.f (k + 1) a0 a1) := by
 intro a0 a1 k
 unfold jacquardref12_Of.f
 repeat' first
   | (with_reducible exact jacquardref12_Mask.mono _ _)
   | (with_reducible exact LeO.refl _)
   | (with_reducible exact LeO.none _)
   | (with_reducible refine LeO.ite ?_ ?_)
   | (with_reducible refine LeO.bind ?_ (fun _ => ?_))
   | exact jacquardref12_Mask.mono _ _
   | exact LeO.none _
   | refine LeO.ite ?_ ?_
   | refine LeO.bind ?_ (fun _ => ?_)
set_option maxHeartbeats 8000000 in
set_option maxRecDepth 100000 in
theorem jacquardref12_Of.calls (k : Nat) (a0 : Int) (a1 : Int) (r1 : Int) (r2 : Int) (w : World) (h : jacquardref12_Of.f k a0 a1 = some (r1, r2)) :
  Calls Try.prog 90 #[.int .i64 a0, .int .u64 a1] w fun e w' => e = .returned (.agg #[.int .u64 r1, .int .u64 r2]) ∧ Below w.heap.size w w' := by
 have hu110 := Try.underlying110
 have HB := Aside0.mk (Below.refl w.heap.size w)
 have H : ((jacquardref12_Mask.f k a0).bind fun t385 => (some (Go.bits .andNot .u64 t385 a1, Go.bits .and .u64 a1 t385))) = some (r1, r2) := h
 clear h
 replace H := Option.bind_eq_some_iff.mp H
 obtain ⟨t385, A30, H⟩ := H
 replace H : (some (Go.bits .andNot .u64 t385 a1, Go.bits .and .u64 a1 t385)) = some (r1, r2) := H
 have A3 := Aside0.mk A30
 clear A30
 simp only [Option.some.injEq, Prod.mk.injEq] at H
 obtain ⟨rfl, rfl⟩ := H
 go_enter Try.func90, Try.ntmps90
 go_wp2_with (first | ((with_reducible refine gate_dst (N := 4) rfl ?_); refine boxE (N := 4) (cs := #[.int .u64 0, .int .u64 0]) (t := 110) ?_; intro gb384 hg w4 hbox hb; have BK384 := Aside0.mk (hbox); have GW384 := szB hg HB.out; have GE384 := szB hg HB.out; replace HB := bsB HB.out hb; clear hb hbox hg) | ((with_reducible refine gate_callee (f := 16) rfl ?_); refine gL (some 6) Try.func16 #[.int .i64 a0] ?_; (with_reducible refine (jacquardref12_Mask.calls k a0 t385 _ A3.out).mono ?_); rintro e w' ⟨rfl, ⟨nd, rfl⟩⟩; refine ⟨_, rfl, ?_⟩; (try (rw [drewN_self w4]; generalize hq_ : World.drewN w4 _ = w4; have n0_ : Aside0 (w4.heap[gb384]? = some (.cells #[.int .u64 0, .int .u64 0] 110 (0, 0))) := ⟨by rw [← hq_]; exact (by exact bfL BK384.out)⟩; have n1_ : Aside0 (Below w.heap.size w w4) := ⟨by rw [← hq_]; exact (by repeat (first | (with_reducible first | exact HB.out | apply below_alloc | apply pw_below_drewN | apply below_drew1 | refine below_set ?_ GE384.out) | exact HB.out))⟩; clear BK384 HB hq_; have BK384 := n0_; have HB := n1_; clear n0_ n1_))) | ((with_reducible refine gate_callee (f := 16) rfl ?_); refine gL (some 11) Try.func16 #[.int .i64 a0] ?_; (with_reducible refine (jacquardref12_Mask.calls k a0 t385 _ A3.out).mono ?_); rintro e w' ⟨rfl, ⟨nd, rfl⟩⟩; refine ⟨_, rfl, ?_⟩; (try (rw [drewN_self w4]; generalize hq_ : World.drewN w4 _ = w4; have n0_ : Aside0 (w4.heap[gb384]? = some (.cells #[.int .u64 0, .int .u64 0] 110 (0, 0))) := ⟨by rw [← hq_]; exact (by exact bfL BK384.out)⟩; have n1_ : Aside0 (Below w.heap.size w w4) := ⟨by rw [← hq_]; exact (by repeat (first | (with_reducible first | exact HB.out | apply below_alloc | apply pw_below_drewN | apply below_drew1 | refine below_set ?_ GE384.out) | exact HB.out))⟩; clear BK384 HB hq_; have BK384 := n0_; have HB := n1_; clear n0_ n1_)); obtain ⟨hcz5_0, hcz5_1, hfz5_0, hfz5_1⟩ := own2 BK384.out))
 refine bodyPost_ret (results_cell_row rfl _ _ gb384 110 #[.int .u64 (Go.bits .andNot .u64 t385 a1), .int .u64 (Go.bits .and .u64 a1 t385)] (0, 0) _ rfl (by (with_reducible repeat (first | refine blk_drewN ?_ _ | refine blk_drew ?_ | refine blk_alloc ?_ _)); refine blk_put (cs := #[.int .u64 (Go.bits .andNot .u64 t385 a1), .int .u64 0]) ?_ 1 _ rfl; (with_reducible repeat (first | refine blk_drewN ?_ _ | refine blk_drew ?_ | refine blk_alloc ?_ _)); refine blk_put (cs := #[.int .u64 0, .int .u64 0]) ?_ 0 _ rfl; exact bfL BK384.out) Try.underlying110 rfl (by kernel_rfl)) rfl ?_
 exact ⟨by first | rfl | (simp [errW_none, errW_some] <;> rfl) | (simp [*, errW_none, errW_some] <;> rfl), bsL HB.out⟩

/-! ### jacquardref14_Of: function 33 -/
def jacquardref14_Of.j0 : Nat → Int → Int → Bool → Option (Int × Int × Int × Int × Int × Int)
 | 0, _, _, _ => none
 | k + 1, x0, x1, x10 => if x10 = true then (some (0, 0, 0, 0, 0, 0)) else ((jacquardref12_Of.f k x0 x1).bind fun bt387 => ((jacquardref13_Of.f k x0 x1).bind fun bt389 => ((jacquardref14_fact.f bt387.1 bt387.2 bt389.1 bt389.2.1 bt389.2.2.1 bt389.2.2.2).bind fun bt393 => (some (bt393.1, bt393.2.1, bt393.2.2.1, bt393.2.2.2.1, bt393.2.2.2.2.1, bt393.2.2.2.2.2)))))
def jacquardref14_Of.f (k : Nat) (a0 : Int) (a1 : Int) : Option (Int × Int × Int × Int × Int × Int) := if a0 < 1 then (jacquardref14_Of.j0 k a0 a1 true) else (jacquardref14_Of.j0 k a0 a1 (decide (a0 > 64)))
theorem jacquardref14_Of.mono_l : ∀ k, (∀ y0 y1 y2, LeO (jacquardref14_Of.j0 k y0 y1 y2) (jacquardref14_Of.j0 (k + 1) y0 y1 y2))
 | 0 => fun _ _ _ r h => by simp [jacquardref14_Of.j0] at h
 | k + 1 => by
  have ih0 := jacquardref14_Of.mono_l k
  ·
   intro y0 y1 y2
   unfold jacquardref14_Of.j0
   repeat' first
   | (with_reducible exact ih0 _ _ _)
   | (with_reducible exact jacquardref12_Of.mono _ _ _)
   | (with_reducible exact jacquardref13_Of.mono _ _ _)
   | (with_reducible exact LeO.refl _)
   | (with_reducible exact LeO.none _)
   | (with_reducible refine LeO.ite ?_ ?_)
   | (with_reducible refine LeO.bind ?_ (fun _ => ?_))
   | exact ih0 _ _ _
   | exact jacquardref12_Of.mono _ _ _
   | exact jacquardref13_Of.mono _ _ _
   | exact LeO.none _
   | refine LeO.ite ?_ ?_
   | refine LeO.bind ?_ (fun _ => ?_)
theorem jacquardref14_Of.mono : ∀ a0 a1 k, LeO (jacquardref14_Of.f k a0 a1) (jacquardref14_Of.f (k + 1) a0 a1) := by
 intro a0 a1 k
 have ih0 := jacquardref14_Of.mono_l k
 unfold jacquardref14_Of.f
 repeat' first
   | (with_reducible exact ih0 _ _ _)
   | (with_reducible exact jacquardref12_Of.mono _ _ _)
   | (with_reducible exact jacquardref13_Of.mono _ _ _)
   | (with_reducible exact LeO.refl _)
   | (with_reducible exact LeO.none _)
   | (with_reducible refine LeO.ite ?_ ?_)
   | (with_reducible refine LeO.bind ?_ (fun _ => ?_))
   | exact ih0 _ _ _
   | exact jacquardref12_Of.mono _ _ _
   | exact jacquardref13_Of.mono _ _ _
   | exact LeO.none _
   | refine LeO.ite ?_ ?_
   | refine LeO.bind ?_ (fun _ => ?_)
set_option maxHeartbeats 8000000 in
set_option maxRecDepth 100000 in
theorem jacquardref14_Of.calls (k : Nat) (a0 : Int) (a1 : Int) (r1 : Int) (r2 : Int) (r3 : Int) (r4 : Int) (r5 : Int) (r6 : Int) (w : World) (h : jacquardref14_Of.f k a0 a1 = some (r1, r2, r3, r4, r5, r6)) :
  Calls Try.prog 33 #[.int .i64 a0, .int .u64 a1] w fun e w' => e = .returned (.agg #[.int .u64 r1, .int .u64 r2, .int .u64 r3, .int .u64 r4, .int .i64 r5, .int .i64 r6]) ∧ Below w.heap.size w w' := by
 have hu50 := Try.underlying50
 have HB := Aside0.mk (Below.refl w.heap.size w)
 have H : (if a0 < 1 then (jacquardref14_Of.j0 k a0 a1 true) else (jacquardref14_Of.j0 k a0 a1 (decide (a0 > 64)))) = some (r1, r2, r3, r4, r5, r6) := h
 clear h
 have HC3 := Aside0.mk H
 clear H
 go_enter Try.func33, Try.ntmps33
 go_upto_region 1 with (first | ((with_reducible refine gate_dst (N := 4) rfl ?_); refine boxE (N := 4) (cs := #[.int .u64 0, .int .u64 0, .int .u64 0, .int .u64 0, .int .i64 0, .int .i64 0]) (t := 50) ?_; intro gb386 hg w4 hbox hb; have BK386 := Aside0.mk (hbox); have GW386 := szB hg HB.out; have GE386 := szB hg HB.out; replace HB := bsB HB.out hb; clear hb hbox hg))
 (try simp only [Act.put, List.setIfInBounds_toArray, List.set_cons_zero, List.set_cons_succ])
 go_cut [10] (fun v10 wc => ∃ (kq : Nat) (x10_2 : Bool), v10 = .bool x10_2 ∧ Aside0 (jacquardref14_Of.j0 kq a0 a1 x10_2 = some (r1, r2, r3, r4, r5, r6)) ∧ Aside0 (kq ≤ k) ∧ Aside0 (wc.heap[gb386]? = some (.cells #[.int .u64 0, .int .u64 0, .int .u64 0, .int .u64 0, .int .i64 0, .int .i64 0] 50 (0, 0))) ∧ Aside0 (Below w.heap.size w wc))
 case first =>
  have H := HC3.out
  clear HC3
  by_cases c5 : a0 < 1
  ·
   rw [if_pos c5] at H
   have c5b0 : decide (a0 < 1) = true := decide_eq_true c5
   clear c5
   (first | rw [c5b0] | (simp only [i64_w, i32_w]; rw [c5b0]) | skip)
   have H' := Aside0.mk H
   clear H
   go_wp2
   go_meet
   case rel => exact ⟨_, (true), (by first | rfl | (simp; done) | (simp [*]; done)), H', ⟨by first | omega | exact Nat.le_refl _⟩, ⟨bkL BK386.out⟩, ⟨bsL HB.out⟩⟩
  ·
   rw [if_neg c5] at H
   have c5b0 : decide (a0 < 1) = false := decide_eq_false c5
   clear c5
   (first | rw [c5b0] | (simp only [i64_w, i32_w]; rw [c5b0]) | skip)
   have H' := Aside0.mk H
   clear H
   go_wp2
   go_meet
   case rel => exact ⟨_, (decide (a0 > 64)), (by first | rfl | (simp; done) | (simp [*]; done)), H', ⟨by first | omega | exact Nat.le_refl _⟩, ⟨bkL BK386.out⟩, ⟨bsL HB.out⟩⟩
 case rest =>
  clear HC3
  try clear p2
  try clear c3
  try clear c5
  try clear c5b0
  obtain ⟨kq, x10_2, rfl, HA, HJ2, BK386, HB⟩ := hcut
  cases kq with
  | zero => exact absurd HA.out (by simp [jacquardref14_Of.j0])
  | succ kj2 =>
   have H := HA.out
   clear HA
   simp only [jacquardref14_Of.j0] at H
   by_cases c6 : x10_2 = true
   ·
    subst c6
    have H1 : (some (0, 0, 0, 0, 0, 0)) = some (r1, r2, r3, r4, r5, r6) := by rw [if_pos rfl] at H; exact H
    clear H
    have H := H1
    clear H1
    simp only [Option.some.injEq, Prod.mk.injEq] at H
    obtain ⟨rfl, rfl, rfl, rfl, rfl, rfl⟩ := H
    obtain ⟨hcz7_0, hcz7_1, hcz7_2, hcz7_3, hcz7_4, hcz7_5, hfz7_0, hfz7_1, hfz7_2, hfz7_3, hfz7_4, hfz7_5⟩ := own6 BK386.out
    go_wp2
    refine bodyPost_ret (results_cell_row rfl _ _ gb386 50 #[.int .u64 0, .int .u64 0, .int .u64 0, .int .u64 0, .int .i64 0, .int .i64 0] (0, 0) _ rfl (by (with_reducible repeat (first | refine blk_drewN ?_ _ | refine blk_drew ?_ | refine blk_alloc ?_ _)); refine blk_put (cs := #[.int .u64 0, .int .u64 0, .int .u64 0, .int .u64 0, .int .i64 0, .int .i64 0]) ?_ 5 _ rfl; (with_reducible repeat (first | refine blk_drewN ?_ _ | refine blk_drew ?_ | refine blk_alloc ?_ _)); refine blk_put (cs := #[.int .u64 0, .int .u64 0, .int .u64 0, .int .u64 0, .int .i64 0, .int .i64 0]) ?_ 4 _ rfl; (with_reducible repeat (first | refine blk_drewN ?_ _ | refine blk_drew ?_ | refine blk_alloc ?_ _)); refine blk_put (cs := #[.int .u64 0, .int .u64 0, .int .u64 0, .int .u64 0, .int .i64 0, .int .i64 0]) ?_ 3 _ rfl; (with_reducible repeat (first | refine blk_drewN ?_ _ | refine blk_drew ?_ | refine blk_alloc ?_ _)); refine blk_put (cs := #[.int .u64 0, .int .u64 0, .int .u64 0, .int .u64 0, .int .i64 0, .int .i64 0]) ?_ 2 _ rfl; (with_reducible repeat (first | refine blk_drewN ?_ _ | refine blk_drew ?_ | refine blk_alloc ?_ _)); refine blk_put (cs := #[.int .u64 0, .int .u64 0, .int .u64 0, .int .u64 0, .int .i64 0, .int .i64 0]) ?_ 1 _ rfl; (with_reducible repeat (first | refine blk_drewN ?_ _ | refine blk_drew ?_ | refine blk_alloc ?_ _)); refine blk_put (cs := #[.int .u64 0, .int .u64 0, .int .u64 0, .int .u64 0, .int .i64 0, .int .i64 0]) ?_ 0 _ rfl; exact bfL BK386.out) Try.underlying50 rfl (by kernel_rfl)) rfl ?_
    exact ⟨by first | rfl | (simp [errW_none, errW_some] <;> rfl) | (simp [*, errW_none, errW_some] <;> rfl), bsL HB.out⟩
   ·
    replace c6 := Bool.eq_false_iff.mpr c6
    subst c6
    have H1 : ((jacquardref12_Of.f kj2 a0 a1).bind fun bt387 => ((jacquardref13_Of.f kj2 a0 a1).bind fun bt389 => ((jacquardref14_fact.f bt387.1 bt387.2 bt389.1 bt389.2.1 bt389.2.2.1 bt389.2.2.2).bind fun bt393 => (some (bt393.1, bt393.2.1, bt393.2.2.1, bt393.2.2.2.1, bt393.2.2.2.2.1, bt393.2.2.2.2.2))))) = some (r1, r2, r3, r4, r5, r6) := by rw [if_neg (show ¬ (false = true) by decide)] at H; exact H
    clear H
    have H := H1
    clear H1
    replace H := Option.bind_eq_some_iff.mp H
    obtain ⟨⟨t387, t388⟩, A80, H⟩ := H
    replace H : ((jacquardref13_Of.f kj2 a0 a1).bind fun bt389 => ((jacquardref14_fact.f t387 t388 bt389.1 bt389.2.1 bt389.2.2.1 bt389.2.2.2).bind fun bt393 => (some (bt393.1, bt393.2.1, bt393.2.2.1, bt393.2.2.2.1, bt393.2.2.2.2.1, bt393.2.2.2.2.2)))) = some (r1, r2, r3, r4, r5, r6) := H
    have A8 := Aside0.mk A80
    clear A80
    replace H := Option.bind_eq_some_iff.mp H
    obtain ⟨⟨t389, t390, t391, t392⟩, A90, H⟩ := H
    replace H : ((jacquardref14_fact.f t387 t388 t389 t390 t391 t392).bind fun bt393 => (some (bt393.1, bt393.2.1, bt393.2.2.1, bt393.2.2.2.1, bt393.2.2.2.2.1, bt393.2.2.2.2.2))) = some (r1, r2, r3, r4, r5, r6) := H
    have A9 := Aside0.mk A90
    clear A90
    replace H := Option.bind_eq_some_iff.mp H
    obtain ⟨⟨t393, t394, t395, t396, t397, t398⟩, A100, H⟩ := H
    replace H : (some (t393, t394, t395, t396, t397, t398)) = some (r1, r2, r3, r4, r5, r6) := H
    have A10 := Aside0.mk A100
    clear A100
    simp only [Option.some.injEq, Prod.mk.injEq] at H
    obtain ⟨rfl, rfl, rfl, rfl, rfl, rfl⟩ := H
    go_wp2_with (first | ((with_reducible refine gate_callee (f := 90) rfl ?_); refine gL (some 14) Try.func90 #[.int .i64 a0, .int .u64 a1] ?_; (with_reducible refine (jacquardref12_Of.calls kj2 a0 a1 t387 t388 _ A8.out).mono ?_); rintro e w11 ⟨rfl, hb⟩; refine ⟨_, rfl, ?_⟩; replace BK386 := bkB BK386.out hb; replace HB := bsB HB.out hb; (try clear hb)) | ((with_reducible refine gate_callee (f := 60) rfl ?_); refine gL (some 17) Try.func60 #[.int .i64 a0, .int .u64 a1] ?_; (with_reducible refine (jacquardref13_Of.calls kj2 a0 a1 t389 t390 t391 t392 _ A9.out).mono ?_); rintro e w12 ⟨rfl, hb⟩; refine ⟨_, rfl, ?_⟩; replace BK386 := bkB BK386.out hb; replace HB := bsB HB.out hb; (try clear hb); (try clear hb2); (try clear hk); (try clear hi)) | ((with_reducible refine gate_callee (f := 82) rfl ?_); refine gL (some 18) Try.func82 #[.agg #[.int .u64 t387, .int .u64 t388], .agg #[.int .u64 t389, .int .u64 t390, .int .i64 t391, .int .i64 t392]] ?_; (with_reducible refine (jacquardref14_fact.calls t387 t388 t389 t390 t391 t392 t393 t394 t395 t396 t397 t398 _ A10.out).mono ?_); rintro e w13 ⟨rfl, hb⟩; refine ⟨_, rfl, ?_⟩; replace BK386 := bkB BK386.out hb; replace HB := bsB HB.out hb; (try clear hb); (try clear hb2); (try clear hk); (try clear hi); obtain ⟨hcz14_0, hcz14_1, hcz14_2, hcz14_3, hcz14_4, hcz14_5, hfz14_0, hfz14_1, hfz14_2, hfz14_3, hfz14_4, hfz14_5⟩ := own6 BK386.out))
    refine bodyPost_ret (results_cell_row rfl _ _ gb386 50 #[.int .u64 t393, .int .u64 t394, .int .u64 t395, .int .u64 t396, .int .i64 t397, .int .i64 t398] (0, 0) _ rfl (by (with_reducible repeat (first | refine blk_drewN ?_ _ | refine blk_drew ?_ | refine blk_alloc ?_ _)); refine blk_put (cs := #[.int .u64 t393, .int .u64 t394, .int .u64 t395, .int .u64 t396, .int .i64 t397, .int .i64 0]) ?_ 5 _ rfl; (with_reducible repeat (first | refine blk_drewN ?_ _ | refine blk_drew ?_ | refine blk_alloc ?_ _)); refine blk_put (cs := #[.int .u64 t393, .int .u64 t394, .int .u64 t395, .int .u64 t396, .int .i64 0, .int .i64 0]) ?_ 4 _ rfl; (with_reducible repeat (first | refine blk_drewN ?_ _ | refine blk_drew ?_ | refine blk_alloc ?_ _)); refine blk_put (cs := #[.int .u64 t393, .int .u64 t394, .int .u64 t395, .int .u64 0, .int .i64 0, .int .i64 0]) ?_ 3 _ rfl; (with_reducible repeat (first | refine blk_drewN ?_ _ | refine blk_drew ?_ | refine blk_alloc ?_ _)); refine blk_put (cs := #[.int .u64 t393, .int .u64 t394, .int .u64 0, .int .u64 0, .int .i64 0, .int .i64 0]) ?_ 2 _ rfl; (with_reducible repeat (first | refine blk_drewN ?_ _ | refine blk_drew ?_ | refine blk_alloc ?_ _)); refine blk_put (cs := #[.int .u64 t393, .int .u64 0, .int .u64 0, .int .u64 0, .int .i64 0, .int .i64 0]) ?_ 1 _ rfl; (with_reducible repeat (first | refine blk_drewN ?_ _ | refine blk_drew ?_ | refine blk_alloc ?_ _)); refine blk_put (cs := #[.int .u64 0, .int .u64 0, .int .u64 0, .int .u64 0, .int .i64 0, .int .i64 0]) ?_ 0 _ rfl; exact bfL BK386.out) Try.underlying50 rfl (by kernel_rfl)) rfl ?_
    exact ⟨by first | rfl | (simp [errW_none, errW_some] <;> rfl) | (simp [*, errW_none, errW_some] <;> rfl), bsL HB.out⟩

/-! ### jacquardref13_Contains: function 23 -/
def jacquardref13_Contains.f (k : Nat) (a0 : Int) (a1_0 : Int) (a1_1 : Int) (a1_2 : Int) (a1_3 : Int) (a2 : Int) : Option (Bool) := if a0 < 1 then (some false) else (if a0 > 64 then (some false) else ((jacquardref13_Umax.f k a0).bind fun t400 => (if a2 > t400 then (some false) else ((jacquardref12_Signed.f k a0 a2).bind fun t401 => (if a2 ≥ a1_0 then (if a2 ≤ a1_1 then (if t401 ≥ a1_2 then (some (decide (t401 ≤ a1_3))) else (some false)) else (some false)) else (some false))))))
theorem jacquardref13_Contains.mono : ∀ a0 a1 a2 a3 a4 a5 k, LeO (jacquardref13_Contains.f k a0 a1 a2 a3 a4 a5) (jacquardref13_Contains.f (k + 1) a0 a1 a2 a3 a4 a5) := by
 intro a0 a1 a2 a3 a4 a5 k
 unfold jacquardref13_Contains.f
 repeat' first
   | (with_reducible exact jacquardref12_Signed.mono _ _ _)
   | (with_reducible exact jacquardref13_Umax.mono _ _)
   | (with_reducible exact LeO.refl _)
   | (with_reducible exact LeO.none _)
   | (with_reducible refine LeO.ite ?_ ?_)
   | (with_reducible refine LeO.bind ?_ (fun _ => ?_))
   | exact jacquardref12_Signed.mono _ _ _
   | exact jacquardref13_Umax.mono _ _
   | exact LeO.none _
   | refine LeO.ite ?_ ?_
   | refine LeO.bind ?_ (fun _ => ?_)
set_option maxHeartbeats 8000000 in
set_option maxRecDepth 100000 in
theorem jacquardref13_Contains.calls (k : Nat) (a0 : Int) (a1_0 : Int) (a1_1 : Int) (a1_2 : Int) (a1_3 : Int) (a2 : Int) (r : Bool) (w : World) (h : jacquardref13_Contains.f k a0 a1_0 a1_1 a1_2 a1_3 a2 = some r) :
  Calls Try.prog 23 #[.int .i64 a0, .agg #[.int .u64 a1_0, .int .u64 a1_1, .int .i64 a1_2, .int .i64 a1_3], .int .u64 a2] w fun e w' => e = .returned (.bool r) ∧ Below w.heap.size w w' := by
 have hu30 := Try.underlying30
 have HB := Aside0.mk (Below.refl w.heap.size w)
 have H : (if a0 < 1 then (some false) else (if a0 > 64 then (some false) else ((jacquardref13_Umax.f k a0).bind fun t400 => (if a2 > t400 then (some false) else ((jacquardref12_Signed.f k a0 a2).bind fun t401 => (if a2 ≥ a1_0 then (if a2 ≤ a1_1 then (if t401 ≥ a1_2 then (some (decide (t401 ≤ a1_3))) else (some false)) else (some false)) else (some false))))))) = some r := h
 clear h
 by_cases c4 : a0 < 1
 ·
  rw [if_pos c4] at H
  have c4b0 : decide (a0 < 1) = true := decide_eq_true c4
  clear c4
  obtain rfl := Option.some.inj H
  go_enter Try.func23, Try.ntmps23
  go_wp2_with (first | ((with_reducible refine gate_dst (N := 4) rfl ?_); refine boxE (N := 4) (cs := #[.int .u64 a1_0, .int .u64 a1_1, .int .i64 a1_2, .int .i64 a1_3]) (t := 30) ?_; intro gb399 hg w5 hbox hb; have BK399 := Aside0.mk (hbox); have GW399 := szB hg HB.out; have GE399 := szB hg HB.out; replace HB := bsB HB.out hb; clear hb hbox hg))
  go_ret
  exact ⟨by first | rfl | (simp [errW_none, errW_some] <;> rfl) | (simp [*, errW_none, errW_some] <;> rfl), bsL HB.out⟩
 ·
  rw [if_neg c4] at H
  have c4b0 : decide (a0 < 1) = false := decide_eq_false c4
  clear c4
  by_cases c6 : a0 > 64
  ·
   rw [if_pos c6] at H
   have c6b0 : decide (64 < a0) = true := decide_eq_true c6
   clear c6
   obtain rfl := Option.some.inj H
   go_enter Try.func23, Try.ntmps23
   go_wp2_with (first | ((with_reducible refine gate_dst (N := 4) rfl ?_); refine boxE (N := 4) (cs := #[.int .u64 a1_0, .int .u64 a1_1, .int .i64 a1_2, .int .i64 a1_3]) (t := 30) ?_; intro gb399 hg w7 hbox hb; have BK399 := Aside0.mk (hbox); have GW399 := szB hg HB.out; have GE399 := szB hg HB.out; replace HB := bsB HB.out hb; clear hb hbox hg))
   go_ret
   exact ⟨by first | rfl | (simp [errW_none, errW_some] <;> rfl) | (simp [*, errW_none, errW_some] <;> rfl), bsL HB.out⟩
  ·
   rw [if_neg c6] at H
   have c6b0 : decide (64 < a0) = false := decide_eq_false c6
   clear c6
   replace H := Option.bind_eq_some_iff.mp H
   obtain ⟨t400, A80, H⟩ := H
   replace H : (if a2 > t400 then (some false) else ((jacquardref12_Signed.f k a0 a2).bind fun t401 => (if a2 ≥ a1_0 then (if a2 ≤ a1_1 then (if t401 ≥ a1_2 then (some (decide (t401 ≤ a1_3))) else (some false)) else (some false)) else (some false)))) = some r := H
   have A8 := Aside0.mk A80
   clear A80
   by_cases c9 : a2 > t400
   ·
    rw [if_pos c9] at H
    have c9b0 : decide (t400 < a2) = true := decide_eq_true c9
    clear c9
    obtain rfl := Option.some.inj H
    go_enter Try.func23, Try.ntmps23
    go_wp2_with (first | ((with_reducible refine gate_dst (N := 4) rfl ?_); refine boxE (N := 4) (cs := #[.int .u64 a1_0, .int .u64 a1_1, .int .i64 a1_2, .int .i64 a1_3]) (t := 30) ?_; intro gb399 hg w10 hbox hb; have BK399 := Aside0.mk (hbox); have GW399 := szB hg HB.out; have GE399 := szB hg HB.out; replace HB := bsB HB.out hb; clear hb hbox hg) | (go_at_call 75; (with_reducible refine (jacquardref13_Umax.calls k a0 t400 _ A8.out).mono ?_); rintro e w' ⟨rfl, ⟨nd, rfl⟩⟩))
    go_ret
    exact ⟨by first | rfl | (simp [errW_none, errW_some] <;> rfl) | (simp [*, errW_none, errW_some] <;> rfl), bsL HB.out⟩
   ·
    rw [if_neg c9] at H
    have c9b0 : decide (t400 < a2) = false := decide_eq_false c9
    clear c9
    replace H := Option.bind_eq_some_iff.mp H
    obtain ⟨t401, A110, H⟩ := H
    replace H : (if a2 ≥ a1_0 then (if a2 ≤ a1_1 then (if t401 ≥ a1_2 then (some (decide (t401 ≤ a1_3))) else (some false)) else (some false)) else (some false)) = some r := H
    have A11 := Aside0.mk A110
    clear A110
    by_cases c12 : a2 ≥ a1_0
    ·
     rw [if_pos c12] at H
     have c12b0 : decide (a1_0 ≤ a2) = true := decide_eq_true c12
     clear c12
     by_cases c13 : a2 ≤ a1_1
     ·
      rw [if_pos c13] at H
      have c13b0 : decide (a2 ≤ a1_1) = true := decide_eq_true c13
      clear c13
      by_cases c14 : t401 ≥ a1_2
      ·
       rw [if_pos c14] at H
       have c14b0 : decide (a1_2 ≤ t401) = true := decide_eq_true c14
       clear c14
       obtain rfl := Option.some.inj H
       go_enter Try.func23, Try.ntmps23
       go_wp2_with (first | ((with_reducible refine gate_dst (N := 4) rfl ?_); refine boxE (N := 4) (cs := #[.int .u64 a1_0, .int .u64 a1_1, .int .i64 a1_2, .int .i64 a1_3]) (t := 30) ?_; intro gb399 hg w15 hbox hb; have BK399 := Aside0.mk (hbox); have GW399 := szB hg HB.out; have GE399 := szB hg HB.out; replace HB := bsB HB.out hb; clear hb hbox hg) | (go_at_call 75; (with_reducible refine (jacquardref13_Umax.calls k a0 t400 _ A8.out).mono ?_); rintro e w' ⟨rfl, ⟨nd, rfl⟩⟩) | ((with_reducible refine gate_callee (f := 73) rfl ?_); refine gL (some 22) Try.func73 #[.int .i64 a0, .int .u64 a2] ?_; (with_reducible refine (jacquardref12_Signed.calls k a0 a2 t401 _ A11.out).mono ?_); rintro e w' ⟨rfl, ⟨nd, rfl⟩⟩; refine ⟨_, rfl, ?_⟩; obtain ⟨hcz16_0, hcz16_1, hcz16_2, hcz16_3, hfz16_0, hfz16_1, hfz16_2, hfz16_3⟩ := own4 BK399.out))
       go_ret
       exact ⟨by first | rfl | (simp [errW_none, errW_some] <;> rfl) | (simp [*, errW_none, errW_some] <;> rfl), bsL HB.out⟩
      ·
       rw [if_neg c14] at H
       have c14b0 : decide (a1_2 ≤ t401) = false := decide_eq_false c14
       clear c14
       obtain rfl := Option.some.inj H
       go_enter Try.func23, Try.ntmps23
       go_wp2_with (first | ((with_reducible refine gate_dst (N := 4) rfl ?_); refine boxE (N := 4) (cs := #[.int .u64 a1_0, .int .u64 a1_1, .int .i64 a1_2, .int .i64 a1_3]) (t := 30) ?_; intro gb399 hg w17 hbox hb; have BK399 := Aside0.mk (hbox); have GW399 := szB hg HB.out; have GE399 := szB hg HB.out; replace HB := bsB HB.out hb; clear hb hbox hg) | (go_at_call 75; (with_reducible refine (jacquardref13_Umax.calls k a0 t400 _ A8.out).mono ?_); rintro e w' ⟨rfl, ⟨nd, rfl⟩⟩) | ((with_reducible refine gate_callee (f := 73) rfl ?_); refine gL (some 22) Try.func73 #[.int .i64 a0, .int .u64 a2] ?_; (with_reducible refine (jacquardref12_Signed.calls k a0 a2 t401 _ A11.out).mono ?_); rintro e w' ⟨rfl, ⟨nd, rfl⟩⟩; refine ⟨_, rfl, ?_⟩; obtain ⟨hcz18_0, hcz18_1, hcz18_2, hcz18_3, hfz18_0, hfz18_1, hfz18_2, hfz18_3⟩ := own4 BK399.out))
       go_ret
       exact ⟨by first | rfl | (simp [errW_none, errW_some] <;> rfl) | (simp [*, errW_none, errW_some] <;> rfl), bsL HB.out⟩
     ·
      rw [if_neg c13] at H
      have c13b0 : decide (a2 ≤ a1_1) = false := decide_eq_false c13
      clear c13
      obtain rfl := Option.some.inj H
      go_enter Try.func23, Try.ntmps23
      go_wp2_with (first | ((with_reducible refine gate_dst (N := 4) rfl ?_); refine boxE (N := 4) (cs := #[.int .u64 a1_0, .int .u64 a1_1, .int .i64 a1_2, .int .i64 a1_3]) (t := 30) ?_; intro gb399 hg w19 hbox hb; have BK399 := Aside0.mk (hbox); have GW399 := szB hg HB.out; have GE399 := szB hg HB.out; replace HB := bsB HB.out hb; clear hb hbox hg) | (go_at_call 75; (with_reducible refine (jacquardref13_Umax.calls k a0 t400 _ A8.out).mono ?_); rintro e w' ⟨rfl, ⟨nd, rfl⟩⟩) | ((with_reducible refine gate_callee (f := 73) rfl ?_); refine gL (some 22) Try.func73 #[.int .i64 a0, .int .u64 a2] ?_; (with_reducible refine (jacquardref12_Signed.calls k a0 a2 t401 _ A11.out).mono ?_); rintro e w' ⟨rfl, ⟨nd, rfl⟩⟩; refine ⟨_, rfl, ?_⟩; obtain ⟨hcz20_0, hcz20_1, hcz20_2, hcz20_3, hfz20_0, hfz20_1, hfz20_2, hfz20_3⟩ := own4 BK399.out))
      go_ret
      exact ⟨by first | rfl | (simp [errW_none, errW_some] <;> rfl) | (simp [*, errW_none, errW_some] <;> rfl), bsL HB.out⟩
    ·
     rw [if_neg c12] at H
     have c12b0 : decide (a1_0 ≤ a2) = false := decide_eq_false c12
     clear c12
     obtain rfl := Option.some.inj H
     go_enter Try.func23, Try.ntmps23
     go_wp2_with (first | ((with_reducible refine gate_dst (N := 4) rfl ?_); refine boxE (N := 4) (cs := #[.int .u64 a1_0, .int .u64 a1_1, .int .i64 a1_2, .int .i64 a1_3]) (t := 30) ?_; intro gb399 hg w21 hbox hb; have BK399 := Aside0.mk (hbox); have GW399 := szB hg HB.out; have GE399 := szB hg HB.out; replace HB := bsB HB.out hb; clear hb hbox hg) | (go_at_call 75; (with_reducible refine (jacquardref13_Umax.calls k a0 t400 _ A8.out).mono ?_); rintro e w' ⟨rfl, ⟨nd, rfl⟩⟩) | ((with_reducible refine gate_callee (f := 73) rfl ?_); refine gL (some 22) Try.func73 #[.int .i64 a0, .int .u64 a2] ?_; (with_reducible refine (jacquardref12_Signed.calls k a0 a2 t401 _ A11.out).mono ?_); rintro e w' ⟨rfl, ⟨nd, rfl⟩⟩; refine ⟨_, rfl, ?_⟩; obtain ⟨hcz22_0, hcz22_1, hcz22_2, hcz22_3, hfz22_0, hfz22_1, hfz22_2, hfz22_3⟩ := own4 BK399.out))
     go_ret
     exact ⟨by first | rfl | (simp [errW_none, errW_some] <;> rfl) | (simp [*, errW_none, errW_some] <;> rfl), bsL HB.out⟩

/-! ### jacquardref12_Contains: function 92 -/
def jacquardref12_Contains.f (a0_0 : Int) (a0_1 : Int) (a1 : Int) : Option (Bool) := if (Go.bits .and .u64 a1 a0_0) = 0 then (some ((Go.bits .and .u64 a1 a0_1) == a0_1)) else (some false)
set_option maxHeartbeats 8000000 in
set_option maxRecDepth 100000 in
theorem jacquardref12_Contains.calls (a0_0 : Int) (a0_1 : Int) (a1 : Int) (r : Bool) (w : World) (h : jacquardref12_Contains.f a0_0 a0_1 a1 = some r) :
  Calls Try.prog 92 #[.agg #[.int .u64 a0_0, .int .u64 a0_1], .int .u64 a1] w fun e w' => e = .returned (.bool r) ∧ Below w.heap.size w w' := by
 have hu110 := Try.underlying110
 have HB := Aside0.mk (Below.refl w.heap.size w)
 have H : (if (Go.bits .and .u64 a1 a0_0) = 0 then (some ((Go.bits .and .u64 a1 a0_1) == a0_1)) else (some false)) = some r := h
 clear h
 by_cases c3 : (Go.bits .and .u64 a1 a0_0) = 0
 ·
  rw [if_pos c3] at H
  have c3b0 : ((Go.bits .and .u64 a1 a0_0) == 0) = true := beq_iff_eq.mpr c3
  have c3b1 : ((Go.bits .and .u64 a1 a0_0) != 0) = false := bne_eq_false_iff_eq.mpr c3
  clear c3
  obtain rfl := Option.some.inj H
  go_enter Try.func92, Try.ntmps92
  go_wp2_with (first | ((with_reducible refine gate_dst (N := 2) rfl ?_); refine boxE (N := 2) (cs := #[.int .u64 a0_0, .int .u64 a0_1]) (t := 110) ?_; intro gb402 hg w4 hbox hb; have BK402 := Aside0.mk (hbox); have GW402 := szB hg HB.out; have GE402 := szB hg HB.out; replace HB := bsB HB.out hb; clear hb hbox hg; obtain ⟨hcz5_0, hcz5_1, hfz5_0, hfz5_1⟩ := own2 BK402.out))
  go_ret
  exact ⟨by first | rfl | (simp [errW_none, errW_some] <;> rfl) | (simp [*, errW_none, errW_some] <;> rfl), bsL HB.out⟩
 ·
  rw [if_neg c3] at H
  have c3b0 : ((Go.bits .and .u64 a1 a0_0) == 0) = false := beq_eq_false_iff_ne.mpr c3
  have c3b1 : ((Go.bits .and .u64 a1 a0_0) != 0) = true := bne_iff_ne.mpr c3
  obtain rfl := Option.some.inj H
  go_enter Try.func92, Try.ntmps92
  go_wp2_with (first | ((with_reducible refine gate_dst (N := 2) rfl ?_); refine boxE (N := 2) (cs := #[.int .u64 a0_0, .int .u64 a0_1]) (t := 110) ?_; intro gb402 hg w6 hbox hb; have BK402 := Aside0.mk (hbox); have GW402 := szB hg HB.out; have GE402 := szB hg HB.out; replace HB := bsB HB.out hb; clear hb hbox hg; obtain ⟨hcz7_0, hcz7_1, hfz7_0, hfz7_1⟩ := own2 BK402.out))
  go_ret
  exact ⟨by first | rfl | (simp [errW_none, errW_some] <;> rfl) | (simp [*, errW_none, errW_some] <;> rfl), bsL HB.out⟩

/-! ### jacquardref14_Contains: function 35 -/
def jacquardref14_Contains.f (k : Nat) (a0 : Int) (a1_0 : Int) (a1_1 : Int) (a1_2 : Int) (a1_3 : Int) (a1_4 : Int) (a1_5 : Int) (a2 : Int) : Option (Bool) := (jacquardref14_bits.f a1_0 a1_1 a1_2 a1_3 a1_4 a1_5).bind fun bt404 => ((jacquardref12_Contains.f bt404.1 bt404.2 a2).bind fun t406 => (if t406 = true then ((jacquardref14_span.f a1_0 a1_1 a1_2 a1_3 a1_4 a1_5).bind fun bt407 => ((jacquardref13_Contains.f k a0 bt407.1 bt407.2.1 bt407.2.2.1 bt407.2.2.2 a2).bind fun t411 => (some t411))) else (some false)))
theorem jacquardref14_Contains.mono : ∀ a0 a1 a2 a3 a4 a5 a6 a7 k, LeO (jacquardref14_Contains.f k a0 a1 a2 a3 a4 a5 a6 a7) (jacquardref14_Contains.f (k + 1) a0 a1 a2 a3 a4 a5 a6 a7) := by
 intro a0 a1 a2 a3 a4 a5 a6 a7 k
 unfold jacquardref14_Contains.f
 repeat' first
   | (with_reducible exact jacquardref13_Contains.mono _ _ _ _ _ _ _)
   | (with_reducible exact LeO.refl _)
   | (with_reducible exact LeO.none _)
   | (with_reducible refine LeO.ite ?_ ?_)
   | (with_reducible refine LeO.bind ?_ (fun _ => ?_))
   | exact jacquardref13_Contains.mono _ _ _ _ _ _ _
   | exact LeO.none _
   | refine LeO.ite ?_ ?_
   | refine LeO.bind ?_ (fun _ => ?_)
set_option maxHeartbeats 8000000 in
set_option maxRecDepth 100000 in
theorem jacquardref14_Contains.calls (k : Nat) (a0 : Int) (a1_0 : Int) (a1_1 : Int) (a1_2 : Int) (a1_3 : Int) (a1_4 : Int) (a1_5 : Int) (a2 : Int) (r : Bool) (w : World) (h : jacquardref14_Contains.f k a0 a1_0 a1_1 a1_2 a1_3 a1_4 a1_5 a2 = some r) :
  Calls Try.prog 35 #[.int .i64 a0, .agg #[.int .u64 a1_0, .int .u64 a1_1, .int .u64 a1_2, .int .u64 a1_3, .int .i64 a1_4, .int .i64 a1_5], .int .u64 a2] w fun e w' => e = .returned (.bool r) ∧ Below w.heap.size w w' := by
 have hu50 := Try.underlying50
 have HB := Aside0.mk (Below.refl w.heap.size w)
 have H : ((jacquardref14_bits.f a1_0 a1_1 a1_2 a1_3 a1_4 a1_5).bind fun bt404 => ((jacquardref12_Contains.f bt404.1 bt404.2 a2).bind fun t406 => (if t406 = true then ((jacquardref14_span.f a1_0 a1_1 a1_2 a1_3 a1_4 a1_5).bind fun bt407 => ((jacquardref13_Contains.f k a0 bt407.1 bt407.2.1 bt407.2.2.1 bt407.2.2.2 a2).bind fun t411 => (some t411))) else (some false)))) = some r := h
 clear h
 replace H := Option.bind_eq_some_iff.mp H
 obtain ⟨⟨t404, t405⟩, A40, H⟩ := H
 replace H : ((jacquardref12_Contains.f t404 t405 a2).bind fun t406 => (if t406 = true then ((jacquardref14_span.f a1_0 a1_1 a1_2 a1_3 a1_4 a1_5).bind fun bt407 => ((jacquardref13_Contains.f k a0 bt407.1 bt407.2.1 bt407.2.2.1 bt407.2.2.2 a2).bind fun t411 => (some t411))) else (some false))) = some r := H
 have A4 := Aside0.mk A40
 clear A40
 replace H := Option.bind_eq_some_iff.mp H
 obtain ⟨t406, A50, H⟩ := H
 replace H : (if t406 = true then ((jacquardref14_span.f a1_0 a1_1 a1_2 a1_3 a1_4 a1_5).bind fun bt407 => ((jacquardref13_Contains.f k a0 bt407.1 bt407.2.1 bt407.2.2.1 bt407.2.2.2 a2).bind fun t411 => (some t411))) else (some false)) = some r := H
 have A5 := Aside0.mk A50
 clear A50
 by_cases c6 : t406 = true
 ·
  subst c6
  have H1 : ((jacquardref14_span.f a1_0 a1_1 a1_2 a1_3 a1_4 a1_5).bind fun bt407 => ((jacquardref13_Contains.f k a0 bt407.1 bt407.2.1 bt407.2.2.1 bt407.2.2.2 a2).bind fun t411 => (some t411))) = some r := by rw [if_pos rfl] at H; exact H
  clear H
  have H := H1
  clear H1
  replace H := Option.bind_eq_some_iff.mp H
  obtain ⟨⟨t407, t408, t409, t410⟩, A70, H⟩ := H
  replace H : ((jacquardref13_Contains.f k a0 t407 t408 t409 t410 a2).bind fun t411 => (some t411)) = some r := H
  have A7 := Aside0.mk A70
  clear A70
  replace H := Option.bind_eq_some_iff.mp H
  obtain ⟨t411, A80, H⟩ := H
  replace H : (some t411) = some r := H
  have A8 := Aside0.mk A80
  clear A80
  obtain rfl := Option.some.inj H
  go_enter Try.func35, Try.ntmps35
  go_wp2_with (first | ((with_reducible refine gate_dst (N := 4) rfl ?_); refine boxE (N := 4) (cs := #[.int .u64 a1_0, .int .u64 a1_1, .int .u64 a1_2, .int .u64 a1_3, .int .i64 a1_4, .int .i64 a1_5]) (t := 50) ?_; intro gb403 hg w9 hbox hb; have BK403 := Aside0.mk (hbox); have GW403 := szB hg HB.out; have GE403 := szB hg HB.out; replace HB := bsB HB.out hb; clear hb hbox hg; obtain ⟨hcz10_0, hcz10_1, hcz10_2, hcz10_3, hcz10_4, hcz10_5, hfz10_0, hfz10_1, hfz10_2, hfz10_3, hfz10_4, hfz10_5⟩ := own6 BK403.out) | ((with_reducible refine gate_callee (f := 80) rfl ?_); refine gL (some 8) Try.func80 #[.agg #[.int .u64 a1_0, .int .u64 a1_1, .int .u64 a1_2, .int .u64 a1_3, .int .i64 a1_4, .int .i64 a1_5]] ?_; (with_reducible refine (jacquardref14_bits.calls a1_0 a1_1 a1_2 a1_3 a1_4 a1_5 t404 t405 _ A4.out).mono ?_); rintro e w11 ⟨rfl, hb⟩; refine ⟨_, rfl, ?_⟩; replace BK403 := bkB BK403.out hb; replace HB := bsB HB.out hb; (try clear hb); (try clear hb2); (try clear hk); (try clear hi)) | ((with_reducible refine gate_callee (f := 92) rfl ?_); refine gL (some 10) Try.func92 #[.agg #[.int .u64 t404, .int .u64 t405], .int .u64 a2] ?_; (with_reducible refine (jacquardref12_Contains.calls t404 t405 a2 true _ A5.out).mono ?_); rintro e w12 ⟨rfl, hb⟩; refine ⟨_, rfl, ?_⟩; replace BK403 := bkB BK403.out hb; replace HB := bsB HB.out hb; (try clear hb); (try clear hb2); (try clear hk); (try clear hi); obtain ⟨hcz13_0, hcz13_1, hcz13_2, hcz13_3, hcz13_4, hcz13_5, hfz13_0, hfz13_1, hfz13_2, hfz13_3, hfz13_4, hfz13_5⟩ := own6 BK403.out) | (go_at_call 84; (with_reducible refine (jacquardref14_span.calls a1_0 a1_1 a1_2 a1_3 a1_4 a1_5 t407 t408 t409 t410 _ A7.out).mono ?_); rintro e w14 ⟨rfl, hb⟩; replace BK403 := bkB BK403.out hb; replace HB := bsB HB.out hb; (try clear hb); (try clear hb2); (try clear hk); (try clear hi)) | (go_at_call 23; (with_reducible refine (jacquardref13_Contains.calls k a0 t407 t408 t409 t410 a2 t411 _ A8.out).mono ?_); rintro e w15 ⟨rfl, hb⟩; replace BK403 := bkB BK403.out hb; replace HB := bsB HB.out hb; (try clear hb); (try clear hb2); (try clear hk); (try clear hi)))
  go_ret
  exact ⟨by first | rfl | (simp [errW_none, errW_some] <;> rfl) | (simp [*, errW_none, errW_some] <;> rfl), bsL HB.out⟩
 ·
  replace c6 := Bool.eq_false_iff.mpr c6
  subst c6
  have H1 : (some false) = some r := by rw [if_neg (show ¬ (false = true) by decide)] at H; exact H
  clear H
  have H := H1
  clear H1
  obtain rfl := Option.some.inj H
  go_enter Try.func35, Try.ntmps35
  go_wp2_with (first | ((with_reducible refine gate_dst (N := 4) rfl ?_); refine boxE (N := 4) (cs := #[.int .u64 a1_0, .int .u64 a1_1, .int .u64 a1_2, .int .u64 a1_3, .int .i64 a1_4, .int .i64 a1_5]) (t := 50) ?_; intro gb403 hg w16 hbox hb; have BK403 := Aside0.mk (hbox); have GW403 := szB hg HB.out; have GE403 := szB hg HB.out; replace HB := bsB HB.out hb; clear hb hbox hg; obtain ⟨hcz17_0, hcz17_1, hcz17_2, hcz17_3, hcz17_4, hcz17_5, hfz17_0, hfz17_1, hfz17_2, hfz17_3, hfz17_4, hfz17_5⟩ := own6 BK403.out) | ((with_reducible refine gate_callee (f := 80) rfl ?_); refine gL (some 8) Try.func80 #[.agg #[.int .u64 a1_0, .int .u64 a1_1, .int .u64 a1_2, .int .u64 a1_3, .int .i64 a1_4, .int .i64 a1_5]] ?_; (with_reducible refine (jacquardref14_bits.calls a1_0 a1_1 a1_2 a1_3 a1_4 a1_5 t404 t405 _ A4.out).mono ?_); rintro e w18 ⟨rfl, hb⟩; refine ⟨_, rfl, ?_⟩; replace BK403 := bkB BK403.out hb; replace HB := bsB HB.out hb; (try clear hb); (try clear hb2); (try clear hk); (try clear hi)) | ((with_reducible refine gate_callee (f := 92) rfl ?_); refine gL (some 10) Try.func92 #[.agg #[.int .u64 t404, .int .u64 t405], .int .u64 a2] ?_; (with_reducible refine (jacquardref12_Contains.calls t404 t405 a2 false _ A5.out).mono ?_); rintro e w19 ⟨rfl, hb⟩; refine ⟨_, rfl, ?_⟩; replace BK403 := bkB BK403.out hb; replace HB := bsB HB.out hb; (try clear hb); (try clear hb2); (try clear hk); (try clear hi)))
  go_ret
  exact ⟨by first | rfl | (simp [errW_none, errW_some] <;> rfl) | (simp [*, errW_none, errW_some] <;> rfl), bsL HB.out⟩

/-! ### jacquardref12_Leq: function 93 -/
def jacquardref12_Leq.f (a0_0 : Int) (a0_1 : Int) (a1_0 : Int) (a1_1 : Int) : Option (Bool) := if (Go.bits .andNot .u64 a1_0 a0_0) = 0 then (some ((Go.bits .andNot .u64 a1_1 a0_1) == 0)) else (some false)
set_option maxHeartbeats 8000000 in
set_option maxRecDepth 100000 in
theorem jacquardref12_Leq.calls (a0_0 : Int) (a0_1 : Int) (a1_0 : Int) (a1_1 : Int) (r : Bool) (w : World) (h : jacquardref12_Leq.f a0_0 a0_1 a1_0 a1_1 = some r) :
  Calls Try.prog 93 #[.agg #[.int .u64 a0_0, .int .u64 a0_1], .agg #[.int .u64 a1_0, .int .u64 a1_1]] w fun e w' => e = .returned (.bool r) ∧ Below w.heap.size w w' := by
 have hu110 := Try.underlying110
 have HB := Aside0.mk (Below.refl w.heap.size w)
 have H : (if (Go.bits .andNot .u64 a1_0 a0_0) = 0 then (some ((Go.bits .andNot .u64 a1_1 a0_1) == 0)) else (some false)) = some r := h
 clear h
 by_cases c3 : (Go.bits .andNot .u64 a1_0 a0_0) = 0
 ·
  rw [if_pos c3] at H
  have c3b0 : ((Go.bits .andNot .u64 a1_0 a0_0) == 0) = true := beq_iff_eq.mpr c3
  have c3b1 : ((Go.bits .andNot .u64 a1_0 a0_0) != 0) = false := bne_eq_false_iff_eq.mpr c3
  clear c3
  obtain rfl := Option.some.inj H
  go_enter Try.func93, Try.ntmps93
  go_wp2_with (first | ((with_reducible refine gate_dst (N := 2) rfl ?_); refine boxE (N := 2) (cs := #[.int .u64 a0_0, .int .u64 a0_1]) (t := 110) ?_; intro gb412 hg w4 hbox hb; have BK412 := Aside0.mk (hbox); have GW412 := szB hg HB.out; have GE412 := szB hg HB.out; replace HB := bsB HB.out hb; clear hb hbox hg) | ((with_reducible refine gate_dst (N := 3) rfl ?_); refine boxE (N := 3) (cs := #[.int .u64 a1_0, .int .u64 a1_1]) (t := 110) ?_; intro gb413 hg w5 hbox hb; have BK413 := Aside0.mk (hbox); have GW413 := szB hg HB.out; have GE413 := szB hg HB.out; have NB412_413 := neL hg BK412.out; have NB413_412 := neG hg BK412.out; replace BK412 := bkB BK412.out hb; replace HB := bsB HB.out hb; clear hb hbox hg; have hnb6 := NB413_412.out; have hnc6 := NB412_413.out; obtain ⟨hcz7_0, hcz7_1, hfz7_0, hfz7_1⟩ := own2 BK413.out; obtain ⟨hcz8_0, hcz8_1, hfz8_0, hfz8_1⟩ := own2 BK412.out))
  go_ret
  exact ⟨by first | rfl | (simp [errW_none, errW_some] <;> rfl) | (simp [*, errW_none, errW_some] <;> rfl), bsL HB.out⟩
 ·
  rw [if_neg c3] at H
  have c3b0 : ((Go.bits .andNot .u64 a1_0 a0_0) == 0) = false := beq_eq_false_iff_ne.mpr c3
  have c3b1 : ((Go.bits .andNot .u64 a1_0 a0_0) != 0) = true := bne_iff_ne.mpr c3
  obtain rfl := Option.some.inj H
  go_enter Try.func93, Try.ntmps93
  go_wp2_with (first | ((with_reducible refine gate_dst (N := 2) rfl ?_); refine boxE (N := 2) (cs := #[.int .u64 a0_0, .int .u64 a0_1]) (t := 110) ?_; intro gb412 hg w9 hbox hb; have BK412 := Aside0.mk (hbox); have GW412 := szB hg HB.out; have GE412 := szB hg HB.out; replace HB := bsB HB.out hb; clear hb hbox hg) | ((with_reducible refine gate_dst (N := 3) rfl ?_); refine boxE (N := 3) (cs := #[.int .u64 a1_0, .int .u64 a1_1]) (t := 110) ?_; intro gb413 hg w10 hbox hb; have BK413 := Aside0.mk (hbox); have GW413 := szB hg HB.out; have GE413 := szB hg HB.out; have NB412_413 := neL hg BK412.out; have NB413_412 := neG hg BK412.out; replace BK412 := bkB BK412.out hb; replace HB := bsB HB.out hb; clear hb hbox hg; have hnb11 := NB413_412.out; have hnc11 := NB412_413.out; obtain ⟨hcz12_0, hcz12_1, hfz12_0, hfz12_1⟩ := own2 BK413.out; obtain ⟨hcz13_0, hcz13_1, hfz13_0, hfz13_1⟩ := own2 BK412.out))
  go_ret
  exact ⟨by first | rfl | (simp [errW_none, errW_some] <;> rfl) | (simp [*, errW_none, errW_some] <;> rfl), bsL HB.out⟩

/-! ### jacquardref13_Leq: function 94 -/
def jacquardref13_Leq.f (a0_0 : Int) (a0_1 : Int) (a0_2 : Int) (a0_3 : Int) (a1_0 : Int) (a1_1 : Int) (a1_2 : Int) (a1_3 : Int) : Option (Bool) := if a0_0 ≥ a1_0 then (if a0_1 ≤ a1_1 then (if a0_2 ≥ a1_2 then (some (decide (a0_3 ≤ a1_3))) else (some false)) else (some false)) else (some false)
set_option maxHeartbeats 8000000 in
set_option maxRecDepth 100000 in
theorem jacquardref13_Leq.calls (a0_0 : Int) (a0_1 : Int) (a0_2 : Int) (a0_3 : Int) (a1_0 : Int) (a1_1 : Int) (a1_2 : Int) (a1_3 : Int) (r : Bool) (w : World) (h : jacquardref13_Leq.f a0_0 a0_1 a0_2 a0_3 a1_0 a1_1 a1_2 a1_3 = some r) :
  Calls Try.prog 94 #[.agg #[.int .u64 a0_0, .int .u64 a0_1, .int .i64 a0_2, .int .i64 a0_3], .agg #[.int .u64 a1_0, .int .u64 a1_1, .int .i64 a1_2, .int .i64 a1_3]] w fun e w' => e = .returned (.bool r) ∧ Below w.heap.size w w' := by
 have hu30 := Try.underlying30
 have HB := Aside0.mk (Below.refl w.heap.size w)
 have H : (if a0_0 ≥ a1_0 then (if a0_1 ≤ a1_1 then (if a0_2 ≥ a1_2 then (some (decide (a0_3 ≤ a1_3))) else (some false)) else (some false)) else (some false)) = some r := h
 clear h
 by_cases c3 : a0_0 ≥ a1_0
 ·
  rw [if_pos c3] at H
  have c3b0 : decide (a1_0 ≤ a0_0) = true := decide_eq_true c3
  clear c3
  by_cases c4 : a0_1 ≤ a1_1
  ·
   rw [if_pos c4] at H
   have c4b0 : decide (a0_1 ≤ a1_1) = true := decide_eq_true c4
   clear c4
   by_cases c5 : a0_2 ≥ a1_2
   ·
    rw [if_pos c5] at H
    have c5b0 : decide (a1_2 ≤ a0_2) = true := decide_eq_true c5
    clear c5
    obtain rfl := Option.some.inj H
    go_enter Try.func94, Try.ntmps94
    go_wp2_with (first | ((with_reducible refine gate_dst (N := 2) rfl ?_); refine boxE (N := 2) (cs := #[.int .u64 a0_0, .int .u64 a0_1, .int .i64 a0_2, .int .i64 a0_3]) (t := 30) ?_; intro gb414 hg w6 hbox hb; have BK414 := Aside0.mk (hbox); have GW414 := szB hg HB.out; have GE414 := szB hg HB.out; replace HB := bsB HB.out hb; clear hb hbox hg) | ((with_reducible refine gate_dst (N := 3) rfl ?_); refine boxE (N := 3) (cs := #[.int .u64 a1_0, .int .u64 a1_1, .int .i64 a1_2, .int .i64 a1_3]) (t := 30) ?_; intro gb415 hg w7 hbox hb; have BK415 := Aside0.mk (hbox); have GW415 := szB hg HB.out; have GE415 := szB hg HB.out; have NB414_415 := neL hg BK414.out; have NB415_414 := neG hg BK414.out; replace BK414 := bkB BK414.out hb; replace HB := bsB HB.out hb; clear hb hbox hg; have hnb8 := NB414_415.out; have hnc8 := NB415_414.out; obtain ⟨hcz9_0, hcz9_1, hcz9_2, hcz9_3, hfz9_0, hfz9_1, hfz9_2, hfz9_3⟩ := own4 BK414.out; obtain ⟨hcz10_0, hcz10_1, hcz10_2, hcz10_3, hfz10_0, hfz10_1, hfz10_2, hfz10_3⟩ := own4 BK415.out))
    go_ret
    exact ⟨by first | rfl | (simp [errW_none, errW_some] <;> rfl) | (simp [*, errW_none, errW_some] <;> rfl), bsL HB.out⟩
   ·
    rw [if_neg c5] at H
    have c5b0 : decide (a1_2 ≤ a0_2) = false := decide_eq_false c5
    clear c5
    obtain rfl := Option.some.inj H
    go_enter Try.func94, Try.ntmps94
    go_wp2_with (first | ((with_reducible refine gate_dst (N := 2) rfl ?_); refine boxE (N := 2) (cs := #[.int .u64 a0_0, .int .u64 a0_1, .int .i64 a0_2, .int .i64 a0_3]) (t := 30) ?_; intro gb414 hg w11 hbox hb; have BK414 := Aside0.mk (hbox); have GW414 := szB hg HB.out; have GE414 := szB hg HB.out; replace HB := bsB HB.out hb; clear hb hbox hg) | ((with_reducible refine gate_dst (N := 3) rfl ?_); refine boxE (N := 3) (cs := #[.int .u64 a1_0, .int .u64 a1_1, .int .i64 a1_2, .int .i64 a1_3]) (t := 30) ?_; intro gb415 hg w12 hbox hb; have BK415 := Aside0.mk (hbox); have GW415 := szB hg HB.out; have GE415 := szB hg HB.out; have NB414_415 := neL hg BK414.out; have NB415_414 := neG hg BK414.out; replace BK414 := bkB BK414.out hb; replace HB := bsB HB.out hb; clear hb hbox hg; have hnb13 := NB414_415.out; have hnc13 := NB415_414.out; obtain ⟨hcz14_0, hcz14_1, hcz14_2, hcz14_3, hfz14_0, hfz14_1, hfz14_2, hfz14_3⟩ := own4 BK414.out; obtain ⟨hcz15_0, hcz15_1, hcz15_2, hcz15_3, hfz15_0, hfz15_1, hfz15_2, hfz15_3⟩ := own4 BK415.out))
    go_ret
    exact ⟨by first | rfl | (simp [errW_none, errW_some] <;> rfl) | (simp [*, errW_none, errW_some] <;> rfl), bsL HB.out⟩
  ·
   rw [if_neg c4] at H
   have c4b0 : decide (a0_1 ≤ a1_1) = false := decide_eq_false c4
   clear c4
   obtain rfl := Option.some.inj H
   go_enter Try.func94, Try.ntmps94
   go_wp2_with (first | ((with_reducible refine gate_dst (N := 2) rfl ?_); refine boxE (N := 2) (cs := #[.int .u64 a0_0, .int .u64 a0_1, .int .i64 a0_2, .int .i64 a0_3]) (t := 30) ?_; intro gb414 hg w16 hbox hb; have BK414 := Aside0.mk (hbox); have GW414 := szB hg HB.out; have GE414 := szB hg HB.out; replace HB := bsB HB.out hb; clear hb hbox hg) | ((with_reducible refine gate_dst (N := 3) rfl ?_); refine boxE (N := 3) (cs := #[.int .u64 a1_0, .int .u64 a1_1, .int .i64 a1_2, .int .i64 a1_3]) (t := 30) ?_; intro gb415 hg w17 hbox hb; have BK415 := Aside0.mk (hbox); have GW415 := szB hg HB.out; have GE415 := szB hg HB.out; have NB414_415 := neL hg BK414.out; have NB415_414 := neG hg BK414.out; replace BK414 := bkB BK414.out hb; replace HB := bsB HB.out hb; clear hb hbox hg; have hnb18 := NB414_415.out; have hnc18 := NB415_414.out; obtain ⟨hcz19_0, hcz19_1, hcz19_2, hcz19_3, hfz19_0, hfz19_1, hfz19_2, hfz19_3⟩ := own4 BK414.out; obtain ⟨hcz20_0, hcz20_1, hcz20_2, hcz20_3, hfz20_0, hfz20_1, hfz20_2, hfz20_3⟩ := own4 BK415.out))
   go_ret
   exact ⟨by first | rfl | (simp [errW_none, errW_some] <;> rfl) | (simp [*, errW_none, errW_some] <;> rfl), bsL HB.out⟩
 ·
  rw [if_neg c3] at H
  have c3b0 : decide (a1_0 ≤ a0_0) = false := decide_eq_false c3
  clear c3
  obtain rfl := Option.some.inj H
  go_enter Try.func94, Try.ntmps94
  go_wp2_with (first | ((with_reducible refine gate_dst (N := 2) rfl ?_); refine boxE (N := 2) (cs := #[.int .u64 a0_0, .int .u64 a0_1, .int .i64 a0_2, .int .i64 a0_3]) (t := 30) ?_; intro gb414 hg w21 hbox hb; have BK414 := Aside0.mk (hbox); have GW414 := szB hg HB.out; have GE414 := szB hg HB.out; replace HB := bsB HB.out hb; clear hb hbox hg) | ((with_reducible refine gate_dst (N := 3) rfl ?_); refine boxE (N := 3) (cs := #[.int .u64 a1_0, .int .u64 a1_1, .int .i64 a1_2, .int .i64 a1_3]) (t := 30) ?_; intro gb415 hg w22 hbox hb; have BK415 := Aside0.mk (hbox); have GW415 := szB hg HB.out; have GE415 := szB hg HB.out; have NB414_415 := neL hg BK414.out; have NB415_414 := neG hg BK414.out; replace BK414 := bkB BK414.out hb; replace HB := bsB HB.out hb; clear hb hbox hg; have hnb23 := NB414_415.out; have hnc23 := NB415_414.out; obtain ⟨hcz24_0, hcz24_1, hcz24_2, hcz24_3, hfz24_0, hfz24_1, hfz24_2, hfz24_3⟩ := own4 BK414.out; obtain ⟨hcz25_0, hcz25_1, hcz25_2, hcz25_3, hfz25_0, hfz25_1, hfz25_2, hfz25_3⟩ := own4 BK415.out))
  go_ret
  exact ⟨by first | rfl | (simp [errW_none, errW_some] <;> rfl) | (simp [*, errW_none, errW_some] <;> rfl), bsL HB.out⟩

/-! ### jacquardref14_Leq: function 36 -/
def jacquardref14_Leq.f (a0_0 : Int) (a0_1 : Int) (a0_2 : Int) (a0_3 : Int) (a0_4 : Int) (a0_5 : Int) (a1_0 : Int) (a1_1 : Int) (a1_2 : Int) (a1_3 : Int) (a1_4 : Int) (a1_5 : Int) : Option (Bool) := (jacquardref14_bits.f a0_0 a0_1 a0_2 a0_3 a0_4 a0_5).bind fun bt418 => ((jacquardref14_bits.f a1_0 a1_1 a1_2 a1_3 a1_4 a1_5).bind fun bt420 => ((jacquardref12_Leq.f bt418.1 bt418.2 bt420.1 bt420.2).bind fun t422 => (if t422 = true then ((jacquardref14_span.f a0_0 a0_1 a0_2 a0_3 a0_4 a0_5).bind fun bt423 => ((jacquardref14_span.f a1_0 a1_1 a1_2 a1_3 a1_4 a1_5).bind fun bt427 => ((jacquardref13_Leq.f bt423.1 bt423.2.1 bt423.2.2.1 bt423.2.2.2 bt427.1 bt427.2.1 bt427.2.2.1 bt427.2.2.2).bind fun t431 => (some t431)))) else (some false))))
def jacquardref14_Leq.T1 : Bool × List (List Nat × List Nat) := (true, [([], []), ([0], [0]), ([], []), ([2, 1], [2]), ([1, 3, 3], [1, 3]), ([4, 4], [4]), ([5], [5]), ([6, 5, 5], [5, 6]), ([5], [5]), ([8, 7, 5], [5, 8]), ([7, 9, 9, 5], [5, 7, 9]), ([5, 10], [5, 10]), ([11, 10, 0, 1, 2, 3, 4, 5, 6, 7, 8, 9, 10, 11], [11])])
def jacquardref14_Leq.B1 : List Nat := [0, 1, 0, 7, 15, 31, 63, 127, 63, 511, 1023, 2047, 4095]
theorem jacquardref14_Leq.tab1 : rtab .any (opsOf Try.f36 1) = jacquardref14_Leq.T1 := by kernel_rfl
theorem jacquardref14_Leq.bits1 : waitsOk jacquardref14_Leq.T1.2 jacquardref14_Leq.B1 = true := by kernel_rfl
set_option maxHeartbeats 8000000 in
set_option maxRecDepth 100000 in
theorem jacquardref14_Leq.calls (a0_0 : Int) (a0_1 : Int) (a0_2 : Int) (a0_3 : Int) (a0_4 : Int) (a0_5 : Int) (a1_0 : Int) (a1_1 : Int) (a1_2 : Int) (a1_3 : Int) (a1_4 : Int) (a1_5 : Int) (r : Bool) (w : World) (h : jacquardref14_Leq.f a0_0 a0_1 a0_2 a0_3 a0_4 a0_5 a1_0 a1_1 a1_2 a1_3 a1_4 a1_5 = some r) :
  Calls Try.prog 36 #[.agg #[.int .u64 a0_0, .int .u64 a0_1, .int .u64 a0_2, .int .u64 a0_3, .int .i64 a0_4, .int .i64 a0_5], .agg #[.int .u64 a1_0, .int .u64 a1_1, .int .u64 a1_2, .int .u64 a1_3, .int .i64 a1_4, .int .i64 a1_5]] w fun e w' => e = .returned (.bool r) ∧ Below w.heap.size w w' := by
 have hu50 := Try.underlying50
 have HB := Aside0.mk (Below.refl w.heap.size w)
 have H : ((jacquardref14_bits.f a0_0 a0_1 a0_2 a0_3 a0_4 a0_5).bind fun bt418 => ((jacquardref14_bits.f a1_0 a1_1 a1_2 a1_3 a1_4 a1_5).bind fun bt420 => ((jacquardref12_Leq.f bt418.1 bt418.2 bt420.1 bt420.2).bind fun t422 => (if t422 = true then ((jacquardref14_span.f a0_0 a0_1 a0_2 a0_3 a0_4 a0_5).bind fun bt423 => ((jacquardref14_span.f a1_0 a1_1 a1_2 a1_3 a1_4 a1_5).bind fun bt427 => ((jacquardref13_Leq.f bt423.1 bt423.2.1 bt423.2.2.1 bt423.2.2.2 bt427.1 bt427.2.1 bt427.2.2.1 bt427.2.2.2).bind fun t431 => (some t431)))) else (some false))))) = some r := h
 clear h
 replace H := Option.bind_eq_some_iff.mp H
 obtain ⟨⟨t418, t419⟩, A30, H⟩ := H
 replace H : ((jacquardref14_bits.f a1_0 a1_1 a1_2 a1_3 a1_4 a1_5).bind fun bt420 => ((jacquardref12_Leq.f t418 t419 bt420.1 bt420.2).bind fun t422 => (if t422 = true then ((jacquardref14_span.f a0_0 a0_1 a0_2 a0_3 a0_4 a0_5).bind fun bt423 => ((jacquardref14_span.f a1_0 a1_1 a1_2 a1_3 a1_4 a1_5).bind fun bt427 => ((jacquardref13_Leq.f bt423.1 bt423.2.1 bt423.2.2.1 bt423.2.2.2 bt427.1 bt427.2.1 bt427.2.2.1 bt427.2.2.2).bind fun t431 => (some t431)))) else (some false)))) = some r := H
 have A3 := Aside0.mk A30
 clear A30
 replace H := Option.bind_eq_some_iff.mp H
 obtain ⟨⟨t420, t421⟩, A40, H⟩ := H
 replace H : ((jacquardref12_Leq.f t418 t419 t420 t421).bind fun t422 => (if t422 = true then ((jacquardref14_span.f a0_0 a0_1 a0_2 a0_3 a0_4 a0_5).bind fun bt423 => ((jacquardref14_span.f a1_0 a1_1 a1_2 a1_3 a1_4 a1_5).bind fun bt427 => ((jacquardref13_Leq.f bt423.1 bt423.2.1 bt423.2.2.1 bt423.2.2.2 bt427.1 bt427.2.1 bt427.2.2.1 bt427.2.2.2).bind fun t431 => (some t431)))) else (some false))) = some r := H
 have A4 := Aside0.mk A40
 clear A40
 replace H := Option.bind_eq_some_iff.mp H
 obtain ⟨t422, A50, H⟩ := H
 replace H : (if t422 = true then ((jacquardref14_span.f a0_0 a0_1 a0_2 a0_3 a0_4 a0_5).bind fun bt423 => ((jacquardref14_span.f a1_0 a1_1 a1_2 a1_3 a1_4 a1_5).bind fun bt427 => ((jacquardref13_Leq.f bt423.1 bt423.2.1 bt423.2.2.1 bt423.2.2.2 bt427.1 bt427.2.1 bt427.2.2.1 bt427.2.2.2).bind fun t431 => (some t431)))) else (some false)) = some r := H
 have A5 := Aside0.mk A50
 clear A50
 by_cases c6 : t422 = true
 ·
  subst c6
  have H1 : ((jacquardref14_span.f a0_0 a0_1 a0_2 a0_3 a0_4 a0_5).bind fun bt423 => ((jacquardref14_span.f a1_0 a1_1 a1_2 a1_3 a1_4 a1_5).bind fun bt427 => ((jacquardref13_Leq.f bt423.1 bt423.2.1 bt423.2.2.1 bt423.2.2.2 bt427.1 bt427.2.1 bt427.2.2.1 bt427.2.2.2).bind fun t431 => (some t431)))) = some r := by rw [if_pos rfl] at H; exact H
  clear H
  have H := H1
  clear H1
  replace H := Option.bind_eq_some_iff.mp H
  obtain ⟨⟨t423, t424, t425, t426⟩, A70, H⟩ := H
  replace H : ((jacquardref14_span.f a1_0 a1_1 a1_2 a1_3 a1_4 a1_5).bind fun bt427 => ((jacquardref13_Leq.f t423 t424 t425 t426 bt427.1 bt427.2.1 bt427.2.2.1 bt427.2.2.2).bind fun t431 => (some t431))) = some r := H
  have A7 := Aside0.mk A70
  clear A70
  replace H := Option.bind_eq_some_iff.mp H
  obtain ⟨⟨t427, t428, t429, t430⟩, A80, H⟩ := H
  replace H : ((jacquardref13_Leq.f t423 t424 t425 t426 t427 t428 t429 t430).bind fun t431 => (some t431)) = some r := H
  have A8 := Aside0.mk A80
  clear A80
  replace H := Option.bind_eq_some_iff.mp H
  obtain ⟨t431, A90, H⟩ := H
  replace H : (some t431) = some r := H
  have A9 := Aside0.mk A90
  clear A90
  obtain rfl := Option.some.inj H
  go_enter Try.func36, Try.ntmps36
  try go_wp2_with (first | ((with_reducible refine gate_dst (N := 2) rfl ?_); refine boxE (N := 2) (cs := #[.int .u64 a0_0, .int .u64 a0_1, .int .u64 a0_2, .int .u64 a0_3, .int .i64 a0_4, .int .i64 a0_5]) (t := 50) ?_; intro gb416 hg w10 hbox hb; have BK416 := Aside0.mk (hbox); have GW416 := szB hg HB.out; have GE416 := szB hg HB.out; replace HB := bsB HB.out hb; clear hb hbox hg) | ((with_reducible refine gate_dst (N := 3) rfl ?_); refine boxE (N := 3) (cs := #[.int .u64 a1_0, .int .u64 a1_1, .int .u64 a1_2, .int .u64 a1_3, .int .i64 a1_4, .int .i64 a1_5]) (t := 50) ?_; intro gb417 hg w11 hbox hb; have BK417 := Aside0.mk (hbox); have GW417 := szB hg HB.out; have GE417 := szB hg HB.out; have NB416_417 := neL hg BK416.out; have NB417_416 := neG hg BK416.out; replace BK416 := bkB BK416.out hb; replace HB := bsB HB.out hb; clear hb hbox hg))
  replace BK416 := Aside0.mk (blk_drew BK416.out)
  replace BK417 := Aside0.mk (blk_drew BK417.out)
  replace HB := Aside0.mk (below_drew1 HB.out)
  refine start_ (n := 13) (S := fun w' => w'.cell? ⟨gb416, 0, none⟩ = some (.int .u64 a0_0) ∧ w'.cell? ⟨gb416, 1, none⟩ = some (.int .u64 a0_1) ∧ w'.cell? ⟨gb416, 2, none⟩ = some (.int .u64 a0_2) ∧ w'.cell? ⟨gb416, 3, none⟩ = some (.int .u64 a0_3) ∧ w'.cell? ⟨gb416, 4, none⟩ = some (.int .i64 a0_4) ∧ w'.cell? ⟨gb416, 5, none⟩ = some (.int .i64 a0_5) ∧ w'.cell? ⟨gb417, 0, none⟩ = some (.int .u64 a1_0) ∧ w'.cell? ⟨gb417, 1, none⟩ = some (.int .u64 a1_1) ∧ w'.cell? ⟨gb417, 2, none⟩ = some (.int .u64 a1_2) ∧ w'.cell? ⟨gb417, 3, none⟩ = some (.int .u64 a1_3) ∧ w'.cell? ⟨gb417, 4, none⟩ = some (.int .i64 a1_4) ∧ w'.cell? ⟨gb417, 5, none⟩ = some (.int .i64 a1_5)) (ds := []) (bA 13 0) (by kernel_rfl) rfl rfl (by repeat' (first | apply And.intro | exact (blk_cell BK416.out _).trans rfl | exact (blk_cell BK417.out _).trans rfl)) (fun hHeld => ?_); refine with_tabW jacquardref14_Leq.tab1 jacquardref14_Leq.bits1 (fun HT_ HW_ => ?_)
  generalize w11.drew = w12 at BK416 BK417 HB hHeld ⊢
  refine takeA HT_ HW_ hHeld (i := 0) (N := some 5) (bA 13 1) ?_ (hy := by rintro w' ⟨s0, s1, s2, s3, s4, s5, s6, s7, s8, s9, s10, s11⟩; go_simp; with_reducible rfl)
  refine takeA HT_ HW_ hHeld (i := 2) (N := some 7) (bA 13 5) ?_ (hy := by rintro w' ⟨s0, s1, s2, s3, s4, s5, s6, s7, s8, s9, s10, s11⟩; go_simp; with_reducible rfl)
  refine one_ (i := 1) (N := some 6) (bA 13 7) rfl rfl (one_of HT_.out (by kernel_rfl)) (by decide) (fun K hK => ?_)
  refine gO Try.func80 #[.agg #[.int .u64 a0_0, .int .u64 a0_1, .int .u64 a0_2, .int .u64 a0_3, .int .i64 a0_4, .int .i64 a0_5]] ?_
  with_reducible refine (jacquardref14_bits.calls a0_0 a0_1 a0_2 a0_3 a0_4 a0_5 t418 t419 _ A3.out).mono ?_
  rintro e w13 ⟨rfl, hb⟩
  refine ⟨_, rfl, ?_⟩
  replace BK416 := bkB BK416.out hb
  replace BK417 := bkB BK417.out hb
  replace HB := bsB HB.out hb
  (try clear hb)
  refine hK.out _ _ (by repeat' (first | apply And.intro | exact (blk_cell BK416.out _).trans rfl | exact (blk_cell BK417.out _).trans rfl)) (fun hHeld => ?_)
  clear hK K
  refine normA (some 6) ?_
  refine one_ (i := 3) (N := some 8) (bA 13 15) rfl rfl (one_of HT_.out (by kernel_rfl)) (by decide) (fun K hK => ?_)
  refine gO Try.func80 #[.agg #[.int .u64 a1_0, .int .u64 a1_1, .int .u64 a1_2, .int .u64 a1_3, .int .i64 a1_4, .int .i64 a1_5]] ?_
  with_reducible refine (jacquardref14_bits.calls a1_0 a1_1 a1_2 a1_3 a1_4 a1_5 t420 t421 _ A4.out).mono ?_
  rintro e w14 ⟨rfl, hb⟩
  refine ⟨_, rfl, ?_⟩
  replace BK416 := bkB BK416.out hb
  replace BK417 := bkB BK417.out hb
  replace HB := bsB HB.out hb
  (try clear hb)
  refine hK.out _ _ (by repeat' (first | apply And.intro | exact (blk_cell BK416.out _).trans rfl | exact (blk_cell BK417.out _).trans rfl)) (fun hHeld => ?_)
  clear hK K
  refine normA (some 8) ?_
  refine one_ (i := 4) (N := some 9) (bA 13 31) rfl rfl (one_of HT_.out (by kernel_rfl)) (by decide) (fun K hK => ?_)
  refine gO Try.func93 #[.agg #[.int .u64 t418, .int .u64 t419], .agg #[.int .u64 t420, .int .u64 t421]] ?_
  with_reducible refine (jacquardref12_Leq.calls t418 t419 t420 t421 true _ A5.out).mono ?_
  rintro e w15 ⟨rfl, hb⟩
  refine ⟨_, rfl, ?_⟩
  replace BK416 := bkB BK416.out hb
  replace BK417 := bkB BK417.out hb
  replace HB := bsB HB.out hb
  (try clear hb)
  refine hK.out _ _ (by repeat' (first | apply And.intro | exact (blk_cell BK416.out _).trans rfl | exact (blk_cell BK417.out _).trans rfl)) (fun hHeld => ?_)
  clear hK K
  refine normA (some 9) ?_
  refine pureA HT_ (i := 5) (N := some 10) (bA 13 63) ?_
  refine takeA HT_ HW_ hHeld (i := 6) (N := some 11) (bA 13 127) ?_ (hy := by rintro w' ⟨s0, s1, s2, s3, s4, s5, s6, s7, s8, s9, s10, s11⟩; go_simp; with_reducible rfl)
  refine takeA HT_ HW_ hHeld (i := 8) (N := some 13) (bA 13 383) ?_ (hy := by rintro w' ⟨s0, s1, s2, s3, s4, s5, s6, s7, s8, s9, s10, s11⟩; go_simp; with_reducible rfl)
  refine one_ (i := 7) (N := some 12) (bA 13 511) rfl rfl (one_of HT_.out (by kernel_rfl)) (by decide) (fun K hK => ?_)
  refine gO Try.func84 #[.agg #[.int .u64 a0_0, .int .u64 a0_1, .int .u64 a0_2, .int .u64 a0_3, .int .i64 a0_4, .int .i64 a0_5]] ?_
  with_reducible refine (jacquardref14_span.calls a0_0 a0_1 a0_2 a0_3 a0_4 a0_5 t423 t424 t425 t426 _ A7.out).mono ?_
  rintro e w16 ⟨rfl, hb⟩
  refine ⟨_, rfl, ?_⟩
  replace BK416 := bkB BK416.out hb
  replace BK417 := bkB BK417.out hb
  replace HB := bsB HB.out hb
  (try clear hb)
  refine hK.out _ _ (by repeat' (first | apply And.intro | exact (blk_cell BK416.out _).trans rfl | exact (blk_cell BK417.out _).trans rfl)) (fun hHeld => ?_)
  clear hK K
  refine normA (some 12) ?_
  refine one_ (i := 9) (N := some 14) (bA 13 1023) rfl rfl (one_of HT_.out (by kernel_rfl)) (by decide) (fun K hK => ?_)
  refine gO Try.func84 #[.agg #[.int .u64 a1_0, .int .u64 a1_1, .int .u64 a1_2, .int .u64 a1_3, .int .i64 a1_4, .int .i64 a1_5]] ?_
  with_reducible refine (jacquardref14_span.calls a1_0 a1_1 a1_2 a1_3 a1_4 a1_5 t427 t428 t429 t430 _ A8.out).mono ?_
  rintro e w17 ⟨rfl, hb⟩
  refine ⟨_, rfl, ?_⟩
  replace BK416 := bkB BK416.out hb
  replace BK417 := bkB BK417.out hb
  replace HB := bsB HB.out hb
  (try clear hb)
  refine hK.out _ _ (by repeat' (first | apply And.intro | exact (blk_cell BK416.out _).trans rfl | exact (blk_cell BK417.out _).trans rfl)) (fun hHeld => ?_)
  clear hK K
  refine normA (some 14) ?_
  refine one_ (i := 10) (N := some 15) (bA 13 2047) rfl rfl (one_of HT_.out (by kernel_rfl)) (by decide) (fun K hK => ?_)
  refine gO Try.func94 #[.agg #[.int .u64 t423, .int .u64 t424, .int .i64 t425, .int .i64 t426], .agg #[.int .u64 t427, .int .u64 t428, .int .i64 t429, .int .i64 t430]] ?_
  with_reducible refine (jacquardref13_Leq.calls t423 t424 t425 t426 t427 t428 t429 t430 t431 _ A9.out).mono ?_
  rintro e w18 ⟨rfl, hb⟩
  refine ⟨_, rfl, ?_⟩
  replace BK416 := bkB BK416.out hb
  replace BK417 := bkB BK417.out hb
  replace HB := bsB HB.out hb
  (try clear hb)
  refine hK.out _ _ (by repeat' (first | apply And.intro | exact (blk_cell BK416.out _).trans rfl | exact (blk_cell BK417.out _).trans rfl)) (fun hHeld => ?_)
  clear hK K
  refine normA (some 15) ?_
  refine pureA HT_ (i := 11) (N := some 16) (bA 13 4095) ?_
  refine pureA HT_ (i := 12) (N := some 4) (bA 13 8191) ?_
  refine done_ (done_of HT_.out (by kernel_rfl)) ?_
  try go_wp2
  go_ret
  exact ⟨by first | rfl | (simp [errW_none, errW_some] <;> rfl) | (simp [*, errW_none, errW_some] <;> rfl), bsL HB.out⟩
 ·
  replace c6 := Bool.eq_false_iff.mpr c6
  subst c6
  have H1 : (some false) = some r := by rw [if_neg (show ¬ (false = true) by decide)] at H; exact H
  clear H
  have H := H1
  clear H1
  obtain rfl := Option.some.inj H
  go_enter Try.func36, Try.ntmps36
  try go_wp2_with (first | ((with_reducible refine gate_dst (N := 2) rfl ?_); refine boxE (N := 2) (cs := #[.int .u64 a0_0, .int .u64 a0_1, .int .u64 a0_2, .int .u64 a0_3, .int .i64 a0_4, .int .i64 a0_5]) (t := 50) ?_; intro gb416 hg w19 hbox hb; have BK416 := Aside0.mk (hbox); have GW416 := szB hg HB.out; have GE416 := szB hg HB.out; replace HB := bsB HB.out hb; clear hb hbox hg) | ((with_reducible refine gate_dst (N := 3) rfl ?_); refine boxE (N := 3) (cs := #[.int .u64 a1_0, .int .u64 a1_1, .int .u64 a1_2, .int .u64 a1_3, .int .i64 a1_4, .int .i64 a1_5]) (t := 50) ?_; intro gb417 hg w20 hbox hb; have BK417 := Aside0.mk (hbox); have GW417 := szB hg HB.out; have GE417 := szB hg HB.out; have NB416_417 := neL hg BK416.out; have NB417_416 := neG hg BK416.out; replace BK416 := bkB BK416.out hb; replace HB := bsB HB.out hb; clear hb hbox hg))
  replace BK416 := Aside0.mk (blk_drew BK416.out)
  replace BK417 := Aside0.mk (blk_drew BK417.out)
  replace HB := Aside0.mk (below_drew1 HB.out)
  refine start_ (n := 13) (S := fun w' => w'.cell? ⟨gb416, 0, none⟩ = some (.int .u64 a0_0) ∧ w'.cell? ⟨gb416, 1, none⟩ = some (.int .u64 a0_1) ∧ w'.cell? ⟨gb416, 2, none⟩ = some (.int .u64 a0_2) ∧ w'.cell? ⟨gb416, 3, none⟩ = some (.int .u64 a0_3) ∧ w'.cell? ⟨gb416, 4, none⟩ = some (.int .i64 a0_4) ∧ w'.cell? ⟨gb416, 5, none⟩ = some (.int .i64 a0_5) ∧ w'.cell? ⟨gb417, 0, none⟩ = some (.int .u64 a1_0) ∧ w'.cell? ⟨gb417, 1, none⟩ = some (.int .u64 a1_1) ∧ w'.cell? ⟨gb417, 2, none⟩ = some (.int .u64 a1_2) ∧ w'.cell? ⟨gb417, 3, none⟩ = some (.int .u64 a1_3) ∧ w'.cell? ⟨gb417, 4, none⟩ = some (.int .i64 a1_4) ∧ w'.cell? ⟨gb417, 5, none⟩ = some (.int .i64 a1_5)) (ds := []) (bA 13 0) (by kernel_rfl) rfl rfl (by repeat' (first | apply And.intro | exact (blk_cell BK416.out _).trans rfl | exact (blk_cell BK417.out _).trans rfl)) (fun hHeld => ?_); refine with_tabW jacquardref14_Leq.tab1 jacquardref14_Leq.bits1 (fun HT_ HW_ => ?_)
  generalize w20.drew = w21 at BK416 BK417 HB hHeld ⊢
  refine takeA HT_ HW_ hHeld (i := 0) (N := some 5) (bA 13 1) ?_ (hy := by rintro w' ⟨s0, s1, s2, s3, s4, s5, s6, s7, s8, s9, s10, s11⟩; go_simp; with_reducible rfl)
  refine takeA HT_ HW_ hHeld (i := 2) (N := some 7) (bA 13 5) ?_ (hy := by rintro w' ⟨s0, s1, s2, s3, s4, s5, s6, s7, s8, s9, s10, s11⟩; go_simp; with_reducible rfl)
  refine one_ (i := 1) (N := some 6) (bA 13 7) rfl rfl (one_of HT_.out (by kernel_rfl)) (by decide) (fun K hK => ?_)
  refine gO Try.func80 #[.agg #[.int .u64 a0_0, .int .u64 a0_1, .int .u64 a0_2, .int .u64 a0_3, .int .i64 a0_4, .int .i64 a0_5]] ?_
  with_reducible refine (jacquardref14_bits.calls a0_0 a0_1 a0_2 a0_3 a0_4 a0_5 t418 t419 _ A3.out).mono ?_
  rintro e w22 ⟨rfl, hb⟩
  refine ⟨_, rfl, ?_⟩
  replace BK416 := bkB BK416.out hb
  replace BK417 := bkB BK417.out hb
  replace HB := bsB HB.out hb
  (try clear hb)
  refine hK.out _ _ (by repeat' (first | apply And.intro | exact (blk_cell BK416.out _).trans rfl | exact (blk_cell BK417.out _).trans rfl)) (fun hHeld => ?_)
  clear hK K
  refine normA (some 6) ?_
  refine one_ (i := 3) (N := some 8) (bA 13 15) rfl rfl (one_of HT_.out (by kernel_rfl)) (by decide) (fun K hK => ?_)
  refine gO Try.func80 #[.agg #[.int .u64 a1_0, .int .u64 a1_1, .int .u64 a1_2, .int .u64 a1_3, .int .i64 a1_4, .int .i64 a1_5]] ?_
  with_reducible refine (jacquardref14_bits.calls a1_0 a1_1 a1_2 a1_3 a1_4 a1_5 t420 t421 _ A4.out).mono ?_
  rintro e w23 ⟨rfl, hb⟩
  refine ⟨_, rfl, ?_⟩
  replace BK416 := bkB BK416.out hb
  replace BK417 := bkB BK417.out hb
  replace HB := bsB HB.out hb
  (try clear hb)
  refine hK.out _ _ (by repeat' (first | apply And.intro | exact (blk_cell BK416.out _).trans rfl | exact (blk_cell BK417.out _).trans rfl)) (fun hHeld => ?_)
  clear hK K
  refine normA (some 8) ?_
  refine one_ (i := 4) (N := some 9) (bA 13 31) rfl rfl (one_of HT_.out (by kernel_rfl)) (by decide) (fun K hK => ?_)
  refine gO Try.func93 #[.agg #[.int .u64 t418, .int .u64 t419], .agg #[.int .u64 t420, .int .u64 t421]] ?_
  with_reducible refine (jacquardref12_Leq.calls t418 t419 t420 t421 false _ A5.out).mono ?_
  rintro e w24 ⟨rfl, hb⟩
  refine ⟨_, rfl, ?_⟩
  replace BK416 := bkB BK416.out hb
  replace BK417 := bkB BK417.out hb
  replace HB := bsB HB.out hb
  (try clear hb)
  refine hK.out _ _ (by repeat' (first | apply And.intro | exact (blk_cell BK416.out _).trans rfl | exact (blk_cell BK417.out _).trans rfl)) (fun hHeld => ?_)
  clear hK K
  refine normA (some 9) ?_
  refine pureA HT_ (i := 5) (N := some 10) (bA 13 63) ?_
  refine pureU HT_ (i := 6) (N := some 11) (bA 13 127) ?_
  refine pureU HT_ (i := 7) (N := some 12) (bA 13 255) ?_
  refine pureU HT_ (i := 8) (N := some 13) (bA 13 511) ?_
  refine pureU HT_ (i := 9) (N := some 14) (bA 13 1023) ?_
  refine pureU HT_ (i := 10) (N := some 15) (bA 13 2047) ?_
  refine pureA HT_ (i := 11) (N := some 16) (bA 13 4095) ?_
  refine pureA HT_ (i := 12) (N := some 4) (bA 13 8191) ?_
  refine done_ (done_of HT_.out (by kernel_rfl)) ?_
  try go_wp2
  go_ret
  exact ⟨by first | rfl | (simp [errW_none, errW_some] <;> rfl) | (simp [*, errW_none, errW_some] <;> rfl), bsL HB.out⟩

/-! ### knownbits_Join: function 95 -/
def knownbits_Join.f (a0_0 : Int) (a0_1 : Int) (a1_0 : Int) (a1_1 : Int) : Option (Int × Int) := some (Go.bits .and .u64 a0_0 a1_0, Go.bits .and .u64 a0_1 a1_1)
set_option maxHeartbeats 8000000 in
set_option maxRecDepth 100000 in
theorem knownbits_Join.calls (a0_0 : Int) (a0_1 : Int) (a1_0 : Int) (a1_1 : Int) (r1 : Int) (r2 : Int) (w : World) (h : knownbits_Join.f a0_0 a0_1 a1_0 a1_1 = some (r1, r2)) :
  Calls Try.prog 95 #[.agg #[.int .u64 a0_0, .int .u64 a0_1], .agg #[.int .u64 a1_0, .int .u64 a1_1]] w fun e w' => e = .returned (.agg #[.int .u64 r1, .int .u64 r2]) ∧ Below w.heap.size w w' := by
 have hu110 := Try.underlying110
 have HB := Aside0.mk (Below.refl w.heap.size w)
 have H : (some (Go.bits .and .u64 a0_0 a1_0, Go.bits .and .u64 a0_1 a1_1)) = some (r1, r2) := h
 clear h
 simp only [Option.some.injEq, Prod.mk.injEq] at H
 obtain ⟨rfl, rfl⟩ := H
 go_enter Try.func95, Try.ntmps95
 go_wp2_with (first | ((with_reducible refine gate_dst (N := 2) rfl ?_); refine boxE (N := 2) (cs := #[.int .u64 a0_0, .int .u64 a0_1]) (t := 110) ?_; intro gb432 hg w3 hbox hb; have BK432 := Aside0.mk (hbox); have GW432 := szB hg HB.out; have GE432 := szB hg HB.out; replace HB := bsB HB.out hb; clear hb hbox hg) | ((with_reducible refine gate_dst (N := 3) rfl ?_); refine boxE (N := 3) (cs := #[.int .u64 a1_0, .int .u64 a1_1]) (t := 110) ?_; intro gb433 hg w4 hbox hb; have BK433 := Aside0.mk (hbox); have GW433 := szB hg HB.out; have GE433 := szB hg HB.out; have NB432_433 := neL hg BK432.out; have NB433_432 := neG hg BK432.out; replace BK432 := bkB BK432.out hb; replace HB := bsB HB.out hb; clear hb hbox hg) | ((with_reducible refine gate_dst (N := 4) rfl ?_); refine boxE (N := 4) (cs := #[.int .u64 0, .int .u64 0]) (t := 110) ?_; intro gb434 hg w5 hbox hb; have BK434 := Aside0.mk (hbox); have GW434 := szB hg HB.out; have GE434 := szB hg HB.out; have NB432_434 := neL hg BK432.out; have NB434_432 := neG hg BK432.out; have NB433_434 := neL hg BK433.out; have NB434_433 := neG hg BK433.out; replace BK432 := bkB BK432.out hb; replace BK433 := bkB BK433.out hb; replace HB := bsB HB.out hb; clear hb hbox hg; have hnb6 := NB432_433.out; have hnc6 := NB433_432.out; have hnb7 := NB432_434.out; have hnc7 := NB434_432.out; obtain ⟨hcz8_0, hcz8_1, hfz8_0, hfz8_1⟩ := own2 BK432.out; have hnb9 := NB433_434.out; have hnc9 := NB434_433.out; obtain ⟨hcz10_0, hcz10_1, hfz10_0, hfz10_1⟩ := own2 BK433.out; obtain ⟨hcz11_0, hcz11_1, hfz11_0, hfz11_1⟩ := own2 BK434.out))
 refine bodyPost_ret (results_cell_row rfl _ _ gb434 110 #[.int .u64 (Go.bits .and .u64 a0_0 a1_0), .int .u64 (Go.bits .and .u64 a0_1 a1_1)] (0, 0) _ rfl (by (with_reducible repeat (first | refine blk_drewN ?_ _ | refine blk_drew ?_ | refine blk_alloc ?_ _)); refine blk_put (cs := #[.int .u64 (Go.bits .and .u64 a0_0 a1_0), .int .u64 0]) ?_ 1 _ rfl; (with_reducible repeat (first | refine blk_drewN ?_ _ | refine blk_drew ?_ | refine blk_alloc ?_ _)); refine blk_put (cs := #[.int .u64 0, .int .u64 0]) ?_ 0 _ rfl; exact bfL BK434.out) Try.underlying110 rfl (by kernel_rfl)) rfl ?_
 exact ⟨by first | rfl | (simp [errW_none, errW_some] <;> rfl) | (simp [*, errW_none, errW_some] <;> rfl), bsL HB.out⟩

end Go.Proofs.Ytbiohdgeclokmaa.P
