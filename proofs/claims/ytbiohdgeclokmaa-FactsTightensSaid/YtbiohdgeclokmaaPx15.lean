-- made by a program of this work (wip/mkprint.py, wip/mp.sh) out of the translation
import Derived.Test.YtbiohdgeclokmaaPx0
import Derived.Test.YtbiohdgeclokmaaPx2
import Derived.Test.YtbiohdgeclokmaaPx4
namespace Go.Proofs.Ytbiohdgeclokmaa.P
open Go.RowKit Go.Proofs.YtbiohdgeclokmaaW.PrintWords Go.Proofs.YtbiohdgeclokmaaW.PrintLast Go.Proofs.YtbiohdgeclokmaaW.PrintMore
attribute [local go_sem] max2_int min2_int max_two min_two max_three min_three max_four min_four   -- for this text's walks alone
set_option linter.unusedVariables false
set_option linter.unusedSimpArgs false

/-! ### interval_Contains: function 22 -/
def interval_Contains.f (a0 : Int) (a1_0 : Int) (a1_1 : Int) (a1_2 : Int) (a1_3 : Int) (a2 : Int) : Option (Bool) := (interval_good.f a0).bind fun t310 => (if t310 = true then ((bits_Mask.f a0).bind fun t311 => (if a2 > t311 then (some false) else ((bits_Signed.f a0 a2).bind fun t312 => (if a2 ≥ a1_0 then (if a2 ≤ a1_1 then (if t312 ≥ a1_2 then (some (decide (t312 ≤ a1_3))) else (some false)) else (some false)) else (some false))))) else (some false))
set_option maxHeartbeats 8000000 in
set_option maxRecDepth 100000 in
theorem interval_Contains.calls (a0 : Int) (a1_0 : Int) (a1_1 : Int) (a1_2 : Int) (a1_3 : Int) (a2 : Int) (r : Bool) (w : World) (h : interval_Contains.f a0 a1_0 a1_1 a1_2 a1_3 a2 = some r) :
  Calls Try.prog 22 #[.int .i64 a0, .agg #[.int .u64 a1_0, .int .u64 a1_1, .int .i64 a1_2, .int .i64 a1_3], .int .u64 a2] w fun e w' => e = .returned (.bool r) ∧ Below w.heap.size w w' := by
 have hu30 := Try.underlying30
 have HB := Aside0.mk (Below.refl w.heap.size w)
 have H : ((interval_good.f a0).bind fun t310 => (if t310 = true then ((bits_Mask.f a0).bind fun t311 => (if a2 > t311 then (some false) else ((bits_Signed.f a0 a2).bind fun t312 => (if a2 ≥ a1_0 then (if a2 ≤ a1_1 then (if t312 ≥ a1_2 then (some (decide (t312 ≤ a1_3))) else (some false)) else (some false)) else (some false))))) else (some false))) = some r := h
 clear h
 replace H := Option.bind_eq_some_iff.mp H
 obtain ⟨t310, A40, H⟩ := H
 replace H : (if t310 = true then ((bits_Mask.f a0).bind fun t311 => (if a2 > t311 then (some false) else ((bits_Signed.f a0 a2).bind fun t312 => (if a2 ≥ a1_0 then (if a2 ≤ a1_1 then (if t312 ≥ a1_2 then (some (decide (t312 ≤ a1_3))) else (some false)) else (some false)) else (some false))))) else (some false)) = some r := H
 have A4 := Aside0.mk A40
 clear A40
 by_cases c5 : t310 = true
 ·
  subst c5
  have H1 : ((bits_Mask.f a0).bind fun t311 => (if a2 > t311 then (some false) else ((bits_Signed.f a0 a2).bind fun t312 => (if a2 ≥ a1_0 then (if a2 ≤ a1_1 then (if t312 ≥ a1_2 then (some (decide (t312 ≤ a1_3))) else (some false)) else (some false)) else (some false))))) = some r := by rw [if_pos rfl] at H; exact H
  clear H
  have H := H1
  clear H1
  replace H := Option.bind_eq_some_iff.mp H
  obtain ⟨t311, A60, H⟩ := H
  replace H : (if a2 > t311 then (some false) else ((bits_Signed.f a0 a2).bind fun t312 => (if a2 ≥ a1_0 then (if a2 ≤ a1_1 then (if t312 ≥ a1_2 then (some (decide (t312 ≤ a1_3))) else (some false)) else (some false)) else (some false)))) = some r := H
  have A6 := Aside0.mk A60
  clear A60
  by_cases c7 : a2 > t311
  ·
   rw [if_pos c7] at H
   have c7b0 : decide (t311 < a2) = true := decide_eq_true c7
   clear c7
   obtain rfl := Option.some.inj H
   go_enter Try.func22, Try.ntmps22
   go_wp2_with (first | ((with_reducible refine gate_dst (N := 4) rfl ?_); refine box_event ?hg (N := 4) ?hd (cs := #[.int .u64 a1_0, .int .u64 a1_1, .int .i64 a1_2, .int .i64 a1_3]) (t := 30) ?hr ?_; (case hd => rfl); (case hg => rfl); (case hr => first | (go_simp; done) | (go_simp; rfl)); intro gb309 hg w8 hbox hb; have n0_ := bsB HB.out hb; have n1_ := Aside0.mk (hbox); have n2_ := szB hg HB.out; have n3_ := szB hg HB.out; clear HB; have HB := n0_; have BK309 := n1_; have GW309 := n2_; have GE309 := n3_; clear n0_ n1_ n2_ n3_; clear hb hbox hg) | ((with_reducible refine gate_callee (f := 66) rfl ?_); refine gL (some 9) Try.func66 #[.int .i64 a0] ?_; (with_reducible refine (interval_good.calls a0 true _ A4.out).mono ?_); rintro e w' ⟨rfl, ⟨nd, rfl⟩⟩; refine ⟨_, rfl, ?_⟩) | (go_at_call 56; (with_reducible refine (bits_Mask.calls a0 t311 _ A6.out).mono ?_); rintro e w9 ⟨rfl, hb⟩; have n0_ := bkB BK309.out hb; have n1_ := bsB HB.out hb; clear BK309; clear HB; have BK309 := n0_; have HB := n1_; clear n0_ n1_; (try clear hb); (try clear hb2); (try clear hk); (try clear hi)))
   go_ret
   exact ⟨by first | rfl | (simp [errW_none, errW_some] <;> rfl) | (simp [*, errW_none, errW_some] <;> rfl), bsL HB.out⟩
  ·
   rw [if_neg c7] at H
   have c7b0 : decide (t311 < a2) = false := decide_eq_false c7
   clear c7
   replace H := Option.bind_eq_some_iff.mp H
   obtain ⟨t312, A100, H⟩ := H
   replace H : (if a2 ≥ a1_0 then (if a2 ≤ a1_1 then (if t312 ≥ a1_2 then (some (decide (t312 ≤ a1_3))) else (some false)) else (some false)) else (some false)) = some r := H
   have A10 := Aside0.mk A100
   clear A100
   by_cases c11 : a2 ≥ a1_0
   ·
    rw [if_pos c11] at H
    have c11b0 : decide (a1_0 ≤ a2) = true := decide_eq_true c11
    clear c11
    by_cases c12 : a2 ≤ a1_1
    ·
     rw [if_pos c12] at H
     have c12b0 : decide (a2 ≤ a1_1) = true := decide_eq_true c12
     clear c12
     by_cases c13 : t312 ≥ a1_2
     ·
      rw [if_pos c13] at H
      have c13b0 : decide (a1_2 ≤ t312) = true := decide_eq_true c13
      clear c13
      obtain rfl := Option.some.inj H
      go_enter Try.func22, Try.ntmps22
      go_wp2_with (first | ((with_reducible refine gate_dst (N := 4) rfl ?_); refine box_event ?hg (N := 4) ?hd (cs := #[.int .u64 a1_0, .int .u64 a1_1, .int .i64 a1_2, .int .i64 a1_3]) (t := 30) ?hr ?_; (case hd => rfl); (case hg => rfl); (case hr => first | (go_simp; done) | (go_simp; rfl)); intro gb309 hg w14 hbox hb; have n0_ := bsB HB.out hb; have n1_ := Aside0.mk (hbox); have n2_ := szB hg HB.out; have n3_ := szB hg HB.out; clear HB; have HB := n0_; have BK309 := n1_; have GW309 := n2_; have GE309 := n3_; clear n0_ n1_ n2_ n3_; clear hb hbox hg) | ((with_reducible refine gate_callee (f := 66) rfl ?_); refine gL (some 9) Try.func66 #[.int .i64 a0] ?_; (with_reducible refine (interval_good.calls a0 true _ A4.out).mono ?_); rintro e w' ⟨rfl, ⟨nd, rfl⟩⟩; refine ⟨_, rfl, ?_⟩) | (go_at_call 56; (with_reducible refine (bits_Mask.calls a0 t311 _ A6.out).mono ?_); rintro e w15 ⟨rfl, hb⟩; have n0_ := bkB BK309.out hb; have n1_ := bsB HB.out hb; clear BK309; clear HB; have BK309 := n0_; have HB := n1_; clear n0_ n1_; (try clear hb); (try clear hb2); (try clear hk); (try clear hi)) | ((with_reducible refine gate_callee (f := 68) rfl ?_); refine gL (some 19) Try.func68 #[.int .i64 a0, .int .u64 a2] ?_; (with_reducible refine (bits_Signed.calls a0 a2 t312 _ A10.out).mono ?_); rintro e w16 ⟨rfl, hb⟩; refine ⟨_, rfl, ?_⟩; have n0_ := bkB BK309.out hb; have n1_ := bsB HB.out hb; clear BK309; clear HB; have BK309 := n0_; have HB := n1_; clear n0_ n1_; (try clear hb); (try clear hb2); (try clear hk); (try clear hi); have hcz17_0 : w16.cell? ⟨gb309, 0, none⟩ = some (.int .u64 a1_0) := (blk_cell BK309.out 0).trans rfl; have hcz17_1 : w16.cell? ⟨gb309, 1, none⟩ = some (.int .u64 a1_1) := (blk_cell BK309.out 1).trans rfl; have hcz17_2 : w16.cell? ⟨gb309, 2, none⟩ = some (.int .i64 a1_2) := (blk_cell BK309.out 2).trans rfl; have hcz17_3 : w16.cell? ⟨gb309, 3, none⟩ = some (.int .i64 a1_3) := (blk_cell BK309.out 3).trans rfl; have hfz17_0 := blk_frozen BK309.out 0; have hfz17_1 := blk_frozen BK309.out 1; have hfz17_2 := blk_frozen BK309.out 2; have hfz17_3 := blk_frozen BK309.out 3))
      go_ret
      exact ⟨by first | rfl | (simp [errW_none, errW_some] <;> rfl) | (simp [*, errW_none, errW_some] <;> rfl), bsL HB.out⟩
     ·
      rw [if_neg c13] at H
      have c13b0 : decide (a1_2 ≤ t312) = false := decide_eq_false c13
      clear c13
      obtain rfl := Option.some.inj H
      go_enter Try.func22, Try.ntmps22
      go_wp2_with (first | ((with_reducible refine gate_dst (N := 4) rfl ?_); refine box_event ?hg (N := 4) ?hd (cs := #[.int .u64 a1_0, .int .u64 a1_1, .int .i64 a1_2, .int .i64 a1_3]) (t := 30) ?hr ?_; (case hd => rfl); (case hg => rfl); (case hr => first | (go_simp; done) | (go_simp; rfl)); intro gb309 hg w18 hbox hb; have n0_ := bsB HB.out hb; have n1_ := Aside0.mk (hbox); have n2_ := szB hg HB.out; have n3_ := szB hg HB.out; clear HB; have HB := n0_; have BK309 := n1_; have GW309 := n2_; have GE309 := n3_; clear n0_ n1_ n2_ n3_; clear hb hbox hg) | ((with_reducible refine gate_callee (f := 66) rfl ?_); refine gL (some 9) Try.func66 #[.int .i64 a0] ?_; (with_reducible refine (interval_good.calls a0 true _ A4.out).mono ?_); rintro e w' ⟨rfl, ⟨nd, rfl⟩⟩; refine ⟨_, rfl, ?_⟩) | (go_at_call 56; (with_reducible refine (bits_Mask.calls a0 t311 _ A6.out).mono ?_); rintro e w19 ⟨rfl, hb⟩; have n0_ := bkB BK309.out hb; have n1_ := bsB HB.out hb; clear BK309; clear HB; have BK309 := n0_; have HB := n1_; clear n0_ n1_; (try clear hb); (try clear hb2); (try clear hk); (try clear hi)) | ((with_reducible refine gate_callee (f := 68) rfl ?_); refine gL (some 19) Try.func68 #[.int .i64 a0, .int .u64 a2] ?_; (with_reducible refine (bits_Signed.calls a0 a2 t312 _ A10.out).mono ?_); rintro e w20 ⟨rfl, hb⟩; refine ⟨_, rfl, ?_⟩; have n0_ := bkB BK309.out hb; have n1_ := bsB HB.out hb; clear BK309; clear HB; have BK309 := n0_; have HB := n1_; clear n0_ n1_; (try clear hb); (try clear hb2); (try clear hk); (try clear hi); have hcz21_0 : w20.cell? ⟨gb309, 0, none⟩ = some (.int .u64 a1_0) := (blk_cell BK309.out 0).trans rfl; have hcz21_1 : w20.cell? ⟨gb309, 1, none⟩ = some (.int .u64 a1_1) := (blk_cell BK309.out 1).trans rfl; have hcz21_2 : w20.cell? ⟨gb309, 2, none⟩ = some (.int .i64 a1_2) := (blk_cell BK309.out 2).trans rfl; have hcz21_3 : w20.cell? ⟨gb309, 3, none⟩ = some (.int .i64 a1_3) := (blk_cell BK309.out 3).trans rfl; have hfz21_0 := blk_frozen BK309.out 0; have hfz21_1 := blk_frozen BK309.out 1; have hfz21_2 := blk_frozen BK309.out 2; have hfz21_3 := blk_frozen BK309.out 3))
      go_ret
      exact ⟨by first | rfl | (simp [errW_none, errW_some] <;> rfl) | (simp [*, errW_none, errW_some] <;> rfl), bsL HB.out⟩
    ·
     rw [if_neg c12] at H
     have c12b0 : decide (a2 ≤ a1_1) = false := decide_eq_false c12
     clear c12
     obtain rfl := Option.some.inj H
     go_enter Try.func22, Try.ntmps22
     go_wp2_with (first | ((with_reducible refine gate_dst (N := 4) rfl ?_); refine box_event ?hg (N := 4) ?hd (cs := #[.int .u64 a1_0, .int .u64 a1_1, .int .i64 a1_2, .int .i64 a1_3]) (t := 30) ?hr ?_; (case hd => rfl); (case hg => rfl); (case hr => first | (go_simp; done) | (go_simp; rfl)); intro gb309 hg w22 hbox hb; have n0_ := bsB HB.out hb; have n1_ := Aside0.mk (hbox); have n2_ := szB hg HB.out; have n3_ := szB hg HB.out; clear HB; have HB := n0_; have BK309 := n1_; have GW309 := n2_; have GE309 := n3_; clear n0_ n1_ n2_ n3_; clear hb hbox hg) | ((with_reducible refine gate_callee (f := 66) rfl ?_); refine gL (some 9) Try.func66 #[.int .i64 a0] ?_; (with_reducible refine (interval_good.calls a0 true _ A4.out).mono ?_); rintro e w' ⟨rfl, ⟨nd, rfl⟩⟩; refine ⟨_, rfl, ?_⟩) | (go_at_call 56; (with_reducible refine (bits_Mask.calls a0 t311 _ A6.out).mono ?_); rintro e w23 ⟨rfl, hb⟩; have n0_ := bkB BK309.out hb; have n1_ := bsB HB.out hb; clear BK309; clear HB; have BK309 := n0_; have HB := n1_; clear n0_ n1_; (try clear hb); (try clear hb2); (try clear hk); (try clear hi)) | ((with_reducible refine gate_callee (f := 68) rfl ?_); refine gL (some 19) Try.func68 #[.int .i64 a0, .int .u64 a2] ?_; (with_reducible refine (bits_Signed.calls a0 a2 t312 _ A10.out).mono ?_); rintro e w24 ⟨rfl, hb⟩; refine ⟨_, rfl, ?_⟩; have n0_ := bkB BK309.out hb; have n1_ := bsB HB.out hb; clear BK309; clear HB; have BK309 := n0_; have HB := n1_; clear n0_ n1_; (try clear hb); (try clear hb2); (try clear hk); (try clear hi); have hcz25_0 : w24.cell? ⟨gb309, 0, none⟩ = some (.int .u64 a1_0) := (blk_cell BK309.out 0).trans rfl; have hcz25_1 : w24.cell? ⟨gb309, 1, none⟩ = some (.int .u64 a1_1) := (blk_cell BK309.out 1).trans rfl; have hcz25_2 : w24.cell? ⟨gb309, 2, none⟩ = some (.int .i64 a1_2) := (blk_cell BK309.out 2).trans rfl; have hcz25_3 : w24.cell? ⟨gb309, 3, none⟩ = some (.int .i64 a1_3) := (blk_cell BK309.out 3).trans rfl; have hfz25_0 := blk_frozen BK309.out 0; have hfz25_1 := blk_frozen BK309.out 1; have hfz25_2 := blk_frozen BK309.out 2; have hfz25_3 := blk_frozen BK309.out 3))
     go_ret
     exact ⟨by first | rfl | (simp [errW_none, errW_some] <;> rfl) | (simp [*, errW_none, errW_some] <;> rfl), bsL HB.out⟩
   ·
    rw [if_neg c11] at H
    have c11b0 : decide (a1_0 ≤ a2) = false := decide_eq_false c11
    clear c11
    obtain rfl := Option.some.inj H
    go_enter Try.func22, Try.ntmps22
    go_wp2_with (first | ((with_reducible refine gate_dst (N := 4) rfl ?_); refine box_event ?hg (N := 4) ?hd (cs := #[.int .u64 a1_0, .int .u64 a1_1, .int .i64 a1_2, .int .i64 a1_3]) (t := 30) ?hr ?_; (case hd => rfl); (case hg => rfl); (case hr => first | (go_simp; done) | (go_simp; rfl)); intro gb309 hg w26 hbox hb; have n0_ := bsB HB.out hb; have n1_ := Aside0.mk (hbox); have n2_ := szB hg HB.out; have n3_ := szB hg HB.out; clear HB; have HB := n0_; have BK309 := n1_; have GW309 := n2_; have GE309 := n3_; clear n0_ n1_ n2_ n3_; clear hb hbox hg) | ((with_reducible refine gate_callee (f := 66) rfl ?_); refine gL (some 9) Try.func66 #[.int .i64 a0] ?_; (with_reducible refine (interval_good.calls a0 true _ A4.out).mono ?_); rintro e w' ⟨rfl, ⟨nd, rfl⟩⟩; refine ⟨_, rfl, ?_⟩) | (go_at_call 56; (with_reducible refine (bits_Mask.calls a0 t311 _ A6.out).mono ?_); rintro e w27 ⟨rfl, hb⟩; have n0_ := bkB BK309.out hb; have n1_ := bsB HB.out hb; clear BK309; clear HB; have BK309 := n0_; have HB := n1_; clear n0_ n1_; (try clear hb); (try clear hb2); (try clear hk); (try clear hi)) | ((with_reducible refine gate_callee (f := 68) rfl ?_); refine gL (some 19) Try.func68 #[.int .i64 a0, .int .u64 a2] ?_; (with_reducible refine (bits_Signed.calls a0 a2 t312 _ A10.out).mono ?_); rintro e w28 ⟨rfl, hb⟩; refine ⟨_, rfl, ?_⟩; have n0_ := bkB BK309.out hb; have n1_ := bsB HB.out hb; clear BK309; clear HB; have BK309 := n0_; have HB := n1_; clear n0_ n1_; (try clear hb); (try clear hb2); (try clear hk); (try clear hi); have hcz29_0 : w28.cell? ⟨gb309, 0, none⟩ = some (.int .u64 a1_0) := (blk_cell BK309.out 0).trans rfl; have hcz29_1 : w28.cell? ⟨gb309, 1, none⟩ = some (.int .u64 a1_1) := (blk_cell BK309.out 1).trans rfl; have hcz29_2 : w28.cell? ⟨gb309, 2, none⟩ = some (.int .i64 a1_2) := (blk_cell BK309.out 2).trans rfl; have hcz29_3 : w28.cell? ⟨gb309, 3, none⟩ = some (.int .i64 a1_3) := (blk_cell BK309.out 3).trans rfl; have hfz29_0 := blk_frozen BK309.out 0; have hfz29_1 := blk_frozen BK309.out 1; have hfz29_2 := blk_frozen BK309.out 2; have hfz29_3 := blk_frozen BK309.out 3))
    go_ret
    exact ⟨by first | rfl | (simp [errW_none, errW_some] <;> rfl) | (simp [*, errW_none, errW_some] <;> rfl), bsL HB.out⟩
 ·
  replace c5 := Bool.eq_false_iff.mpr c5
  subst c5
  have H1 : (some false) = some r := by rw [if_neg (show ¬ (false = true) by decide)] at H; exact H
  clear H
  have H := H1
  clear H1
  obtain rfl := Option.some.inj H
  go_enter Try.func22, Try.ntmps22
  go_wp2_with (first | ((with_reducible refine gate_dst (N := 4) rfl ?_); refine box_event ?hg (N := 4) ?hd (cs := #[.int .u64 a1_0, .int .u64 a1_1, .int .i64 a1_2, .int .i64 a1_3]) (t := 30) ?hr ?_; (case hd => rfl); (case hg => rfl); (case hr => first | (go_simp; done) | (go_simp; rfl)); intro gb309 hg w30 hbox hb; have n0_ := bsB HB.out hb; have n1_ := Aside0.mk (hbox); have n2_ := szB hg HB.out; have n3_ := szB hg HB.out; clear HB; have HB := n0_; have BK309 := n1_; have GW309 := n2_; have GE309 := n3_; clear n0_ n1_ n2_ n3_; clear hb hbox hg) | ((with_reducible refine gate_callee (f := 66) rfl ?_); refine gL (some 9) Try.func66 #[.int .i64 a0] ?_; (with_reducible refine (interval_good.calls a0 false _ A4.out).mono ?_); rintro e w' ⟨rfl, ⟨nd, rfl⟩⟩; refine ⟨_, rfl, ?_⟩))
  go_ret
  exact ⟨by first | rfl | (simp [errW_none, errW_some] <;> rfl) | (simp [*, errW_none, errW_some] <;> rfl), bsL HB.out⟩

/-! ### knownbits_Contains: function 85 -/
def knownbits_Contains.f (a0_0 : Int) (a0_1 : Int) (a1 : Int) : Option (Bool) := if (Go.bits .and .u64 a1 a0_0) = 0 then (some ((Go.bits .and .u64 a1 a0_1) == a0_1)) else (some false)
set_option maxHeartbeats 8000000 in
set_option maxRecDepth 100000 in
theorem knownbits_Contains.calls (a0_0 : Int) (a0_1 : Int) (a1 : Int) (r : Bool) (w : World) (h : knownbits_Contains.f a0_0 a0_1 a1 = some r) :
  Calls Try.prog 85 #[.agg #[.int .u64 a0_0, .int .u64 a0_1], .int .u64 a1] w fun e w' => e = .returned (.bool r) ∧ Below w.heap.size w w' := by
 have hu110 := Try.underlying110
 have HB := Aside0.mk (Below.refl w.heap.size w)
 have H : (if (Go.bits .and .u64 a1 a0_0) = 0 then (some ((Go.bits .and .u64 a1 a0_1) == a0_1)) else (some false)) = some r := h
 clear h
 by_cases c3 : (Go.bits .and .u64 a1 a0_0) = 0
 ·
  rw [if_pos c3] at H
  have c3b0 : ((Go.bits .and .u64 a1 a0_0) == 0) = true := beq_iff_eq.mpr c3
  have c3b1 : ((Go.bits .and .u64 a1 a0_0) != 0) = false := bne_eq_false_iff_eq.mpr c3
  clear c3
  obtain rfl := Option.some.inj H
  go_enter Try.func85, Try.ntmps85
  go_wp2_with (first | ((with_reducible refine gate_dst (N := 2) rfl ?_); refine box_event ?hg (N := 2) ?hd (cs := #[.int .u64 a0_0, .int .u64 a0_1]) (t := 110) ?hr ?_; (case hd => rfl); (case hg => rfl); (case hr => first | (go_simp; done) | (go_simp; rfl)); intro gb313 hg w4 hbox hb; have n0_ := bsB HB.out hb; have n1_ := Aside0.mk (hbox); have n2_ := szB hg HB.out; have n3_ := szB hg HB.out; clear HB; have HB := n0_; have BK313 := n1_; have GW313 := n2_; have GE313 := n3_; clear n0_ n1_ n2_ n3_; clear hb hbox hg; have hcz5_0 : w4.cell? ⟨gb313, 0, none⟩ = some (.int .u64 a0_0) := (blk_cell BK313.out 0).trans rfl; have hcz5_1 : w4.cell? ⟨gb313, 1, none⟩ = some (.int .u64 a0_1) := (blk_cell BK313.out 1).trans rfl; have hfz5_0 := blk_frozen BK313.out 0; have hfz5_1 := blk_frozen BK313.out 1))
  go_ret
  exact ⟨by first | rfl | (simp [errW_none, errW_some] <;> rfl) | (simp [*, errW_none, errW_some] <;> rfl), bsL HB.out⟩
 ·
  rw [if_neg c3] at H
  have c3b0 : ((Go.bits .and .u64 a1 a0_0) == 0) = false := beq_eq_false_iff_ne.mpr c3
  have c3b1 : ((Go.bits .and .u64 a1 a0_0) != 0) = true := bne_iff_ne.mpr c3
  obtain rfl := Option.some.inj H
  go_enter Try.func85, Try.ntmps85
  go_wp2_with (first | ((with_reducible refine gate_dst (N := 2) rfl ?_); refine box_event ?hg (N := 2) ?hd (cs := #[.int .u64 a0_0, .int .u64 a0_1]) (t := 110) ?hr ?_; (case hd => rfl); (case hg => rfl); (case hr => first | (go_simp; done) | (go_simp; rfl)); intro gb313 hg w6 hbox hb; have n0_ := bsB HB.out hb; have n1_ := Aside0.mk (hbox); have n2_ := szB hg HB.out; have n3_ := szB hg HB.out; clear HB; have HB := n0_; have BK313 := n1_; have GW313 := n2_; have GE313 := n3_; clear n0_ n1_ n2_ n3_; clear hb hbox hg; have hcz7_0 : w6.cell? ⟨gb313, 0, none⟩ = some (.int .u64 a0_0) := (blk_cell BK313.out 0).trans rfl; have hcz7_1 : w6.cell? ⟨gb313, 1, none⟩ = some (.int .u64 a0_1) := (blk_cell BK313.out 1).trans rfl; have hfz7_0 := blk_frozen BK313.out 0; have hfz7_1 := blk_frozen BK313.out 1))
  go_ret
  exact ⟨by first | rfl | (simp [errW_none, errW_some] <;> rfl) | (simp [*, errW_none, errW_some] <;> rfl), bsL HB.out⟩

/-! ### facts_Contains: function 28 -/
def facts_Contains.f (a0 : Int) (a1_0 : Int) (a1_1 : Int) (a1_2 : Int) (a1_3 : Int) (a1_4 : Int) (a1_5 : Int) (a2 : Int) : Option (Bool) := (facts_known.f a1_0 a1_1 a1_2 a1_3 a1_4 a1_5).bind fun bt315 => ((knownbits_Contains.f bt315.1 bt315.2 a2).bind fun t317 => (if t317 = true then ((facts_span.f a1_0 a1_1 a1_2 a1_3 a1_4 a1_5).bind fun bt318 => ((interval_Contains.f a0 bt318.1 bt318.2.1 bt318.2.2.1 bt318.2.2.2 a2).bind fun t322 => (some t322))) else (some false)))
set_option maxHeartbeats 8000000 in
set_option maxRecDepth 100000 in
theorem facts_Contains.calls (a0 : Int) (a1_0 : Int) (a1_1 : Int) (a1_2 : Int) (a1_3 : Int) (a1_4 : Int) (a1_5 : Int) (a2 : Int) (r : Bool) (w : World) (h : facts_Contains.f a0 a1_0 a1_1 a1_2 a1_3 a1_4 a1_5 a2 = some r) :
  Calls Try.prog 28 #[.int .i64 a0, .agg #[.int .u64 a1_0, .int .u64 a1_1, .int .u64 a1_2, .int .u64 a1_3, .int .i64 a1_4, .int .i64 a1_5], .int .u64 a2] w fun e w' => e = .returned (.bool r) ∧ Below w.heap.size w w' := by
 have hu50 := Try.underlying50
 have HB := Aside0.mk (Below.refl w.heap.size w)
 have H : ((facts_known.f a1_0 a1_1 a1_2 a1_3 a1_4 a1_5).bind fun bt315 => ((knownbits_Contains.f bt315.1 bt315.2 a2).bind fun t317 => (if t317 = true then ((facts_span.f a1_0 a1_1 a1_2 a1_3 a1_4 a1_5).bind fun bt318 => ((interval_Contains.f a0 bt318.1 bt318.2.1 bt318.2.2.1 bt318.2.2.2 a2).bind fun t322 => (some t322))) else (some false)))) = some r := h
 clear h
 replace H := Option.bind_eq_some_iff.mp H
 obtain ⟨⟨t315, t316⟩, A40, H⟩ := H
 replace H : ((knownbits_Contains.f t315 t316 a2).bind fun t317 => (if t317 = true then ((facts_span.f a1_0 a1_1 a1_2 a1_3 a1_4 a1_5).bind fun bt318 => ((interval_Contains.f a0 bt318.1 bt318.2.1 bt318.2.2.1 bt318.2.2.2 a2).bind fun t322 => (some t322))) else (some false))) = some r := H
 have A4 := Aside0.mk A40
 clear A40
 replace H := Option.bind_eq_some_iff.mp H
 obtain ⟨t317, A50, H⟩ := H
 replace H : (if t317 = true then ((facts_span.f a1_0 a1_1 a1_2 a1_3 a1_4 a1_5).bind fun bt318 => ((interval_Contains.f a0 bt318.1 bt318.2.1 bt318.2.2.1 bt318.2.2.2 a2).bind fun t322 => (some t322))) else (some false)) = some r := H
 have A5 := Aside0.mk A50
 clear A50
 by_cases c6 : t317 = true
 ·
  subst c6
  have H1 : ((facts_span.f a1_0 a1_1 a1_2 a1_3 a1_4 a1_5).bind fun bt318 => ((interval_Contains.f a0 bt318.1 bt318.2.1 bt318.2.2.1 bt318.2.2.2 a2).bind fun t322 => (some t322))) = some r := by rw [if_pos rfl] at H; exact H
  clear H
  have H := H1
  clear H1
  replace H := Option.bind_eq_some_iff.mp H
  obtain ⟨⟨t318, t319, t320, t321⟩, A70, H⟩ := H
  replace H : ((interval_Contains.f a0 t318 t319 t320 t321 a2).bind fun t322 => (some t322)) = some r := H
  have A7 := Aside0.mk A70
  clear A70
  replace H := Option.bind_eq_some_iff.mp H
  obtain ⟨t322, A80, H⟩ := H
  replace H : (some t322) = some r := H
  have A8 := Aside0.mk A80
  clear A80
  obtain rfl := Option.some.inj H
  go_enter Try.func28, Try.ntmps28
  go_wp2_with (first | ((with_reducible refine gate_dst (N := 4) rfl ?_); refine box_event ?hg (N := 4) ?hd (cs := #[.int .u64 a1_0, .int .u64 a1_1, .int .u64 a1_2, .int .u64 a1_3, .int .i64 a1_4, .int .i64 a1_5]) (t := 50) ?hr ?_; (case hd => rfl); (case hg => rfl); (case hr => first | (go_simp; done) | (go_simp; rfl)); intro gb314 hg w9 hbox hb; have n0_ := bsB HB.out hb; have n1_ := Aside0.mk (hbox); have n2_ := szB hg HB.out; have n3_ := szB hg HB.out; clear HB; have HB := n0_; have BK314 := n1_; have GW314 := n2_; have GE314 := n3_; clear n0_ n1_ n2_ n3_; clear hb hbox hg; have hcz10_0 : w9.cell? ⟨gb314, 0, none⟩ = some (.int .u64 a1_0) := (blk_cell BK314.out 0).trans rfl; have hcz10_1 : w9.cell? ⟨gb314, 1, none⟩ = some (.int .u64 a1_1) := (blk_cell BK314.out 1).trans rfl; have hcz10_2 : w9.cell? ⟨gb314, 2, none⟩ = some (.int .u64 a1_2) := (blk_cell BK314.out 2).trans rfl; have hcz10_3 : w9.cell? ⟨gb314, 3, none⟩ = some (.int .u64 a1_3) := (blk_cell BK314.out 3).trans rfl; have hcz10_4 : w9.cell? ⟨gb314, 4, none⟩ = some (.int .i64 a1_4) := (blk_cell BK314.out 4).trans rfl; have hcz10_5 : w9.cell? ⟨gb314, 5, none⟩ = some (.int .i64 a1_5) := (blk_cell BK314.out 5).trans rfl; have hfz10_0 := blk_frozen BK314.out 0; have hfz10_1 := blk_frozen BK314.out 1; have hfz10_2 := blk_frozen BK314.out 2; have hfz10_3 := blk_frozen BK314.out 3; have hfz10_4 := blk_frozen BK314.out 4; have hfz10_5 := blk_frozen BK314.out 5) | ((with_reducible refine gate_callee (f := 86) rfl ?_); refine gL (some 8) Try.func86 #[.agg #[.int .u64 a1_0, .int .u64 a1_1, .int .u64 a1_2, .int .u64 a1_3, .int .i64 a1_4, .int .i64 a1_5]] ?_; (with_reducible refine (facts_known.calls a1_0 a1_1 a1_2 a1_3 a1_4 a1_5 t315 t316 _ A4.out).mono ?_); rintro e w11 ⟨rfl, hb⟩; refine ⟨_, rfl, ?_⟩; have n0_ := bkB BK314.out hb; have n1_ := bsB HB.out hb; clear BK314; clear HB; have BK314 := n0_; have HB := n1_; clear n0_ n1_; (try clear hb); (try clear hb2); (try clear hk); (try clear hi)) | ((with_reducible refine gate_callee (f := 85) rfl ?_); refine gL (some 10) Try.func85 #[.agg #[.int .u64 t315, .int .u64 t316], .int .u64 a2] ?_; (with_reducible refine (knownbits_Contains.calls t315 t316 a2 true _ A5.out).mono ?_); rintro e w12 ⟨rfl, hb⟩; refine ⟨_, rfl, ?_⟩; have n0_ := bkB BK314.out hb; have n1_ := bsB HB.out hb; clear BK314; clear HB; have BK314 := n0_; have HB := n1_; clear n0_ n1_; (try clear hb); (try clear hb2); (try clear hk); (try clear hi); have hcz13_0 : w12.cell? ⟨gb314, 0, none⟩ = some (.int .u64 a1_0) := (blk_cell BK314.out 0).trans rfl; have hcz13_1 : w12.cell? ⟨gb314, 1, none⟩ = some (.int .u64 a1_1) := (blk_cell BK314.out 1).trans rfl; have hcz13_2 : w12.cell? ⟨gb314, 2, none⟩ = some (.int .u64 a1_2) := (blk_cell BK314.out 2).trans rfl; have hcz13_3 : w12.cell? ⟨gb314, 3, none⟩ = some (.int .u64 a1_3) := (blk_cell BK314.out 3).trans rfl; have hcz13_4 : w12.cell? ⟨gb314, 4, none⟩ = some (.int .i64 a1_4) := (blk_cell BK314.out 4).trans rfl; have hcz13_5 : w12.cell? ⟨gb314, 5, none⟩ = some (.int .i64 a1_5) := (blk_cell BK314.out 5).trans rfl; have hfz13_0 := blk_frozen BK314.out 0; have hfz13_1 := blk_frozen BK314.out 1; have hfz13_2 := blk_frozen BK314.out 2; have hfz13_3 := blk_frozen BK314.out 3; have hfz13_4 := blk_frozen BK314.out 4; have hfz13_5 := blk_frozen BK314.out 5) | (go_at_call 76; (with_reducible refine (facts_span.calls a1_0 a1_1 a1_2 a1_3 a1_4 a1_5 t318 t319 t320 t321 _ A7.out).mono ?_); rintro e w14 ⟨rfl, hb⟩; have n0_ := bkB BK314.out hb; have n1_ := bsB HB.out hb; clear BK314; clear HB; have BK314 := n0_; have HB := n1_; clear n0_ n1_; (try clear hb); (try clear hb2); (try clear hk); (try clear hi)) | (go_at_call 22; (with_reducible refine (interval_Contains.calls a0 t318 t319 t320 t321 a2 t322 _ A8.out).mono ?_); rintro e w15 ⟨rfl, hb⟩; have n0_ := bkB BK314.out hb; have n1_ := bsB HB.out hb; clear BK314; clear HB; have BK314 := n0_; have HB := n1_; clear n0_ n1_; (try clear hb); (try clear hb2); (try clear hk); (try clear hi)))
  go_ret
  exact ⟨by first | rfl | (simp [errW_none, errW_some] <;> rfl) | (simp [*, errW_none, errW_some] <;> rfl), bsL HB.out⟩
 ·
  replace c6 := Bool.eq_false_iff.mpr c6
  subst c6
  have H1 : (some false) = some r := by rw [if_neg (show ¬ (false = true) by decide)] at H; exact H
  clear H
  have H := H1
  clear H1
  obtain rfl := Option.some.inj H
  go_enter Try.func28, Try.ntmps28
  go_wp2_with (first | ((with_reducible refine gate_dst (N := 4) rfl ?_); refine box_event ?hg (N := 4) ?hd (cs := #[.int .u64 a1_0, .int .u64 a1_1, .int .u64 a1_2, .int .u64 a1_3, .int .i64 a1_4, .int .i64 a1_5]) (t := 50) ?hr ?_; (case hd => rfl); (case hg => rfl); (case hr => first | (go_simp; done) | (go_simp; rfl)); intro gb314 hg w16 hbox hb; have n0_ := bsB HB.out hb; have n1_ := Aside0.mk (hbox); have n2_ := szB hg HB.out; have n3_ := szB hg HB.out; clear HB; have HB := n0_; have BK314 := n1_; have GW314 := n2_; have GE314 := n3_; clear n0_ n1_ n2_ n3_; clear hb hbox hg; have hcz17_0 : w16.cell? ⟨gb314, 0, none⟩ = some (.int .u64 a1_0) := (blk_cell BK314.out 0).trans rfl; have hcz17_1 : w16.cell? ⟨gb314, 1, none⟩ = some (.int .u64 a1_1) := (blk_cell BK314.out 1).trans rfl; have hcz17_2 : w16.cell? ⟨gb314, 2, none⟩ = some (.int .u64 a1_2) := (blk_cell BK314.out 2).trans rfl; have hcz17_3 : w16.cell? ⟨gb314, 3, none⟩ = some (.int .u64 a1_3) := (blk_cell BK314.out 3).trans rfl; have hcz17_4 : w16.cell? ⟨gb314, 4, none⟩ = some (.int .i64 a1_4) := (blk_cell BK314.out 4).trans rfl; have hcz17_5 : w16.cell? ⟨gb314, 5, none⟩ = some (.int .i64 a1_5) := (blk_cell BK314.out 5).trans rfl; have hfz17_0 := blk_frozen BK314.out 0; have hfz17_1 := blk_frozen BK314.out 1; have hfz17_2 := blk_frozen BK314.out 2; have hfz17_3 := blk_frozen BK314.out 3; have hfz17_4 := blk_frozen BK314.out 4; have hfz17_5 := blk_frozen BK314.out 5) | ((with_reducible refine gate_callee (f := 86) rfl ?_); refine gL (some 8) Try.func86 #[.agg #[.int .u64 a1_0, .int .u64 a1_1, .int .u64 a1_2, .int .u64 a1_3, .int .i64 a1_4, .int .i64 a1_5]] ?_; (with_reducible refine (facts_known.calls a1_0 a1_1 a1_2 a1_3 a1_4 a1_5 t315 t316 _ A4.out).mono ?_); rintro e w18 ⟨rfl, hb⟩; refine ⟨_, rfl, ?_⟩; have n0_ := bkB BK314.out hb; have n1_ := bsB HB.out hb; clear BK314; clear HB; have BK314 := n0_; have HB := n1_; clear n0_ n1_; (try clear hb); (try clear hb2); (try clear hk); (try clear hi)) | ((with_reducible refine gate_callee (f := 85) rfl ?_); refine gL (some 10) Try.func85 #[.agg #[.int .u64 t315, .int .u64 t316], .int .u64 a2] ?_; (with_reducible refine (knownbits_Contains.calls t315 t316 a2 false _ A5.out).mono ?_); rintro e w19 ⟨rfl, hb⟩; refine ⟨_, rfl, ?_⟩; have n0_ := bkB BK314.out hb; have n1_ := bsB HB.out hb; clear BK314; clear HB; have BK314 := n0_; have HB := n1_; clear n0_ n1_; (try clear hb); (try clear hb2); (try clear hk); (try clear hi)))
  go_ret
  exact ⟨by first | rfl | (simp [errW_none, errW_some] <;> rfl) | (simp [*, errW_none, errW_some] <;> rfl), bsL HB.out⟩

/-! ### knownbits_Leq: function 87 -/
def knownbits_Leq.f (a0_0 : Int) (a0_1 : Int) (a1_0 : Int) (a1_1 : Int) : Option (Bool) := if (Go.bits .andNot .u64 a1_0 a0_0) = 0 then (some ((Go.bits .andNot .u64 a1_1 a0_1) == 0)) else (some false)
set_option maxHeartbeats 8000000 in
set_option maxRecDepth 100000 in
theorem knownbits_Leq.calls (a0_0 : Int) (a0_1 : Int) (a1_0 : Int) (a1_1 : Int) (r : Bool) (w : World) (h : knownbits_Leq.f a0_0 a0_1 a1_0 a1_1 = some r) :
  Calls Try.prog 87 #[.agg #[.int .u64 a0_0, .int .u64 a0_1], .agg #[.int .u64 a1_0, .int .u64 a1_1]] w fun e w' => e = .returned (.bool r) ∧ Below w.heap.size w w' := by
 have hu110 := Try.underlying110
 have HB := Aside0.mk (Below.refl w.heap.size w)
 have H : (if (Go.bits .andNot .u64 a1_0 a0_0) = 0 then (some ((Go.bits .andNot .u64 a1_1 a0_1) == 0)) else (some false)) = some r := h
 clear h
 by_cases c3 : (Go.bits .andNot .u64 a1_0 a0_0) = 0
 ·
  rw [if_pos c3] at H
  have c3b0 : ((Go.bits .andNot .u64 a1_0 a0_0) == 0) = true := beq_iff_eq.mpr c3
  have c3b1 : ((Go.bits .andNot .u64 a1_0 a0_0) != 0) = false := bne_eq_false_iff_eq.mpr c3
  clear c3
  obtain rfl := Option.some.inj H
  go_enter Try.func87, Try.ntmps87
  go_wp2_with (first | ((with_reducible refine gate_dst (N := 2) rfl ?_); refine box_event ?hg (N := 2) ?hd (cs := #[.int .u64 a0_0, .int .u64 a0_1]) (t := 110) ?hr ?_; (case hd => rfl); (case hg => rfl); (case hr => first | (go_simp; done) | (go_simp; rfl)); intro gb323 hg w4 hbox hb; have n0_ := bsB HB.out hb; have n1_ := Aside0.mk (hbox); have n2_ := szB hg HB.out; have n3_ := szB hg HB.out; clear HB; have HB := n0_; have BK323 := n1_; have GW323 := n2_; have GE323 := n3_; clear n0_ n1_ n2_ n3_; clear hb hbox hg) | ((with_reducible refine gate_dst (N := 3) rfl ?_); refine box_event ?hg (N := 3) ?hd (cs := #[.int .u64 a1_0, .int .u64 a1_1]) (t := 110) ?hr ?_; (case hd => rfl); (case hg => rfl); (case hr => first | (go_simp; done) | (go_simp; rfl)); intro gb324 hg w5 hbox hb; have n0_ := bkB BK323.out hb; have n1_ := bsB HB.out hb; have n2_ := Aside0.mk (hbox); have n3_ := szB hg HB.out; have n4_ := szB hg HB.out; have n5_ := Aside0.mk ((by rw [hg]; exact Nat.ne_of_lt (blk_lt (g := gb323) (o := .cells #[.int .u64 a0_0, .int .u64 a0_1] 110 (0, 0)) (by exact bfL BK323.out)) : gb323 ≠ gb324)); have n6_ := Aside0.mk ((by rw [hg]; exact Nat.ne_of_gt (blk_lt (g := gb323) (o := .cells #[.int .u64 a0_0, .int .u64 a0_1] 110 (0, 0)) (by exact bfL BK323.out)) : gb324 ≠ gb323)); clear BK323; clear HB; have BK323 := n0_; have HB := n1_; have BK324 := n2_; have GW324 := n3_; have GE324 := n4_; have NB323_324 := n5_; have NB324_323 := n6_; clear n0_ n1_ n2_ n3_ n4_ n5_ n6_; clear hb hbox hg; have hnb6 := NB324_323.out; have hnc6 := NB323_324.out; have hcz7_0 : w5.cell? ⟨gb324, 0, none⟩ = some (.int .u64 a1_0) := (blk_cell BK324.out 0).trans rfl; have hcz7_1 : w5.cell? ⟨gb324, 1, none⟩ = some (.int .u64 a1_1) := (blk_cell BK324.out 1).trans rfl; have hfz7_0 := blk_frozen BK324.out 0; have hfz7_1 := blk_frozen BK324.out 1; have hcz8_0 : w5.cell? ⟨gb323, 0, none⟩ = some (.int .u64 a0_0) := (blk_cell BK323.out 0).trans rfl; have hcz8_1 : w5.cell? ⟨gb323, 1, none⟩ = some (.int .u64 a0_1) := (blk_cell BK323.out 1).trans rfl; have hfz8_0 := blk_frozen BK323.out 0; have hfz8_1 := blk_frozen BK323.out 1))
  go_ret
  exact ⟨by first | rfl | (simp [errW_none, errW_some] <;> rfl) | (simp [*, errW_none, errW_some] <;> rfl), bsL HB.out⟩
 ·
  rw [if_neg c3] at H
  have c3b0 : ((Go.bits .andNot .u64 a1_0 a0_0) == 0) = false := beq_eq_false_iff_ne.mpr c3
  have c3b1 : ((Go.bits .andNot .u64 a1_0 a0_0) != 0) = true := bne_iff_ne.mpr c3
  obtain rfl := Option.some.inj H
  go_enter Try.func87, Try.ntmps87
  go_wp2_with (first | ((with_reducible refine gate_dst (N := 2) rfl ?_); refine box_event ?hg (N := 2) ?hd (cs := #[.int .u64 a0_0, .int .u64 a0_1]) (t := 110) ?hr ?_; (case hd => rfl); (case hg => rfl); (case hr => first | (go_simp; done) | (go_simp; rfl)); intro gb323 hg w9 hbox hb; have n0_ := bsB HB.out hb; have n1_ := Aside0.mk (hbox); have n2_ := szB hg HB.out; have n3_ := szB hg HB.out; clear HB; have HB := n0_; have BK323 := n1_; have GW323 := n2_; have GE323 := n3_; clear n0_ n1_ n2_ n3_; clear hb hbox hg) | ((with_reducible refine gate_dst (N := 3) rfl ?_); refine box_event ?hg (N := 3) ?hd (cs := #[.int .u64 a1_0, .int .u64 a1_1]) (t := 110) ?hr ?_; (case hd => rfl); (case hg => rfl); (case hr => first | (go_simp; done) | (go_simp; rfl)); intro gb324 hg w10 hbox hb; have n0_ := bkB BK323.out hb; have n1_ := bsB HB.out hb; have n2_ := Aside0.mk (hbox); have n3_ := szB hg HB.out; have n4_ := szB hg HB.out; have n5_ := Aside0.mk ((by rw [hg]; exact Nat.ne_of_lt (blk_lt (g := gb323) (o := .cells #[.int .u64 a0_0, .int .u64 a0_1] 110 (0, 0)) (by exact bfL BK323.out)) : gb323 ≠ gb324)); have n6_ := Aside0.mk ((by rw [hg]; exact Nat.ne_of_gt (blk_lt (g := gb323) (o := .cells #[.int .u64 a0_0, .int .u64 a0_1] 110 (0, 0)) (by exact bfL BK323.out)) : gb324 ≠ gb323)); clear BK323; clear HB; have BK323 := n0_; have HB := n1_; have BK324 := n2_; have GW324 := n3_; have GE324 := n4_; have NB323_324 := n5_; have NB324_323 := n6_; clear n0_ n1_ n2_ n3_ n4_ n5_ n6_; clear hb hbox hg; have hnb11 := NB324_323.out; have hnc11 := NB323_324.out; have hcz12_0 : w10.cell? ⟨gb324, 0, none⟩ = some (.int .u64 a1_0) := (blk_cell BK324.out 0).trans rfl; have hcz12_1 : w10.cell? ⟨gb324, 1, none⟩ = some (.int .u64 a1_1) := (blk_cell BK324.out 1).trans rfl; have hfz12_0 := blk_frozen BK324.out 0; have hfz12_1 := blk_frozen BK324.out 1; have hcz13_0 : w10.cell? ⟨gb323, 0, none⟩ = some (.int .u64 a0_0) := (blk_cell BK323.out 0).trans rfl; have hcz13_1 : w10.cell? ⟨gb323, 1, none⟩ = some (.int .u64 a0_1) := (blk_cell BK323.out 1).trans rfl; have hfz13_0 := blk_frozen BK323.out 0; have hfz13_1 := blk_frozen BK323.out 1))
  go_ret
  exact ⟨by first | rfl | (simp [errW_none, errW_some] <;> rfl) | (simp [*, errW_none, errW_some] <;> rfl), bsL HB.out⟩

/-! ### interval_Leq: function 88 -/
def interval_Leq.f (a0_0 : Int) (a0_1 : Int) (a0_2 : Int) (a0_3 : Int) (a1_0 : Int) (a1_1 : Int) (a1_2 : Int) (a1_3 : Int) : Option (Bool) := if a0_0 ≥ a1_0 then (if a0_1 ≤ a1_1 then (if a0_2 ≥ a1_2 then (some (decide (a0_3 ≤ a1_3))) else (some false)) else (some false)) else (some false)
set_option maxHeartbeats 8000000 in
set_option maxRecDepth 100000 in
theorem interval_Leq.calls (a0_0 : Int) (a0_1 : Int) (a0_2 : Int) (a0_3 : Int) (a1_0 : Int) (a1_1 : Int) (a1_2 : Int) (a1_3 : Int) (r : Bool) (w : World) (h : interval_Leq.f a0_0 a0_1 a0_2 a0_3 a1_0 a1_1 a1_2 a1_3 = some r) :
  Calls Try.prog 88 #[.agg #[.int .u64 a0_0, .int .u64 a0_1, .int .i64 a0_2, .int .i64 a0_3], .agg #[.int .u64 a1_0, .int .u64 a1_1, .int .i64 a1_2, .int .i64 a1_3]] w fun e w' => e = .returned (.bool r) ∧ Below w.heap.size w w' := by
 have hu30 := Try.underlying30
 have HB := Aside0.mk (Below.refl w.heap.size w)
 have H : (if a0_0 ≥ a1_0 then (if a0_1 ≤ a1_1 then (if a0_2 ≥ a1_2 then (some (decide (a0_3 ≤ a1_3))) else (some false)) else (some false)) else (some false)) = some r := h
 clear h
 by_cases c3 : a0_0 ≥ a1_0
 ·
  rw [if_pos c3] at H
  have c3b0 : decide (a1_0 ≤ a0_0) = true := decide_eq_true c3
  clear c3
  by_cases c4 : a0_1 ≤ a1_1
  ·
   rw [if_pos c4] at H
   have c4b0 : decide (a0_1 ≤ a1_1) = true := decide_eq_true c4
   clear c4
   by_cases c5 : a0_2 ≥ a1_2
   ·
    rw [if_pos c5] at H
    have c5b0 : decide (a1_2 ≤ a0_2) = true := decide_eq_true c5
    clear c5
    obtain rfl := Option.some.inj H
    go_enter Try.func88, Try.ntmps88
    go_wp2_with (first | ((with_reducible refine gate_dst (N := 2) rfl ?_); refine box_event ?hg (N := 2) ?hd (cs := #[.int .u64 a0_0, .int .u64 a0_1, .int .i64 a0_2, .int .i64 a0_3]) (t := 30) ?hr ?_; (case hd => rfl); (case hg => rfl); (case hr => first | (go_simp; done) | (go_simp; rfl)); intro gb325 hg w6 hbox hb; have n0_ := bsB HB.out hb; have n1_ := Aside0.mk (hbox); have n2_ := szB hg HB.out; have n3_ := szB hg HB.out; clear HB; have HB := n0_; have BK325 := n1_; have GW325 := n2_; have GE325 := n3_; clear n0_ n1_ n2_ n3_; clear hb hbox hg) | ((with_reducible refine gate_dst (N := 3) rfl ?_); refine box_event ?hg (N := 3) ?hd (cs := #[.int .u64 a1_0, .int .u64 a1_1, .int .i64 a1_2, .int .i64 a1_3]) (t := 30) ?hr ?_; (case hd => rfl); (case hg => rfl); (case hr => first | (go_simp; done) | (go_simp; rfl)); intro gb326 hg w7 hbox hb; have n0_ := bkB BK325.out hb; have n1_ := bsB HB.out hb; have n2_ := Aside0.mk (hbox); have n3_ := szB hg HB.out; have n4_ := szB hg HB.out; have n5_ := Aside0.mk ((by rw [hg]; exact Nat.ne_of_lt (blk_lt (g := gb325) (o := .cells #[.int .u64 a0_0, .int .u64 a0_1, .int .i64 a0_2, .int .i64 a0_3] 30 (0, 0)) (by exact bfL BK325.out)) : gb325 ≠ gb326)); have n6_ := Aside0.mk ((by rw [hg]; exact Nat.ne_of_gt (blk_lt (g := gb325) (o := .cells #[.int .u64 a0_0, .int .u64 a0_1, .int .i64 a0_2, .int .i64 a0_3] 30 (0, 0)) (by exact bfL BK325.out)) : gb326 ≠ gb325)); clear BK325; clear HB; have BK325 := n0_; have HB := n1_; have BK326 := n2_; have GW326 := n3_; have GE326 := n4_; have NB325_326 := n5_; have NB326_325 := n6_; clear n0_ n1_ n2_ n3_ n4_ n5_ n6_; clear hb hbox hg; have hnb8 := NB325_326.out; have hnc8 := NB326_325.out; have hcz9_0 : w7.cell? ⟨gb325, 0, none⟩ = some (.int .u64 a0_0) := (blk_cell BK325.out 0).trans rfl; have hcz9_1 : w7.cell? ⟨gb325, 1, none⟩ = some (.int .u64 a0_1) := (blk_cell BK325.out 1).trans rfl; have hcz9_2 : w7.cell? ⟨gb325, 2, none⟩ = some (.int .i64 a0_2) := (blk_cell BK325.out 2).trans rfl; have hcz9_3 : w7.cell? ⟨gb325, 3, none⟩ = some (.int .i64 a0_3) := (blk_cell BK325.out 3).trans rfl; have hfz9_0 := blk_frozen BK325.out 0; have hfz9_1 := blk_frozen BK325.out 1; have hfz9_2 := blk_frozen BK325.out 2; have hfz9_3 := blk_frozen BK325.out 3; have hcz10_0 : w7.cell? ⟨gb326, 0, none⟩ = some (.int .u64 a1_0) := (blk_cell BK326.out 0).trans rfl; have hcz10_1 : w7.cell? ⟨gb326, 1, none⟩ = some (.int .u64 a1_1) := (blk_cell BK326.out 1).trans rfl; have hcz10_2 : w7.cell? ⟨gb326, 2, none⟩ = some (.int .i64 a1_2) := (blk_cell BK326.out 2).trans rfl; have hcz10_3 : w7.cell? ⟨gb326, 3, none⟩ = some (.int .i64 a1_3) := (blk_cell BK326.out 3).trans rfl; have hfz10_0 := blk_frozen BK326.out 0; have hfz10_1 := blk_frozen BK326.out 1; have hfz10_2 := blk_frozen BK326.out 2; have hfz10_3 := blk_frozen BK326.out 3))
    go_ret
    exact ⟨by first | rfl | (simp [errW_none, errW_some] <;> rfl) | (simp [*, errW_none, errW_some] <;> rfl), bsL HB.out⟩
   ·
    rw [if_neg c5] at H
    have c5b0 : decide (a1_2 ≤ a0_2) = false := decide_eq_false c5
    clear c5
    obtain rfl := Option.some.inj H
    go_enter Try.func88, Try.ntmps88
    go_wp2_with (first | ((with_reducible refine gate_dst (N := 2) rfl ?_); refine box_event ?hg (N := 2) ?hd (cs := #[.int .u64 a0_0, .int .u64 a0_1, .int .i64 a0_2, .int .i64 a0_3]) (t := 30) ?hr ?_; (case hd => rfl); (case hg => rfl); (case hr => first | (go_simp; done) | (go_simp; rfl)); intro gb325 hg w11 hbox hb; have n0_ := bsB HB.out hb; have n1_ := Aside0.mk (hbox); have n2_ := szB hg HB.out; have n3_ := szB hg HB.out; clear HB; have HB := n0_; have BK325 := n1_; have GW325 := n2_; have GE325 := n3_; clear n0_ n1_ n2_ n3_; clear hb hbox hg) | ((with_reducible refine gate_dst (N := 3) rfl ?_); refine box_event ?hg (N := 3) ?hd (cs := #[.int .u64 a1_0, .int .u64 a1_1, .int .i64 a1_2, .int .i64 a1_3]) (t := 30) ?hr ?_; (case hd => rfl); (case hg => rfl); (case hr => first | (go_simp; done) | (go_simp; rfl)); intro gb326 hg w12 hbox hb; have n0_ := bkB BK325.out hb; have n1_ := bsB HB.out hb; have n2_ := Aside0.mk (hbox); have n3_ := szB hg HB.out; have n4_ := szB hg HB.out; have n5_ := Aside0.mk ((by rw [hg]; exact Nat.ne_of_lt (blk_lt (g := gb325) (o := .cells #[.int .u64 a0_0, .int .u64 a0_1, .int .i64 a0_2, .int .i64 a0_3] 30 (0, 0)) (by exact bfL BK325.out)) : gb325 ≠ gb326)); have n6_ := Aside0.mk ((by rw [hg]; exact Nat.ne_of_gt (blk_lt (g := gb325) (o := .cells #[.int .u64 a0_0, .int .u64 a0_1, .int .i64 a0_2, .int .i64 a0_3] 30 (0, 0)) (by exact bfL BK325.out)) : gb326 ≠ gb325)); clear BK325; clear HB; have BK325 := n0_; have HB := n1_; have BK326 := n2_; have GW326 := n3_; have GE326 := n4_; have NB325_326 := n5_; have NB326_325 := n6_; clear n0_ n1_ n2_ n3_ n4_ n5_ n6_; clear hb hbox hg; have hnb13 := NB325_326.out; have hnc13 := NB326_325.out; have hcz14_0 : w12.cell? ⟨gb325, 0, none⟩ = some (.int .u64 a0_0) := (blk_cell BK325.out 0).trans rfl; have hcz14_1 : w12.cell? ⟨gb325, 1, none⟩ = some (.int .u64 a0_1) := (blk_cell BK325.out 1).trans rfl; have hcz14_2 : w12.cell? ⟨gb325, 2, none⟩ = some (.int .i64 a0_2) := (blk_cell BK325.out 2).trans rfl; have hcz14_3 : w12.cell? ⟨gb325, 3, none⟩ = some (.int .i64 a0_3) := (blk_cell BK325.out 3).trans rfl; have hfz14_0 := blk_frozen BK325.out 0; have hfz14_1 := blk_frozen BK325.out 1; have hfz14_2 := blk_frozen BK325.out 2; have hfz14_3 := blk_frozen BK325.out 3; have hcz15_0 : w12.cell? ⟨gb326, 0, none⟩ = some (.int .u64 a1_0) := (blk_cell BK326.out 0).trans rfl; have hcz15_1 : w12.cell? ⟨gb326, 1, none⟩ = some (.int .u64 a1_1) := (blk_cell BK326.out 1).trans rfl; have hcz15_2 : w12.cell? ⟨gb326, 2, none⟩ = some (.int .i64 a1_2) := (blk_cell BK326.out 2).trans rfl; have hcz15_3 : w12.cell? ⟨gb326, 3, none⟩ = some (.int .i64 a1_3) := (blk_cell BK326.out 3).trans rfl; have hfz15_0 := blk_frozen BK326.out 0; have hfz15_1 := blk_frozen BK326.out 1; have hfz15_2 := blk_frozen BK326.out 2; have hfz15_3 := blk_frozen BK326.out 3))
    go_ret
    exact ⟨by first | rfl | (simp [errW_none, errW_some] <;> rfl) | (simp [*, errW_none, errW_some] <;> rfl), bsL HB.out⟩
  ·
   rw [if_neg c4] at H
   have c4b0 : decide (a0_1 ≤ a1_1) = false := decide_eq_false c4
   clear c4
   obtain rfl := Option.some.inj H
   go_enter Try.func88, Try.ntmps88
   go_wp2_with (first | ((with_reducible refine gate_dst (N := 2) rfl ?_); refine box_event ?hg (N := 2) ?hd (cs := #[.int .u64 a0_0, .int .u64 a0_1, .int .i64 a0_2, .int .i64 a0_3]) (t := 30) ?hr ?_; (case hd => rfl); (case hg => rfl); (case hr => first | (go_simp; done) | (go_simp; rfl)); intro gb325 hg w16 hbox hb; have n0_ := bsB HB.out hb; have n1_ := Aside0.mk (hbox); have n2_ := szB hg HB.out; have n3_ := szB hg HB.out; clear HB; have HB := n0_; have BK325 := n1_; have GW325 := n2_; have GE325 := n3_; clear n0_ n1_ n2_ n3_; clear hb hbox hg) | ((with_reducible refine gate_dst (N := 3) rfl ?_); refine box_event ?hg (N := 3) ?hd (cs := #[.int .u64 a1_0, .int .u64 a1_1, .int .i64 a1_2, .int .i64 a1_3]) (t := 30) ?hr ?_; (case hd => rfl); (case hg => rfl); (case hr => first | (go_simp; done) | (go_simp; rfl)); intro gb326 hg w17 hbox hb; have n0_ := bkB BK325.out hb; have n1_ := bsB HB.out hb; have n2_ := Aside0.mk (hbox); have n3_ := szB hg HB.out; have n4_ := szB hg HB.out; have n5_ := Aside0.mk ((by rw [hg]; exact Nat.ne_of_lt (blk_lt (g := gb325) (o := .cells #[.int .u64 a0_0, .int .u64 a0_1, .int .i64 a0_2, .int .i64 a0_3] 30 (0, 0)) (by exact bfL BK325.out)) : gb325 ≠ gb326)); have n6_ := Aside0.mk ((by rw [hg]; exact Nat.ne_of_gt (blk_lt (g := gb325) (o := .cells #[.int .u64 a0_0, .int .u64 a0_1, .int .i64 a0_2, .int .i64 a0_3] 30 (0, 0)) (by exact bfL BK325.out)) : gb326 ≠ gb325)); clear BK325; clear HB; have BK325 := n0_; have HB := n1_; have BK326 := n2_; have GW326 := n3_; have GE326 := n4_; have NB325_326 := n5_; have NB326_325 := n6_; clear n0_ n1_ n2_ n3_ n4_ n5_ n6_; clear hb hbox hg; have hnb18 := NB325_326.out; have hnc18 := NB326_325.out; have hcz19_0 : w17.cell? ⟨gb325, 0, none⟩ = some (.int .u64 a0_0) := (blk_cell BK325.out 0).trans rfl; have hcz19_1 : w17.cell? ⟨gb325, 1, none⟩ = some (.int .u64 a0_1) := (blk_cell BK325.out 1).trans rfl; have hcz19_2 : w17.cell? ⟨gb325, 2, none⟩ = some (.int .i64 a0_2) := (blk_cell BK325.out 2).trans rfl; have hcz19_3 : w17.cell? ⟨gb325, 3, none⟩ = some (.int .i64 a0_3) := (blk_cell BK325.out 3).trans rfl; have hfz19_0 := blk_frozen BK325.out 0; have hfz19_1 := blk_frozen BK325.out 1; have hfz19_2 := blk_frozen BK325.out 2; have hfz19_3 := blk_frozen BK325.out 3; have hcz20_0 : w17.cell? ⟨gb326, 0, none⟩ = some (.int .u64 a1_0) := (blk_cell BK326.out 0).trans rfl; have hcz20_1 : w17.cell? ⟨gb326, 1, none⟩ = some (.int .u64 a1_1) := (blk_cell BK326.out 1).trans rfl; have hcz20_2 : w17.cell? ⟨gb326, 2, none⟩ = some (.int .i64 a1_2) := (blk_cell BK326.out 2).trans rfl; have hcz20_3 : w17.cell? ⟨gb326, 3, none⟩ = some (.int .i64 a1_3) := (blk_cell BK326.out 3).trans rfl; have hfz20_0 := blk_frozen BK326.out 0; have hfz20_1 := blk_frozen BK326.out 1; have hfz20_2 := blk_frozen BK326.out 2; have hfz20_3 := blk_frozen BK326.out 3))
   go_ret
   exact ⟨by first | rfl | (simp [errW_none, errW_some] <;> rfl) | (simp [*, errW_none, errW_some] <;> rfl), bsL HB.out⟩
 ·
  rw [if_neg c3] at H
  have c3b0 : decide (a1_0 ≤ a0_0) = false := decide_eq_false c3
  clear c3
  obtain rfl := Option.some.inj H
  go_enter Try.func88, Try.ntmps88
  go_wp2_with (first | ((with_reducible refine gate_dst (N := 2) rfl ?_); refine box_event ?hg (N := 2) ?hd (cs := #[.int .u64 a0_0, .int .u64 a0_1, .int .i64 a0_2, .int .i64 a0_3]) (t := 30) ?hr ?_; (case hd => rfl); (case hg => rfl); (case hr => first | (go_simp; done) | (go_simp; rfl)); intro gb325 hg w21 hbox hb; have n0_ := bsB HB.out hb; have n1_ := Aside0.mk (hbox); have n2_ := szB hg HB.out; have n3_ := szB hg HB.out; clear HB; have HB := n0_; have BK325 := n1_; have GW325 := n2_; have GE325 := n3_; clear n0_ n1_ n2_ n3_; clear hb hbox hg) | ((with_reducible refine gate_dst (N := 3) rfl ?_); refine box_event ?hg (N := 3) ?hd (cs := #[.int .u64 a1_0, .int .u64 a1_1, .int .i64 a1_2, .int .i64 a1_3]) (t := 30) ?hr ?_; (case hd => rfl); (case hg => rfl); (case hr => first | (go_simp; done) | (go_simp; rfl)); intro gb326 hg w22 hbox hb; have n0_ := bkB BK325.out hb; have n1_ := bsB HB.out hb; have n2_ := Aside0.mk (hbox); have n3_ := szB hg HB.out; have n4_ := szB hg HB.out; have n5_ := Aside0.mk ((by rw [hg]; exact Nat.ne_of_lt (blk_lt (g := gb325) (o := .cells #[.int .u64 a0_0, .int .u64 a0_1, .int .i64 a0_2, .int .i64 a0_3] 30 (0, 0)) (by exact bfL BK325.out)) : gb325 ≠ gb326)); have n6_ := Aside0.mk ((by rw [hg]; exact Nat.ne_of_gt (blk_lt (g := gb325) (o := .cells #[.int .u64 a0_0, .int .u64 a0_1, .int .i64 a0_2, .int .i64 a0_3] 30 (0, 0)) (by exact bfL BK325.out)) : gb326 ≠ gb325)); clear BK325; clear HB; have BK325 := n0_; have HB := n1_; have BK326 := n2_; have GW326 := n3_; have GE326 := n4_; have NB325_326 := n5_; have NB326_325 := n6_; clear n0_ n1_ n2_ n3_ n4_ n5_ n6_; clear hb hbox hg; have hnb23 := NB325_326.out; have hnc23 := NB326_325.out; have hcz24_0 : w22.cell? ⟨gb325, 0, none⟩ = some (.int .u64 a0_0) := (blk_cell BK325.out 0).trans rfl; have hcz24_1 : w22.cell? ⟨gb325, 1, none⟩ = some (.int .u64 a0_1) := (blk_cell BK325.out 1).trans rfl; have hcz24_2 : w22.cell? ⟨gb325, 2, none⟩ = some (.int .i64 a0_2) := (blk_cell BK325.out 2).trans rfl; have hcz24_3 : w22.cell? ⟨gb325, 3, none⟩ = some (.int .i64 a0_3) := (blk_cell BK325.out 3).trans rfl; have hfz24_0 := blk_frozen BK325.out 0; have hfz24_1 := blk_frozen BK325.out 1; have hfz24_2 := blk_frozen BK325.out 2; have hfz24_3 := blk_frozen BK325.out 3; have hcz25_0 : w22.cell? ⟨gb326, 0, none⟩ = some (.int .u64 a1_0) := (blk_cell BK326.out 0).trans rfl; have hcz25_1 : w22.cell? ⟨gb326, 1, none⟩ = some (.int .u64 a1_1) := (blk_cell BK326.out 1).trans rfl; have hcz25_2 : w22.cell? ⟨gb326, 2, none⟩ = some (.int .i64 a1_2) := (blk_cell BK326.out 2).trans rfl; have hcz25_3 : w22.cell? ⟨gb326, 3, none⟩ = some (.int .i64 a1_3) := (blk_cell BK326.out 3).trans rfl; have hfz25_0 := blk_frozen BK326.out 0; have hfz25_1 := blk_frozen BK326.out 1; have hfz25_2 := blk_frozen BK326.out 2; have hfz25_3 := blk_frozen BK326.out 3))
  go_ret
  exact ⟨by first | rfl | (simp [errW_none, errW_some] <;> rfl) | (simp [*, errW_none, errW_some] <;> rfl), bsL HB.out⟩

end Go.Proofs.Ytbiohdgeclokmaa.P
