-- made by a program of this work (wip/mkprint.py, wip/mp.sh) out of the translation
import Derived.Test.YtanmehdcccldfaaPx0
import Derived.Test.YtanmehdcccldfaaPx2
import Derived.Test.YtanmehdcccldfaaPx11
namespace Go.Proofs.Ytanmehdcccldfaa.P
open Go.RowKit Go.Proofs.YtanmehdcccldfaaW.PrintWords Go.Proofs.YtanmehdcccldfaaW.PrintLast Go.Proofs.YtanmehdcccldfaaW.PrintMore
attribute [local go_sem] max2_int min2_int max_two min_two max_three min_three max_four min_four   -- for this text's walks alone
set_option linter.unusedVariables false
set_option linter.unusedSimpArgs false

/-! ### bits_IsBinary: function 63 -/
def bits_IsBinary.f (a0 : Int) : Option (Bool) := if a0 ≥ 2 then (some (decide (a0 ≤ 20))) else (some false)
set_option maxHeartbeats 8000000 in
set_option maxRecDepth 100000 in
theorem bits_IsBinary.calls (a0 : Int) (r : Bool) (w : World) (h : bits_IsBinary.f a0 = some r) :
  Calls Try.prog 63 #[.int .i64 a0] w fun e w' => e = .returned (.bool r) ∧ Drawn0 w w' := by
 have H : (if a0 ≥ 2 then (some (decide (a0 ≤ 20))) else (some false)) = some r := h
 clear h
 by_cases c2 : a0 ≥ 2
 ·
  rw [if_pos c2] at H
  have c2b0 : decide (2 ≤ a0) = true := decide_eq_true c2
  clear c2
  obtain rfl := Option.some.inj H
  go_enter Try.func63, Try.ntmps63
  go_wp2
  go_ret
  exact ⟨by first | rfl | (simp; done) | (simp [*]; done), by repeat (first | exact Drawn0.refl _ | apply Drawn0.step)⟩
 ·
  rw [if_neg c2] at H
  have c2b0 : decide (2 ≤ a0) = false := decide_eq_false c2
  clear c2
  obtain rfl := Option.some.inj H
  go_enter Try.func63, Try.ntmps63
  go_wp2
  go_ret
  exact ⟨by first | rfl | (simp; done) | (simp [*]; done), by repeat (first | exact Drawn0.refl _ | apply Drawn0.step)⟩

/-! ### bits_signed: function 95 -/
def bits_signed.f (a0 : Int) (a1 : Int) (a2 : Int) : Option (Int × Int) := (bits_Signed.f a0 a1).bind fun t310 => ((bits_Signed.f a0 a2).bind fun t311 => (if t311 = 0 then ((bits_Mask.f a0).bind fun t312 => (some (t312, a1))) else (if t311 = (-1) then ((bits_Fit.f a0 (IntKind.u64.wrap (-a1))).bind fun t313 => (some (t313, 0))) else ((bits_From.f a0 (wrap64 (Int.tdiv t310 t311))).bind fun t314 => ((bits_From.f a0 (Int.tmod t310 t311)).bind fun t315 => (some (t314, t315)))))))
def bits_signed.T7 : Bool × List (List Nat × List Nat) := (true, [([], []), ([], []), ([], []), ([1, 2], [1, 2]), ([0, 3], [0, 3]), ([], []), ([], []), ([], []), ([6, 7], [6, 7]), ([5, 8, 4], [5, 8]), ([4, 9, 0, 1, 2, 3, 4], [4]), ([9, 10, 0, 1, 2, 3, 4, 5, 6, 7, 8, 9, 10], [9])])
def bits_signed.B7 : List Nat := [0, 0, 0, 6, 15, 0, 0, 0, 192, 511, 1023, 2047]
theorem bits_signed.tab7 : rtab .any (opsOf Try.f95 7) = bits_signed.T7 := by kernel_rfl
theorem bits_signed.bits7 : waitsOk bits_signed.T7.2 bits_signed.B7 = true := by kernel_rfl
set_option maxHeartbeats 8000000 in
set_option maxRecDepth 100000 in
theorem bits_signed.calls (a0 : Int) (a1 : Int) (a2 : Int) (r1 : Int) (r2 : Int) (w : World) (h : bits_signed.f a0 a1 a2 = some (r1, r2)) :
  Calls Try.prog 95 #[.int .i64 a0, .int .u64 a1, .int .u64 a2] w fun e w' => e = .returned (.tuple #[.int .u64 r1, .int .u64 r2]) ∧ Below w.heap.size w w' := by
 have HB := Aside0.mk (Below.refl w.heap.size w)
 have H : ((bits_Signed.f a0 a1).bind fun t310 => ((bits_Signed.f a0 a2).bind fun t311 => (if t311 = 0 then ((bits_Mask.f a0).bind fun t312 => (some (t312, a1))) else (if t311 = (-1) then ((bits_Fit.f a0 (IntKind.u64.wrap (-a1))).bind fun t313 => (some (t313, 0))) else ((bits_From.f a0 (wrap64 (Int.tdiv t310 t311))).bind fun t314 => ((bits_From.f a0 (Int.tmod t310 t311)).bind fun t315 => (some (t314, t315)))))))) = some (r1, r2) := h
 clear h
 replace H := Option.bind_eq_some_iff.mp H
 obtain ⟨t310, A40, H⟩ := H
 replace H : ((bits_Signed.f a0 a2).bind fun t311 => (if t311 = 0 then ((bits_Mask.f a0).bind fun t312 => (some (t312, a1))) else (if t311 = (-1) then ((bits_Fit.f a0 (IntKind.u64.wrap (-a1))).bind fun t313 => (some (t313, 0))) else ((bits_From.f a0 (wrap64 (Int.tdiv t310 t311))).bind fun t314 => ((bits_From.f a0 (Int.tmod t310 t311)).bind fun t315 => (some (t314, t315))))))) = some (r1, r2) := H
 have A4 := Aside0.mk A40
 clear A40
 replace H := Option.bind_eq_some_iff.mp H
 obtain ⟨t311, A50, H⟩ := H
 replace H : (if t311 = 0 then ((bits_Mask.f a0).bind fun t312 => (some (t312, a1))) else (if t311 = (-1) then ((bits_Fit.f a0 (IntKind.u64.wrap (-a1))).bind fun t313 => (some (t313, 0))) else ((bits_From.f a0 (wrap64 (Int.tdiv t310 t311))).bind fun t314 => ((bits_From.f a0 (Int.tmod t310 t311)).bind fun t315 => (some (t314, t315)))))) = some (r1, r2) := H
 have A5 := Aside0.mk A50
 clear A50
 by_cases c6 : t311 = 0
 ·
  rw [if_pos c6] at H
  have c6b0 : (t311 == 0) = true := beq_iff_eq.mpr c6
  have c6b1 : (t311 != 0) = false := bne_eq_false_iff_eq.mpr c6
  clear c6
  replace H := Option.bind_eq_some_iff.mp H
  obtain ⟨t312, A70, H⟩ := H
  replace H : (some (t312, a1)) = some (r1, r2) := H
  have A7 := Aside0.mk A70
  clear A70
  simp only [Option.some.injEq, Prod.mk.injEq] at H
  obtain ⟨rfl, rfl⟩ := H
  go_enter Try.func95, Try.ntmps95
  go_wp2_with (first | ((with_reducible refine gate_callee (f := 49) rfl ?_); refine gL (some 12) Try.func49 #[.int .i64 a0, .int .u64 a1] ?_; (with_reducible refine (bits_Signed.calls a0 a1 t310 _ A4.out).mono ?_); rintro e w8 ⟨rfl, hb⟩; refine ⟨_, rfl, ?_⟩; replace HB := bsB HB.out hb; (try clear hb)) | ((with_reducible refine gate_callee (f := 49) rfl ?_); refine gL (some 15) Try.func49 #[.int .i64 a0, .int .u64 a2] ?_; (with_reducible refine (bits_Signed.calls a0 a2 t311 _ A5.out).mono ?_); rintro e w9 ⟨rfl, hb⟩; refine ⟨_, rfl, ?_⟩; replace HB := bsB HB.out hb; (try clear hb)) | ((with_reducible refine gate_callee (f := 48) rfl ?_); refine gL (some 20) Try.func48 #[.int .i64 a0] ?_; (with_reducible refine (bits_Mask.calls a0 t312 _ A7.out).mono ?_); rintro e w10 ⟨rfl, hb⟩; refine ⟨_, rfl, ?_⟩; replace HB := bsB HB.out hb; (try clear hb)))
  go_ret2
  exact ⟨by first | rfl | (simp [errW_none, errW_some] <;> rfl) | (simp [*, errW_none, errW_some] <;> rfl), bsL HB.out⟩
 ·
  rw [if_neg c6] at H
  have c6b0 : (t311 == 0) = false := beq_eq_false_iff_ne.mpr c6
  have c6b1 : (t311 != 0) = true := bne_iff_ne.mpr c6
  by_cases c11 : t311 = (-1)
  ·
   rw [if_pos c11] at H
   have c11b0 : (t311 == (-1)) = true := beq_iff_eq.mpr c11
   have c11b1 : (t311 != (-1)) = false := bne_eq_false_iff_eq.mpr c11
   clear c11
   replace H := Option.bind_eq_some_iff.mp H
   obtain ⟨t313, A120, H⟩ := H
   replace H : (some (t313, 0)) = some (r1, r2) := H
   have A12 := Aside0.mk A120
   clear A120
   simp only [Option.some.injEq, Prod.mk.injEq] at H
   obtain ⟨rfl, rfl⟩ := H
   go_enter Try.func95, Try.ntmps95
   go_wp2_with (first | ((with_reducible refine gate_callee (f := 49) rfl ?_); refine gL (some 12) Try.func49 #[.int .i64 a0, .int .u64 a1] ?_; (with_reducible refine (bits_Signed.calls a0 a1 t310 _ A4.out).mono ?_); rintro e w13 ⟨rfl, hb⟩; refine ⟨_, rfl, ?_⟩; replace HB := bsB HB.out hb; (try clear hb)) | ((with_reducible refine gate_callee (f := 49) rfl ?_); refine gL (some 15) Try.func49 #[.int .i64 a0, .int .u64 a2] ?_; (with_reducible refine (bits_Signed.calls a0 a2 t311 _ A5.out).mono ?_); rintro e w14 ⟨rfl, hb⟩; refine ⟨_, rfl, ?_⟩; replace HB := bsB HB.out hb; (try clear hb)) | ((with_reducible refine gate_callee (f := 47) rfl ?_); refine gL (some 27) Try.func47 #[.int .i64 a0, .int .u64 (IntKind.u64.wrap (-a1))] ?_; (with_reducible refine (bits_Fit.calls a0 (IntKind.u64.wrap (-a1)) t313 _ A12.out).mono ?_); rintro e w15 ⟨rfl, hb⟩; refine ⟨_, rfl, ?_⟩; replace HB := bsB HB.out hb; (try clear hb)))
   go_ret2
   exact ⟨by first | rfl | (simp [errW_none, errW_some] <;> rfl) | (simp [*, errW_none, errW_some] <;> rfl), bsL HB.out⟩
  ·
   rw [if_neg c11] at H
   have c11b0 : (t311 == (-1)) = false := beq_eq_false_iff_ne.mpr c11
   have c11b1 : (t311 != (-1)) = true := bne_iff_ne.mpr c11
   replace H := Option.bind_eq_some_iff.mp H
   obtain ⟨t314, A160, H⟩ := H
   replace H : ((bits_From.f a0 (Int.tmod t310 t311)).bind fun t315 => (some (t314, t315))) = some (r1, r2) := H
   have A16 := Aside0.mk A160
   clear A160
   replace H := Option.bind_eq_some_iff.mp H
   obtain ⟨t315, A170, H⟩ := H
   replace H : (some (t314, t315)) = some (r1, r2) := H
   have A17 := Aside0.mk A170
   clear A170
   simp only [Option.some.injEq, Prod.mk.injEq] at H
   obtain ⟨rfl, rfl⟩ := H
   go_enter Try.func95, Try.ntmps95
   try go_wp2_with (first | ((with_reducible refine gate_callee (f := 49) rfl ?_); refine gL (some 12) Try.func49 #[.int .i64 a0, .int .u64 a1] ?_; (with_reducible refine (bits_Signed.calls a0 a1 t310 _ A4.out).mono ?_); rintro e w18 ⟨rfl, hb⟩; refine ⟨_, rfl, ?_⟩; replace HB := bsB HB.out hb; (try clear hb)) | ((with_reducible refine gate_callee (f := 49) rfl ?_); refine gL (some 15) Try.func49 #[.int .i64 a0, .int .u64 a2] ?_; (with_reducible refine (bits_Signed.calls a0 a2 t311 _ A5.out).mono ?_); rintro e w19 ⟨rfl, hb⟩; refine ⟨_, rfl, ?_⟩; replace HB := bsB HB.out hb; (try clear hb)))
   have n0_ := Aside0.mk (below_drew1 HB.out)
   clear HB
   have HB := n0_
   clear n0_
   refine start_ (n := 12) (S := fun w' => True) (ds := []) (bA 12 0) (by kernel_rfl) rfl rfl trivial (fun hHeld => ?_); refine with_tabW bits_signed.tab7 bits_signed.bits7 (fun HT_ HW_ => ?_)
   generalize w19.drew = w20 at HB hHeld ⊢
   refine pureA HT_ (i := 0) (N := some 28) (bA 12 1) ?_
   refine pureA HT_ (i := 1) (N := some 29) (bA 12 3) ?_
   refine pureA HT_ (i := 2) (N := some 30) (bA 12 7) ?_
   refine pureA HT_ (i := 3) (N := some 31) (bA 12 15) ?_
   refine pureA HT_ (i := 5) (N := some 33) (bA 12 47) ?_
   refine pureA HT_ (i := 6) (N := some 34) (bA 12 111) ?_
   refine pureA HT_ (i := 7) (N := some 35) (bA 12 239) ?_
   refine pureA HT_ (i := 8) (N := some 36) (bA 12 495) ?_
   refine one_ (i := 4) (N := some 32) (bA 12 511) rfl rfl (one_of HT_.out (by kernel_rfl)) (by decide) (fun K hK => ?_)
   refine gO Try.func58 #[.int .i64 a0, .int .i64 (wrap64 (Int.tdiv t310 t311))] ?_
   with_reducible refine (bits_From.calls a0 (wrap64 (Int.tdiv t310 t311)) t314 _ A16.out).mono ?_
   rintro e w21 ⟨rfl, hb⟩
   refine ⟨_, rfl, ?_⟩
   have n0_ := bsB HB.out hb
   clear HB
   have HB := n0_
   clear n0_
   (try clear hb)
   (try clear hb2)
   (try clear hk)
   (try clear hi)
   refine hK.out _ _ trivial (fun hHeld => ?_)
   clear hK K
   refine norm_ (a' := ?_) ?_ ?_
   rotate_left
   ·
    show Act.put _ (some 32) _ = _
    simp only [Act.put, List.setIfInBounds_toArray, List.set_cons_zero, List.set_cons_succ, i64_w, i32_w]
    rfl
   refine one_ (i := 9) (N := some 37) (bA 12 1023) rfl rfl (one_of HT_.out (by kernel_rfl)) (by decide) (fun K hK => ?_)
   refine gO Try.func58 #[.int .i64 a0, .int .i64 (Int.tmod t310 t311)] ?_
   with_reducible refine (bits_From.calls a0 (Int.tmod t310 t311) t315 _ A17.out).mono ?_
   rintro e w22 ⟨rfl, hb⟩
   refine ⟨_, rfl, ?_⟩
   have n0_ := bsB HB.out hb
   clear HB
   have HB := n0_
   clear n0_
   (try clear hb)
   (try clear hb2)
   (try clear hk)
   (try clear hi)
   refine hK.out _ _ trivial (fun hHeld => ?_)
   clear hK K
   refine norm_ (a' := ?_) ?_ ?_
   rotate_left
   ·
    show Act.put _ (some 37) _ = _
    simp only [Act.put, List.setIfInBounds_toArray, List.set_cons_zero, List.set_cons_succ, i64_w, i32_w]
    rfl
   refine pureA HT_ (i := 10) (N := some 6) (bA 12 2047) ?_
   refine pureA HT_ (i := 11) (N := some 7) (bA 12 4095) ?_
   refine done_ (done_of HT_.out (by kernel_rfl)) ?_
   try go_wp2
   go_ret2
   exact ⟨by first | rfl | (simp [errW_none, errW_some] <;> rfl) | (simp [*, errW_none, errW_some] <;> rfl), bsL HB.out⟩

/-! ### bits_divide: function 75 -/
def bits_divide.f (a0 : Int) (a1 : Int) (a2 : Int) (a3 : Int) : Option (Int) := if a0 = 5 then (if a3 = 0 then ((bits_Mask.f a1).bind fun t316 => (some t316)) else (some (IntKind.u64.wrap (Int.tdiv a2 a3)))) else (if a0 = 6 then (if a3 = 0 then (some a2) else (some (Int.tmod a2 a3))) else ((bits_signed.f a1 a2 a3).bind fun bt317 => (if a0 = 7 then (some bt317.1) else (some bt317.2))))
set_option maxHeartbeats 8000000 in
set_option maxRecDepth 100000 in
theorem bits_divide.calls (a0 : Int) (a1 : Int) (a2 : Int) (a3 : Int) (r : Int) (w : World) (h : bits_divide.f a0 a1 a2 a3 = some r) :
  Calls Try.prog 75 #[.int .i64 a0, .int .i64 a1, .int .u64 a2, .int .u64 a3] w fun e w' => e = .returned (.int .u64 r) ∧ Below w.heap.size w w' := by
 have HB := Aside0.mk (Below.refl w.heap.size w)
 have H : (if a0 = 5 then (if a3 = 0 then ((bits_Mask.f a1).bind fun t316 => (some t316)) else (some (IntKind.u64.wrap (Int.tdiv a2 a3)))) else (if a0 = 6 then (if a3 = 0 then (some a2) else (some (Int.tmod a2 a3))) else ((bits_signed.f a1 a2 a3).bind fun bt317 => (if a0 = 7 then (some bt317.1) else (some bt317.2))))) = some r := h
 clear h
 by_cases c5 : a0 = 5
 ·
  rw [if_pos c5] at H
  have c5b0 : (a0 == 5) = true := beq_iff_eq.mpr c5
  have c5b1 : (a0 != 5) = false := bne_eq_false_iff_eq.mpr c5
  clear c5
  by_cases c6 : a3 = 0
  ·
   rw [if_pos c6] at H
   have c6b0 : (a3 == 0) = true := beq_iff_eq.mpr c6
   have c6b1 : (a3 != 0) = false := bne_eq_false_iff_eq.mpr c6
   clear c6
   replace H := Option.bind_eq_some_iff.mp H
   obtain ⟨t316, A70, H⟩ := H
   replace H : (some t316) = some r := H
   have A7 := Aside0.mk A70
   clear A70
   obtain rfl := Option.some.inj H
   go_enter Try.func75, Try.ntmps75
   go_wp2_with (first | ((with_reducible refine gate_callee (f := 48) rfl ?_); refine gL (some 17) Try.func48 #[.int .i64 a1] ?_; (with_reducible refine (bits_Mask.calls a1 t316 _ A7.out).mono ?_); rintro e w8 ⟨rfl, hb⟩; refine ⟨_, rfl, ?_⟩; replace HB := bsB HB.out hb; (try clear hb)))
   go_ret
   exact ⟨by first | rfl | (simp [errW_none, errW_some] <;> rfl) | (simp [*, errW_none, errW_some] <;> rfl), bsL HB.out⟩
  ·
   rw [if_neg c6] at H
   have c6b0 : (a3 == 0) = false := beq_eq_false_iff_ne.mpr c6
   have c6b1 : (a3 != 0) = true := bne_iff_ne.mpr c6
   obtain rfl := Option.some.inj H
   go_enter Try.func75, Try.ntmps75
   go_wp2
   go_ret
   exact ⟨by first | rfl | (simp [errW_none, errW_some] <;> rfl) | (simp [*, errW_none, errW_some] <;> rfl), bsL HB.out⟩
 ·
  rw [if_neg c5] at H
  have c5b0 : (a0 == 5) = false := beq_eq_false_iff_ne.mpr c5
  have c5b1 : (a0 != 5) = true := bne_iff_ne.mpr c5
  by_cases c9 : a0 = 6
  ·
   rw [if_pos c9] at H
   have c9b0 : (a0 == 6) = true := beq_iff_eq.mpr c9
   have c9b1 : (a0 != 6) = false := bne_eq_false_iff_eq.mpr c9
   clear c9
   by_cases c10 : a3 = 0
   ·
    rw [if_pos c10] at H
    have c10b0 : (a3 == 0) = true := beq_iff_eq.mpr c10
    have c10b1 : (a3 != 0) = false := bne_eq_false_iff_eq.mpr c10
    clear c10
    obtain rfl := Option.some.inj H
    go_enter Try.func75, Try.ntmps75
    go_wp2
    go_ret
    exact ⟨by first | rfl | (simp [errW_none, errW_some] <;> rfl) | (simp [*, errW_none, errW_some] <;> rfl), bsL HB.out⟩
   ·
    rw [if_neg c10] at H
    have c10b0 : (a3 == 0) = false := beq_eq_false_iff_ne.mpr c10
    have c10b1 : (a3 != 0) = true := bne_iff_ne.mpr c10
    obtain rfl := Option.some.inj H
    go_enter Try.func75, Try.ntmps75
    go_wp2
    go_ret
    exact ⟨by first | rfl | (simp [errW_none, errW_some] <;> rfl) | (simp [*, errW_none, errW_some] <;> rfl), bsL HB.out⟩
  ·
   rw [if_neg c9] at H
   have c9b0 : (a0 == 6) = false := beq_eq_false_iff_ne.mpr c9
   have c9b1 : (a0 != 6) = true := bne_iff_ne.mpr c9
   replace H := Option.bind_eq_some_iff.mp H
   obtain ⟨⟨t317, t318⟩, A110, H⟩ := H
   replace H : (if a0 = 7 then (some t317) else (some t318)) = some r := H
   have A11 := Aside0.mk A110
   clear A110
   by_cases c12 : a0 = 7
   ·
    rw [if_pos c12] at H
    have c12b0 : (a0 == 7) = true := beq_iff_eq.mpr c12
    have c12b1 : (a0 != 7) = false := bne_eq_false_iff_eq.mpr c12
    clear c12
    obtain rfl := Option.some.inj H
    go_enter Try.func75, Try.ntmps75
    go_wp2_with (first | ((with_reducible refine gate_callee (f := 95) rfl ?_); refine gL (some 33) Try.func95 #[.int .i64 a1, .int .u64 a2, .int .u64 a3] ?_; (with_reducible refine (bits_signed.calls a1 a2 a3 t317 t318 _ A11.out).mono ?_); rintro e w13 ⟨rfl, hb⟩; refine ⟨_, rfl, ?_⟩; replace HB := bsB HB.out hb; (try clear hb)))
    go_ret
    exact ⟨by first | rfl | (simp [errW_none, errW_some] <;> rfl) | (simp [*, errW_none, errW_some] <;> rfl), bsL HB.out⟩
   ·
    rw [if_neg c12] at H
    have c12b0 : (a0 == 7) = false := beq_eq_false_iff_ne.mpr c12
    have c12b1 : (a0 != 7) = true := bne_iff_ne.mpr c12
    obtain rfl := Option.some.inj H
    go_enter Try.func75, Try.ntmps75
    go_wp2_with (first | ((with_reducible refine gate_callee (f := 95) rfl ?_); refine gL (some 33) Try.func95 #[.int .i64 a1, .int .u64 a2, .int .u64 a3] ?_; (with_reducible refine (bits_signed.calls a1 a2 a3 t317 t318 _ A11.out).mono ?_); rintro e w14 ⟨rfl, hb⟩; refine ⟨_, rfl, ?_⟩; replace HB := bsB HB.out hb; (try clear hb)))
    go_ret
    exact ⟨by first | rfl | (simp [errW_none, errW_some] <;> rfl) | (simp [*, errW_none, errW_some] <;> rfl), bsL HB.out⟩

/-! ### bits_shift: function 76 -/
def bits_shift.f (a0 : Int) (a1 : Int) (a2 : Int) (a3 : Int) : Option (Int) := if a3 ≥ (IntKind.u64.wrap (a1)) then (if a0 = 14 then ((bits_negative.f a1 a2).bind fun t319 => (if t319 = true then ((bits_Mask.f a1).bind fun t320 => (some t320)) else (some 0))) else (some 0)) else (if a0 = 12 then (if 0 ≤ a3 then ((bits_Fit.f a1 (shl .u64 a2 a3)).bind fun t321 => (some t321)) else (none)) else (if a0 = 13 then (if 0 ≤ a3 then (some (shr .u64 a2 a3)) else (none)) else ((bits_Signed.f a1 a2).bind fun t322 => (if 0 ≤ a3 then ((bits_From.f a1 (shr .i64 t322 a3)).bind fun t323 => (some t323)) else (none)))))
set_option maxHeartbeats 8000000 in
set_option maxRecDepth 100000 in
theorem bits_shift.calls (a0 : Int) (a1 : Int) (a2 : Int) (a3 : Int) (r : Int) (w : World) (h : bits_shift.f a0 a1 a2 a3 = some r) :
  Calls Try.prog 76 #[.int .i64 a0, .int .i64 a1, .int .u64 a2, .int .u64 a3] w fun e w' => e = .returned (.int .u64 r) ∧ Below w.heap.size w w' := by
 have HB := Aside0.mk (Below.refl w.heap.size w)
 have H : (if a3 ≥ (IntKind.u64.wrap (a1)) then (if a0 = 14 then ((bits_negative.f a1 a2).bind fun t319 => (if t319 = true then ((bits_Mask.f a1).bind fun t320 => (some t320)) else (some 0))) else (some 0)) else (if a0 = 12 then (if 0 ≤ a3 then ((bits_Fit.f a1 (shl .u64 a2 a3)).bind fun t321 => (some t321)) else (none)) else (if a0 = 13 then (if 0 ≤ a3 then (some (shr .u64 a2 a3)) else (none)) else ((bits_Signed.f a1 a2).bind fun t322 => (if 0 ≤ a3 then ((bits_From.f a1 (shr .i64 t322 a3)).bind fun t323 => (some t323)) else (none)))))) = some r := h
 clear h
 by_cases c5 : a3 ≥ (IntKind.u64.wrap (a1))
 ·
  rw [if_pos c5] at H
  have c5b0 : decide ((IntKind.u64.wrap (a1)) ≤ a3) = true := decide_eq_true c5
  clear c5
  by_cases c6 : a0 = 14
  ·
   rw [if_pos c6] at H
   have c6b0 : (a0 == 14) = true := beq_iff_eq.mpr c6
   have c6b1 : (a0 != 14) = false := bne_eq_false_iff_eq.mpr c6
   clear c6
   replace H := Option.bind_eq_some_iff.mp H
   obtain ⟨t319, A70, H⟩ := H
   replace H : (if t319 = true then ((bits_Mask.f a1).bind fun t320 => (some t320)) else (some 0)) = some r := H
   have A7 := Aside0.mk A70
   clear A70
   by_cases c8 : t319 = true
   ·
    subst c8
    have H1 : ((bits_Mask.f a1).bind fun t320 => (some t320)) = some r := by rw [if_pos rfl] at H; exact H
    clear H
    have H := H1
    clear H1
    replace H := Option.bind_eq_some_iff.mp H
    obtain ⟨t320, A90, H⟩ := H
    replace H : (some t320) = some r := H
    have A9 := Aside0.mk A90
    clear A90
    obtain rfl := Option.some.inj H
    go_enter Try.func76, Try.ntmps76
    go_wp2_with (first | (go_at_call 89; (with_reducible refine (bits_negative.calls a1 a2 true _ A7.out).mono ?_); rintro e w10 ⟨rfl, hb⟩; replace HB := bsB HB.out hb; (try clear hb)) | ((with_reducible refine gate_callee (f := 48) rfl ?_); refine gL (some 21) Try.func48 #[.int .i64 a1] ?_; (with_reducible refine (bits_Mask.calls a1 t320 _ A9.out).mono ?_); rintro e w11 ⟨rfl, hb⟩; refine ⟨_, rfl, ?_⟩; replace HB := bsB HB.out hb; (try clear hb)))
    go_ret
    exact ⟨by first | rfl | (simp [errW_none, errW_some] <;> rfl) | (simp [*, errW_none, errW_some] <;> rfl), bsL HB.out⟩
   ·
    replace c8 := Bool.eq_false_iff.mpr c8
    subst c8
    have H1 : (some 0) = some r := by rw [if_neg (show ¬ (false = true) by decide)] at H; exact H
    clear H
    have H := H1
    clear H1
    obtain rfl := Option.some.inj H
    go_enter Try.func76, Try.ntmps76
    go_wp2_with (first | (go_at_call 89; (with_reducible refine (bits_negative.calls a1 a2 false _ A7.out).mono ?_); rintro e w12 ⟨rfl, hb⟩; replace HB := bsB HB.out hb; (try clear hb)))
    go_ret
    exact ⟨by first | rfl | (simp [errW_none, errW_some] <;> rfl) | (simp [*, errW_none, errW_some] <;> rfl), bsL HB.out⟩
  ·
   rw [if_neg c6] at H
   have c6b0 : (a0 == 14) = false := beq_eq_false_iff_ne.mpr c6
   have c6b1 : (a0 != 14) = true := bne_iff_ne.mpr c6
   obtain rfl := Option.some.inj H
   go_enter Try.func76, Try.ntmps76
   go_wp2
   go_ret
   exact ⟨by first | rfl | (simp [errW_none, errW_some] <;> rfl) | (simp [*, errW_none, errW_some] <;> rfl), bsL HB.out⟩
 ·
  rw [if_neg c5] at H
  have c5b0 : decide ((IntKind.u64.wrap (a1)) ≤ a3) = false := decide_eq_false c5
  clear c5
  by_cases c13 : a0 = 12
  ·
   rw [if_pos c13] at H
   have c13b0 : (a0 == 12) = true := beq_iff_eq.mpr c13
   have c13b1 : (a0 != 12) = false := bne_eq_false_iff_eq.mpr c13
   clear c13
   by_cases c14 : 0 ≤ a3
   ·
    rw [if_pos c14] at H
    have c14b0 := eq_true c14
    have c14b1 : decide (0 ≤ a3) = true := decide_eq_true c14
    clear c14
    obtain ⟨ji15, hji15⟩ : ∃ j_ : Int, (shl .u64 a2 a3) = j_ := ⟨_, rfl⟩
    replace H : ((bits_Fit.f a1 (ji15)).bind fun t321 => (some t321)) = some r := by first | (rw [hji15] at H; exact H) | (simp only [hji15] at H ⊢; exact H)
    have hji15_ : (IntKind.u64.wrap (a2 * 2 ^ min a3.toNat 64)) = ji15 := hji15
    have hji15z : a3 ≤ 64 → (IntKind.u64.wrap (a2 * 2 ^ a3.toNat)) = ji15 := shl_small hji15
    replace H := Option.bind_eq_some_iff.mp H
    obtain ⟨t321, A160, H⟩ := H
    replace H : (some t321) = some r := H
    have A16 := Aside0.mk A160
    clear A160
    obtain rfl := Option.some.inj H
    go_enter Try.func76, Try.ntmps76
    go_wp2_with (first | ((with_reducible refine gate_callee (f := 47) rfl ?_); refine goesL_ (some 29) rfl rfl Try.func47 (by kernel_rfl) rfl #[.int .i64 a1, .int .u64 ji15] rfl (by (try simp only [List.map_toArray, List.map_cons, List.map_nil]); first | done | (simp only [hji15]; rfl) | rfl | (simp only [List.length_drop, List.length_take]; rfl)) ?_; (with_reducible refine (bits_Fit.calls a1 ji15 t321 _ A16.out).mono ?_); rintro e w17 ⟨rfl, hb⟩; refine ⟨_, rfl, ?_⟩; replace HB := bsB HB.out hb; (try clear hb)))
    go_ret
    exact ⟨by first | rfl | (simp [errW_none, errW_some] <;> rfl) | (simp only [← hji15]; first | rfl | (simp [errW_none, errW_some] <;> rfl)) | (simp [*, errW_none, errW_some] <;> rfl), bsL HB.out⟩
   ·
    rw [if_neg c14] at H
    exact absurd H (by simp)
  ·
   rw [if_neg c13] at H
   have c13b0 : (a0 == 12) = false := beq_eq_false_iff_ne.mpr c13
   have c13b1 : (a0 != 12) = true := bne_iff_ne.mpr c13
   by_cases c18 : a0 = 13
   ·
    rw [if_pos c18] at H
    have c18b0 : (a0 == 13) = true := beq_iff_eq.mpr c18
    have c18b1 : (a0 != 13) = false := bne_eq_false_iff_eq.mpr c18
    clear c18
    by_cases c19 : 0 ≤ a3
    ·
     rw [if_pos c19] at H
     have c19b0 := eq_true c19
     have c19b1 : decide (0 ≤ a3) = true := decide_eq_true c19
     clear c19
     obtain ⟨ji20, hji20⟩ : ∃ j_ : Int, (shr .u64 a2 a3) = j_ := ⟨_, rfl⟩
     replace H : (some ji20) = some r := by first | (rw [hji20] at H; exact H) | (simp only [hji20] at H ⊢; exact H)
     have hji20_ : (a2 / 2 ^ min a3.toNat 64) = ji20 := hji20
     have hji20z : a3 ≤ 64 → (a2 / 2 ^ a3.toNat) = ji20 := shr_small hji20
     obtain rfl := Option.some.inj H
     go_enter Try.func76, Try.ntmps76
     go_wp2
     go_ret
     exact ⟨by first | rfl | (simp [errW_none, errW_some] <;> rfl) | (simp only [← hji20]; first | rfl | (simp [errW_none, errW_some] <;> rfl)) | (simp [*, errW_none, errW_some] <;> rfl), bsL HB.out⟩
    ·
     rw [if_neg c19] at H
     exact absurd H (by simp)
   ·
    rw [if_neg c18] at H
    have c18b0 : (a0 == 13) = false := beq_eq_false_iff_ne.mpr c18
    have c18b1 : (a0 != 13) = true := bne_iff_ne.mpr c18
    replace H := Option.bind_eq_some_iff.mp H
    obtain ⟨t322, A210, H⟩ := H
    replace H : (if 0 ≤ a3 then ((bits_From.f a1 (shr .i64 t322 a3)).bind fun t323 => (some t323)) else (none)) = some r := H
    have A21 := Aside0.mk A210
    clear A210
    by_cases c22 : 0 ≤ a3
    ·
     rw [if_pos c22] at H
     have c22b0 := eq_true c22
     have c22b1 : decide (0 ≤ a3) = true := decide_eq_true c22
     clear c22
     obtain ⟨ji23, hji23⟩ : ∃ j_ : Int, (shr .i64 t322 a3) = j_ := ⟨_, rfl⟩
     replace H : ((bits_From.f a1 (ji23)).bind fun t323 => (some t323)) = some r := by first | (rw [hji23] at H; exact H) | (simp only [hji23] at H ⊢; exact H)
     (try rw [hji23] at A21)
     have hji23_ : (t322 / 2 ^ min a3.toNat 64) = ji23 := hji23
     have hji23z : a3 ≤ 64 → (t322 / 2 ^ a3.toNat) = ji23 := shr_small hji23
     replace H := Option.bind_eq_some_iff.mp H
     obtain ⟨t323, A240, H⟩ := H
     replace H : (some t323) = some r := H
     have A24 := Aside0.mk A240
     clear A240
     obtain rfl := Option.some.inj H
     go_enter Try.func76, Try.ntmps76
     go_wp2_with (first | ((with_reducible refine gate_callee (f := 49) rfl ?_); refine gL (some 38) Try.func49 #[.int .i64 a1, .int .u64 a2] ?_; (with_reducible refine (bits_Signed.calls a1 a2 t322 _ A21.out).mono ?_); rintro e w25 ⟨rfl, hb⟩; refine ⟨_, rfl, ?_⟩; replace HB := bsB HB.out hb; (try clear hb)) | ((with_reducible refine gate_callee (f := 58) rfl ?_); refine goesL_ (some 41) rfl rfl Try.func58 (by kernel_rfl) rfl #[.int .i64 a1, .int .i64 ji23] rfl (by (try simp only [List.map_toArray, List.map_cons, List.map_nil]); first | done | (simp only [hji23]; rfl) | rfl | (simp only [List.length_drop, List.length_take]; rfl)) ?_; (with_reducible refine (bits_From.calls a1 ji23 t323 _ A24.out).mono ?_); rintro e w26 ⟨rfl, hb⟩; refine ⟨_, rfl, ?_⟩; replace HB := bsB HB.out hb; (try clear hb)))
     go_ret
     exact ⟨by first | rfl | (simp [errW_none, errW_some] <;> rfl) | (simp only [← hji23]; first | rfl | (simp [errW_none, errW_some] <;> rfl)) | (simp [*, errW_none, errW_some] <;> rfl), bsL HB.out⟩
    ·
     rw [if_neg c22] at H
     exact absurd H (by simp)

end Go.Proofs.Ytanmehdcccldfaa.P
