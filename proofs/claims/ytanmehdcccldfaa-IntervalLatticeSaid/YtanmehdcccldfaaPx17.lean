-- made by a program of this work (wip/mkprint.py, wip/mp.sh) out of the translation
import Derived.Test.YtanmehdcccldfaaPx0
import Derived.Test.YtanmehdcccldfaaPx2
namespace Go.Proofs.Ytanmehdcccldfaa.P
open Go.RowKit Go.Proofs.YtanmehdcccldfaaW.PrintWords Go.Proofs.YtanmehdcccldfaaW.PrintLast Go.Proofs.YtanmehdcccldfaaW.PrintMore
attribute [local go_sem] max2_int min2_int max_two min_two max_three min_three max_four min_four   -- for this text's walks alone
set_option linter.unusedVariables false
set_option linter.unusedSimpArgs false

/-! ### bits_one: function 96 -/
def bits_one.f (a0 : Bool) : Option (Int) := if a0 = true then (some 1) else (some 0)
set_option maxHeartbeats 8000000 in
set_option maxRecDepth 100000 in
theorem bits_one.calls (a0 : Bool) (r : Int) (w : World) (h : bits_one.f a0 = some r) :
  Calls Try.prog 96 #[.bool a0] w fun e w' => e = .returned (.int .u64 r) ∧ Drawn0 w w' := by
 have H : (if a0 = true then (some 1) else (some 0)) = some r := h
 clear h
 by_cases c2 : a0 = true
 ·
  subst c2
  have H1 : (some 1) = some r := by rw [if_pos rfl] at H; exact H
  clear H
  have H := H1
  clear H1
  obtain rfl := Option.some.inj H
  go_enter Try.func96, Try.ntmps96
  go_wp2
  go_ret
  exact ⟨by first | rfl | (simp; done) | (simp [*]; done), by repeat (first | exact Drawn0.refl _ | apply Drawn0.step)⟩
 ·
  replace c2 := Bool.eq_false_iff.mpr c2
  subst c2
  have H1 : (some 0) = some r := by rw [if_neg (show ¬ (false = true) by decide)] at H; exact H
  clear H
  have H := H1
  clear H1
  obtain rfl := Option.some.inj H
  go_enter Try.func96, Try.ntmps96
  go_wp2
  go_ret
  exact ⟨by first | rfl | (simp; done) | (simp [*]; done), by repeat (first | exact Drawn0.refl _ | apply Drawn0.step)⟩

/-! ### bits_compare: function 77 -/
def bits_compare.f (a0 : Int) (a1 : Int) (a2 : Int) (a3 : Int) : Option (Int) := if a0 = 15 then ((bits_one.f (a2 == a3)).bind fun t324 => (some t324)) else (if a0 = 16 then ((bits_one.f (a2 != a3)).bind fun t325 => (some t325)) else (if a0 = 17 then ((bits_one.f (decide (a2 < a3))).bind fun t326 => (some t326)) else (if a0 = 18 then ((bits_one.f (decide (a2 ≤ a3))).bind fun t327 => (some t327)) else (if a0 = 19 then ((bits_Signed.f a1 a2).bind fun t328 => ((bits_Signed.f a1 a3).bind fun t329 => ((bits_one.f (decide (t328 < t329))).bind fun t330 => (some t330)))) else ((bits_Signed.f a1 a2).bind fun t331 => ((bits_Signed.f a1 a3).bind fun t332 => ((bits_one.f (decide (t331 ≤ t332))).bind fun t333 => (some t333))))))))
set_option maxHeartbeats 8000000 in
set_option maxRecDepth 100000 in
theorem bits_compare.calls (a0 : Int) (a1 : Int) (a2 : Int) (a3 : Int) (r : Int) (w : World) (h : bits_compare.f a0 a1 a2 a3 = some r) :
  Calls Try.prog 77 #[.int .i64 a0, .int .i64 a1, .int .u64 a2, .int .u64 a3] w fun e w' => e = .returned (.int .u64 r) ∧ Below w.heap.size w w' := by
 have HB := Aside0.mk (Below.refl w.heap.size w)
 have H : (if a0 = 15 then ((bits_one.f (a2 == a3)).bind fun t324 => (some t324)) else (if a0 = 16 then ((bits_one.f (a2 != a3)).bind fun t325 => (some t325)) else (if a0 = 17 then ((bits_one.f (decide (a2 < a3))).bind fun t326 => (some t326)) else (if a0 = 18 then ((bits_one.f (decide (a2 ≤ a3))).bind fun t327 => (some t327)) else (if a0 = 19 then ((bits_Signed.f a1 a2).bind fun t328 => ((bits_Signed.f a1 a3).bind fun t329 => ((bits_one.f (decide (t328 < t329))).bind fun t330 => (some t330)))) else ((bits_Signed.f a1 a2).bind fun t331 => ((bits_Signed.f a1 a3).bind fun t332 => ((bits_one.f (decide (t331 ≤ t332))).bind fun t333 => (some t333))))))))) = some r := h
 clear h
 by_cases c5 : a0 = 15
 ·
  rw [if_pos c5] at H
  have c5b0 : (a0 == 15) = true := beq_iff_eq.mpr c5
  have c5b1 : (a0 != 15) = false := bne_eq_false_iff_eq.mpr c5
  clear c5
  replace H := Option.bind_eq_some_iff.mp H
  obtain ⟨t324, A60, H⟩ := H
  replace H : (some t324) = some r := H
  have A6 := Aside0.mk A60
  clear A60
  obtain rfl := Option.some.inj H
  go_enter Try.func77, Try.ntmps77
  go_wp2_with (first | ((with_reducible refine gate_callee (f := 96) rfl ?_); refine gL (some 15) Try.func96 #[.bool (a2 == a3)] ?_; (with_reducible refine (bits_one.calls (a2 == a3) t324 _ A6.out).mono ?_); rintro e w' ⟨rfl, ⟨nd, rfl⟩⟩; refine ⟨_, rfl, ?_⟩))
  go_ret
  exact ⟨by first | rfl | (simp [errW_none, errW_some] <;> rfl) | (simp [*, errW_none, errW_some] <;> rfl), bsL HB.out⟩
 ·
  rw [if_neg c5] at H
  have c5b0 : (a0 == 15) = false := beq_eq_false_iff_ne.mpr c5
  have c5b1 : (a0 != 15) = true := bne_iff_ne.mpr c5
  by_cases c7 : a0 = 16
  ·
   rw [if_pos c7] at H
   have c7b0 : (a0 == 16) = true := beq_iff_eq.mpr c7
   have c7b1 : (a0 != 16) = false := bne_eq_false_iff_eq.mpr c7
   clear c7
   replace H := Option.bind_eq_some_iff.mp H
   obtain ⟨t325, A80, H⟩ := H
   replace H : (some t325) = some r := H
   have A8 := Aside0.mk A80
   clear A80
   obtain rfl := Option.some.inj H
   go_enter Try.func77, Try.ntmps77
   go_wp2_with (first | ((with_reducible refine gate_callee (f := 96) rfl ?_); refine gL (some 21) Try.func96 #[.bool (a2 != a3)] ?_; (with_reducible refine (bits_one.calls (a2 != a3) t325 _ A8.out).mono ?_); rintro e w' ⟨rfl, ⟨nd, rfl⟩⟩; refine ⟨_, rfl, ?_⟩))
   go_ret
   exact ⟨by first | rfl | (simp [errW_none, errW_some] <;> rfl) | (simp [*, errW_none, errW_some] <;> rfl), bsL HB.out⟩
  ·
   rw [if_neg c7] at H
   have c7b0 : (a0 == 16) = false := beq_eq_false_iff_ne.mpr c7
   have c7b1 : (a0 != 16) = true := bne_iff_ne.mpr c7
   by_cases c9 : a0 = 17
   ·
    rw [if_pos c9] at H
    have c9b0 : (a0 == 17) = true := beq_iff_eq.mpr c9
    have c9b1 : (a0 != 17) = false := bne_eq_false_iff_eq.mpr c9
    clear c9
    replace H := Option.bind_eq_some_iff.mp H
    obtain ⟨t326, A100, H⟩ := H
    replace H : (some t326) = some r := H
    have A10 := Aside0.mk A100
    clear A100
    obtain rfl := Option.some.inj H
    go_enter Try.func77, Try.ntmps77
    go_wp2_with (first | ((with_reducible refine gate_callee (f := 96) rfl ?_); refine gL (some 27) Try.func96 #[.bool (decide (a2 < a3))] ?_; (with_reducible refine (bits_one.calls (decide (a2 < a3)) t326 _ A10.out).mono ?_); rintro e w' ⟨rfl, ⟨nd, rfl⟩⟩; refine ⟨_, rfl, ?_⟩))
    go_ret
    exact ⟨by first | rfl | (simp [errW_none, errW_some] <;> rfl) | (simp [*, errW_none, errW_some] <;> rfl), bsL HB.out⟩
   ·
    rw [if_neg c9] at H
    have c9b0 : (a0 == 17) = false := beq_eq_false_iff_ne.mpr c9
    have c9b1 : (a0 != 17) = true := bne_iff_ne.mpr c9
    by_cases c11 : a0 = 18
    ·
     rw [if_pos c11] at H
     have c11b0 : (a0 == 18) = true := beq_iff_eq.mpr c11
     have c11b1 : (a0 != 18) = false := bne_eq_false_iff_eq.mpr c11
     clear c11
     replace H := Option.bind_eq_some_iff.mp H
     obtain ⟨t327, A120, H⟩ := H
     replace H : (some t327) = some r := H
     have A12 := Aside0.mk A120
     clear A120
     obtain rfl := Option.some.inj H
     go_enter Try.func77, Try.ntmps77
     go_wp2_with (first | ((with_reducible refine gate_callee (f := 96) rfl ?_); refine gL (some 33) Try.func96 #[.bool (decide (a2 ≤ a3))] ?_; (with_reducible refine (bits_one.calls (decide (a2 ≤ a3)) t327 _ A12.out).mono ?_); rintro e w' ⟨rfl, ⟨nd, rfl⟩⟩; refine ⟨_, rfl, ?_⟩))
     go_ret
     exact ⟨by first | rfl | (simp [errW_none, errW_some] <;> rfl) | (simp [*, errW_none, errW_some] <;> rfl), bsL HB.out⟩
    ·
     rw [if_neg c11] at H
     have c11b0 : (a0 == 18) = false := beq_eq_false_iff_ne.mpr c11
     have c11b1 : (a0 != 18) = true := bne_iff_ne.mpr c11
     by_cases c13 : a0 = 19
     ·
      rw [if_pos c13] at H
      have c13b0 : (a0 == 19) = true := beq_iff_eq.mpr c13
      have c13b1 : (a0 != 19) = false := bne_eq_false_iff_eq.mpr c13
      clear c13
      replace H := Option.bind_eq_some_iff.mp H
      obtain ⟨t328, A140, H⟩ := H
      replace H : ((bits_Signed.f a1 a3).bind fun t329 => ((bits_one.f (decide (t328 < t329))).bind fun t330 => (some t330))) = some r := H
      have A14 := Aside0.mk A140
      clear A140
      replace H := Option.bind_eq_some_iff.mp H
      obtain ⟨t329, A150, H⟩ := H
      replace H : ((bits_one.f (decide (t328 < t329))).bind fun t330 => (some t330)) = some r := H
      have A15 := Aside0.mk A150
      clear A150
      replace H := Option.bind_eq_some_iff.mp H
      obtain ⟨t330, A160, H⟩ := H
      replace H : (some t330) = some r := H
      have A16 := Aside0.mk A160
      clear A160
      obtain rfl := Option.some.inj H
      go_enter Try.func77, Try.ntmps77
      go_wp2_with (first | ((with_reducible refine gate_callee (f := 49) rfl ?_); refine gL (some 38) Try.func49 #[.int .i64 a1, .int .u64 a2] ?_; (with_reducible refine (bits_Signed.calls a1 a2 t328 _ A14.out).mono ?_); rintro e w17 ⟨rfl, hb⟩; refine ⟨_, rfl, ?_⟩; replace HB := bsB HB.out hb; (try clear hb)) | ((with_reducible refine gate_callee (f := 49) rfl ?_); refine gL (some 41) Try.func49 #[.int .i64 a1, .int .u64 a3] ?_; (with_reducible refine (bits_Signed.calls a1 a3 t329 _ A15.out).mono ?_); rintro e w18 ⟨rfl, hb⟩; refine ⟨_, rfl, ?_⟩; replace HB := bsB HB.out hb; (try clear hb)) | ((with_reducible refine gate_callee (f := 96) rfl ?_); refine gL (some 43) Try.func96 #[.bool (decide (t328 < t329))] ?_; (with_reducible refine (bits_one.calls (decide (t328 < t329)) t330 _ A16.out).mono ?_); rintro e w' ⟨rfl, ⟨nd, rfl⟩⟩; refine ⟨_, rfl, ?_⟩))
      go_ret
      exact ⟨by first | rfl | (simp [errW_none, errW_some] <;> rfl) | (simp [*, errW_none, errW_some] <;> rfl), bsL HB.out⟩
     ·
      rw [if_neg c13] at H
      have c13b0 : (a0 == 19) = false := beq_eq_false_iff_ne.mpr c13
      have c13b1 : (a0 != 19) = true := bne_iff_ne.mpr c13
      replace H := Option.bind_eq_some_iff.mp H
      obtain ⟨t331, A190, H⟩ := H
      replace H : ((bits_Signed.f a1 a3).bind fun t332 => ((bits_one.f (decide (t331 ≤ t332))).bind fun t333 => (some t333))) = some r := H
      have A19 := Aside0.mk A190
      clear A190
      replace H := Option.bind_eq_some_iff.mp H
      obtain ⟨t332, A200, H⟩ := H
      replace H : ((bits_one.f (decide (t331 ≤ t332))).bind fun t333 => (some t333)) = some r := H
      have A20 := Aside0.mk A200
      clear A200
      replace H := Option.bind_eq_some_iff.mp H
      obtain ⟨t333, A210, H⟩ := H
      replace H : (some t333) = some r := H
      have A21 := Aside0.mk A210
      clear A210
      obtain rfl := Option.some.inj H
      go_enter Try.func77, Try.ntmps77
      go_wp2_with (first | ((with_reducible refine gate_callee (f := 49) rfl ?_); refine gL (some 46) Try.func49 #[.int .i64 a1, .int .u64 a2] ?_; (with_reducible refine (bits_Signed.calls a1 a2 t331 _ A19.out).mono ?_); rintro e w22 ⟨rfl, hb⟩; refine ⟨_, rfl, ?_⟩; replace HB := bsB HB.out hb; (try clear hb)) | ((with_reducible refine gate_callee (f := 49) rfl ?_); refine gL (some 49) Try.func49 #[.int .i64 a1, .int .u64 a3] ?_; (with_reducible refine (bits_Signed.calls a1 a3 t332 _ A20.out).mono ?_); rintro e w23 ⟨rfl, hb⟩; refine ⟨_, rfl, ?_⟩; replace HB := bsB HB.out hb; (try clear hb)) | ((with_reducible refine gate_callee (f := 96) rfl ?_); refine gL (some 51) Try.func96 #[.bool (decide (t331 ≤ t332))] ?_; (with_reducible refine (bits_one.calls (decide (t331 ≤ t332)) t333 _ A21.out).mono ?_); rintro e w' ⟨rfl, ⟨nd, rfl⟩⟩; refine ⟨_, rfl, ?_⟩))
      go_ret
      exact ⟨by first | rfl | (simp [errW_none, errW_some] <;> rfl) | (simp [*, errW_none, errW_some] <;> rfl), bsL HB.out⟩

end Go.Proofs.Ytanmehdcccldfaa.P
