-- made by a program of this work (wip/mkprint.py, wip/mp.sh) out of the translation
import Derived.Test.YtanmehdcccldfaaPx0
import Derived.Test.YtanmehdcccldfaaPx2
namespace Go.Proofs.Ytanmehdcccldfaa.P
open Go.RowKit Go.Proofs.YtanmehdcccldfaaW.PrintWords Go.Proofs.YtanmehdcccldfaaW.PrintLast Go.Proofs.YtanmehdcccldfaaW.PrintMore
attribute [local go_sem] max2_int min2_int max_two min_two max_three min_three max_four min_four   -- for this text's walks alone
set_option linter.unusedVariables false
set_option linter.unusedSimpArgs false

/-! ### bits_From: function 58 -/
def bits_From.f (a0 : Int) (a1 : Int) : Option (Int) := (bits_Fit.f a0 (IntKind.u64.wrap (a1))).bind fun t247 => (some t247)
set_option maxHeartbeats 8000000 in
set_option maxRecDepth 100000 in
theorem bits_From.calls (a0 : Int) (a1 : Int) (r : Int) (w : World) (h : bits_From.f a0 a1 = some r) :
  Calls Try.prog 58 #[.int .i64 a0, .int .i64 a1] w fun e w' => e = .returned (.int .u64 r) ∧ Below w.heap.size w w' := by
 have HB := Aside0.mk (Below.refl w.heap.size w)
 have H : ((bits_Fit.f a0 (IntKind.u64.wrap (a1))).bind fun t247 => (some t247)) = some r := h
 clear h
 replace H := Option.bind_eq_some_iff.mp H
 obtain ⟨t247, A30, H⟩ := H
 replace H : (some t247) = some r := H
 have A3 := Aside0.mk A30
 clear A30
 obtain rfl := Option.some.inj H
 go_enter Try.func58, Try.ntmps58
 go_wp2_with (first | ((with_reducible refine gate_callee (f := 47) rfl ?_); refine gL (some 8) Try.func47 #[.int .i64 a0, .int .u64 (IntKind.u64.wrap (a1))] ?_; (with_reducible refine (bits_Fit.calls a0 (IntKind.u64.wrap (a1)) t247 _ A3.out).mono ?_); rintro e w4 ⟨rfl, hb⟩; refine ⟨_, rfl, ?_⟩; replace HB := bsB HB.out hb; (try clear hb)))
 go_ret
 exact ⟨by first | rfl | (simp [errW_none, errW_some] <;> rfl) | (simp [*, errW_none, errW_some] <;> rfl), bsL HB.out⟩

end Go.Proofs.Ytanmehdcccldfaa.P
