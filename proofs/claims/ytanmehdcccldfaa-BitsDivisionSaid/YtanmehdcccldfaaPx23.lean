-- made by a program of this work (wip/mkprint.py, wip/mp.sh) out of the translation
import Derived.Test.YtanmehdcccldfaaPx0
import Derived.Test.YtanmehdcccldfaaPx2
import Derived.Test.YtanmehdcccldfaaPx16
import Derived.Test.YtanmehdcccldfaaPx17
namespace Go.Proofs.Ytanmehdcccldfaa.P
open Go.RowKit Go.Proofs.YtanmehdcccldfaaW.PrintWords Go.Proofs.YtanmehdcccldfaaW.PrintLast Go.Proofs.YtanmehdcccldfaaW.PrintMore
attribute [local go_sem] max2_int min2_int max_two min_two max_three min_three max_four min_four   -- for this text's walks alone
set_option linter.unusedVariables false
set_option linter.unusedSimpArgs false

/-! ### jacquardlaw01_BitsDivision: function 8 -/
mutual
def jacquardlaw01_BitsDivision.l0 : Nat → Int → Int → Int → List (S60) → Int → Int → Option (Bool)
  | 0, _, _, _, _, _, _ => none
  | k + 1, x0, x1, x2, x33, x34, x35 => if x35 < x34 then (if 0 ≤ x35 then (if x35 < (x33.length : Int) then ((bits_Binary.f k ((rd_T60 x33 x35).f0) x0 x1 x2).bind fun bt501 => ((bits_Binary.f k ((rd_T60 x33 x35).f1) x0 x1 x2).bind fun bt503 => ((bits_Binary.f k 4 x0 bt501.1 x2).bind fun bt505 => ((bits_Binary.f k 2 x0 bt505.1 bt503.1).bind fun bt507 => (if bt501.2 = 0 then (if bt503.2 = 0 then (if bt505.2 = 0 then (if bt507.2 = 0 then (jacquardlaw01_BitsDivision.j1 k x0 x1 x2 bt501.1 bt503.1 x33 x34 x35 (bt507.1 != x1) ((rd_T60 x33 x35).f0) ((rd_T60 x33 x35).f1)) else (jacquardlaw01_BitsDivision.j1 k x0 x1 x2 bt501.1 bt503.1 x33 x34 x35 true ((rd_T60 x33 x35).f0) ((rd_T60 x33 x35).f1))) else (jacquardlaw01_BitsDivision.j1 k x0 x1 x2 bt501.1 bt503.1 x33 x34 x35 true ((rd_T60 x33 x35).f0) ((rd_T60 x33 x35).f1))) else (jacquardlaw01_BitsDivision.j1 k x0 x1 x2 bt501.1 bt503.1 x33 x34 x35 true ((rd_T60 x33 x35).f0) ((rd_T60 x33 x35).f1))) else (jacquardlaw01_BitsDivision.j1 k x0 x1 x2 bt501.1 bt503.1 x33 x34 x35 true ((rd_T60 x33 x35).f0) ((rd_T60 x33 x35).f1))))))) else (none)) else (none)) else (some true)
def jacquardlaw01_BitsDivision.j1 : Nat → Int → Int → Int → Int → Int → List (S60) → Int → Int → Bool → Int → Int → Option (Bool)
  | 0, _, _, _, _, _, _, _, _, _, _, _ => none
  | k + 1, x0, x1, x2, x9, x11, x33, x34, x35, x89, x501000, x501001 => if x89 = true then (some false) else (if x2 = 0 then ((bits_Mask.f x0).bind fun t509 => (if x9 = t509 then (if x11 = x1 then (jacquardlaw01_BitsDivision.l0 k x0 x1 x2 x33 x34 (wrap64 (x35 + 1))) else (some false)) else (some false))) else (if x501000 = 5 then (if x11 ≥ x2 then (some false) else (jacquardlaw01_BitsDivision.l0 k x0 x1 x2 x33 x34 (wrap64 (x35 + 1)))) else ((bits_Signed.f x0 x1).bind fun t510 => ((bits_Signed.f x0 x2).bind fun t511 => ((bits_Signed.f x0 x11).bind fun t512 => (if t512 = 0 then (jacquardlaw01_BitsDivision.j2 k x0 x1 x2 t511 t512 x33 x34 x35 false) else (jacquardlaw01_BitsDivision.j2 k x0 x1 x2 t511 t512 x33 x34 x35 ((decide (t512 < 0)) != (decide (t510 < 0))))))))))
def jacquardlaw01_BitsDivision.j2 : Nat → Int → Int → Int → Int → Int → List (S60) → Int → Int → Bool → Option (Bool)
  | 0, _, _, _, _, _, _, _, _, _ => none
  | k + 1, x0, x1, x2, x18, x19, x33, x34, x35, x124 => if x124 = true then (some false) else (if x18 < 0 then (jacquardlaw01_BitsDivision.j3 k x0 x1 x2 (wrap64 (-x18)) x19 x33 x34 x35) else (jacquardlaw01_BitsDivision.j3 k x0 x1 x2 x18 x19 x33 x34 x35))
def jacquardlaw01_BitsDivision.j3 : Nat → Int → Int → Int → Int → Int → List (S60) → Int → Int → Option (Bool)
  | 0, _, _, _, _, _, _, _, _ => none
  | k + 1, x0, x1, x2, x18, x19, x33, x34, x35 => if x19 < 0 then (if x18 > 0 then (if (wrap64 (-x19)) ≥ x18 then (some false) else (jacquardlaw01_BitsDivision.l0 k x0 x1 x2 x33 x34 (wrap64 (x35 + 1)))) else (jacquardlaw01_BitsDivision.l0 k x0 x1 x2 x33 x34 (wrap64 (x35 + 1)))) else (if x18 > 0 then (if x19 ≥ x18 then (some false) else (jacquardlaw01_BitsDivision.l0 k x0 x1 x2 x33 x34 (wrap64 (x35 + 1)))) else (jacquardlaw01_BitsDivision.l0 k x0 x1 x2 x33 x34 (wrap64 (x35 + 1))))
end
def jacquardlaw01_BitsDivision.f (k : Nat) (a0 : Int) (a1 : Int) (a2 : Int) : Option (Bool) := (jacquardlaw01_awake.f k).bind fun t492 => (if t492 = true then ((jacquardref01_Right.f a0).bind fun t493 => (if t493 = true then ((bits_Fit.f a0 a1).bind fun t494 => ((bits_Fit.f a0 a2).bind fun t495 => ((some (([(⟨5, 6⟩ : S60), (⟨7, 8⟩ : S60)] : List (S60)) : List (S60))).bind fun y496 => (jacquardlaw01_BitsDivision.l0 k a0 t494 t495 y496 (y496.length : Int) 0)))) else (some true))) else (some false))
theorem jacquardlaw01_BitsDivision.mono_l : ∀ k, (∀ y0 y1 y2 y3 y4 y5, LeO (jacquardlaw01_BitsDivision.l0 k y0 y1 y2 y3 y4 y5) (jacquardlaw01_BitsDivision.l0 (k + 1) y0 y1 y2 y3 y4 y5)) ∧ (∀ y0 y1 y2 y3 y4 y5 y6 y7 y8 y9 y10, LeO (jacquardlaw01_BitsDivision.j1 k y0 y1 y2 y3 y4 y5 y6 y7 y8 y9 y10) (jacquardlaw01_BitsDivision.j1 (k + 1) y0 y1 y2 y3 y4 y5 y6 y7 y8 y9 y10)) ∧ (∀ y0 y1 y2 y3 y4 y5 y6 y7 y8, LeO (jacquardlaw01_BitsDivision.j2 k y0 y1 y2 y3 y4 y5 y6 y7 y8) (jacquardlaw01_BitsDivision.j2 (k + 1) y0 y1 y2 y3 y4 y5 y6 y7 y8)) ∧ (∀ y0 y1 y2 y3 y4 y5 y6 y7, LeO (jacquardlaw01_BitsDivision.j3 k y0 y1 y2 y3 y4 y5 y6 y7) (jacquardlaw01_BitsDivision.j3 (k + 1) y0 y1 y2 y3 y4 y5 y6 y7))
  | 0 => ⟨fun _ _ _ _ _ _ r h => by simp [jacquardlaw01_BitsDivision.l0] at h, fun _ _ _ _ _ _ _ _ _ _ _ r h => by simp [jacquardlaw01_BitsDivision.j1] at h, fun _ _ _ _ _ _ _ _ _ r h => by simp [jacquardlaw01_BitsDivision.j2] at h, fun _ _ _ _ _ _ _ _ r h => by simp [jacquardlaw01_BitsDivision.j3] at h⟩
  | k + 1 => by
    obtain ⟨ih0, ih1, ih2, ih3⟩ := jacquardlaw01_BitsDivision.mono_l k
    refine ⟨?_, ?_, ?_, ?_⟩
    · intro y0 y1 y2 y3 y4 y5
      unfold jacquardlaw01_BitsDivision.l0
      repeat' first
      | (with_reducible exact ih0 _ _ _ _ _ _)
      | (with_reducible exact ih1 _ _ _ _ _ _ _ _ _ _ _)
      | (with_reducible exact ih2 _ _ _ _ _ _ _ _ _)
      | (with_reducible exact ih3 _ _ _ _ _ _ _ _)
      | (with_reducible exact bits_Binary.mono _ _ _ _ _)
      | (with_reducible exact jacquardlaw01_awake.mono _)
      | (with_reducible exact LeO.refl _)
      | (with_reducible exact LeO.none _)
      | (with_reducible refine LeO.ite ?_ ?_)
      | (with_reducible refine LeO.bind ?_ (fun _ => ?_))
      | exact ih0 _ _ _ _ _ _
      | exact ih1 _ _ _ _ _ _ _ _ _ _ _
      | exact ih2 _ _ _ _ _ _ _ _ _
      | exact ih3 _ _ _ _ _ _ _ _
      | exact bits_Binary.mono _ _ _ _ _
      | exact jacquardlaw01_awake.mono _
      | exact LeO.none _
      | refine LeO.ite ?_ ?_
      | refine LeO.bind ?_ (fun _ => ?_)
    · intro y0 y1 y2 y3 y4 y5 y6 y7 y8 y9 y10
      unfold jacquardlaw01_BitsDivision.j1
      repeat' first
      | (with_reducible exact ih0 _ _ _ _ _ _)
      | (with_reducible exact ih1 _ _ _ _ _ _ _ _ _ _ _)
      | (with_reducible exact ih2 _ _ _ _ _ _ _ _ _)
      | (with_reducible exact ih3 _ _ _ _ _ _ _ _)
      | (with_reducible exact bits_Binary.mono _ _ _ _ _)
      | (with_reducible exact jacquardlaw01_awake.mono _)
      | (with_reducible exact LeO.refl _)
      | (with_reducible exact LeO.none _)
      | (with_reducible refine LeO.ite ?_ ?_)
      | (with_reducible refine LeO.bind ?_ (fun _ => ?_))
      | exact ih0 _ _ _ _ _ _
      | exact ih1 _ _ _ _ _ _ _ _ _ _ _
      | exact ih2 _ _ _ _ _ _ _ _ _
      | exact ih3 _ _ _ _ _ _ _ _
      | exact bits_Binary.mono _ _ _ _ _
      | exact jacquardlaw01_awake.mono _
      | exact LeO.none _
      | refine LeO.ite ?_ ?_
      | refine LeO.bind ?_ (fun _ => ?_)
    · intro y0 y1 y2 y3 y4 y5 y6 y7 y8
      unfold jacquardlaw01_BitsDivision.j2
      repeat' first
      | (with_reducible exact ih0 _ _ _ _ _ _)
      | (with_reducible exact ih1 _ _ _ _ _ _ _ _ _ _ _)
      | (with_reducible exact ih2 _ _ _ _ _ _ _ _ _)
      | (with_reducible exact ih3 _ _ _ _ _ _ _ _)
      | (with_reducible exact bits_Binary.mono _ _ _ _ _)
      | (with_reducible exact jacquardlaw01_awake.mono _)
      | (with_reducible exact LeO.refl _)
      | (with_reducible exact LeO.none _)
      | (with_reducible refine LeO.ite ?_ ?_)
      | (with_reducible refine LeO.bind ?_ (fun _ => ?_))
      | exact ih0 _ _ _ _ _ _
      | exact ih1 _ _ _ _ _ _ _ _ _ _ _
      | exact ih2 _ _ _ _ _ _ _ _ _
      | exact ih3 _ _ _ _ _ _ _ _
      | exact bits_Binary.mono _ _ _ _ _
      | exact jacquardlaw01_awake.mono _
      | exact LeO.none _
      | refine LeO.ite ?_ ?_
      | refine LeO.bind ?_ (fun _ => ?_)
    · intro y0 y1 y2 y3 y4 y5 y6 y7
      unfold jacquardlaw01_BitsDivision.j3
      repeat' first
      | (with_reducible exact ih0 _ _ _ _ _ _)
      | (with_reducible exact ih1 _ _ _ _ _ _ _ _ _ _ _)
      | (with_reducible exact ih2 _ _ _ _ _ _ _ _ _)
      | (with_reducible exact ih3 _ _ _ _ _ _ _ _)
      | (with_reducible exact bits_Binary.mono _ _ _ _ _)
      | (with_reducible exact jacquardlaw01_awake.mono _)
      | (with_reducible exact LeO.refl _)
      | (with_reducible exact LeO.none _)
      | (with_reducible refine LeO.ite ?_ ?_)
      | (with_reducible refine LeO.bind ?_ (fun _ => ?_))
      | exact ih0 _ _ _ _ _ _
      | exact ih1 _ _ _ _ _ _ _ _ _ _ _
      | exact ih2 _ _ _ _ _ _ _ _ _
      | exact ih3 _ _ _ _ _ _ _ _
      | exact bits_Binary.mono _ _ _ _ _
      | exact jacquardlaw01_awake.mono _
      | exact LeO.none _
      | refine LeO.ite ?_ ?_
      | refine LeO.bind ?_ (fun _ => ?_)
theorem jacquardlaw01_BitsDivision.mono : ∀ a0 a1 a2 k, LeO (jacquardlaw01_BitsDivision.f k a0 a1 a2) (jacquardlaw01_BitsDivision.f (k + 1) a0 a1 a2) := by
  intro a0 a1 a2 k
  obtain ⟨ih0, ih1, ih2, ih3⟩ := jacquardlaw01_BitsDivision.mono_l k
  unfold jacquardlaw01_BitsDivision.f
  repeat' first
      | (with_reducible exact ih0 _ _ _ _ _ _)
      | (with_reducible exact ih1 _ _ _ _ _ _ _ _ _ _ _)
      | (with_reducible exact ih2 _ _ _ _ _ _ _ _ _)
      | (with_reducible exact ih3 _ _ _ _ _ _ _ _)
      | (with_reducible exact bits_Binary.mono _ _ _ _ _)
      | (with_reducible exact jacquardlaw01_awake.mono _)
      | (with_reducible exact LeO.refl _)
      | (with_reducible exact LeO.none _)
      | (with_reducible refine LeO.ite ?_ ?_)
      | (with_reducible refine LeO.bind ?_ (fun _ => ?_))
      | exact ih0 _ _ _ _ _ _
      | exact ih1 _ _ _ _ _ _ _ _ _ _ _
      | exact ih2 _ _ _ _ _ _ _ _ _
      | exact ih3 _ _ _ _ _ _ _ _
      | exact bits_Binary.mono _ _ _ _ _
      | exact jacquardlaw01_awake.mono _
      | exact LeO.none _
      | refine LeO.ite ?_ ?_
      | refine LeO.bind ?_ (fun _ => ?_)
set_option maxHeartbeats 8000000 in
set_option maxRecDepth 100000 in
theorem jacquardlaw01_BitsDivision.calls (k : Nat) (a0 : Int) (a1 : Int) (a2 : Int) (r : Bool) (w : World) (h : jacquardlaw01_BitsDivision.f k a0 a1 a2 = some r) :
    Calls Try.prog 8 #[.int .i64 a0, .int .u64 a1, .int .u64 a2] w fun e w' => e = .returned (.bool r) ∧ Below w.heap.size w w' := by
  have hu60 := Try.underlying60
  have HB := Aside0.mk (Below.refl w.heap.size w)
  have H : ((jacquardlaw01_awake.f k).bind fun t492 => (if t492 = true then ((jacquardref01_Right.f a0).bind fun t493 => (if t493 = true then ((bits_Fit.f a0 a1).bind fun t494 => ((bits_Fit.f a0 a2).bind fun t495 => ((some (([(⟨5, 6⟩ : S60), (⟨7, 8⟩ : S60)] : List (S60)) : List (S60))).bind fun y496 => (jacquardlaw01_BitsDivision.l0 k a0 t494 t495 y496 (y496.length : Int) 0)))) else (some true))) else (some false))) = some r := h
  clear h
  replace H := Option.bind_eq_some_iff.mp H
  obtain ⟨t492, A40, H⟩ := H
  replace H : (if t492 = true then ((jacquardref01_Right.f a0).bind fun t493 => (if t493 = true then ((bits_Fit.f a0 a1).bind fun t494 => ((bits_Fit.f a0 a2).bind fun t495 => ((some (([(⟨5, 6⟩ : S60), (⟨7, 8⟩ : S60)] : List (S60)) : List (S60))).bind fun y496 => (jacquardlaw01_BitsDivision.l0 k a0 t494 t495 y496 (y496.length : Int) 0)))) else (some true))) else (some false)) = some r := H
  have A4 := Aside0.mk A40
  clear A40
  by_cases c5 : t492 = true
  · subst c5
    have H1 : ((jacquardref01_Right.f a0).bind fun t493 => (if t493 = true then ((bits_Fit.f a0 a1).bind fun t494 => ((bits_Fit.f a0 a2).bind fun t495 => ((some (([(⟨5, 6⟩ : S60), (⟨7, 8⟩ : S60)] : List (S60)) : List (S60))).bind fun y496 => (jacquardlaw01_BitsDivision.l0 k a0 t494 t495 y496 (y496.length : Int) 0)))) else (some true))) = some r := by rw [if_pos rfl] at H; exact H
    clear H
    have H := H1
    clear H1
    replace H := Option.bind_eq_some_iff.mp H
    obtain ⟨t493, A60, H⟩ := H
    replace H : (if t493 = true then ((bits_Fit.f a0 a1).bind fun t494 => ((bits_Fit.f a0 a2).bind fun t495 => ((some (([(⟨5, 6⟩ : S60), (⟨7, 8⟩ : S60)] : List (S60)) : List (S60))).bind fun y496 => (jacquardlaw01_BitsDivision.l0 k a0 t494 t495 y496 (y496.length : Int) 0)))) else (some true)) = some r := H
    have A6 := Aside0.mk A60
    clear A60
    by_cases c7 : t493 = true
    · subst c7
      have H1 : ((bits_Fit.f a0 a1).bind fun t494 => ((bits_Fit.f a0 a2).bind fun t495 => ((some (([(⟨5, 6⟩ : S60), (⟨7, 8⟩ : S60)] : List (S60)) : List (S60))).bind fun y496 => (jacquardlaw01_BitsDivision.l0 k a0 t494 t495 y496 (y496.length : Int) 0)))) = some r := by rw [if_pos rfl] at H; exact H
      clear H
      have H := H1
      clear H1
      replace H := Option.bind_eq_some_iff.mp H
      obtain ⟨t494, A80, H⟩ := H
      replace H : ((bits_Fit.f a0 a2).bind fun t495 => ((some (([(⟨5, 6⟩ : S60), (⟨7, 8⟩ : S60)] : List (S60)) : List (S60))).bind fun y496 => (jacquardlaw01_BitsDivision.l0 k a0 t494 t495 y496 (y496.length : Int) 0))) = some r := H
      have A8 := Aside0.mk A80
      clear A80
      replace H := Option.bind_eq_some_iff.mp H
      obtain ⟨t495, A90, H⟩ := H
      replace H : ((some (([(⟨5, 6⟩ : S60), (⟨7, 8⟩ : S60)] : List (S60)) : List (S60))).bind fun y496 => (jacquardlaw01_BitsDivision.l0 k a0 t494 t495 y496 (y496.length : Int) 0)) = some r := H
      have A9 := Aside0.mk A90
      clear A90
      obtain ⟨y496, hy496⟩ : ∃ y_ : List (S60), y_ = (([(⟨5, 6⟩ : S60), (⟨7, 8⟩ : S60)] : List (S60))) := ⟨_, rfl⟩
      replace H : (jacquardlaw01_BitsDivision.l0 k a0 t494 t495 y496 (y496.length : Int) 0) = some r := by first | (rw [hy496]; with_reducible exact H) | (have H2_ := (Option.bind_some _ _).symm.trans H; rw [hy496]; with_reducible exact H2_) | (have H2_ := (Option.bind_some _ _).symm.trans H; with_reducible exact H2_) | with_reducible exact H | (rw [hy496]; exact H) | exact H
      have Ny496 := Aside0.mk hy496
      clear hy496
      have H' := Aside0.mk H
      clear H
      go_enter Try.func8, Try.ntmps8
      go_wp2_with (first | ((with_reducible refine gate_callee (f := 42) rfl ?_); refine goesL_ (some 20) rfl rfl Try.func42 (by kernel_rfl) rfl #[] rfl (by (try simp only [List.map_toArray, List.map_cons, List.map_nil]); first | done | rfl | (simp only [List.length_drop, List.length_take]; rfl)) ?_; (with_reducible refine (jacquardlaw01_awake.calls k  true _ A4.out).mono ?_); rintro e w10 ⟨rfl, hb⟩; refine ⟨_, rfl, ?_⟩; have n0_ := Aside0.mk (below_step (by repeat (first | (with_reducible first | exact HB.out | apply below_alloc | apply pw_below_drewN | apply below_drew1) | exact HB.out)) hb); clear HB; have HB := n0_; clear n0_; (try clear hb); (try clear hb2); (try clear hk); (try clear hi)) | ((with_reducible refine gate_callee (f := 45) rfl ?_); refine goesL_ (some 23) rfl rfl Try.func45 (by kernel_rfl) rfl #[.int .i64 a0] rfl (by (try simp only [List.map_toArray, List.map_cons, List.map_nil]); first | done | rfl | (simp only [List.length_drop, List.length_take]; rfl)) ?_; (with_reducible refine (jacquardref01_Right.calls a0 true _ A6.out).mono ?_); rintro e w' ⟨rfl, ⟨nd, rfl⟩⟩; refine ⟨_, rfl, ?_⟩) | ((with_reducible refine gate_callee (f := 47) rfl ?_); refine goesL_ (some 27) rfl rfl Try.func47 (by kernel_rfl) rfl #[.int .i64 a0, .int .u64 a1] rfl (by (try simp only [List.map_toArray, List.map_cons, List.map_nil]); first | done | rfl | (simp only [List.length_drop, List.length_take]; rfl)) ?_; (with_reducible refine (bits_Fit.calls a0 a1 t494 _ A8.out).mono ?_); rintro e w11 ⟨rfl, hb⟩; refine ⟨_, rfl, ?_⟩; have n0_ := Aside0.mk (below_step (by repeat (first | (with_reducible first | exact HB.out | apply below_alloc | apply pw_below_drewN | apply below_drew1) | exact HB.out)) hb); clear HB; have HB := n0_; clear n0_; (try clear hb); (try clear hb2); (try clear hk); (try clear hi)) | ((with_reducible refine gate_callee (f := 47) rfl ?_); refine goesL_ (some 30) rfl rfl Try.func47 (by kernel_rfl) rfl #[.int .i64 a0, .int .u64 a2] rfl (by (try simp only [List.map_toArray, List.map_cons, List.map_nil]); first | done | rfl | (simp only [List.length_drop, List.length_take]; rfl)) ?_; (with_reducible refine (bits_Fit.calls a0 a2 t495 _ A9.out).mono ?_); rintro e w12 ⟨rfl, hb⟩; refine ⟨_, rfl, ?_⟩; have n0_ := Aside0.mk (below_step (by repeat (first | (with_reducible first | exact HB.out | apply below_alloc | apply pw_below_drewN | apply below_drew1) | exact HB.out)) hb); clear HB; have HB := n0_; clear n0_; (try clear hb); (try clear hb2); (try clear hk); (try clear hi)) | ((with_reducible refine gate_dst (N := 33) rfl ?_); refine Kd.R_lit k60 _ 60 ?hg (N := 33) ?hd (xs := ([(⟨5, 6⟩ : S60), (⟨7, 8⟩ : S60)] : List (S60))) (inner := [.int .i64 5, .int .i64 6, .int .i64 7, .int .i64 8]) (ok := fun _ => True) (okp := fun _ => True) ?hr ?hp (fun _ hk => hk) trivial (Below.refl _ _) (Nat.le_refl _) (by simp) ?_; (case hd => rfl); (case hg => rfl); (case hr => first | (go_simp; done) | (go_simp; rfl)); (case hp => exact (Reps.c2 (show Kd.M k60 _ _ _ (⟨5, 6⟩ : S60) [.int .i64 5, .int .i64 6] from (k60_mkM _ _ _ (⟨5, 6⟩ : S60) )) (Reps.c2 (show Kd.M k60 _ _ _ (⟨7, 8⟩ : S60) [.int .i64 7, .int .i64 8] from (k60_mkM _ _ _ (⟨7, 8⟩ : S60) )) (Reps.none _ _)))); intro v497 w13 ho14 hb hg_ hnew_; clear hg_ hnew_; (first | rw [← Ny496.out] at ho14 | (simp only [Int.reduceToNat] at ho14; rw [← Ny496.out] at ho14)); have n0_ := Aside0.mk (Kd.R_lower ho14 (below_size (by repeat (first | (with_reducible first | exact HB.out | apply below_alloc | apply pw_below_drewN | apply below_drew1) | exact HB.out)))); have n1_ := Aside0.mk (below_step (by repeat (first | (with_reducible first | exact HB.out | apply below_alloc | apply pw_below_drewN | apply below_drew1) | exact HB.out)) hb); clear HB; have HO498 := n0_; have HB := n1_; clear n0_ n1_; clear hb ho14; obtain ⟨Ao15, co15, eo15⟩ := Kd.R_slice HO498.out; subst eo15))
      go_loopg [35] k (fun kq v35 w' => ∃ (x35_1 : Int), v35 = .int .i64 x35_1 ∧ Aside0 (jacquardlaw01_BitsDivision.l0 kq a0 t494 t495 y496 (y496.length : Int) x35_1 = some r) ∧ Aside0 (kq ≤ k) ∧ Aside0 (Kd.R k60 60 w' w.heap.size (fun _ => True) (.slice Ao15 y496.length co15) y496) ∧ Aside0 (Below w.heap.size w w'))
      case atStart => exact ⟨(0), (by first | rfl | (simp; done) | (simp [*]; done)), H', ⟨Nat.le_refl _⟩, ⟨by (with_reducible repeat (first | apply Kd.R_alloc | apply Kd.R_drewN | apply Kd.R_drew)); exact HO498.out⟩, ⟨by repeat (first | (with_reducible first | exact HB.out | apply below_alloc | apply pw_below_drewN | apply below_drew1) | exact HB.out)⟩⟩
      case round =>
        clear H'
        try clear c2
        try clear p2
        try clear c4
        try clear c5
        try clear c7
        try clear c8
        obtain ⟨x35_1, rfl, HA, HK1, HO_33, HB⟩ := hrel
        cases gk with
        | zero => exact absurd HA.out (by simp [jacquardlaw01_BitsDivision.l0])
        | succ k1 =>
          have H := HA.out
          clear HA
          simp only [jacquardlaw01_BitsDivision.l0] at H
          by_cases c16 : x35_1 < (y496.length : Int)
          · rw [if_pos c16] at H
            have c16b0 : decide (x35_1 < (y496.length : Int)) = true := decide_eq_true c16
            clear c16
            by_cases c17 : 0 ≤ x35_1
            · rw [if_pos c17] at H
              have c17b0 : decide (0 ≤ x35_1) = true := decide_eq_true c17
              clear c17
              by_cases c18 : x35_1 < (y496.length : Int)
              · rw [if_pos c18] at H
                have c18b0 : decide (x35_1 < (y496.length : Int)) = true := decide_eq_true c18
                clear c18
                replace H := Option.bind_eq_some_iff.mp H
                obtain ⟨⟨t501, t502⟩, A190, H⟩ := H
                replace H : ((bits_Binary.f k1 ((rd_T60 y496 x35_1).f1) a0 t494 t495).bind fun bt503 => ((bits_Binary.f k1 4 a0 t501 t495).bind fun bt505 => ((bits_Binary.f k1 2 a0 bt505.1 bt503.1).bind fun bt507 => (if t502 = 0 then (if bt503.2 = 0 then (if bt505.2 = 0 then (if bt507.2 = 0 then (jacquardlaw01_BitsDivision.j1 k1 a0 t494 t495 t501 bt503.1 y496 (y496.length : Int) x35_1 (bt507.1 != t494) ((rd_T60 y496 x35_1).f0) ((rd_T60 y496 x35_1).f1)) else (jacquardlaw01_BitsDivision.j1 k1 a0 t494 t495 t501 bt503.1 y496 (y496.length : Int) x35_1 true ((rd_T60 y496 x35_1).f0) ((rd_T60 y496 x35_1).f1))) else (jacquardlaw01_BitsDivision.j1 k1 a0 t494 t495 t501 bt503.1 y496 (y496.length : Int) x35_1 true ((rd_T60 y496 x35_1).f0) ((rd_T60 y496 x35_1).f1))) else (jacquardlaw01_BitsDivision.j1 k1 a0 t494 t495 t501 bt503.1 y496 (y496.length : Int) x35_1 true ((rd_T60 y496 x35_1).f0) ((rd_T60 y496 x35_1).f1))) else (jacquardlaw01_BitsDivision.j1 k1 a0 t494 t495 t501 bt503.1 y496 (y496.length : Int) x35_1 true ((rd_T60 y496 x35_1).f0) ((rd_T60 y496 x35_1).f1)))))) = some r := H
                have A19 := Aside0.mk A190
                clear A190
                replace H := Option.bind_eq_some_iff.mp H
                obtain ⟨⟨t503, t504⟩, A200, H⟩ := H
                replace H : ((bits_Binary.f k1 4 a0 t501 t495).bind fun bt505 => ((bits_Binary.f k1 2 a0 bt505.1 t503).bind fun bt507 => (if t502 = 0 then (if t504 = 0 then (if bt505.2 = 0 then (if bt507.2 = 0 then (jacquardlaw01_BitsDivision.j1 k1 a0 t494 t495 t501 t503 y496 (y496.length : Int) x35_1 (bt507.1 != t494) ((rd_T60 y496 x35_1).f0) ((rd_T60 y496 x35_1).f1)) else (jacquardlaw01_BitsDivision.j1 k1 a0 t494 t495 t501 t503 y496 (y496.length : Int) x35_1 true ((rd_T60 y496 x35_1).f0) ((rd_T60 y496 x35_1).f1))) else (jacquardlaw01_BitsDivision.j1 k1 a0 t494 t495 t501 t503 y496 (y496.length : Int) x35_1 true ((rd_T60 y496 x35_1).f0) ((rd_T60 y496 x35_1).f1))) else (jacquardlaw01_BitsDivision.j1 k1 a0 t494 t495 t501 t503 y496 (y496.length : Int) x35_1 true ((rd_T60 y496 x35_1).f0) ((rd_T60 y496 x35_1).f1))) else (jacquardlaw01_BitsDivision.j1 k1 a0 t494 t495 t501 t503 y496 (y496.length : Int) x35_1 true ((rd_T60 y496 x35_1).f0) ((rd_T60 y496 x35_1).f1))))) = some r := H
                have A20 := Aside0.mk A200
                clear A200
                replace H := Option.bind_eq_some_iff.mp H
                obtain ⟨⟨t505, t506⟩, A210, H⟩ := H
                replace H : ((bits_Binary.f k1 2 a0 t505 t503).bind fun bt507 => (if t502 = 0 then (if t504 = 0 then (if t506 = 0 then (if bt507.2 = 0 then (jacquardlaw01_BitsDivision.j1 k1 a0 t494 t495 t501 t503 y496 (y496.length : Int) x35_1 (bt507.1 != t494) ((rd_T60 y496 x35_1).f0) ((rd_T60 y496 x35_1).f1)) else (jacquardlaw01_BitsDivision.j1 k1 a0 t494 t495 t501 t503 y496 (y496.length : Int) x35_1 true ((rd_T60 y496 x35_1).f0) ((rd_T60 y496 x35_1).f1))) else (jacquardlaw01_BitsDivision.j1 k1 a0 t494 t495 t501 t503 y496 (y496.length : Int) x35_1 true ((rd_T60 y496 x35_1).f0) ((rd_T60 y496 x35_1).f1))) else (jacquardlaw01_BitsDivision.j1 k1 a0 t494 t495 t501 t503 y496 (y496.length : Int) x35_1 true ((rd_T60 y496 x35_1).f0) ((rd_T60 y496 x35_1).f1))) else (jacquardlaw01_BitsDivision.j1 k1 a0 t494 t495 t501 t503 y496 (y496.length : Int) x35_1 true ((rd_T60 y496 x35_1).f0) ((rd_T60 y496 x35_1).f1)))) = some r := H
                have A21 := Aside0.mk A210
                clear A210
                replace H := Option.bind_eq_some_iff.mp H
                obtain ⟨⟨t507, t508⟩, A220, H⟩ := H
                replace H : (if t502 = 0 then (if t504 = 0 then (if t506 = 0 then (if t508 = 0 then (jacquardlaw01_BitsDivision.j1 k1 a0 t494 t495 t501 t503 y496 (y496.length : Int) x35_1 (t507 != t494) ((rd_T60 y496 x35_1).f0) ((rd_T60 y496 x35_1).f1)) else (jacquardlaw01_BitsDivision.j1 k1 a0 t494 t495 t501 t503 y496 (y496.length : Int) x35_1 true ((rd_T60 y496 x35_1).f0) ((rd_T60 y496 x35_1).f1))) else (jacquardlaw01_BitsDivision.j1 k1 a0 t494 t495 t501 t503 y496 (y496.length : Int) x35_1 true ((rd_T60 y496 x35_1).f0) ((rd_T60 y496 x35_1).f1))) else (jacquardlaw01_BitsDivision.j1 k1 a0 t494 t495 t501 t503 y496 (y496.length : Int) x35_1 true ((rd_T60 y496 x35_1).f0) ((rd_T60 y496 x35_1).f1))) else (jacquardlaw01_BitsDivision.j1 k1 a0 t494 t495 t501 t503 y496 (y496.length : Int) x35_1 true ((rd_T60 y496 x35_1).f0) ((rd_T60 y496 x35_1).f1))) = some r := H
                have A22 := Aside0.mk A220
                clear A220
                have HC23 := Aside0.mk H
                clear H
                have p499 : 0 ≤ (x35_1 : Int) := of_decide_eq_true (by first | (with_reducible assumption) | assumption)
                have q499 : x35_1 < (y496.length : Int) := of_decide_eq_true (by first | (with_reducible assumption) | assumption)
                obtain ⟨ad499, e499, hx499_0, hx499_1⟩ := at_T60 (Kd.R_reads' HO_33.out).2.2 x35_1 p499 q499
                cases e499
                replace p499 := eq_true p499
                replace q499 := eq_true q499
                go_upto_region 13 with (first | ((with_reducible refine gate_dst (N := 8) rfl ?_); refine box_event ?hg (N := 8) ?hd (cs := #[.int .i64 0, .int .i64 0]) (t := 60) ?hr ?_; (case hd => rfl); (case hg => rfl); (case hr => first | (go_simp; done) | (go_simp; rfl)); intro gb500 hg w24 hbox hb; have n0_ := Aside0.mk (Kd.R_below (Kd.R_elderB (by (with_reducible repeat (first | apply Kd.R_alloc | apply Kd.R_drewN | apply Kd.R_drew)); exact HO_33.out) gb500 (Nat.le_of_eq hg.symm)) hb); have n1_ := Aside0.mk (below_step (by repeat (first | (with_reducible first | exact HB.out | apply below_alloc | apply pw_below_drewN | apply below_drew1) | exact HB.out)) hb); have n2_ := Aside0.mk (hbox); have n3_ := Aside0.mk ((by rw [hg]; exact (below_size (by repeat (first | (with_reducible first | exact HB.out | apply below_alloc | apply pw_below_drewN | apply below_drew1) | exact HB.out))) : w.heap.size ≤ gb500)); have n4_ := Aside0.mk ((by rw [hg]; exact (below_size (by repeat (first | (with_reducible first | exact HB.out | apply below_alloc | apply pw_below_drewN | apply below_drew1) | exact HB.out))) : w.heap.size ≤ gb500)); clear HO_33; clear HB; have HO_33 := n0_; have HB := n1_; have BK500 := n2_; have GW500 := n3_; have GE500 := n4_; clear n0_ n1_ n2_ n3_ n4_; clear hb hbox hg; have hcz25_0 : w24.cell? ⟨gb500, 0, none⟩ = some (.int .i64 0) := (blk_cell BK500.out 0).trans rfl; have hcz25_1 : w24.cell? ⟨gb500, 1, none⟩ = some (.int .i64 0) := (blk_cell BK500.out 1).trans rfl; have hfz25_0 := blk_frozen BK500.out 0; have hfz25_1 := blk_frozen BK500.out 1) | ((with_reducible refine gate_callee (f := 43) rfl ?_); refine goesL_ (some 45) rfl rfl Try.func43 (by kernel_rfl) rfl #[.int .i64 ((rd_T60 y496 x35_1).f0), .int .i64 a0, .int .u64 t494, .int .u64 t495] rfl (by (try simp only [List.map_toArray, List.map_cons, List.map_nil]); first | done | rfl | (simp only [List.length_drop, List.length_take]; rfl)) ?_; (with_reducible refine (bits_Binary.calls k1 ((rd_T60 y496 x35_1).f0) a0 t494 t495 t501 t502 _ A19.out).mono ?_); rintro e w26 ⟨rfl, hb⟩; refine ⟨_, rfl, ?_⟩; have n0_ := Aside0.mk (Kd.R_below (by (with_reducible repeat (first | apply Kd.R_alloc | apply Kd.R_drewN | apply Kd.R_drew)); exact (Kd.R_mono (Kd.R_far (p := ⟨gb500, 1, none⟩) (Kd.R_far (p := ⟨gb500, 0, none⟩) (Kd.R_mono HO_33.out (fun k_ hk => (⟨hk, hk.2⟩ : _ ∧ k_ ≠ gb500))) (fun _ hk => hk.2) (.int .i64 ((rd_T60 y496 x35_1).f0))) (fun _ hk => hk.2) (.int .i64 ((rd_T60 y496 x35_1).f1))) (fun _ h_ => h_.1))) hb); have n1_ := Aside0.mk (blk_below (g := gb500) (o := .cells #[.int .i64 ((rd_T60 y496 x35_1).f0), .int .i64 ((rd_T60 y496 x35_1).f1)] 60 (0, 0)) (by (with_reducible repeat (first | refine blk_drewN ?_ _ | refine blk_drew ?_ | refine blk_alloc ?_ _)); refine blk_put (cs := #[.int .i64 ((rd_T60 y496 x35_1).f0), .int .i64 0]) ?_ 1 _ rfl; (with_reducible repeat (first | refine blk_drewN ?_ _ | refine blk_drew ?_ | refine blk_alloc ?_ _)); refine blk_put (cs := #[.int .i64 0, .int .i64 0]) ?_ 0 _ rfl; (with_reducible repeat (first | refine blk_drewN ?_ _ | refine blk_drew ?_ | refine blk_alloc ?_ _)); exact BK500.out) hb); have n2_ := Aside0.mk (below_step (by repeat (first | (with_reducible first | exact HB.out | apply below_alloc | apply pw_below_drewN | apply below_drew1 | refine below_set ?_ GE500.out) | exact HB.out)) hb); clear HO_33; clear BK500; clear HB; have HO_33 := n0_; have BK500 := n1_; have HB := n2_; clear n0_ n1_ n2_; (try clear hb); (try clear hb2); (try clear hk); (try clear hi); have hcz27_0 : w26.cell? ⟨gb500, 0, none⟩ = some (.int .i64 ((rd_T60 y496 x35_1).f0)) := (blk_cell BK500.out 0).trans rfl; have hcz27_1 : w26.cell? ⟨gb500, 1, none⟩ = some (.int .i64 ((rd_T60 y496 x35_1).f1)) := (blk_cell BK500.out 1).trans rfl; have hfz27_0 := blk_frozen BK500.out 0; have hfz27_1 := blk_frozen BK500.out 1) | ((with_reducible refine gate_callee (f := 43) rfl ?_); refine goesL_ (some 54) rfl rfl Try.func43 (by kernel_rfl) rfl #[.int .i64 ((rd_T60 y496 x35_1).f1), .int .i64 a0, .int .u64 t494, .int .u64 t495] rfl (by (try simp only [List.map_toArray, List.map_cons, List.map_nil]); first | done | rfl | (simp only [List.length_drop, List.length_take]; rfl)) ?_; (with_reducible refine (bits_Binary.calls k1 ((rd_T60 y496 x35_1).f1) a0 t494 t495 t503 t504 _ A20.out).mono ?_); rintro e w28 ⟨rfl, hb⟩; refine ⟨_, rfl, ?_⟩; have n0_ := Aside0.mk (Kd.R_below (by (with_reducible repeat (first | apply Kd.R_alloc | apply Kd.R_drewN | apply Kd.R_drew)); exact HO_33.out) hb); have n1_ := Aside0.mk (blk_below (g := gb500) (o := .cells #[.int .i64 ((rd_T60 y496 x35_1).f0), .int .i64 ((rd_T60 y496 x35_1).f1)] 60 (0, 0)) (by (with_reducible repeat (first | refine blk_drewN ?_ _ | refine blk_drew ?_ | refine blk_alloc ?_ _)); exact BK500.out) hb); have n2_ := Aside0.mk (below_step (by repeat (first | (with_reducible first | exact HB.out | apply below_alloc | apply pw_below_drewN | apply below_drew1 | refine below_set ?_ GE500.out) | exact HB.out)) hb); clear HO_33; clear BK500; clear HB; have HO_33 := n0_; have BK500 := n1_; have HB := n2_; clear n0_ n1_ n2_; (try clear hb); (try clear hb2); (try clear hk); (try clear hi)) | ((with_reducible refine gate_callee (f := 43) rfl ?_); refine goesL_ (some 61) rfl rfl Try.func43 (by kernel_rfl) rfl #[.int .i64 4, .int .i64 a0, .int .u64 t501, .int .u64 t495] rfl (by (try simp only [List.map_toArray, List.map_cons, List.map_nil]); first | done | rfl | (simp only [List.length_drop, List.length_take]; rfl)) ?_; (with_reducible refine (bits_Binary.calls k1 4 a0 t501 t495 t505 t506 _ A21.out).mono ?_); rintro e w29 ⟨rfl, hb⟩; refine ⟨_, rfl, ?_⟩; have n0_ := Aside0.mk (Kd.R_below (by (with_reducible repeat (first | apply Kd.R_alloc | apply Kd.R_drewN | apply Kd.R_drew)); exact HO_33.out) hb); have n1_ := Aside0.mk (blk_below (g := gb500) (o := .cells #[.int .i64 ((rd_T60 y496 x35_1).f0), .int .i64 ((rd_T60 y496 x35_1).f1)] 60 (0, 0)) (by (with_reducible repeat (first | refine blk_drewN ?_ _ | refine blk_drew ?_ | refine blk_alloc ?_ _)); exact BK500.out) hb); have n2_ := Aside0.mk (below_step (by repeat (first | (with_reducible first | exact HB.out | apply below_alloc | apply pw_below_drewN | apply below_drew1 | refine below_set ?_ GE500.out) | exact HB.out)) hb); clear HO_33; clear BK500; clear HB; have HO_33 := n0_; have BK500 := n1_; have HB := n2_; clear n0_ n1_ n2_; (try clear hb); (try clear hb2); (try clear hk); (try clear hi)) | ((with_reducible refine gate_callee (f := 43) rfl ?_); refine goesL_ (some 68) rfl rfl Try.func43 (by kernel_rfl) rfl #[.int .i64 2, .int .i64 a0, .int .u64 t505, .int .u64 t503] rfl (by (try simp only [List.map_toArray, List.map_cons, List.map_nil]); first | done | rfl | (simp only [List.length_drop, List.length_take]; rfl)) ?_; (with_reducible refine (bits_Binary.calls k1 2 a0 t505 t503 t507 t508 _ A22.out).mono ?_); rintro e w30 ⟨rfl, hb⟩; refine ⟨_, rfl, ?_⟩; have n0_ := Aside0.mk (Kd.R_below (by (with_reducible repeat (first | apply Kd.R_alloc | apply Kd.R_drewN | apply Kd.R_drew)); exact HO_33.out) hb); have n1_ := Aside0.mk (blk_below (g := gb500) (o := .cells #[.int .i64 ((rd_T60 y496 x35_1).f0), .int .i64 ((rd_T60 y496 x35_1).f1)] 60 (0, 0)) (by (with_reducible repeat (first | refine blk_drewN ?_ _ | refine blk_drew ?_ | refine blk_alloc ?_ _)); exact BK500.out) hb); have n2_ := Aside0.mk (below_step (by repeat (first | (with_reducible first | exact HB.out | apply below_alloc | apply pw_below_drewN | apply below_drew1 | refine below_set ?_ GE500.out) | exact HB.out)) hb); clear HO_33; clear BK500; clear HB; have HO_33 := n0_; have BK500 := n1_; have HB := n2_; clear n0_ n1_ n2_; (try clear hb); (try clear hb2); (try clear hk); (try clear hi)))
                (try simp only [Act.put, List.setIfInBounds_toArray, List.set_cons_zero, List.set_cons_succ])
                go_cut [89] (fun v89 wc => ∃ (kq : Nat) (x89_22 : Bool), v89 = .bool x89_22 ∧ Aside0 (jacquardlaw01_BitsDivision.j1 kq a0 t494 t495 t501 t503 y496 (y496.length : Int) x35_1 x89_22 ((rd_T60 y496 x35_1).f0) ((rd_T60 y496 x35_1).f1) = some r) ∧ Aside0 (kq ≤ k1) ∧ Aside0 (Kd.R k60 60 wc w.heap.size (fun k_ => k_ ≠ gb500) (.slice (some ad499) y496.length co15) y496) ∧ Aside0 (wc.heap[gb500]? = some (.cells #[.int .i64 ((rd_T60 y496 x35_1).f0), .int .i64 ((rd_T60 y496 x35_1).f1)] 60 (0, 0))) ∧ Aside0 (Below w.heap.size w wc))
                case first =>
                  have H := HC23.out
                  clear HC23
                  by_cases c31 : t502 = 0
                  · rw [if_pos c31] at H
                    have c31b0 : (t502 == 0) = true := beq_iff_eq.mpr c31
                    have c31b1 : (t502 != 0) = false := bne_eq_false_iff_eq.mpr c31
                    clear c31
                    (first | rw [c31b0] | (simp only [i64_w, i32_w]; rw [c31b0]) | skip)
                    by_cases c32 : t504 = 0
                    · rw [if_pos c32] at H
                      have c32b0 : (t504 == 0) = true := beq_iff_eq.mpr c32
                      have c32b1 : (t504 != 0) = false := bne_eq_false_iff_eq.mpr c32
                      clear c32
                      by_cases c33 : t506 = 0
                      · rw [if_pos c33] at H
                        have c33b0 : (t506 == 0) = true := beq_iff_eq.mpr c33
                        have c33b1 : (t506 != 0) = false := bne_eq_false_iff_eq.mpr c33
                        clear c33
                        by_cases c34 : t508 = 0
                        · rw [if_pos c34] at H
                          have c34b0 : (t508 == 0) = true := beq_iff_eq.mpr c34
                          have c34b1 : (t508 != 0) = false := bne_eq_false_iff_eq.mpr c34
                          clear c34
                          have H' := Aside0.mk H
                          clear H
                          go_wp2
                          go_meet
                          case rel => exact ⟨_, ((t507 != t494)), (by first | rfl | (simp; done) | (simp [*]; done)), H', ⟨by have := HK1.out; first | omega | exact Nat.le_refl _⟩, ⟨by (with_reducible repeat (first | apply Kd.R_alloc | apply Kd.R_drewN | apply Kd.R_drew)); exact Kd.R_mono HO_33.out (fun _ hk => hk.2)⟩, ⟨by (with_reducible repeat (first | refine blk_drewN ?_ _ | refine blk_drew ?_ | refine blk_alloc ?_ _)); exact BK500.out⟩, ⟨by repeat (first | (with_reducible first | exact HB.out | apply below_alloc | apply pw_below_drewN | apply below_drew1 | refine below_set ?_ GE500.out) | exact HB.out)⟩⟩
                        · rw [if_neg c34] at H
                          have c34b0 : (t508 == 0) = false := beq_eq_false_iff_ne.mpr c34
                          have c34b1 : (t508 != 0) = true := bne_iff_ne.mpr c34
                          have H' := Aside0.mk H
                          clear H
                          go_wp2
                          go_meet
                          case rel => exact ⟨_, (true), (by first | rfl | (simp; done) | (simp [*]; done)), H', ⟨by have := HK1.out; first | omega | exact Nat.le_refl _⟩, ⟨by (with_reducible repeat (first | apply Kd.R_alloc | apply Kd.R_drewN | apply Kd.R_drew)); exact Kd.R_mono HO_33.out (fun _ hk => hk.2)⟩, ⟨by (with_reducible repeat (first | refine blk_drewN ?_ _ | refine blk_drew ?_ | refine blk_alloc ?_ _)); exact BK500.out⟩, ⟨by repeat (first | (with_reducible first | exact HB.out | apply below_alloc | apply pw_below_drewN | apply below_drew1 | refine below_set ?_ GE500.out) | exact HB.out)⟩⟩
                      · rw [if_neg c33] at H
                        have c33b0 : (t506 == 0) = false := beq_eq_false_iff_ne.mpr c33
                        have c33b1 : (t506 != 0) = true := bne_iff_ne.mpr c33
                        have H' := Aside0.mk H
                        clear H
                        go_wp2
                        go_meet
                        case rel => exact ⟨_, (true), (by first | rfl | (simp; done) | (simp [*]; done)), H', ⟨by have := HK1.out; first | omega | exact Nat.le_refl _⟩, ⟨by (with_reducible repeat (first | apply Kd.R_alloc | apply Kd.R_drewN | apply Kd.R_drew)); exact Kd.R_mono HO_33.out (fun _ hk => hk.2)⟩, ⟨by (with_reducible repeat (first | refine blk_drewN ?_ _ | refine blk_drew ?_ | refine blk_alloc ?_ _)); exact BK500.out⟩, ⟨by repeat (first | (with_reducible first | exact HB.out | apply below_alloc | apply pw_below_drewN | apply below_drew1 | refine below_set ?_ GE500.out) | exact HB.out)⟩⟩
                    · rw [if_neg c32] at H
                      have c32b0 : (t504 == 0) = false := beq_eq_false_iff_ne.mpr c32
                      have c32b1 : (t504 != 0) = true := bne_iff_ne.mpr c32
                      have H' := Aside0.mk H
                      clear H
                      go_wp2
                      go_meet
                      case rel => exact ⟨_, (true), (by first | rfl | (simp; done) | (simp [*]; done)), H', ⟨by have := HK1.out; first | omega | exact Nat.le_refl _⟩, ⟨by (with_reducible repeat (first | apply Kd.R_alloc | apply Kd.R_drewN | apply Kd.R_drew)); exact Kd.R_mono HO_33.out (fun _ hk => hk.2)⟩, ⟨by (with_reducible repeat (first | refine blk_drewN ?_ _ | refine blk_drew ?_ | refine blk_alloc ?_ _)); exact BK500.out⟩, ⟨by repeat (first | (with_reducible first | exact HB.out | apply below_alloc | apply pw_below_drewN | apply below_drew1 | refine below_set ?_ GE500.out) | exact HB.out)⟩⟩
                  · rw [if_neg c31] at H
                    have c31b0 : (t502 == 0) = false := beq_eq_false_iff_ne.mpr c31
                    have c31b1 : (t502 != 0) = true := bne_iff_ne.mpr c31
                    (first | rw [c31b0] | (simp only [i64_w, i32_w]; rw [c31b0]) | skip)
                    have H' := Aside0.mk H
                    clear H
                    go_wp2
                    go_meet
                    case rel => exact ⟨_, (true), (by first | rfl | (simp; done) | (simp [*]; done)), H', ⟨by have := HK1.out; first | omega | exact Nat.le_refl _⟩, ⟨by (with_reducible repeat (first | apply Kd.R_alloc | apply Kd.R_drewN | apply Kd.R_drew)); exact Kd.R_mono HO_33.out (fun _ hk => hk.2)⟩, ⟨by (with_reducible repeat (first | refine blk_drewN ?_ _ | refine blk_drew ?_ | refine blk_alloc ?_ _)); exact BK500.out⟩, ⟨by repeat (first | (with_reducible first | exact HB.out | apply below_alloc | apply pw_below_drewN | apply below_drew1 | refine below_set ?_ GE500.out) | exact HB.out)⟩⟩
                case rest =>
                  clear HC23
                  try clear c1
                  try clear c2
                  try clear p2
                  try clear c3
                  try clear c4
                  try clear p4
                  try clear q4
                  try clear hx4
                  try clear c5
                  try clear c7
                  try clear c8
                  try clear c16
                  try clear c16b0
                  try clear c17
                  try clear c17b0
                  try clear c18
                  try clear c18b0
                  try clear c31
                  try clear c31b0
                  try clear c31b1
                  try clear c32
                  try clear c32b0
                  try clear c32b1
                  try clear c33
                  try clear c33b0
                  try clear c33b1
                  try clear c34
                  try clear c34b0
                  try clear c34b1
                  try clear hcz25_0
                  try clear hcz25_1
                  try clear hcz27_0
                  try clear hcz27_1
                  try clear hfz25_0
                  try clear hfz25_1
                  try clear hfz27_0
                  try clear hfz27_1
                  try clear hx499_0
                  try clear hx499_1
                  try clear p2
                  try clear p499
                  try clear q499
                  obtain ⟨kq, x89_22, rfl, HA, HJ22, HO_33, BK500, HB⟩ := hcut
                  cases kq with
                  | zero => exact absurd HA.out (by simp [jacquardlaw01_BitsDivision.j1])
                  | succ kj22 =>
                    have H := HA.out
                    clear HA
                    simp only [jacquardlaw01_BitsDivision.j1] at H
                    by_cases c35 : x89_22 = true
                    · subst c35
                      have H1 : (some false) = some r := by rw [if_pos rfl] at H; exact H
                      clear H
                      have H := H1
                      clear H1
                      obtain rfl := Option.some.inj H
                      go_wp2
                      go_ret
                      exact ⟨by first | rfl | (simp [errW_none, errW_some] <;> rfl) | (simp [*, errW_none, errW_some] <;> rfl), by repeat (first | (with_reducible first | exact HB.out | apply below_alloc | apply pw_below_drewN | apply below_drew1 | refine below_set ?_ GE500.out) | exact HB.out)⟩
                    · replace c35 := Bool.eq_false_iff.mpr c35
                      subst c35
                      have H1 : (if t495 = 0 then ((bits_Mask.f a0).bind fun t509 => (if t501 = t509 then (if t503 = t494 then (jacquardlaw01_BitsDivision.l0 kj22 a0 t494 t495 y496 (y496.length : Int) (wrap64 (x35_1 + 1))) else (some false)) else (some false))) else (if ((rd_T60 y496 x35_1).f0) = 5 then (if t503 ≥ t495 then (some false) else (jacquardlaw01_BitsDivision.l0 kj22 a0 t494 t495 y496 (y496.length : Int) (wrap64 (x35_1 + 1)))) else ((bits_Signed.f a0 t494).bind fun t510 => ((bits_Signed.f a0 t495).bind fun t511 => ((bits_Signed.f a0 t503).bind fun t512 => (if t512 = 0 then (jacquardlaw01_BitsDivision.j2 kj22 a0 t494 t495 t511 t512 y496 (y496.length : Int) x35_1 false) else (jacquardlaw01_BitsDivision.j2 kj22 a0 t494 t495 t511 t512 y496 (y496.length : Int) x35_1 ((decide (t512 < 0)) != (decide (t510 < 0)))))))))) = some r := by rw [if_neg (show ¬ (false = true) by decide)] at H; exact H
                      clear H
                      have H := H1
                      clear H1
                      by_cases c36 : t495 = 0
                      · rw [if_pos c36] at H
                        have c36b0 : (t495 == 0) = true := beq_iff_eq.mpr c36
                        have c36b1 : (t495 != 0) = false := bne_eq_false_iff_eq.mpr c36
                        clear c36
                        replace H := Option.bind_eq_some_iff.mp H
                        obtain ⟨t509, A370, H⟩ := H
                        replace H : (if t501 = t509 then (if t503 = t494 then (jacquardlaw01_BitsDivision.l0 kj22 a0 t494 t495 y496 (y496.length : Int) (wrap64 (x35_1 + 1))) else (some false)) else (some false)) = some r := H
                        have A37 := Aside0.mk A370
                        clear A370
                        by_cases c38 : t501 = t509
                        · rw [if_pos c38] at H
                          have c38b0 : (t501 == t509) = true := beq_iff_eq.mpr c38
                          have c38b1 : (t501 != t509) = false := bne_eq_false_iff_eq.mpr c38
                          clear c38
                          by_cases c39 : t503 = t494
                          · rw [if_pos c39] at H
                            have c39b0 : (t503 == t494) = true := beq_iff_eq.mpr c39
                            have c39b1 : (t503 != t494) = false := bne_eq_false_iff_eq.mpr c39
                            clear c39
                            have H' := Aside0.mk H
                            clear H
                            go_wp2_with (first | ((with_reducible refine gate_callee (f := 48) rfl ?_); refine goesL_ (some 94) rfl rfl Try.func48 (by kernel_rfl) rfl #[.int .i64 a0] rfl (by (try simp only [List.map_toArray, List.map_cons, List.map_nil]); first | done | rfl | (simp only [List.length_drop, List.length_take]; rfl)) ?_; (with_reducible refine (bits_Mask.calls a0 t509 _ A37.out).mono ?_); rintro e w40 ⟨rfl, hb⟩; refine ⟨_, rfl, ?_⟩; have n0_ := Aside0.mk (Kd.R_below (by (with_reducible repeat (first | apply Kd.R_alloc | apply Kd.R_drewN | apply Kd.R_drew)); exact HO_33.out) hb); have n1_ := Aside0.mk (blk_below (g := gb500) (o := .cells #[.int .i64 ((rd_T60 y496 x35_1).f0), .int .i64 ((rd_T60 y496 x35_1).f1)] 60 (0, 0)) (by (with_reducible repeat (first | refine blk_drewN ?_ _ | refine blk_drew ?_ | refine blk_alloc ?_ _)); exact BK500.out) hb); have n2_ := Aside0.mk (below_step (by repeat (first | (with_reducible first | exact HB.out | apply below_alloc | apply pw_below_drewN | apply below_drew1 | refine below_set ?_ GE500.out) | exact HB.out)) hb); clear HO_33; clear BK500; clear HB; have HO_33 := n0_; have BK500 := n1_; have HB := n2_; clear n0_ n1_ n2_; (try clear hb); (try clear hb2); (try clear hk); (try clear hi)))
                            go_roundg kj22
                            case measure => have := HK1.out; have := HJ22.out; omega
                            case rel => exact ⟨(wrap64 (x35_1 + 1)), (by first | rfl | (simp; done) | (simp [*]; done)), H', ⟨by have := HK1.out; have := HJ22.out; omega⟩, ⟨by (with_reducible repeat (first | apply Kd.R_alloc | apply Kd.R_drewN | apply Kd.R_drew)); exact Kd.R_mono HO_33.out (fun _ hk => trivial)⟩, ⟨by repeat (first | (with_reducible first | exact HB.out | apply below_alloc | apply pw_below_drewN | apply below_drew1 | refine below_set ?_ GE500.out) | exact HB.out)⟩⟩
                          · rw [if_neg c39] at H
                            have c39b0 : (t503 == t494) = false := beq_eq_false_iff_ne.mpr c39
                            have c39b1 : (t503 != t494) = true := bne_iff_ne.mpr c39
                            obtain rfl := Option.some.inj H
                            go_wp2_with (first | ((with_reducible refine gate_callee (f := 48) rfl ?_); refine goesL_ (some 94) rfl rfl Try.func48 (by kernel_rfl) rfl #[.int .i64 a0] rfl (by (try simp only [List.map_toArray, List.map_cons, List.map_nil]); first | done | rfl | (simp only [List.length_drop, List.length_take]; rfl)) ?_; (with_reducible refine (bits_Mask.calls a0 t509 _ A37.out).mono ?_); rintro e w41 ⟨rfl, hb⟩; refine ⟨_, rfl, ?_⟩; have n0_ := Aside0.mk (Kd.R_below (by (with_reducible repeat (first | apply Kd.R_alloc | apply Kd.R_drewN | apply Kd.R_drew)); exact HO_33.out) hb); have n1_ := Aside0.mk (blk_below (g := gb500) (o := .cells #[.int .i64 ((rd_T60 y496 x35_1).f0), .int .i64 ((rd_T60 y496 x35_1).f1)] 60 (0, 0)) (by (with_reducible repeat (first | refine blk_drewN ?_ _ | refine blk_drew ?_ | refine blk_alloc ?_ _)); exact BK500.out) hb); have n2_ := Aside0.mk (below_step (by repeat (first | (with_reducible first | exact HB.out | apply below_alloc | apply pw_below_drewN | apply below_drew1 | refine below_set ?_ GE500.out) | exact HB.out)) hb); clear HO_33; clear BK500; clear HB; have HO_33 := n0_; have BK500 := n1_; have HB := n2_; clear n0_ n1_ n2_; (try clear hb); (try clear hb2); (try clear hk); (try clear hi)))
                            go_ret
                            exact ⟨by first | rfl | (simp [errW_none, errW_some] <;> rfl) | (simp [*, errW_none, errW_some] <;> rfl), by repeat (first | (with_reducible first | exact HB.out | apply below_alloc | apply pw_below_drewN | apply below_drew1 | refine below_set ?_ GE500.out) | exact HB.out)⟩
                        · rw [if_neg c38] at H
                          have c38b0 : (t501 == t509) = false := beq_eq_false_iff_ne.mpr c38
                          have c38b1 : (t501 != t509) = true := bne_iff_ne.mpr c38
                          obtain rfl := Option.some.inj H
                          go_wp2_with (first | ((with_reducible refine gate_callee (f := 48) rfl ?_); refine goesL_ (some 94) rfl rfl Try.func48 (by kernel_rfl) rfl #[.int .i64 a0] rfl (by (try simp only [List.map_toArray, List.map_cons, List.map_nil]); first | done | rfl | (simp only [List.length_drop, List.length_take]; rfl)) ?_; (with_reducible refine (bits_Mask.calls a0 t509 _ A37.out).mono ?_); rintro e w42 ⟨rfl, hb⟩; refine ⟨_, rfl, ?_⟩; have n0_ := Aside0.mk (Kd.R_below (by (with_reducible repeat (first | apply Kd.R_alloc | apply Kd.R_drewN | apply Kd.R_drew)); exact HO_33.out) hb); have n1_ := Aside0.mk (blk_below (g := gb500) (o := .cells #[.int .i64 ((rd_T60 y496 x35_1).f0), .int .i64 ((rd_T60 y496 x35_1).f1)] 60 (0, 0)) (by (with_reducible repeat (first | refine blk_drewN ?_ _ | refine blk_drew ?_ | refine blk_alloc ?_ _)); exact BK500.out) hb); have n2_ := Aside0.mk (below_step (by repeat (first | (with_reducible first | exact HB.out | apply below_alloc | apply pw_below_drewN | apply below_drew1 | refine below_set ?_ GE500.out) | exact HB.out)) hb); clear HO_33; clear BK500; clear HB; have HO_33 := n0_; have BK500 := n1_; have HB := n2_; clear n0_ n1_ n2_; (try clear hb); (try clear hb2); (try clear hk); (try clear hi)))
                          go_ret
                          exact ⟨by first | rfl | (simp [errW_none, errW_some] <;> rfl) | (simp [*, errW_none, errW_some] <;> rfl), by repeat (first | (with_reducible first | exact HB.out | apply below_alloc | apply pw_below_drewN | apply below_drew1 | refine below_set ?_ GE500.out) | exact HB.out)⟩
                      · rw [if_neg c36] at H
                        have c36b0 : (t495 == 0) = false := beq_eq_false_iff_ne.mpr c36
                        have c36b1 : (t495 != 0) = true := bne_iff_ne.mpr c36
                        by_cases c43 : ((rd_T60 y496 x35_1).f0) = 5
                        · rw [if_pos c43] at H
                          have c43b0 : (((rd_T60 y496 x35_1).f0) == 5) = true := beq_iff_eq.mpr c43
                          have c43b1 : (((rd_T60 y496 x35_1).f0) != 5) = false := bne_eq_false_iff_eq.mpr c43
                          clear c43
                          by_cases c44 : t503 ≥ t495
                          · rw [if_pos c44] at H
                            have c44b0 : decide (t495 ≤ t503) = true := decide_eq_true c44
                            clear c44
                            obtain rfl := Option.some.inj H
                            have hcz45_0 : wc.cell? ⟨gb500, 0, none⟩ = some (.int .i64 ((rd_T60 y496 x35_1).f0)) := (blk_cell BK500.out 0).trans rfl
                            have hcz45_1 : wc.cell? ⟨gb500, 1, none⟩ = some (.int .i64 ((rd_T60 y496 x35_1).f1)) := (blk_cell BK500.out 1).trans rfl
                            have hfz45_0 := blk_frozen BK500.out 0
                            have hfz45_1 := blk_frozen BK500.out 1
                            go_wp2
                            go_ret
                            exact ⟨by first | rfl | (simp [errW_none, errW_some] <;> rfl) | (simp [*, errW_none, errW_some] <;> rfl), by repeat (first | (with_reducible first | exact HB.out | apply below_alloc | apply pw_below_drewN | apply below_drew1 | refine below_set ?_ GE500.out) | exact HB.out)⟩
                          · rw [if_neg c44] at H
                            have c44b0 : decide (t495 ≤ t503) = false := decide_eq_false c44
                            clear c44
                            have H' := Aside0.mk H
                            clear H
                            have hcz46_0 : wc.cell? ⟨gb500, 0, none⟩ = some (.int .i64 ((rd_T60 y496 x35_1).f0)) := (blk_cell BK500.out 0).trans rfl
                            have hcz46_1 : wc.cell? ⟨gb500, 1, none⟩ = some (.int .i64 ((rd_T60 y496 x35_1).f1)) := (blk_cell BK500.out 1).trans rfl
                            have hfz46_0 := blk_frozen BK500.out 0
                            have hfz46_1 := blk_frozen BK500.out 1
                            go_wp2
                            go_roundg kj22
                            case measure => have := HK1.out; have := HJ22.out; omega
                            case rel => exact ⟨(wrap64 (x35_1 + 1)), (by first | rfl | (simp; done) | (simp [*]; done)), H', ⟨by have := HK1.out; have := HJ22.out; omega⟩, ⟨by (with_reducible repeat (first | apply Kd.R_alloc | apply Kd.R_drewN | apply Kd.R_drew)); exact Kd.R_mono HO_33.out (fun _ hk => trivial)⟩, ⟨by repeat (first | (with_reducible first | exact HB.out | apply below_alloc | apply pw_below_drewN | apply below_drew1 | refine below_set ?_ GE500.out) | exact HB.out)⟩⟩
                        · rw [if_neg c43] at H
                          have c43b0 : (((rd_T60 y496 x35_1).f0) == 5) = false := beq_eq_false_iff_ne.mpr c43
                          have c43b1 : (((rd_T60 y496 x35_1).f0) != 5) = true := bne_iff_ne.mpr c43
                          replace H := Option.bind_eq_some_iff.mp H
                          obtain ⟨t510, A470, H⟩ := H
                          replace H : ((bits_Signed.f a0 t495).bind fun t511 => ((bits_Signed.f a0 t503).bind fun t512 => (if t512 = 0 then (jacquardlaw01_BitsDivision.j2 kj22 a0 t494 t495 t511 t512 y496 (y496.length : Int) x35_1 false) else (jacquardlaw01_BitsDivision.j2 kj22 a0 t494 t495 t511 t512 y496 (y496.length : Int) x35_1 ((decide (t512 < 0)) != (decide (t510 < 0))))))) = some r := H
                          have A47 := Aside0.mk A470
                          clear A470
                          replace H := Option.bind_eq_some_iff.mp H
                          obtain ⟨t511, A480, H⟩ := H
                          replace H : ((bits_Signed.f a0 t503).bind fun t512 => (if t512 = 0 then (jacquardlaw01_BitsDivision.j2 kj22 a0 t494 t495 t511 t512 y496 (y496.length : Int) x35_1 false) else (jacquardlaw01_BitsDivision.j2 kj22 a0 t494 t495 t511 t512 y496 (y496.length : Int) x35_1 ((decide (t512 < 0)) != (decide (t510 < 0)))))) = some r := H
                          have A48 := Aside0.mk A480
                          clear A480
                          replace H := Option.bind_eq_some_iff.mp H
                          obtain ⟨t512, A490, H⟩ := H
                          replace H : (if t512 = 0 then (jacquardlaw01_BitsDivision.j2 kj22 a0 t494 t495 t511 t512 y496 (y496.length : Int) x35_1 false) else (jacquardlaw01_BitsDivision.j2 kj22 a0 t494 t495 t511 t512 y496 (y496.length : Int) x35_1 ((decide (t512 < 0)) != (decide (t510 < 0))))) = some r := H
                          have A49 := Aside0.mk A490
                          clear A490
                          have HC50 := Aside0.mk H
                          clear H
                          have hcz51_0 : wc.cell? ⟨gb500, 0, none⟩ = some (.int .i64 ((rd_T60 y496 x35_1).f0)) := (blk_cell BK500.out 0).trans rfl
                          have hcz51_1 : wc.cell? ⟨gb500, 1, none⟩ = some (.int .i64 ((rd_T60 y496 x35_1).f1)) := (blk_cell BK500.out 1).trans rfl
                          have hfz51_0 := blk_frozen BK500.out 0
                          have hfz51_1 := blk_frozen BK500.out 1
                          go_upto_region 22 with (first | ((with_reducible refine gate_callee (f := 49) rfl ?_); refine goesL_ (some 109) rfl rfl Try.func49 (by kernel_rfl) rfl #[.int .i64 a0, .int .u64 t494] rfl (by (try simp only [List.map_toArray, List.map_cons, List.map_nil]); first | done | rfl | (simp only [List.length_drop, List.length_take]; rfl)) ?_; (with_reducible refine (bits_Signed.calls a0 t494 t510 _ A47.out).mono ?_); rintro e w52 ⟨rfl, hb⟩; refine ⟨_, rfl, ?_⟩; have n0_ := Aside0.mk (Kd.R_below (by (with_reducible repeat (first | apply Kd.R_alloc | apply Kd.R_drewN | apply Kd.R_drew)); exact HO_33.out) hb); have n1_ := Aside0.mk (blk_below (g := gb500) (o := .cells #[.int .i64 ((rd_T60 y496 x35_1).f0), .int .i64 ((rd_T60 y496 x35_1).f1)] 60 (0, 0)) (by (with_reducible repeat (first | refine blk_drewN ?_ _ | refine blk_drew ?_ | refine blk_alloc ?_ _)); exact BK500.out) hb); have n2_ := Aside0.mk (below_step (by repeat (first | (with_reducible first | exact HB.out | apply below_alloc | apply pw_below_drewN | apply below_drew1 | refine below_set ?_ GE500.out) | exact HB.out)) hb); clear HO_33; clear BK500; clear HB; have HO_33 := n0_; have BK500 := n1_; have HB := n2_; clear n0_ n1_ n2_; (try clear hb); (try clear hb2); (try clear hk); (try clear hi)) | ((with_reducible refine gate_callee (f := 49) rfl ?_); refine goesL_ (some 112) rfl rfl Try.func49 (by kernel_rfl) rfl #[.int .i64 a0, .int .u64 t495] rfl (by (try simp only [List.map_toArray, List.map_cons, List.map_nil]); first | done | rfl | (simp only [List.length_drop, List.length_take]; rfl)) ?_; (with_reducible refine (bits_Signed.calls a0 t495 t511 _ A48.out).mono ?_); rintro e w53 ⟨rfl, hb⟩; refine ⟨_, rfl, ?_⟩; have n0_ := Aside0.mk (Kd.R_below (by (with_reducible repeat (first | apply Kd.R_alloc | apply Kd.R_drewN | apply Kd.R_drew)); exact HO_33.out) hb); have n1_ := Aside0.mk (blk_below (g := gb500) (o := .cells #[.int .i64 ((rd_T60 y496 x35_1).f0), .int .i64 ((rd_T60 y496 x35_1).f1)] 60 (0, 0)) (by (with_reducible repeat (first | refine blk_drewN ?_ _ | refine blk_drew ?_ | refine blk_alloc ?_ _)); exact BK500.out) hb); have n2_ := Aside0.mk (below_step (by repeat (first | (with_reducible first | exact HB.out | apply below_alloc | apply pw_below_drewN | apply below_drew1 | refine below_set ?_ GE500.out) | exact HB.out)) hb); clear HO_33; clear BK500; clear HB; have HO_33 := n0_; have BK500 := n1_; have HB := n2_; clear n0_ n1_ n2_; (try clear hb); (try clear hb2); (try clear hk); (try clear hi)) | ((with_reducible refine gate_callee (f := 49) rfl ?_); refine goesL_ (some 115) rfl rfl Try.func49 (by kernel_rfl) rfl #[.int .i64 a0, .int .u64 t503] rfl (by (try simp only [List.map_toArray, List.map_cons, List.map_nil]); first | done | rfl | (simp only [List.length_drop, List.length_take]; rfl)) ?_; (with_reducible refine (bits_Signed.calls a0 t503 t512 _ A49.out).mono ?_); rintro e w54 ⟨rfl, hb⟩; refine ⟨_, rfl, ?_⟩; have n0_ := Aside0.mk (Kd.R_below (by (with_reducible repeat (first | apply Kd.R_alloc | apply Kd.R_drewN | apply Kd.R_drew)); exact HO_33.out) hb); have n1_ := Aside0.mk (blk_below (g := gb500) (o := .cells #[.int .i64 ((rd_T60 y496 x35_1).f0), .int .i64 ((rd_T60 y496 x35_1).f1)] 60 (0, 0)) (by (with_reducible repeat (first | refine blk_drewN ?_ _ | refine blk_drew ?_ | refine blk_alloc ?_ _)); exact BK500.out) hb); have n2_ := Aside0.mk (below_step (by repeat (first | (with_reducible first | exact HB.out | apply below_alloc | apply pw_below_drewN | apply below_drew1 | refine below_set ?_ GE500.out) | exact HB.out)) hb); clear HO_33; clear BK500; clear HB; have HO_33 := n0_; have BK500 := n1_; have HB := n2_; clear n0_ n1_ n2_; (try clear hb); (try clear hb2); (try clear hk); (try clear hi)))
                          (try simp only [Act.put, List.setIfInBounds_toArray, List.set_cons_zero, List.set_cons_succ])
                          go_cut [124] (fun v124 wc => ∃ (kq : Nat) (x124_49 : Bool), v124 = .bool x124_49 ∧ Aside0 (jacquardlaw01_BitsDivision.j2 kq a0 t494 t495 t511 t512 y496 (y496.length : Int) x35_1 x124_49 = some r) ∧ Aside0 (kq ≤ kj22) ∧ Aside0 (Kd.R k60 60 wc w.heap.size (fun k_ => k_ ≠ gb500) (.slice (some ad499) y496.length co15) y496) ∧ Aside0 (wc.heap[gb500]? = some (.cells #[.int .i64 ((rd_T60 y496 x35_1).f0), .int .i64 ((rd_T60 y496 x35_1).f1)] 60 (0, 0))) ∧ Aside0 (Below w.heap.size w wc))
                          case first =>
                            have H := HC50.out
                            clear HC50
                            by_cases c55 : t512 = 0
                            · rw [if_pos c55] at H
                              have c55b0 : (t512 == 0) = true := beq_iff_eq.mpr c55
                              have c55b1 : (t512 != 0) = false := bne_eq_false_iff_eq.mpr c55
                              clear c55
                              (first | rw [c55b0] | (simp only [i64_w, i32_w]; rw [c55b0]) | skip)
                              have H' := Aside0.mk H
                              clear H
                              go_wp2
                              go_meet
                              case rel => exact ⟨_, (false), (by first | rfl | (simp; done) | (simp [*]; done)), H', ⟨by have := HK1.out; have := HJ22.out; first | omega | exact Nat.le_refl _⟩, ⟨by (with_reducible repeat (first | apply Kd.R_alloc | apply Kd.R_drewN | apply Kd.R_drew)); exact HO_33.out⟩, ⟨by (with_reducible repeat (first | refine blk_drewN ?_ _ | refine blk_drew ?_ | refine blk_alloc ?_ _)); exact BK500.out⟩, ⟨by repeat (first | (with_reducible first | exact HB.out | apply below_alloc | apply pw_below_drewN | apply below_drew1 | refine below_set ?_ GE500.out) | exact HB.out)⟩⟩
                            · rw [if_neg c55] at H
                              have c55b0 : (t512 == 0) = false := beq_eq_false_iff_ne.mpr c55
                              have c55b1 : (t512 != 0) = true := bne_iff_ne.mpr c55
                              (first | rw [c55b0] | (simp only [i64_w, i32_w]; rw [c55b0]) | skip)
                              have H' := Aside0.mk H
                              clear H
                              go_wp2
                              go_meet
                              case rel => exact ⟨_, (((decide (t512 < 0)) != (decide (t510 < 0)))), (by first | rfl | (simp; done) | (simp [*]; done)), H', ⟨by have := HK1.out; have := HJ22.out; first | omega | exact Nat.le_refl _⟩, ⟨by (with_reducible repeat (first | apply Kd.R_alloc | apply Kd.R_drewN | apply Kd.R_drew)); exact HO_33.out⟩, ⟨by (with_reducible repeat (first | refine blk_drewN ?_ _ | refine blk_drew ?_ | refine blk_alloc ?_ _)); exact BK500.out⟩, ⟨by repeat (first | (with_reducible first | exact HB.out | apply below_alloc | apply pw_below_drewN | apply below_drew1 | refine below_set ?_ GE500.out) | exact HB.out)⟩⟩
                          case rest =>
                            clear HC50
                            try clear c1
                            try clear c2
                            try clear p2
                            try clear c3
                            try clear c4
                            try clear p4
                            try clear q4
                            try clear hx4
                            try clear c5
                            try clear p6
                            try clear c7
                            try clear c8
                            try clear c16
                            try clear c16b0
                            try clear c17
                            try clear c17b0
                            try clear c18
                            try clear c18b0
                            try clear c31
                            try clear c31b0
                            try clear c31b1
                            try clear c32
                            try clear c32b0
                            try clear c32b1
                            try clear c33
                            try clear c33b0
                            try clear c33b1
                            try clear c34
                            try clear c34b0
                            try clear c34b1
                            try clear c35
                            try clear c36
                            try clear c36b0
                            try clear c36b1
                            try clear c38
                            try clear c38b0
                            try clear c38b1
                            try clear c39
                            try clear c39b0
                            try clear c39b1
                            try clear c42
                            try clear c43
                            try clear c43b0
                            try clear c43b1
                            try clear c44
                            try clear c44b0
                            try clear c45
                            try clear c47
                            try clear c48
                            try clear c49
                            try clear p49
                            try clear q49
                            try clear hx49
                            try clear c55
                            try clear c55b0
                            try clear c55b1
                            try clear hcz25_0
                            try clear hcz25_1
                            try clear hcz27_0
                            try clear hcz27_1
                            try clear hcz45_0
                            try clear hcz45_1
                            try clear hcz46_0
                            try clear hcz46_1
                            try clear hcz51_0
                            try clear hcz51_1
                            try clear hfz25_0
                            try clear hfz25_1
                            try clear hfz27_0
                            try clear hfz27_1
                            try clear hfz45_0
                            try clear hfz45_1
                            try clear hfz46_0
                            try clear hfz46_1
                            try clear hfz51_0
                            try clear hfz51_1
                            try clear hx499_0
                            try clear hx499_1
                            try clear p2
                            try clear p4
                            try clear p499
                            try clear q4
                            try clear q499
                            obtain ⟨kq, x124_49, rfl, HA, HJ49, HO_33, BK500, HB⟩ := hcut
                            cases kq with
                            | zero => exact absurd HA.out (by simp [jacquardlaw01_BitsDivision.j2])
                            | succ kj49 =>
                              have H := HA.out
                              clear HA
                              simp only [jacquardlaw01_BitsDivision.j2] at H
                              by_cases c56 : x124_49 = true
                              · subst c56
                                have H1 : (some false) = some r := by rw [if_pos rfl] at H; exact H
                                clear H
                                have H := H1
                                clear H1
                                obtain rfl := Option.some.inj H
                                go_wp2
                                go_ret
                                exact ⟨by first | rfl | (simp [errW_none, errW_some] <;> rfl) | (simp [*, errW_none, errW_some] <;> rfl), by repeat (first | (with_reducible first | exact HB.out | apply below_alloc | apply pw_below_drewN | apply below_drew1 | refine below_set ?_ GE500.out) | exact HB.out)⟩
                              · replace c56 := Bool.eq_false_iff.mpr c56
                                subst c56
                                have H1 : (if t511 < 0 then (jacquardlaw01_BitsDivision.j3 kj49 a0 t494 t495 (wrap64 (-t511)) t512 y496 (y496.length : Int) x35_1) else (jacquardlaw01_BitsDivision.j3 kj49 a0 t494 t495 t511 t512 y496 (y496.length : Int) x35_1)) = some r := by rw [if_neg (show ¬ (false = true) by decide)] at H; exact H
                                clear H
                                have H := H1
                                clear H1
                                have HC57 := Aside0.mk H
                                clear H
                                go_upto_if 126 with (fail)
                                go_cut [18] (fun v18 wc => ∃ (kq : Nat) (x18_56 : Int), v18 = .int .i64 x18_56 ∧ Aside0 (jacquardlaw01_BitsDivision.j3 kq a0 t494 t495 x18_56 t512 y496 (y496.length : Int) x35_1 = some r) ∧ Aside0 (kq ≤ kj49) ∧ Aside0 (Kd.R k60 60 wc w.heap.size (fun k_ => k_ ≠ gb500) (.slice (some ad499) y496.length co15) y496) ∧ Aside0 (wc.heap[gb500]? = some (.cells #[.int .i64 ((rd_T60 y496 x35_1).f0), .int .i64 ((rd_T60 y496 x35_1).f1)] 60 (0, 0))) ∧ Aside0 (Below w.heap.size w wc))
                                case first =>
                                  have H := HC57.out
                                  clear HC57
                                  by_cases c58 : t511 < 0
                                  · rw [if_pos c58] at H
                                    have c58b0 : decide (t511 < 0) = true := decide_eq_true c58
                                    clear c58
                                    (first | rw [c58b0] | (simp only [i64_w, i32_w]; rw [c58b0]) | skip)
                                    have H' := Aside0.mk H
                                    clear H
                                    go_wp2
                                    go_meet
                                    case rel => exact ⟨_, (wrap64 (-t511)), (by first | rfl | (simp; done) | (simp [*]; done)), H', ⟨by have := HK1.out; have := HJ22.out; have := HJ49.out; first | omega | exact Nat.le_refl _⟩, ⟨by (with_reducible repeat (first | apply Kd.R_alloc | apply Kd.R_drewN | apply Kd.R_drew)); exact HO_33.out⟩, ⟨by (with_reducible repeat (first | refine blk_drewN ?_ _ | refine blk_drew ?_ | refine blk_alloc ?_ _)); exact BK500.out⟩, ⟨by repeat (first | (with_reducible first | exact HB.out | apply below_alloc | apply pw_below_drewN | apply below_drew1 | refine below_set ?_ GE500.out) | exact HB.out)⟩⟩
                                  · rw [if_neg c58] at H
                                    have c58b0 : decide (t511 < 0) = false := decide_eq_false c58
                                    clear c58
                                    (first | rw [c58b0] | (simp only [i64_w, i32_w]; rw [c58b0]) | skip)
                                    have H' := Aside0.mk H
                                    clear H
                                    go_wp2
                                    go_meet
                                    case rel => exact ⟨_, (t511), (by first | rfl | (simp; done) | (simp [*]; done)), H', ⟨by have := HK1.out; have := HJ22.out; have := HJ49.out; first | omega | exact Nat.le_refl _⟩, ⟨by (with_reducible repeat (first | apply Kd.R_alloc | apply Kd.R_drewN | apply Kd.R_drew)); exact HO_33.out⟩, ⟨by (with_reducible repeat (first | refine blk_drewN ?_ _ | refine blk_drew ?_ | refine blk_alloc ?_ _)); exact BK500.out⟩, ⟨by repeat (first | (with_reducible first | exact HB.out | apply below_alloc | apply pw_below_drewN | apply below_drew1 | refine below_set ?_ GE500.out) | exact HB.out)⟩⟩
                                case rest =>
                                  clear HC57
                                  try clear c1
                                  try clear c2
                                  try clear p2
                                  try clear c3
                                  try clear c4
                                  try clear p4
                                  try clear q4
                                  try clear hx4
                                  try clear c5
                                  try clear p6
                                  try clear c7
                                  try clear c8
                                  try clear c16
                                  try clear c16b0
                                  try clear c17
                                  try clear c17b0
                                  try clear c18
                                  try clear c18b0
                                  try clear c31
                                  try clear c31b0
                                  try clear c31b1
                                  try clear c32
                                  try clear c32b0
                                  try clear c32b1
                                  try clear c33
                                  try clear c33b0
                                  try clear c33b1
                                  try clear c34
                                  try clear c34b0
                                  try clear c34b1
                                  try clear c35
                                  try clear c36
                                  try clear c36b0
                                  try clear c36b1
                                  try clear c38
                                  try clear c38b0
                                  try clear c38b1
                                  try clear c39
                                  try clear c39b0
                                  try clear c39b1
                                  try clear c42
                                  try clear c43
                                  try clear c43b0
                                  try clear c43b1
                                  try clear c44
                                  try clear c44b0
                                  try clear c45
                                  try clear c47
                                  try clear c48
                                  try clear c49
                                  try clear p49
                                  try clear q49
                                  try clear hx49
                                  try clear c55
                                  try clear c55b0
                                  try clear c55b1
                                  try clear c56
                                  try clear c58
                                  try clear c58b0
                                  try clear hcz25_0
                                  try clear hcz25_1
                                  try clear hcz27_0
                                  try clear hcz27_1
                                  try clear hcz45_0
                                  try clear hcz45_1
                                  try clear hcz46_0
                                  try clear hcz46_1
                                  try clear hcz51_0
                                  try clear hcz51_1
                                  try clear hfz25_0
                                  try clear hfz25_1
                                  try clear hfz27_0
                                  try clear hfz27_1
                                  try clear hfz45_0
                                  try clear hfz45_1
                                  try clear hfz46_0
                                  try clear hfz46_1
                                  try clear hfz51_0
                                  try clear hfz51_1
                                  try clear hx499_0
                                  try clear hx499_1
                                  try clear p2
                                  try clear p4
                                  try clear p49
                                  try clear p499
                                  try clear p6
                                  try clear q4
                                  try clear q49
                                  try clear q499
                                  obtain ⟨kq, x18_56, rfl, HA, HJ56, HO_33, BK500, HB⟩ := hcut
                                  cases kq with
                                  | zero => exact absurd HA.out (by simp [jacquardlaw01_BitsDivision.j3])
                                  | succ kj56 =>
                                    have H := HA.out
                                    clear HA
                                    simp only [jacquardlaw01_BitsDivision.j3] at H
                                    by_cases c59 : t512 < 0
                                    · rw [if_pos c59] at H
                                      have c59b0 : decide (t512 < 0) = true := decide_eq_true c59
                                      clear c59
                                      by_cases c60 : x18_56 > 0
                                      · rw [if_pos c60] at H
                                        have c60b0 : decide (0 < x18_56) = true := decide_eq_true c60
                                        clear c60
                                        by_cases c61 : (wrap64 (-t512)) ≥ x18_56
                                        · rw [if_pos c61] at H
                                          have c61b0 : decide (x18_56 ≤ (wrap64 (-t512))) = true := decide_eq_true c61
                                          clear c61
                                          obtain rfl := Option.some.inj H
                                          go_wp2
                                          go_ret
                                          exact ⟨by first | rfl | (simp [errW_none, errW_some] <;> rfl) | (simp [*, errW_none, errW_some] <;> rfl), by repeat (first | (with_reducible first | exact HB.out | apply below_alloc | apply pw_below_drewN | apply below_drew1 | refine below_set ?_ GE500.out) | exact HB.out)⟩
                                        · rw [if_neg c61] at H
                                          have c61b0 : decide (x18_56 ≤ (wrap64 (-t512))) = false := decide_eq_false c61
                                          clear c61
                                          have H' := Aside0.mk H
                                          clear H
                                          go_wp2
                                          go_roundg kj56
                                          case measure => have := HK1.out; have := HJ22.out; have := HJ49.out; have := HJ56.out; omega
                                          case rel => exact ⟨(wrap64 (x35_1 + 1)), (by first | rfl | (simp; done) | (simp [*]; done)), H', ⟨by have := HK1.out; have := HJ22.out; have := HJ49.out; have := HJ56.out; omega⟩, ⟨by (with_reducible repeat (first | apply Kd.R_alloc | apply Kd.R_drewN | apply Kd.R_drew)); exact Kd.R_mono HO_33.out (fun _ hk => trivial)⟩, ⟨by repeat (first | (with_reducible first | exact HB.out | apply below_alloc | apply pw_below_drewN | apply below_drew1 | refine below_set ?_ GE500.out) | exact HB.out)⟩⟩
                                      · rw [if_neg c60] at H
                                        have c60b0 : decide (0 < x18_56) = false := decide_eq_false c60
                                        clear c60
                                        have H' := Aside0.mk H
                                        clear H
                                        go_wp2
                                        go_roundg kj56
                                        case measure => have := HK1.out; have := HJ22.out; have := HJ49.out; have := HJ56.out; omega
                                        case rel => exact ⟨(wrap64 (x35_1 + 1)), (by first | rfl | (simp; done) | (simp [*]; done)), H', ⟨by have := HK1.out; have := HJ22.out; have := HJ49.out; have := HJ56.out; omega⟩, ⟨by (with_reducible repeat (first | apply Kd.R_alloc | apply Kd.R_drewN | apply Kd.R_drew)); exact Kd.R_mono HO_33.out (fun _ hk => trivial)⟩, ⟨by repeat (first | (with_reducible first | exact HB.out | apply below_alloc | apply pw_below_drewN | apply below_drew1 | refine below_set ?_ GE500.out) | exact HB.out)⟩⟩
                                    · rw [if_neg c59] at H
                                      have c59b0 : decide (t512 < 0) = false := decide_eq_false c59
                                      clear c59
                                      by_cases c62 : x18_56 > 0
                                      · rw [if_pos c62] at H
                                        have c62b0 : decide (0 < x18_56) = true := decide_eq_true c62
                                        clear c62
                                        by_cases c63 : t512 ≥ x18_56
                                        · rw [if_pos c63] at H
                                          have c63b0 : decide (x18_56 ≤ t512) = true := decide_eq_true c63
                                          clear c63
                                          obtain rfl := Option.some.inj H
                                          go_wp2
                                          go_ret
                                          exact ⟨by first | rfl | (simp [errW_none, errW_some] <;> rfl) | (simp [*, errW_none, errW_some] <;> rfl), by repeat (first | (with_reducible first | exact HB.out | apply below_alloc | apply pw_below_drewN | apply below_drew1 | refine below_set ?_ GE500.out) | exact HB.out)⟩
                                        · rw [if_neg c63] at H
                                          have c63b0 : decide (x18_56 ≤ t512) = false := decide_eq_false c63
                                          clear c63
                                          have H' := Aside0.mk H
                                          clear H
                                          go_wp2
                                          go_roundg kj56
                                          case measure => have := HK1.out; have := HJ22.out; have := HJ49.out; have := HJ56.out; omega
                                          case rel => exact ⟨(wrap64 (x35_1 + 1)), (by first | rfl | (simp; done) | (simp [*]; done)), H', ⟨by have := HK1.out; have := HJ22.out; have := HJ49.out; have := HJ56.out; omega⟩, ⟨by (with_reducible repeat (first | apply Kd.R_alloc | apply Kd.R_drewN | apply Kd.R_drew)); exact Kd.R_mono HO_33.out (fun _ hk => trivial)⟩, ⟨by repeat (first | (with_reducible first | exact HB.out | apply below_alloc | apply pw_below_drewN | apply below_drew1 | refine below_set ?_ GE500.out) | exact HB.out)⟩⟩
                                      · rw [if_neg c62] at H
                                        have c62b0 : decide (0 < x18_56) = false := decide_eq_false c62
                                        clear c62
                                        have H' := Aside0.mk H
                                        clear H
                                        go_wp2
                                        go_roundg kj56
                                        case measure => have := HK1.out; have := HJ22.out; have := HJ49.out; have := HJ56.out; omega
                                        case rel => exact ⟨(wrap64 (x35_1 + 1)), (by first | rfl | (simp; done) | (simp [*]; done)), H', ⟨by have := HK1.out; have := HJ22.out; have := HJ49.out; have := HJ56.out; omega⟩, ⟨by (with_reducible repeat (first | apply Kd.R_alloc | apply Kd.R_drewN | apply Kd.R_drew)); exact Kd.R_mono HO_33.out (fun _ hk => trivial)⟩, ⟨by repeat (first | (with_reducible first | exact HB.out | apply below_alloc | apply pw_below_drewN | apply below_drew1 | refine below_set ?_ GE500.out) | exact HB.out)⟩⟩
              · rw [if_neg c18] at H
                exact absurd H (by simp)
            · rw [if_neg c17] at H
              exact absurd H (by simp)
          · rw [if_neg c16] at H
            have c16b0 : decide (x35_1 < (y496.length : Int)) = false := decide_eq_false c16
            clear c16
            obtain rfl := Option.some.inj H
            go_wp2
            go_ret
            exact ⟨by first | rfl | (simp [errW_none, errW_some] <;> rfl) | (simp [*, errW_none, errW_some] <;> rfl), by repeat (first | (with_reducible first | exact HB.out | apply below_alloc | apply pw_below_drewN | apply below_drew1) | exact HB.out)⟩
    · replace c7 := Bool.eq_false_iff.mpr c7
      subst c7
      have H1 : (some true) = some r := by rw [if_neg (show ¬ (false = true) by decide)] at H; exact H
      clear H
      have H := H1
      clear H1
      obtain rfl := Option.some.inj H
      go_enter Try.func8, Try.ntmps8
      go_wp2_with (first | ((with_reducible refine gate_callee (f := 42) rfl ?_); refine goesL_ (some 20) rfl rfl Try.func42 (by kernel_rfl) rfl #[] rfl (by (try simp only [List.map_toArray, List.map_cons, List.map_nil]); first | done | rfl | (simp only [List.length_drop, List.length_take]; rfl)) ?_; (with_reducible refine (jacquardlaw01_awake.calls k  true _ A4.out).mono ?_); rintro e w64 ⟨rfl, hb⟩; refine ⟨_, rfl, ?_⟩; have n0_ := Aside0.mk (below_step (by repeat (first | (with_reducible first | exact HB.out | apply below_alloc | apply pw_below_drewN | apply below_drew1) | exact HB.out)) hb); clear HB; have HB := n0_; clear n0_; (try clear hb); (try clear hb2); (try clear hk); (try clear hi)) | ((with_reducible refine gate_callee (f := 45) rfl ?_); refine goesL_ (some 23) rfl rfl Try.func45 (by kernel_rfl) rfl #[.int .i64 a0] rfl (by (try simp only [List.map_toArray, List.map_cons, List.map_nil]); first | done | rfl | (simp only [List.length_drop, List.length_take]; rfl)) ?_; (with_reducible refine (jacquardref01_Right.calls a0 false _ A6.out).mono ?_); rintro e w' ⟨rfl, ⟨nd, rfl⟩⟩; refine ⟨_, rfl, ?_⟩))
      go_ret
      exact ⟨by first | rfl | (simp [errW_none, errW_some] <;> rfl) | (simp [*, errW_none, errW_some] <;> rfl), by repeat (first | (with_reducible first | exact HB.out | apply below_alloc | apply pw_below_drewN | apply below_drew1) | exact HB.out)⟩
  · replace c5 := Bool.eq_false_iff.mpr c5
    subst c5
    have H1 : (some false) = some r := by rw [if_neg (show ¬ (false = true) by decide)] at H; exact H
    clear H
    have H := H1
    clear H1
    obtain rfl := Option.some.inj H
    go_enter Try.func8, Try.ntmps8
    go_wp2_with (first | ((with_reducible refine gate_callee (f := 42) rfl ?_); refine goesL_ (some 20) rfl rfl Try.func42 (by kernel_rfl) rfl #[] rfl (by (try simp only [List.map_toArray, List.map_cons, List.map_nil]); first | done | rfl | (simp only [List.length_drop, List.length_take]; rfl)) ?_; (with_reducible refine (jacquardlaw01_awake.calls k  false _ A4.out).mono ?_); rintro e w65 ⟨rfl, hb⟩; refine ⟨_, rfl, ?_⟩; have n0_ := Aside0.mk (below_step (by repeat (first | (with_reducible first | exact HB.out | apply below_alloc | apply pw_below_drewN | apply below_drew1) | exact HB.out)) hb); clear HB; have HB := n0_; clear n0_; (try clear hb); (try clear hb2); (try clear hk); (try clear hi)))
    go_ret
    exact ⟨by first | rfl | (simp [errW_none, errW_some] <;> rfl) | (simp [*, errW_none, errW_some] <;> rfl), by repeat (first | (with_reducible first | exact HB.out | apply below_alloc | apply pw_below_drewN | apply below_drew1) | exact HB.out)⟩

/-- THE ONE PURE STATEMENT of jacquardlaw01_BitsDivision: yours. -/
def jacquardlaw01_BitsDivision.Pure : Prop := ∀ (a0 : Int) (a1 : Int) (a2 : Int), (Lit.int .i64 a0).wf = true → (Lit.int .u64 a1).wf = true → (Lit.int .u64 a2).wf = true → ∃ k, jacquardlaw01_BitsDivision.f k a0 a1 a2 = some true
theorem jacquardlaw01_BitsDivision.walk (P : jacquardlaw01_BitsDivision.Pure) (a0 : Int) (a1 : Int) (a2 : Int) (w : World) (w0 : (Lit.int .i64 a0).wf = true) (w1 : (Lit.int .u64 a1).wf = true) (w2 : (Lit.int .u64 a2).wf = true) :
    Calls Try.prog 8 #[.int .i64 a0, .int .u64 a1, .int .u64 a2] w fun e w' => e = .returned (.bool true) ∧ Below w.heap.size w w' := by
  obtain ⟨k, h⟩ := P a0 a1 a2 w0 w1 w2
  refine (jacquardlaw01_BitsDivision.calls k a0 a1 a2 true w h).mono ?_
  rintro e w' ⟨rfl, hd⟩
  exact ⟨rfl, hd⟩

end Go.Proofs.Ytanmehdcccldfaa.P
