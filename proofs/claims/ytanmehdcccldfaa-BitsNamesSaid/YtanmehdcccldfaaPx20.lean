-- made by a program of this work (wip/mkprint.py, wip/mp.sh) out of the translation
import Derived.Test.YtanmehdcccldfaaPx0
import Derived.Test.YtanmehdcccldfaaPx16
import Derived.Test.YtanmehdcccldfaaPx19
namespace Go.Proofs.Ytanmehdcccldfaa.P
open Go.RowKit Go.Proofs.YtanmehdcccldfaaW.PrintWords Go.Proofs.YtanmehdcccldfaaW.PrintLast Go.Proofs.YtanmehdcccldfaaW.PrintMore
attribute [local go_sem] max2_int min2_int max_two min_two max_three min_three max_four min_four   -- for this text's walks alone
set_option linter.unusedVariables false
set_option linter.unusedSimpArgs false

/-! ### jacquardlaw01_BitsNames: function 14 -/
mutual
def jacquardlaw01_BitsNames.j0 : Nat → Int → ByteArray → List ByteArray → ByteArray → Bool → Option (Bool)
 | 0, _, _, _, _, _ => none
 | k + 1, x0, x1, x5, x6, x19 => if x19 = true then (if 0 ≤ x0 then (if x0 < (x5.length : Int) then (jacquardlaw01_BitsNames.j1 k x0 x1 x5 (rdOf ByteArray.empty x5 x0)) else (none)) else (none)) else (jacquardlaw01_BitsNames.j1 k x0 x1 x5 x6)
def jacquardlaw01_BitsNames.j1 : Nat → Int → ByteArray → List ByteArray → ByteArray → Option (Bool)
 | 0, _, _, _, _ => none
 | k + 1, x0, x1, x5, x6 => jacquardlaw01_BitsNames.l0 k x0 x1 x5 x6 0 1
def jacquardlaw01_BitsNames.l0 : Nat → Int → ByteArray → List ByteArray → ByteArray → Int → Int → Option (Bool)
 | 0, _, _, _, _, _, _ => none
 | k + 1, x0, x1, x5, x6, x7, x8 => if x8 < (x5.length : Int) then (if 0 ≤ x8 then (if (rdOf ByteArray.empty x5 x8).toList = x1.toList then (jacquardlaw01_BitsNames.l0 k x0 x1 x5 x6 x8 (wrap64 (x8 + 1))) else (jacquardlaw01_BitsNames.l0 k x0 x1 x5 x6 x7 (wrap64 (x8 + 1)))) else (none)) else ((bits_Name.f x0).bind fun t369 => (if t369.toList = x6.toList then ((bits_Find.f k x1).bind fun t370 => (if t370 = x7 then (if x6.toList = ([] : List UInt8) then ((bits_IsBinary.f x0).bind fun t371 => ((jacquardref01_IsBinary.f x0).bind fun t372 => (if (t371 == t372) = true then ((bits_IsCompare.f x0).bind fun t373 => ((jacquardref01_IsCompare.f x0).bind fun t374 => (some (t373 == t374)))) else (some false)))) else ((bits_Find.f k x6).bind fun t375 => (if t375 = x0 then ((bits_IsBinary.f x0).bind fun t376 => ((jacquardref01_IsBinary.f x0).bind fun t377 => (if (t376 == t377) = true then ((bits_IsCompare.f x0).bind fun t378 => ((jacquardref01_IsCompare.f x0).bind fun t379 => (some (t378 == t379)))) else (some false)))) else (some false)))) else (some false))) else (some false)))
end
def jacquardlaw01_BitsNames.f (k : Nat) (a0 : Int) (a1 : ByteArray) : Option (Bool) := (jacquardlaw01_awake.f k).bind fun t363 => (if t363 = true then ((jacquardref01_Names.f).bind fun t364 => (if a0 ≥ 1 then (jacquardlaw01_BitsNames.j0 k a0 a1 t364 (⟨#[]⟩ : ByteArray) (decide (a0 < (t364.length : Int)))) else (jacquardlaw01_BitsNames.j0 k a0 a1 t364 (⟨#[]⟩ : ByteArray) false))) else (some false))
theorem jacquardlaw01_BitsNames.mono_l : ∀ k, (∀ y0 y1 y2 y3 y4, LeO (jacquardlaw01_BitsNames.j0 k y0 y1 y2 y3 y4) (jacquardlaw01_BitsNames.j0 (k + 1) y0 y1 y2 y3 y4)) ∧ (∀ y0 y1 y2 y3, LeO (jacquardlaw01_BitsNames.j1 k y0 y1 y2 y3) (jacquardlaw01_BitsNames.j1 (k + 1) y0 y1 y2 y3)) ∧ (∀ y0 y1 y2 y3 y4 y5, LeO (jacquardlaw01_BitsNames.l0 k y0 y1 y2 y3 y4 y5) (jacquardlaw01_BitsNames.l0 (k + 1) y0 y1 y2 y3 y4 y5))
 | 0 => ⟨fun _ _ _ _ _ r h => by simp [jacquardlaw01_BitsNames.j0] at h, fun _ _ _ _ r h => by simp [jacquardlaw01_BitsNames.j1] at h, fun _ _ _ _ _ _ r h => by simp [jacquardlaw01_BitsNames.l0] at h⟩
 | k + 1 => by
  obtain ⟨ih0, ih1, ih2⟩ := jacquardlaw01_BitsNames.mono_l k
  refine ⟨?_, ?_, ?_⟩
  ·
   intro y0 y1 y2 y3 y4
   unfold jacquardlaw01_BitsNames.j0
   repeat' first
   | (with_reducible exact ih0 _ _ _ _ _)
   | (with_reducible exact ih1 _ _ _ _)
   | (with_reducible exact ih2 _ _ _ _ _ _)
   | (with_reducible exact bits_Find.mono _ _)
   | (with_reducible exact jacquardlaw01_awake.mono _)
   | (with_reducible exact LeO.refl _)
   | (with_reducible exact LeO.none _)
   | (with_reducible refine LeO.ite ?_ ?_)
   | (with_reducible refine LeO.bind ?_ (fun _ => ?_))
   | exact ih0 _ _ _ _ _
   | exact ih1 _ _ _ _
   | exact ih2 _ _ _ _ _ _
   | exact bits_Find.mono _ _
   | exact jacquardlaw01_awake.mono _
   | exact LeO.none _
   | refine LeO.ite ?_ ?_
   | refine LeO.bind ?_ (fun _ => ?_)
  ·
   intro y0 y1 y2 y3
   unfold jacquardlaw01_BitsNames.j1
   repeat' first
   | (with_reducible exact ih0 _ _ _ _ _)
   | (with_reducible exact ih1 _ _ _ _)
   | (with_reducible exact ih2 _ _ _ _ _ _)
   | (with_reducible exact bits_Find.mono _ _)
   | (with_reducible exact jacquardlaw01_awake.mono _)
   | (with_reducible exact LeO.refl _)
   | (with_reducible exact LeO.none _)
   | (with_reducible refine LeO.ite ?_ ?_)
   | (with_reducible refine LeO.bind ?_ (fun _ => ?_))
   | exact ih0 _ _ _ _ _
   | exact ih1 _ _ _ _
   | exact ih2 _ _ _ _ _ _
   | exact bits_Find.mono _ _
   | exact jacquardlaw01_awake.mono _
   | exact LeO.none _
   | refine LeO.ite ?_ ?_
   | refine LeO.bind ?_ (fun _ => ?_)
  ·
   intro y0 y1 y2 y3 y4 y5
   unfold jacquardlaw01_BitsNames.l0
   repeat' first
   | (with_reducible exact ih0 _ _ _ _ _)
   | (with_reducible exact ih1 _ _ _ _)
   | (with_reducible exact ih2 _ _ _ _ _ _)
   | (with_reducible exact bits_Find.mono _ _)
   | (with_reducible exact jacquardlaw01_awake.mono _)
   | (with_reducible exact LeO.refl _)
   | (with_reducible exact LeO.none _)
   | (with_reducible refine LeO.ite ?_ ?_)
   | (with_reducible refine LeO.bind ?_ (fun _ => ?_))
   | exact ih0 _ _ _ _ _
   | exact ih1 _ _ _ _
   | exact ih2 _ _ _ _ _ _
   | exact bits_Find.mono _ _
   | exact jacquardlaw01_awake.mono _
   | exact LeO.none _
   | refine LeO.ite ?_ ?_
   | refine LeO.bind ?_ (fun _ => ?_)
theorem jacquardlaw01_BitsNames.mono : ∀ a0 a1 k, LeO (jacquardlaw01_BitsNames.f k a0 a1) (jacquardlaw01_BitsNames.f (k + 1) a0 a1) := by
 intro a0 a1 k
 obtain ⟨ih0, ih1, ih2⟩ := jacquardlaw01_BitsNames.mono_l k
 unfold jacquardlaw01_BitsNames.f
 repeat' first
   | (with_reducible exact ih0 _ _ _ _ _)
   | (with_reducible exact ih1 _ _ _ _)
   | (with_reducible exact ih2 _ _ _ _ _ _)
   | (with_reducible exact bits_Find.mono _ _)
   | (with_reducible exact jacquardlaw01_awake.mono _)
   | (with_reducible exact LeO.refl _)
   | (with_reducible exact LeO.none _)
   | (with_reducible refine LeO.ite ?_ ?_)
   | (with_reducible refine LeO.bind ?_ (fun _ => ?_))
   | exact ih0 _ _ _ _ _
   | exact ih1 _ _ _ _
   | exact ih2 _ _ _ _ _ _
   | exact bits_Find.mono _ _
   | exact jacquardlaw01_awake.mono _
   | exact LeO.none _
   | refine LeO.ite ?_ ?_
   | refine LeO.bind ?_ (fun _ => ?_)
set_option maxHeartbeats 8000000 in
set_option maxRecDepth 100000 in
theorem jacquardlaw01_BitsNames.calls (k : Nat) (a0 : Int) (a1 : ByteArray) (r : Bool) (w : World) (h : jacquardlaw01_BitsNames.f k a0 a1 = some r) :
  Calls Try.prog 14 #[.int .i64 a0, .string a1] w fun e w' => e = .returned (.bool r) ∧ Below w.heap.size w w' := by
 have HB := Aside0.mk (Below.refl w.heap.size w)
 have H : ((jacquardlaw01_awake.f k).bind fun t363 => (if t363 = true then ((jacquardref01_Names.f).bind fun t364 => (if a0 ≥ 1 then (jacquardlaw01_BitsNames.j0 k a0 a1 t364 (⟨#[]⟩ : ByteArray) (decide (a0 < (t364.length : Int)))) else (jacquardlaw01_BitsNames.j0 k a0 a1 t364 (⟨#[]⟩ : ByteArray) false))) else (some false))) = some r := h
 clear h
 replace H := Option.bind_eq_some_iff.mp H
 obtain ⟨t363, A30, H⟩ := H
 replace H : (if t363 = true then ((jacquardref01_Names.f).bind fun t364 => (if a0 ≥ 1 then (jacquardlaw01_BitsNames.j0 k a0 a1 t364 (⟨#[]⟩ : ByteArray) (decide (a0 < (t364.length : Int)))) else (jacquardlaw01_BitsNames.j0 k a0 a1 t364 (⟨#[]⟩ : ByteArray) false))) else (some false)) = some r := H
 have A3 := Aside0.mk A30
 clear A30
 by_cases c4 : t363 = true
 ·
  subst c4
  have H1 : ((jacquardref01_Names.f).bind fun t364 => (if a0 ≥ 1 then (jacquardlaw01_BitsNames.j0 k a0 a1 t364 (⟨#[]⟩ : ByteArray) (decide (a0 < (t364.length : Int)))) else (jacquardlaw01_BitsNames.j0 k a0 a1 t364 (⟨#[]⟩ : ByteArray) false))) = some r := by rw [if_pos rfl] at H; exact H
  clear H
  have H := H1
  clear H1
  replace H := Option.bind_eq_some_iff.mp H
  obtain ⟨t364, A50, H⟩ := H
  replace H : (if a0 ≥ 1 then (jacquardlaw01_BitsNames.j0 k a0 a1 t364 (⟨#[]⟩ : ByteArray) (decide (a0 < (t364.length : Int)))) else (jacquardlaw01_BitsNames.j0 k a0 a1 t364 (⟨#[]⟩ : ByteArray) false)) = some r := H
  have A5 := Aside0.mk A50
  clear A50
  have HC6 := Aside0.mk H
  clear H
  go_enter Try.func14, Try.ntmps14
  go_upto_region 5 with (first | ((with_reducible refine gate_callee (f := 42) rfl ?_); refine gL (some 9) Try.func42 #[] ?_; (with_reducible refine (jacquardlaw01_awake.calls k  true _ A3.out).mono ?_); rintro e w7 ⟨rfl, hb⟩; refine ⟨_, rfl, ?_⟩; replace HB := bsB HB.out hb; (try clear hb)) | ((with_reducible refine gate_callee (f := 60) rfl ?_); refine gL (some 11) Try.func60 #[] ?_; (with_reducible refine (jacquardref01_Names.calls  t364 _ A5.out).mono ?_); rintro e w8 ⟨v365, rfl, ho0, hb⟩; refine ⟨_, rfl, ?_⟩; have n0_ := Aside0.mk (Kd.R_lower ho0 (below_size (by repeat (first | (with_reducible first | exact HB.out | apply below_alloc | apply pw_below_drewN | apply below_drew1) | exact HB.out)))); have n1_ := bsB HB.out hb; clear HB; have HO366 := n0_; have HB := n1_; clear n0_ n1_; (try clear hb); (try clear hb2); (try clear hk); (try clear hi); (try clear ho0)))
  (try simp only [Act.put, List.setIfInBounds_toArray, List.set_cons_zero, List.set_cons_succ])
  go_cut [19] (fun v19 wc => ∃ (kq : Nat) (x19_5 : Bool), v19 = .bool x19_5 ∧ Aside0 (jacquardlaw01_BitsNames.j0 kq a0 a1 t364 (⟨#[]⟩ : ByteArray) x19_5 = some r) ∧ Aside0 (kq ≤ k) ∧ Aside0 (Kd.R Kd.string 9 wc w.heap.size (fun _ => True) v365 t364) ∧ Aside0 (Below w.heap.size w wc))
  case first =>
   have H := HC6.out
   clear HC6
   by_cases c9 : a0 ≥ 1
   ·
    rw [if_pos c9] at H
    have c9b0 : decide (1 ≤ a0) = true := decide_eq_true c9
    clear c9
    (first | rw [c9b0] | (simp only [i64_w, i32_w]; rw [c9b0]) | skip)
    have H' := Aside0.mk H
    clear H
    obtain ⟨Ao10, co10, eo10⟩ := Kd.R_slice HO366.out
    subst eo10
    go_wp2
    go_meet
    case rel => exact ⟨_, (decide (a0 < (t364.length : Int))), (by first | rfl | (simp; done) | (simp [*]; done)), H', ⟨by first | omega | exact Nat.le_refl _⟩, ⟨by (with_reducible repeat (first | apply Kd.R_alloc | apply Kd.R_drewN | apply Kd.R_drew)); exact HO366.out⟩, ⟨bsL HB.out⟩⟩
   ·
    rw [if_neg c9] at H
    have c9b0 : decide (1 ≤ a0) = false := decide_eq_false c9
    clear c9
    (first | rw [c9b0] | (simp only [i64_w, i32_w]; rw [c9b0]) | skip)
    have H' := Aside0.mk H
    clear H
    go_wp2
    go_meet
    case rel => exact ⟨_, (false), (by first | rfl | (simp; done) | (simp [*]; done)), H', ⟨by first | omega | exact Nat.le_refl _⟩, ⟨by (with_reducible repeat (first | apply Kd.R_alloc | apply Kd.R_drewN | apply Kd.R_drew)); exact HO366.out⟩, ⟨bsL HB.out⟩⟩
  case rest =>
   clear HC6
   try clear c1
   try clear p2
   try clear c4
   try clear c6
   try clear c9
   try clear c9b0
   obtain ⟨kq, x19_5, rfl, HA, HJ5, HO_5, HB⟩ := hcut
   cases kq with
   | zero => exact absurd HA.out (by simp [jacquardlaw01_BitsNames.j0])
   | succ kj5 =>
    have H := HA.out
    clear HA
    simp only [jacquardlaw01_BitsNames.j0] at H
    have HC11 := Aside0.mk H
    clear H
    go_upto_if 19 with (fail)
    go_cut [6] (fun v6 wc => ∃ (kq : Nat) (x6_10 : ByteArray), v6 = .string x6_10 ∧ Aside0 (jacquardlaw01_BitsNames.j1 kq a0 a1 t364 x6_10 = some r) ∧ Aside0 (kq ≤ kj5) ∧ Aside0 (Kd.R Kd.string 9 wc w.heap.size (fun _ => True) v365 t364) ∧ Aside0 (Below w.heap.size w wc))
    case first =>
     have H := HC11.out
     clear HC11
     by_cases c12 : x19_5 = true
     ·
      subst c12
      have H1 : (if 0 ≤ a0 then (if a0 < (t364.length : Int) then (jacquardlaw01_BitsNames.j1 kj5 a0 a1 t364 (rdOf ByteArray.empty t364 a0)) else (none)) else (none)) = some r := by rw [if_pos rfl] at H; exact H
      clear H
      have H := H1
      clear H1
      by_cases c13 : 0 ≤ a0
      ·
       rw [if_pos c13] at H
       have c13b0 : decide (0 ≤ a0) = true := decide_eq_true c13
       clear c13
       (first | rw [c13b0] | (simp only [i64_w, i32_w]; rw [c13b0]) | skip)
       by_cases c14 : a0 < (t364.length : Int)
       ·
        rw [if_pos c14] at H
        have c14b0 : decide (a0 < (t364.length : Int)) = true := decide_eq_true c14
        clear c14
        have H' := Aside0.mk H
        clear H
        obtain ⟨Ao15, co15, eo15⟩ := Kd.R_slice HO_5.out
        subst eo15
        have p367 : 0 ≤ (a0 : Int) := of_decide_eq_true (by first | (with_reducible assumption) | assumption)
        have q367 : a0 < (t364.length : Int) := of_decide_eq_true (by first | (with_reducible assumption) | assumption)
        obtain ⟨ad367, e367, hx367_0⟩ := Kd.at_string (Kd.R_reads' HO_5.out).2.2 a0 p367 q367
        cases e367
        replace p367 := eq_true p367
        replace q367 := eq_true q367
        go_wp2
        go_meet
        case rel => exact ⟨_, (rdOf ByteArray.empty t364 a0), (by first | rfl | (simp; done) | (simp [*]; done)), H', ⟨by have := HJ5.out; first | omega | exact Nat.le_refl _⟩, ⟨by (with_reducible repeat (first | apply Kd.R_alloc | apply Kd.R_drewN | apply Kd.R_drew)); exact HO_5.out⟩, ⟨bsL HB.out⟩⟩
       ·
        rw [if_neg c14] at H
        exact absurd H (by simp)
      ·
       rw [if_neg c13] at H
       exact absurd H (by simp)
     ·
      replace c12 := Bool.eq_false_iff.mpr c12
      subst c12
      have H1 : (jacquardlaw01_BitsNames.j1 kj5 a0 a1 t364 (⟨#[]⟩ : ByteArray)) = some r := by rw [if_neg (show ¬ (false = true) by decide)] at H; exact H
      clear H
      have H := H1
      clear H1
      have H' := Aside0.mk H
      clear H
      go_wp2
      go_meet
      case rel => exact ⟨_, ((⟨#[]⟩ : ByteArray)), (by first | rfl | (simp; done) | (simp [*]; done)), H', ⟨by have := HJ5.out; first | omega | exact Nat.le_refl _⟩, ⟨by (with_reducible repeat (first | apply Kd.R_alloc | apply Kd.R_drewN | apply Kd.R_drew)); exact HO_5.out⟩, ⟨bsL HB.out⟩⟩
    case rest =>
     clear HC11
     try clear c1
     try clear p2
     try clear p3
     try clear q3
     try clear hx3
     try clear c4
     try clear c6
     try clear c9
     try clear c9b0
     try clear c12
     try clear c13
     try clear c13b0
     try clear c14
     try clear c14b0
     try clear hx367_0
     try clear p2
     try clear p367
     try clear q367
     obtain ⟨kq, x6_10, rfl, HA, HJ10, HO_5, HB⟩ := hcut
     cases kq with
     | zero => exact absurd HA.out (by simp [jacquardlaw01_BitsNames.j1])
     | succ kj10 =>
      have H := HA.out
      clear HA
      simp only [jacquardlaw01_BitsNames.j1] at H
      have H' := Aside0.mk H
      clear H
      go_wp2
      go_loopg [7, 8] kj10 (fun kq v7 v8 w' => ∃ (x7_3 : Int) (x8_3 : Int), v7 = .int .i64 x7_3 ∧ v8 = .int .i64 x8_3 ∧ Aside0 (jacquardlaw01_BitsNames.l0 kq a0 a1 t364 x6_10 x7_3 x8_3 = some r) ∧ Aside0 (kq ≤ kj10) ∧ Aside0 (Kd.R Kd.string 9 w' w.heap.size (fun _ => True) v365 t364) ∧ Aside0 (Below w.heap.size w w'))
      case atStart => exact ⟨(0), (1), (by first | rfl | (simp; done) | (simp [*]; done)), (by first | rfl | (simp; done) | (simp [*]; done)), H', ⟨Nat.le_refl _⟩, ⟨by (with_reducible repeat (first | apply Kd.R_alloc | apply Kd.R_drewN | apply Kd.R_drew)); exact HO_5.out⟩, ⟨bsL HB.out⟩⟩
      case round =>
       clear H'
       try clear c1
       try clear p2
       try clear p3
       try clear q3
       try clear hx3
       try clear c4
       try clear c6
       try clear c9
       try clear c9b0
       try clear c12
       try clear c13
       try clear c13b0
       try clear c14
       try clear c14b0
       try clear hx367_0
       try clear p2
       try clear p3
       try clear p367
       try clear q3
       try clear q367
       obtain ⟨x7_3, x8_3, rfl, rfl, HA, HK3, HO_5, HB⟩ := hrel
       cases gk with
       | zero => exact absurd HA.out (by simp [jacquardlaw01_BitsNames.l0])
       | succ k3 =>
        have H := HA.out
        clear HA
        simp only [jacquardlaw01_BitsNames.l0] at H
        by_cases c16 : x8_3 < (t364.length : Int)
        ·
         rw [if_pos c16] at H
         have c16b0 : decide (x8_3 < (t364.length : Int)) = true := decide_eq_true c16
         clear c16
         by_cases c17 : 0 ≤ x8_3
         ·
          rw [if_pos c17] at H
          have c17b0 : decide (0 ≤ x8_3) = true := decide_eq_true c17
          clear c17
          by_cases c18 : (rdOf ByteArray.empty t364 x8_3).toList = a1.toList
          ·
           rw [if_pos c18] at H
           have c18b0 : ((rdOf ByteArray.empty t364 x8_3).toList == a1.toList) = true := beq_iff_eq.mpr c18
           have c18b1 : ((rdOf ByteArray.empty t364 x8_3).toList != a1.toList) = false := bne_eq_false_iff_eq.mpr c18
           clear c18
           have H' := Aside0.mk H
           clear H
           obtain ⟨Ao19, co19, eo19⟩ := Kd.R_slice HO_5.out
           subst eo19
           have p368 : 0 ≤ (x8_3 : Int) := of_decide_eq_true (by first | (with_reducible assumption) | assumption)
           have q368 : x8_3 < (t364.length : Int) := of_decide_eq_true (by first | (with_reducible assumption) | assumption)
           obtain ⟨ad368, e368, hx368_0⟩ := Kd.at_string (Kd.R_reads' HO_5.out).2.2 x8_3 p368 q368
           cases e368
           replace p368 := eq_true p368
           replace q368 := eq_true q368
           go_wp2
           go_roundg k3
           case measure => have := HJ5.out; have := HJ10.out; have := HK3.out; omega
           case rel => exact ⟨(x8_3), (wrap64 (x8_3 + 1)), (by first | rfl | (simp; done) | (simp [*]; done)), (by first | rfl | (simp; done) | (simp [*]; done)), H', ⟨by have := HJ5.out; have := HJ10.out; have := HK3.out; omega⟩, ⟨by (with_reducible repeat (first | apply Kd.R_alloc | apply Kd.R_drewN | apply Kd.R_drew)); exact HO_5.out⟩, ⟨bsL HB.out⟩⟩
          ·
           rw [if_neg c18] at H
           have c18b0 : ((rdOf ByteArray.empty t364 x8_3).toList == a1.toList) = false := beq_eq_false_iff_ne.mpr c18
           have c18b1 : ((rdOf ByteArray.empty t364 x8_3).toList != a1.toList) = true := bne_iff_ne.mpr c18
           have H' := Aside0.mk H
           clear H
           obtain ⟨Ao20, co20, eo20⟩ := Kd.R_slice HO_5.out
           subst eo20
           have p368 : 0 ≤ (x8_3 : Int) := of_decide_eq_true (by first | (with_reducible assumption) | assumption)
           have q368 : x8_3 < (t364.length : Int) := of_decide_eq_true (by first | (with_reducible assumption) | assumption)
           obtain ⟨ad368, e368, hx368_0⟩ := Kd.at_string (Kd.R_reads' HO_5.out).2.2 x8_3 p368 q368
           cases e368
           replace p368 := eq_true p368
           replace q368 := eq_true q368
           go_wp2
           go_roundg k3
           case measure => have := HJ5.out; have := HJ10.out; have := HK3.out; omega
           case rel => exact ⟨(x7_3), (wrap64 (x8_3 + 1)), (by first | rfl | (simp; done) | (simp [*]; done)), (by first | rfl | (simp; done) | (simp [*]; done)), H', ⟨by have := HJ5.out; have := HJ10.out; have := HK3.out; omega⟩, ⟨by (with_reducible repeat (first | apply Kd.R_alloc | apply Kd.R_drewN | apply Kd.R_drew)); exact HO_5.out⟩, ⟨bsL HB.out⟩⟩
         ·
          rw [if_neg c17] at H
          exact absurd H (by simp)
        ·
         rw [if_neg c16] at H
         have c16b0 : decide (x8_3 < (t364.length : Int)) = false := decide_eq_false c16
         clear c16
         replace H := Option.bind_eq_some_iff.mp H
         obtain ⟨t369, A210, H⟩ := H
         replace H : (if t369.toList = x6_10.toList then ((bits_Find.f k3 a1).bind fun t370 => (if t370 = x7_3 then (if x6_10.toList = ([] : List UInt8) then ((bits_IsBinary.f a0).bind fun t371 => ((jacquardref01_IsBinary.f a0).bind fun t372 => (if (t371 == t372) = true then ((bits_IsCompare.f a0).bind fun t373 => ((jacquardref01_IsCompare.f a0).bind fun t374 => (some (t373 == t374)))) else (some false)))) else ((bits_Find.f k3 x6_10).bind fun t375 => (if t375 = a0 then ((bits_IsBinary.f a0).bind fun t376 => ((jacquardref01_IsBinary.f a0).bind fun t377 => (if (t376 == t377) = true then ((bits_IsCompare.f a0).bind fun t378 => ((jacquardref01_IsCompare.f a0).bind fun t379 => (some (t378 == t379)))) else (some false)))) else (some false)))) else (some false))) else (some false)) = some r := H
         have A21 := Aside0.mk A210
         clear A210
         by_cases c22 : t369.toList = x6_10.toList
         ·
          rw [if_pos c22] at H
          have c22b0 : (t369.toList == x6_10.toList) = true := beq_iff_eq.mpr c22
          have c22b1 : (t369.toList != x6_10.toList) = false := bne_eq_false_iff_eq.mpr c22
          clear c22
          replace H := Option.bind_eq_some_iff.mp H
          obtain ⟨t370, A230, H⟩ := H
          replace H : (if t370 = x7_3 then (if x6_10.toList = ([] : List UInt8) then ((bits_IsBinary.f a0).bind fun t371 => ((jacquardref01_IsBinary.f a0).bind fun t372 => (if (t371 == t372) = true then ((bits_IsCompare.f a0).bind fun t373 => ((jacquardref01_IsCompare.f a0).bind fun t374 => (some (t373 == t374)))) else (some false)))) else ((bits_Find.f k3 x6_10).bind fun t375 => (if t375 = a0 then ((bits_IsBinary.f a0).bind fun t376 => ((jacquardref01_IsBinary.f a0).bind fun t377 => (if (t376 == t377) = true then ((bits_IsCompare.f a0).bind fun t378 => ((jacquardref01_IsCompare.f a0).bind fun t379 => (some (t378 == t379)))) else (some false)))) else (some false)))) else (some false)) = some r := H
          have A23 := Aside0.mk A230
          clear A230
          by_cases c24 : t370 = x7_3
          ·
           rw [if_pos c24] at H
           have c24b0 : (t370 == x7_3) = true := beq_iff_eq.mpr c24
           have c24b1 : (t370 != x7_3) = false := bne_eq_false_iff_eq.mpr c24
           clear c24
           by_cases c25 : x6_10.toList = ([] : List UInt8)
           ·
            rw [if_pos c25] at H
            have c25b0 : (x6_10.toList == ([] : List UInt8)) = true := beq_iff_eq.mpr c25
            have c25b1 : (x6_10.toList != ([] : List UInt8)) = false := bne_eq_false_iff_eq.mpr c25
            clear c25
            replace H := Option.bind_eq_some_iff.mp H
            obtain ⟨t371, A260, H⟩ := H
            replace H : ((jacquardref01_IsBinary.f a0).bind fun t372 => (if (t371 == t372) = true then ((bits_IsCompare.f a0).bind fun t373 => ((jacquardref01_IsCompare.f a0).bind fun t374 => (some (t373 == t374)))) else (some false))) = some r := H
            have A26 := Aside0.mk A260
            clear A260
            replace H := Option.bind_eq_some_iff.mp H
            obtain ⟨t372, A270, H⟩ := H
            replace H : (if (t371 == t372) = true then ((bits_IsCompare.f a0).bind fun t373 => ((jacquardref01_IsCompare.f a0).bind fun t374 => (some (t373 == t374)))) else (some false)) = some r := H
            have A27 := Aside0.mk A270
            clear A270
            by_cases c28 : (t371 == t372) = true
            ·
             rw [if_pos c28] at H
             have c28b0 : (t371 == t372) = true := c28
             (try (have c28b1 : decide (t371 = t372) = true := by simpa using c28))
             (try (have c28b2 : (t371 == t372) = true := by simpa using c28))
             clear c28
             replace H := Option.bind_eq_some_iff.mp H
             obtain ⟨t373, A290, H⟩ := H
             replace H : ((jacquardref01_IsCompare.f a0).bind fun t374 => (some (t373 == t374))) = some r := H
             have A29 := Aside0.mk A290
             clear A290
             replace H := Option.bind_eq_some_iff.mp H
             obtain ⟨t374, A300, H⟩ := H
             replace H : (some (t373 == t374)) = some r := H
             have A30 := Aside0.mk A300
             clear A300
             obtain rfl := Option.some.inj H
             obtain ⟨Ao31, co31, eo31⟩ := Kd.R_slice HO_5.out
             subst eo31
             go_wp2_with (first | ((with_reducible refine gate_callee (f := 61) rfl ?_); refine gL (some 38) Try.func61 #[.int .i64 a0] ?_; (with_reducible refine (bits_Name.calls a0 t369 _ A21.out).mono ?_); rintro e w32 ⟨rfl, hb⟩; refine ⟨_, rfl, ?_⟩; replace HO_5 := Aside0.mk (Kd.R_below (by (with_reducible repeat (first | apply Kd.R_alloc | apply Kd.R_drewN | apply Kd.R_drew)); exact HO_5.out) hb); replace HB := bsB HB.out hb; (try clear hb)) | (go_at_call 62; (with_reducible refine (bits_Find.calls k3 a1 t370 _ A23.out).mono ?_); rintro e w33 ⟨rfl, hb⟩; replace HO_5 := Aside0.mk (Kd.R_below (by (with_reducible repeat (first | apply Kd.R_alloc | apply Kd.R_drewN | apply Kd.R_drew)); exact HO_5.out) hb); replace HB := bsB HB.out hb; (try clear hb)) | (go_at_call 63; (with_reducible refine (bits_IsBinary.calls a0 t371 _ A26.out).mono ?_); rintro e w' ⟨rfl, ⟨nd, rfl⟩⟩) | (go_at_call 44; (with_reducible refine (jacquardref01_IsBinary.calls a0 t372 _ A27.out).mono ?_); rintro e w' ⟨rfl, ⟨nd, rfl⟩⟩) | (go_at_call 64; (with_reducible refine (bits_IsCompare.calls a0 t373 _ A29.out).mono ?_); rintro e w' ⟨rfl, ⟨nd, rfl⟩⟩) | (go_at_call 65; (with_reducible refine (jacquardref01_IsCompare.calls a0 t374 _ A30.out).mono ?_); rintro e w' ⟨rfl, ⟨nd, rfl⟩⟩))
             go_ret
             exact ⟨by first | rfl | (simp [errW_none, errW_some] <;> rfl) | (simp [*, errW_none, errW_some] <;> rfl), bsL HB.out⟩
            ·
             rw [if_neg c28] at H
             have c28b0 : (t371 == t372) = false := by simpa using c28
             (try (have c28b1 : decide (t371 = t372) = false := by simpa using c28))
             (try (have c28b2 : (t371 == t372) = false := by simpa using c28))
             (try (have c28b3 : ¬ (t371 = t372) := by simpa using c28))
             clear c28
             obtain rfl := Option.some.inj H
             obtain ⟨Ao34, co34, eo34⟩ := Kd.R_slice HO_5.out
             subst eo34
             go_wp2_with (first | ((with_reducible refine gate_callee (f := 61) rfl ?_); refine gL (some 38) Try.func61 #[.int .i64 a0] ?_; (with_reducible refine (bits_Name.calls a0 t369 _ A21.out).mono ?_); rintro e w35 ⟨rfl, hb⟩; refine ⟨_, rfl, ?_⟩; replace HO_5 := Aside0.mk (Kd.R_below (by (with_reducible repeat (first | apply Kd.R_alloc | apply Kd.R_drewN | apply Kd.R_drew)); exact HO_5.out) hb); replace HB := bsB HB.out hb; (try clear hb)) | (go_at_call 62; (with_reducible refine (bits_Find.calls k3 a1 t370 _ A23.out).mono ?_); rintro e w36 ⟨rfl, hb⟩; replace HO_5 := Aside0.mk (Kd.R_below (by (with_reducible repeat (first | apply Kd.R_alloc | apply Kd.R_drewN | apply Kd.R_drew)); exact HO_5.out) hb); replace HB := bsB HB.out hb; (try clear hb)) | (go_at_call 63; (with_reducible refine (bits_IsBinary.calls a0 t371 _ A26.out).mono ?_); rintro e w' ⟨rfl, ⟨nd, rfl⟩⟩) | (go_at_call 44; (with_reducible refine (jacquardref01_IsBinary.calls a0 t372 _ A27.out).mono ?_); rintro e w' ⟨rfl, ⟨nd, rfl⟩⟩))
             go_ret
             exact ⟨by first | rfl | (simp [errW_none, errW_some] <;> rfl) | (simp [*, errW_none, errW_some] <;> rfl), bsL HB.out⟩
           ·
            rw [if_neg c25] at H
            have c25b0 : (x6_10.toList == ([] : List UInt8)) = false := beq_eq_false_iff_ne.mpr c25
            have c25b1 : (x6_10.toList != ([] : List UInt8)) = true := bne_iff_ne.mpr c25
            replace H := Option.bind_eq_some_iff.mp H
            obtain ⟨t375, A370, H⟩ := H
            replace H : (if t375 = a0 then ((bits_IsBinary.f a0).bind fun t376 => ((jacquardref01_IsBinary.f a0).bind fun t377 => (if (t376 == t377) = true then ((bits_IsCompare.f a0).bind fun t378 => ((jacquardref01_IsCompare.f a0).bind fun t379 => (some (t378 == t379)))) else (some false)))) else (some false)) = some r := H
            have A37 := Aside0.mk A370
            clear A370
            by_cases c38 : t375 = a0
            ·
             rw [if_pos c38] at H
             have c38b0 : (t375 == a0) = true := beq_iff_eq.mpr c38
             have c38b1 : (t375 != a0) = false := bne_eq_false_iff_eq.mpr c38
             clear c38
             replace H := Option.bind_eq_some_iff.mp H
             obtain ⟨t376, A390, H⟩ := H
             replace H : ((jacquardref01_IsBinary.f a0).bind fun t377 => (if (t376 == t377) = true then ((bits_IsCompare.f a0).bind fun t378 => ((jacquardref01_IsCompare.f a0).bind fun t379 => (some (t378 == t379)))) else (some false))) = some r := H
             have A39 := Aside0.mk A390
             clear A390
             replace H := Option.bind_eq_some_iff.mp H
             obtain ⟨t377, A400, H⟩ := H
             replace H : (if (t376 == t377) = true then ((bits_IsCompare.f a0).bind fun t378 => ((jacquardref01_IsCompare.f a0).bind fun t379 => (some (t378 == t379)))) else (some false)) = some r := H
             have A40 := Aside0.mk A400
             clear A400
             by_cases c41 : (t376 == t377) = true
             ·
              rw [if_pos c41] at H
              have c41b0 : (t376 == t377) = true := c41
              (try (have c41b1 : decide (t376 = t377) = true := by simpa using c41))
              (try (have c41b2 : (t376 == t377) = true := by simpa using c41))
              clear c41
              replace H := Option.bind_eq_some_iff.mp H
              obtain ⟨t378, A420, H⟩ := H
              replace H : ((jacquardref01_IsCompare.f a0).bind fun t379 => (some (t378 == t379))) = some r := H
              have A42 := Aside0.mk A420
              clear A420
              replace H := Option.bind_eq_some_iff.mp H
              obtain ⟨t379, A430, H⟩ := H
              replace H : (some (t378 == t379)) = some r := H
              have A43 := Aside0.mk A430
              clear A430
              obtain rfl := Option.some.inj H
              obtain ⟨Ao44, co44, eo44⟩ := Kd.R_slice HO_5.out
              subst eo44
              go_wp2_with (first | ((with_reducible refine gate_callee (f := 61) rfl ?_); refine gL (some 38) Try.func61 #[.int .i64 a0] ?_; (with_reducible refine (bits_Name.calls a0 t369 _ A21.out).mono ?_); rintro e w45 ⟨rfl, hb⟩; refine ⟨_, rfl, ?_⟩; replace HO_5 := Aside0.mk (Kd.R_below (by (with_reducible repeat (first | apply Kd.R_alloc | apply Kd.R_drewN | apply Kd.R_drew)); exact HO_5.out) hb); replace HB := bsB HB.out hb; (try clear hb)) | (go_at_call 62; (with_reducible refine (bits_Find.calls k3 a1 t370 _ A23.out).mono ?_); rintro e w46 ⟨rfl, hb⟩; replace HO_5 := Aside0.mk (Kd.R_below (by (with_reducible repeat (first | apply Kd.R_alloc | apply Kd.R_drewN | apply Kd.R_drew)); exact HO_5.out) hb); replace HB := bsB HB.out hb; (try clear hb)) | (go_at_call 62; (with_reducible refine (bits_Find.calls k3 x6_10 t375 _ A37.out).mono ?_); rintro e w47 ⟨rfl, hb⟩; replace HO_5 := Aside0.mk (Kd.R_below (by (with_reducible repeat (first | apply Kd.R_alloc | apply Kd.R_drewN | apply Kd.R_drew)); exact HO_5.out) hb); replace HB := bsB HB.out hb; (try clear hb)) | (go_at_call 63; (with_reducible refine (bits_IsBinary.calls a0 t376 _ A39.out).mono ?_); rintro e w' ⟨rfl, ⟨nd, rfl⟩⟩) | (go_at_call 44; (with_reducible refine (jacquardref01_IsBinary.calls a0 t377 _ A40.out).mono ?_); rintro e w' ⟨rfl, ⟨nd, rfl⟩⟩) | (go_at_call 64; (with_reducible refine (bits_IsCompare.calls a0 t378 _ A42.out).mono ?_); rintro e w' ⟨rfl, ⟨nd, rfl⟩⟩) | (go_at_call 65; (with_reducible refine (jacquardref01_IsCompare.calls a0 t379 _ A43.out).mono ?_); rintro e w' ⟨rfl, ⟨nd, rfl⟩⟩))
              go_ret
              exact ⟨by first | rfl | (simp [errW_none, errW_some] <;> rfl) | (simp [*, errW_none, errW_some] <;> rfl), bsL HB.out⟩
             ·
              rw [if_neg c41] at H
              have c41b0 : (t376 == t377) = false := by simpa using c41
              (try (have c41b1 : decide (t376 = t377) = false := by simpa using c41))
              (try (have c41b2 : (t376 == t377) = false := by simpa using c41))
              (try (have c41b3 : ¬ (t376 = t377) := by simpa using c41))
              clear c41
              obtain rfl := Option.some.inj H
              obtain ⟨Ao48, co48, eo48⟩ := Kd.R_slice HO_5.out
              subst eo48
              go_wp2_with (first | ((with_reducible refine gate_callee (f := 61) rfl ?_); refine gL (some 38) Try.func61 #[.int .i64 a0] ?_; (with_reducible refine (bits_Name.calls a0 t369 _ A21.out).mono ?_); rintro e w49 ⟨rfl, hb⟩; refine ⟨_, rfl, ?_⟩; replace HO_5 := Aside0.mk (Kd.R_below (by (with_reducible repeat (first | apply Kd.R_alloc | apply Kd.R_drewN | apply Kd.R_drew)); exact HO_5.out) hb); replace HB := bsB HB.out hb; (try clear hb)) | (go_at_call 62; (with_reducible refine (bits_Find.calls k3 a1 t370 _ A23.out).mono ?_); rintro e w50 ⟨rfl, hb⟩; replace HO_5 := Aside0.mk (Kd.R_below (by (with_reducible repeat (first | apply Kd.R_alloc | apply Kd.R_drewN | apply Kd.R_drew)); exact HO_5.out) hb); replace HB := bsB HB.out hb; (try clear hb)) | (go_at_call 62; (with_reducible refine (bits_Find.calls k3 x6_10 t375 _ A37.out).mono ?_); rintro e w51 ⟨rfl, hb⟩; replace HO_5 := Aside0.mk (Kd.R_below (by (with_reducible repeat (first | apply Kd.R_alloc | apply Kd.R_drewN | apply Kd.R_drew)); exact HO_5.out) hb); replace HB := bsB HB.out hb; (try clear hb)) | (go_at_call 63; (with_reducible refine (bits_IsBinary.calls a0 t376 _ A39.out).mono ?_); rintro e w' ⟨rfl, ⟨nd, rfl⟩⟩) | (go_at_call 44; (with_reducible refine (jacquardref01_IsBinary.calls a0 t377 _ A40.out).mono ?_); rintro e w' ⟨rfl, ⟨nd, rfl⟩⟩))
              go_ret
              exact ⟨by first | rfl | (simp [errW_none, errW_some] <;> rfl) | (simp [*, errW_none, errW_some] <;> rfl), bsL HB.out⟩
            ·
             rw [if_neg c38] at H
             have c38b0 : (t375 == a0) = false := beq_eq_false_iff_ne.mpr c38
             have c38b1 : (t375 != a0) = true := bne_iff_ne.mpr c38
             obtain rfl := Option.some.inj H
             obtain ⟨Ao52, co52, eo52⟩ := Kd.R_slice HO_5.out
             subst eo52
             go_wp2_with (first | ((with_reducible refine gate_callee (f := 61) rfl ?_); refine gL (some 38) Try.func61 #[.int .i64 a0] ?_; (with_reducible refine (bits_Name.calls a0 t369 _ A21.out).mono ?_); rintro e w53 ⟨rfl, hb⟩; refine ⟨_, rfl, ?_⟩; replace HO_5 := Aside0.mk (Kd.R_below (by (with_reducible repeat (first | apply Kd.R_alloc | apply Kd.R_drewN | apply Kd.R_drew)); exact HO_5.out) hb); replace HB := bsB HB.out hb; (try clear hb)) | (go_at_call 62; (with_reducible refine (bits_Find.calls k3 a1 t370 _ A23.out).mono ?_); rintro e w54 ⟨rfl, hb⟩; replace HO_5 := Aside0.mk (Kd.R_below (by (with_reducible repeat (first | apply Kd.R_alloc | apply Kd.R_drewN | apply Kd.R_drew)); exact HO_5.out) hb); replace HB := bsB HB.out hb; (try clear hb)) | (go_at_call 62; (with_reducible refine (bits_Find.calls k3 x6_10 t375 _ A37.out).mono ?_); rintro e w55 ⟨rfl, hb⟩; replace HO_5 := Aside0.mk (Kd.R_below (by (with_reducible repeat (first | apply Kd.R_alloc | apply Kd.R_drewN | apply Kd.R_drew)); exact HO_5.out) hb); replace HB := bsB HB.out hb; (try clear hb)))
             go_ret
             exact ⟨by first | rfl | (simp [errW_none, errW_some] <;> rfl) | (simp [*, errW_none, errW_some] <;> rfl), bsL HB.out⟩
          ·
           rw [if_neg c24] at H
           have c24b0 : (t370 == x7_3) = false := beq_eq_false_iff_ne.mpr c24
           have c24b1 : (t370 != x7_3) = true := bne_iff_ne.mpr c24
           obtain rfl := Option.some.inj H
           obtain ⟨Ao56, co56, eo56⟩ := Kd.R_slice HO_5.out
           subst eo56
           go_wp2_with (first | ((with_reducible refine gate_callee (f := 61) rfl ?_); refine gL (some 38) Try.func61 #[.int .i64 a0] ?_; (with_reducible refine (bits_Name.calls a0 t369 _ A21.out).mono ?_); rintro e w57 ⟨rfl, hb⟩; refine ⟨_, rfl, ?_⟩; replace HO_5 := Aside0.mk (Kd.R_below (by (with_reducible repeat (first | apply Kd.R_alloc | apply Kd.R_drewN | apply Kd.R_drew)); exact HO_5.out) hb); replace HB := bsB HB.out hb; (try clear hb)) | (go_at_call 62; (with_reducible refine (bits_Find.calls k3 a1 t370 _ A23.out).mono ?_); rintro e w58 ⟨rfl, hb⟩; replace HO_5 := Aside0.mk (Kd.R_below (by (with_reducible repeat (first | apply Kd.R_alloc | apply Kd.R_drewN | apply Kd.R_drew)); exact HO_5.out) hb); replace HB := bsB HB.out hb; (try clear hb)))
           go_ret
           exact ⟨by first | rfl | (simp [errW_none, errW_some] <;> rfl) | (simp [*, errW_none, errW_some] <;> rfl), bsL HB.out⟩
         ·
          rw [if_neg c22] at H
          have c22b0 : (t369.toList == x6_10.toList) = false := beq_eq_false_iff_ne.mpr c22
          have c22b1 : (t369.toList != x6_10.toList) = true := bne_iff_ne.mpr c22
          obtain rfl := Option.some.inj H
          obtain ⟨Ao59, co59, eo59⟩ := Kd.R_slice HO_5.out
          subst eo59
          go_wp2_with (first | ((with_reducible refine gate_callee (f := 61) rfl ?_); refine gL (some 38) Try.func61 #[.int .i64 a0] ?_; (with_reducible refine (bits_Name.calls a0 t369 _ A21.out).mono ?_); rintro e w60 ⟨rfl, hb⟩; refine ⟨_, rfl, ?_⟩; replace HO_5 := Aside0.mk (Kd.R_below (by (with_reducible repeat (first | apply Kd.R_alloc | apply Kd.R_drewN | apply Kd.R_drew)); exact HO_5.out) hb); replace HB := bsB HB.out hb; (try clear hb)))
          go_ret
          exact ⟨by first | rfl | (simp [errW_none, errW_some] <;> rfl) | (simp [*, errW_none, errW_some] <;> rfl), bsL HB.out⟩
 ·
  replace c4 := Bool.eq_false_iff.mpr c4
  subst c4
  have H1 : (some false) = some r := by rw [if_neg (show ¬ (false = true) by decide)] at H; exact H
  clear H
  have H := H1
  clear H1
  obtain rfl := Option.some.inj H
  go_enter Try.func14, Try.ntmps14
  go_wp2_with (first | ((with_reducible refine gate_callee (f := 42) rfl ?_); refine gL (some 9) Try.func42 #[] ?_; (with_reducible refine (jacquardlaw01_awake.calls k  false _ A3.out).mono ?_); rintro e w61 ⟨rfl, hb⟩; refine ⟨_, rfl, ?_⟩; replace HB := bsB HB.out hb; (try clear hb)))
  go_ret
  exact ⟨by first | rfl | (simp [errW_none, errW_some] <;> rfl) | (simp [*, errW_none, errW_some] <;> rfl), bsL HB.out⟩

/-- THE ONE PURE STATEMENT of jacquardlaw01_BitsNames: yours. -/
def jacquardlaw01_BitsNames.Pure : Prop := ∀ (a0 : Int) (a1 : ByteArray), (Lit.int .i64 a0).wf = true → a1.size ≤ 140737488351232 → ∃ k, jacquardlaw01_BitsNames.f k a0 a1 = some true
theorem jacquardlaw01_BitsNames.walk (P : jacquardlaw01_BitsNames.Pure) (a0 : Int) (a1 : ByteArray) (w : World) (w0 : (Lit.int .i64 a0).wf = true) (w1 : a1.size ≤ 140737488351232) :
  Calls Try.prog 14 #[.int .i64 a0, .string a1] w fun e w' => e = .returned (.bool true) ∧ Below w.heap.size w w' := by
 obtain ⟨k, h⟩ := P a0 a1 w0 w1
 refine (jacquardlaw01_BitsNames.calls k a0 a1 true w h).mono ?_
 rintro e w' ⟨rfl, hd⟩
 exact ⟨rfl, hd⟩

end Go.Proofs.Ytanmehdcccldfaa.P
