/- Each function does what its oracle case says. -/
import Derived.Test.YtoddafkffchnjaaT
import Derived.Test.YtoddafkffchnjaaV1
import Derived.Test.YtoddafkffchnjaaE0
import Derived.Test.YtoddafkffchnjaaE1
import Derived.Test.YtoddafkffchnjaaE2
import Derived.Test.YtoddafkffchnjaaE3
import Derived.Test.YtoddafkffchnjaaE4
import Derived.Test.YtoddafkffchnjaaE5
import Derived.Test.YtoddafkffchnjaaE6
import Derived.Test.YtoddafkffchnjaaE7
namespace Go.Vm
open Go.Proofs Go.Proofs.Ytoddafkffchnjaa Go.Proofs.Ytoddafkffchnjaa.P Go.RowKit Go.Proofs.YtoddafkffchnjaaW.PrintWords Go.Proofs.YtoddafkffchnjaaW.PrintLast Go.Proofs.YtoddafkffchnjaaW.PrintMore
set_option linter.unusedVariables false
set_option linter.unusedSimpArgs false
set_option linter.unusedSectionVars false
theorem mixed_ok : Try.prog.follows .mixedOrders = true := by kernel_rfl
theorem interval_good.sound : ∀ args h v h', interval_good.o args h = some (v, h') → Spec Try.prog 36 args h v h' := by
  intro args h v h' H
  unfold interval_good.o at H
  split at H
  · rename_i a0
    obtain ⟨r, hr, H⟩ := Option.map_eq_some_iff.mp H
    cases H
    exact fn_ok tys_ok Sound.nil mixed_ok Try.func36 (by kernel_rfl) h36_ok (interval_good.ev rfl (fun _ _ _ => rfl) (fun _ _ => rfl) 0 _ a0 r hr
      )
  · cases H
theorem bits_limit.sound : ∀ args h v h', bits_limit.o args h = some (v, h') → Spec Try.prog 51 args h v h' := by
  intro args h v h' H
  unfold bits_limit.o at H
  split at H
  · rename_i a0
    obtain ⟨r, hr, H⟩ := Option.map_eq_some_iff.mp H
    cases H
    exact fn_ok tys_ok Sound.nil mixed_ok Try.func51 (by kernel_rfl) h51_ok (bits_limit.ev rfl (fun _ _ _ => rfl) (fun _ _ => rfl) 0 _ a0 r hr
      )
  · cases H
theorem bits_Mask.sound : ∀ args h v h', bits_Mask.o args h = some (v, h') → Spec Try.prog 26 args h v h' := by
  intro args h v h' H
  unfold bits_Mask.o at H
  split at H
  · rename_i a0
    obtain ⟨r, hr, H⟩ := Option.map_eq_some_iff.mp H
    cases H
    exact fn_ok tys_ok (Sound.cons bits_limit.sound Sound.nil) mixed_ok Try.func26 (by kernel_rfl) h26_ok (bits_Mask.ev rfl (fun _ _ _ => rfl) (fun _ _ => rfl) 0 _ a0 r hr
      _ rfl (fun _ => rfl))
  · cases H
theorem bits_Fit.sound : ∀ args h v h', bits_Fit.o args h = some (v, h') → Spec Try.prog 37 args h v h' := by
  intro args h v h' H
  unfold bits_Fit.o at H
  split at H
  · rename_i a0 a1
    obtain ⟨r, hr, H⟩ := Option.map_eq_some_iff.mp H
    cases H
    exact fn_ok tys_ok (Sound.cons bits_Mask.sound Sound.nil) mixed_ok Try.func37 (by kernel_rfl) h37_ok (bits_Fit.ev rfl (fun _ _ _ => rfl) (fun _ _ => rfl) 0 _ a0 a1 r hr
      _ rfl (fun _ => rfl))
  · cases H
theorem bits_negative.sound : ∀ args h v h', bits_negative.o args h = some (v, h') → Spec Try.prog 73 args h v h' := by
  intro args h v h' H
  unfold bits_negative.o at H
  split at H
  · rename_i a0 a1
    obtain ⟨r, hr, H⟩ := Option.map_eq_some_iff.mp H
    cases H
    exact fn_ok tys_ok (Sound.cons bits_limit.sound Sound.nil) mixed_ok Try.func73 (by kernel_rfl) h73_ok (bits_negative.ev rfl (fun _ _ _ => rfl) (fun _ _ => rfl) 0 _ a0 a1 r hr
      _ rfl (fun _ => rfl))
  · cases H
theorem bits_Signed.sound : ∀ args h v h', bits_Signed.o args h = some (v, h') → Spec Try.prog 38 args h v h' := by
  intro args h v h' H
  unfold bits_Signed.o at H
  split at H
  · rename_i a0 a1
    obtain ⟨r, hr, H⟩ := Option.map_eq_some_iff.mp H
    cases H
    exact fn_ok tys_ok (Sound.cons bits_Fit.sound (Sound.cons bits_negative.sound (Sound.cons bits_Mask.sound Sound.nil))) mixed_ok Try.func38 (by kernel_rfl) h38_ok (bits_Signed.ev rfl (fun _ _ _ => rfl) (fun _ _ => rfl) 0 _ a0 a1 r hr
      _ rfl (fun _ _ => rfl) _ rfl (fun _ _ => rfl) _ rfl (fun _ => rfl))
  · cases H
theorem interval_Of.sound : ∀ args h v h', interval_Of.o args h = some (v, h') → Spec Try.prog 14 args h v h' := by
  intro args h v h' H
  unfold interval_Of.o at H
  split at H
  · rename_i a0 a1
    obtain ⟨r, hr, H⟩ := Option.map_eq_some_iff.mp H
    cases H
    exact fn_ok tys_ok (Sound.cons interval_good.sound (Sound.cons bits_Fit.sound (Sound.cons bits_Signed.sound Sound.nil))) mixed_ok Try.func14 (by kernel_rfl) h14_ok (interval_Of.ev rfl (fun _ _ _ => rfl) (fun _ _ => rfl) 0 _ a0 a1 r hr
      _ rfl (fun _ => rfl) _ rfl (fun _ _ => rfl) _ rfl (fun _ _ => rfl))
  · cases H
theorem interval_ends.sound : ∀ args h v h', interval_ends.o args h = some (v, h') → Spec Try.prog 25 args h v h' := by
  intro args h v h' H
  unfold interval_ends.o at H
  split at H
  · rename_i a0
    obtain ⟨r, hr, H⟩ := Option.map_eq_some_iff.mp H
    cases H
    exact fn_ok tys_ok Sound.nil mixed_ok Try.func25 (by kernel_rfl) h25_ok (interval_ends.ev rfl (fun _ _ _ => rfl) (fun _ _ => rfl) 0 _ a0 r hr
      )
  · cases H
theorem interval_Top.sound : ∀ args h v h', interval_Top.o args h = some (v, h') → Spec Try.prog 21 args h v h' := by
  intro args h v h' H
  unfold interval_Top.o at H
  split at H
  · rename_i a0
    obtain ⟨r, hr, H⟩ := Option.map_eq_some_iff.mp H
    cases H
    exact fn_ok tys_ok (Sound.cons interval_good.sound (Sound.cons interval_ends.sound (Sound.cons bits_Mask.sound Sound.nil))) mixed_ok Try.func21 (by kernel_rfl) h21_ok (interval_Top.ev rfl (fun _ _ _ => rfl) (fun _ _ => rfl) 0 _ a0 r hr
      _ rfl (fun _ => rfl) _ rfl (fun _ => rfl) _ rfl (fun _ => rfl))
  · cases H
theorem jacquardlaw13_awake.sound : ∀ args h v h', jacquardlaw13_awake.o args h = some (v, h') → Spec Try.prog 8 args h v h' := by
  intro args h v h' H
  unfold jacquardlaw13_awake.o at H
  split at H
  ·
    obtain ⟨r, hr, H⟩ := Option.map_eq_some_iff.mp H
    cases H
    exact fn_ok tys_ok (Sound.cons interval_Top.sound (Sound.cons interval_Of.sound Sound.nil)) mixed_ok Try.func8 (by kernel_rfl) h8_ok (jacquardlaw13_awake.ev rfl (fun _ _ _ => rfl) (fun _ _ => rfl) 0 _  r hr
      _ rfl (fun _ => rfl) _ rfl (fun _ _ => rfl))
  · cases H
theorem jacquardlaw13_few.sound : ∀ args h v h', jacquardlaw13_few.o args h = some (v, h') → Spec Try.prog 9 args h v h' := by
  intro args h v h' H
  unfold jacquardlaw13_few.o at H
  split at H
  · rename_i a0_0 a0_1 cl0_2 cl0_3 a0_4
    obtain ⟨l0_2, hl0_2, H⟩ := Option.bind_eq_some_iff.mp H
    obtain ⟨l0_3, hl0_3, H⟩ := Option.bind_eq_some_iff.mp H
    obtain ⟨r, hr, H⟩ := Option.map_eq_some_iff.mp H
    cases H
    obtain rfl := unI_inv hl0_2
    obtain rfl := unk30_inv hl0_3
    exact fn_ok tys_ok Sound.nil mixed_ok Try.func9 (by kernel_rfl) h9_ok (jacquardlaw13_few.ev rfl (fun _ _ _ => rfl) (fun _ _ => rfl) 0 _ a0_0 a0_1 l0_2 l0_3 a0_4 r hr
      )
  · cases H
theorem bits_IsCompare.sound : ∀ args h v h', bits_IsCompare.o args h = some (v, h') → Spec Try.prog 46 args h v h' := by
  intro args h v h' H
  unfold bits_IsCompare.o at H
  split at H
  · rename_i a0
    obtain ⟨r, hr, H⟩ := Option.map_eq_some_iff.mp H
    cases H
    exact fn_ok tys_ok Sound.nil mixed_ok Try.func46 (by kernel_rfl) h46_ok (bits_IsCompare.ev rfl (fun _ _ _ => rfl) (fun _ _ => rfl) 0 _ a0 r hr
      )
  · cases H
theorem bits_IsBinary.sound : ∀ args h v h', bits_IsBinary.o args h = some (v, h') → Spec Try.prog 47 args h v h' := by
  intro args h v h' H
  unfold bits_IsBinary.o at H
  split at H
  · rename_i a0
    obtain ⟨r, hr, H⟩ := Option.map_eq_some_iff.mp H
    cases H
    exact fn_ok tys_ok Sound.nil mixed_ok Try.func47 (by kernel_rfl) h47_ok (bits_IsBinary.ev rfl (fun _ _ _ => rfl) (fun _ _ => rfl) 0 _ a0 r hr
      )
  · cases H
theorem interval_shaped.sound : ∀ args h v h', interval_shaped.o args h = some (v, h') → Spec Try.prog 22 args h v h' := by
  intro args h v h' H
  unfold interval_shaped.o at H
  split at H
  · rename_i a0 a1 cl2
    obtain ⟨l2, hl2, H⟩ := Option.bind_eq_some_iff.mp H
    obtain ⟨r, hr, H⟩ := Option.map_eq_some_iff.mp H
    cases H
    obtain rfl := unI_inv hl2
    obtain ⟨k, hk⟩ := lim_ex hr
    exact fn_ok tys_ok (Sound.cons interval_good.sound (Sound.cons bits_IsCompare.sound (Sound.cons bits_IsBinary.sound Sound.nil))) mixed_ok Try.func22 (by kernel_rfl) h22_ok (interval_shaped.ev rfl (fun _ _ _ => rfl) (fun _ _ => rfl) k _ a0 a1 l2 r hk
      _ rfl (fun _ => rfl) _ rfl (fun _ => rfl) _ rfl (fun _ => rfl))
  · cases H
theorem interval_Valid.sound : ∀ args h v h', interval_Valid.o args h = some (v, h') → Spec Try.prog 18 args h v h' := by
  intro args h v h' H
  unfold interval_Valid.o at H
  split at H
  · rename_i a0 a1_0 a1_1 a1_2 a1_3
    obtain ⟨r, hr, H⟩ := Option.map_eq_some_iff.mp H
    cases H
    exact fn_ok tys_ok (Sound.cons interval_good.sound (Sound.cons interval_ends.sound (Sound.cons bits_Mask.sound Sound.nil))) mixed_ok Try.func18 (by kernel_rfl) h18_ok (interval_Valid.ev rfl (fun _ _ _ => rfl) (fun _ _ => rfl) 0 _ a0 a1_0 a1_1 a1_2 a1_3 r hr
      _ rfl (fun _ => rfl) _ rfl (fun _ => rfl) _ rfl (fun _ => rfl))
  · cases H
theorem bits_From.sound : ∀ args h v h', bits_From.o args h = some (v, h') → Spec Try.prog 48 args h v h' := by
  intro args h v h' H
  unfold bits_From.o at H
  split at H
  · rename_i a0 a1
    obtain ⟨r, hr, H⟩ := Option.map_eq_some_iff.mp H
    cases H
    exact fn_ok tys_ok (Sound.cons bits_Fit.sound Sound.nil) mixed_ok Try.func48 (by kernel_rfl) h48_ok (bits_From.ev rfl (fun _ _ _ => rfl) (fun _ _ => rfl) 0 _ a0 a1 r hr
      _ rfl (fun _ _ => rfl))
  · cases H
theorem interval_Tighten.sound : ∀ args h v h', interval_Tighten.o args h = some (v, h') → Spec Try.prog 23 args h v h' := by
  intro args h v h' H
  unfold interval_Tighten.o at H
  split at H
  · rename_i a0 a1_0 a1_1 a1_2 a1_3
    obtain ⟨r, hr, H⟩ := Option.map_eq_some_iff.mp H
    cases H
    obtain ⟨k, hk⟩ := lim_ex hr
    exact fn_ok tys_ok (Sound.cons bits_Signed.sound (Sound.cons bits_From.sound (Sound.cons interval_Valid.sound (Sound.cons interval_ends.sound Sound.nil)))) mixed_ok Try.func23 (by kernel_rfl) h23_ok (interval_Tighten.ev rfl (fun _ _ _ => rfl) (fun _ _ => rfl) k _ a0 a1_0 a1_1 a1_2 a1_3 r hk
      _ rfl (fun _ _ => rfl) _ rfl (fun _ _ => rfl) _ rfl (fun _ _ _ _ _ => rfl) _ rfl (fun _ => rfl))
  · cases H
theorem bits_Extend.sound : ∀ args h v h', bits_Extend.o args h = some (v, h') → Spec Try.prog 49 args h v h' := by
  intro args h v h' H
  unfold bits_Extend.o at H
  split at H
  · rename_i a0 a1 a2 a3
    obtain ⟨r, hr, H⟩ := Option.map_eq_some_iff.mp H
    cases H
    exact fn_ok tys_ok (Sound.cons bits_Signed.sound (Sound.cons bits_From.sound (Sound.cons bits_Fit.sound Sound.nil))) mixed_ok Try.func49 (by kernel_rfl) h49_ok (bits_Extend.ev rfl (fun _ _ _ => rfl) (fun _ _ => rfl) 0 _ a0 a1 a2 a3 r hr
      _ rfl (fun _ _ => rfl) _ rfl (fun _ _ => rfl) _ rfl (fun _ _ => rfl))
  · cases H
theorem bits_signed.sound : ∀ args h v h', bits_signed.o args h = some (v, h') → Spec Try.prog 87 args h v h' := by
  intro args h v h' H
  unfold bits_signed.o at H
  split at H
  · rename_i a0 a1 a2
    obtain ⟨r, hr, H⟩ := Option.map_eq_some_iff.mp H
    cases H
    exact fn_ok tys_ok (Sound.cons bits_Signed.sound (Sound.cons bits_Mask.sound (Sound.cons bits_Fit.sound (Sound.cons bits_From.sound Sound.nil)))) mixed_ok Try.func87 (by kernel_rfl) h87_ok (bits_signed.ev rfl (fun _ _ _ => rfl) (fun _ _ => rfl) 0 _ a0 a1 a2 r hr
      _ rfl (fun _ _ => rfl) _ rfl (fun _ => rfl) _ rfl (fun _ _ => rfl) _ rfl (fun _ _ => rfl))
  · cases H
theorem bits_divide.sound : ∀ args h v h', bits_divide.o args h = some (v, h') → Spec Try.prog 74 args h v h' := by
  intro args h v h' H
  unfold bits_divide.o at H
  split at H
  · rename_i a0 a1 a2 a3
    obtain ⟨r, hr, H⟩ := Option.map_eq_some_iff.mp H
    cases H
    exact fn_ok tys_ok (Sound.cons bits_Mask.sound (Sound.cons bits_signed.sound Sound.nil)) mixed_ok Try.func74 (by kernel_rfl) h74_ok (bits_divide.ev rfl (fun _ _ _ => rfl) (fun _ _ => rfl) 0 _ a0 a1 a2 a3 r hr
      _ rfl (fun _ => rfl) _ rfl (fun _ _ _ => rfl))
  · cases H
theorem bits_shift.sound : ∀ args h v h', bits_shift.o args h = some (v, h') → Spec Try.prog 75 args h v h' := by
  intro args h v h' H
  unfold bits_shift.o at H
  split at H
  · rename_i a0 a1 a2 a3
    obtain ⟨r, hr, H⟩ := Option.map_eq_some_iff.mp H
    cases H
    exact fn_ok tys_ok (Sound.cons bits_negative.sound (Sound.cons bits_Mask.sound (Sound.cons bits_Fit.sound (Sound.cons bits_Signed.sound (Sound.cons bits_From.sound Sound.nil))))) mixed_ok Try.func75 (by kernel_rfl) h75_ok (bits_shift.ev rfl (fun _ _ _ => rfl) (fun _ _ => rfl) 0 _ a0 a1 a2 a3 r hr
      _ rfl (fun _ _ => rfl) _ rfl (fun _ => rfl) _ rfl (fun _ _ => rfl) _ rfl (fun _ _ => rfl) _ rfl (fun _ _ => rfl))
  · cases H
theorem bits_one.sound : ∀ args h v h', bits_one.o args h = some (v, h') → Spec Try.prog 88 args h v h' := by
  intro args h v h' H
  unfold bits_one.o at H
  split at H
  · rename_i a0
    obtain ⟨r, hr, H⟩ := Option.map_eq_some_iff.mp H
    cases H
    exact fn_ok tys_ok Sound.nil mixed_ok Try.func88 (by kernel_rfl) h88_ok (bits_one.ev rfl (fun _ _ _ => rfl) (fun _ _ => rfl) 0 _ a0 r hr
      )
  · cases H
theorem bits_compare.sound : ∀ args h v h', bits_compare.o args h = some (v, h') → Spec Try.prog 76 args h v h' := by
  intro args h v h' H
  unfold bits_compare.o at H
  split at H
  · rename_i a0 a1 a2 a3
    obtain ⟨r, hr, H⟩ := Option.map_eq_some_iff.mp H
    cases H
    exact fn_ok tys_ok (Sound.cons bits_one.sound (Sound.cons bits_Signed.sound Sound.nil)) mixed_ok Try.func76 (by kernel_rfl) h76_ok (bits_compare.ev rfl (fun _ _ _ => rfl) (fun _ _ => rfl) 0 _ a0 a1 a2 a3 r hr
      _ rfl (fun _ => rfl) _ rfl (fun _ _ => rfl))
  · cases H
theorem bits_Binary.sound : ∀ args h v h', bits_Binary.o args h = some (v, h') → Spec Try.prog 50 args h v h' := by
  intro args h v h' H
  unfold bits_Binary.o at H
  split at H
  · rename_i a0 a1 a2 a3
    obtain ⟨r, hr, H⟩ := Option.map_eq_some_iff.mp H
    cases H
    obtain ⟨k, hk⟩ := lim_ex hr
    exact fn_ok tys_ok (Sound.cons bits_Fit.sound (Sound.cons bits_divide.sound (Sound.cons bits_shift.sound (Sound.cons bits_compare.sound (Sound.cons bits_IsBinary.sound Sound.nil))))) mixed_ok Try.func50 (by kernel_rfl) h50_ok (bits_Binary.ev rfl (fun _ _ _ => rfl) (fun _ _ => rfl) k _ a0 a1 a2 a3 r hk
      _ rfl (fun _ _ => rfl) _ rfl (fun _ _ _ _ => rfl) _ rfl (fun _ _ _ _ => rfl) _ rfl (fun _ _ _ _ => rfl) _ rfl (fun _ => rfl))
  · cases H
theorem interval_value.sound : ∀ args h v h', interval_value.o args h = some (v, h') → Spec Try.prog 24 args h v h' := by
  intro args h v h' H
  unfold interval_value.o at H
  split at H
  · rename_i a0 a1 cl2 cl3
    obtain ⟨l2, hl2, H⟩ := Option.bind_eq_some_iff.mp H
    obtain ⟨l3, hl3, H⟩ := Option.bind_eq_some_iff.mp H
    obtain ⟨r, hr, H⟩ := Option.map_eq_some_iff.mp H
    cases H
    obtain rfl := unI_inv hl2
    obtain rfl := unk30_inv hl3
    obtain ⟨k, hk⟩ := lim_ex hr
    exact fn_ok tys_ok (Sound.cons bits_Extend.sound (Sound.cons bits_Binary.sound Sound.nil)) mixed_ok Try.func24 (by kernel_rfl) h24_ok (interval_value.ev rfl (fun _ _ _ => rfl) (fun _ _ => rfl) k _ a0 a1 l2 l3 r hk
      _ rfl (fun _ _ _ _ => rfl) _ rfl (fun _ _ _ _ => rfl))
  · cases H
theorem interval_computer_u.sound : ∀ args h v h', interval_computer_u.o args h = some (v, h') → Spec Try.prog 56 args h v h' := by
  intro args h v h' H
  unfold interval_computer_u.o at H
  split at H
  · rename_i a1 a2 s0_0 s0_1 s0_2 s0_3 s0_4 s0_5 s0_6 s0_7
    obtain ⟨r, hr, H⟩ := Option.map_eq_some_iff.mp H
    cases H
    exact fn_ok tys_ok Sound.nil mixed_ok Try.func56 (by kernel_rfl) h56_ok (interval_computer_u.ev rfl (fun _ _ _ => rfl) (fun _ _ => rfl) 0 _ s0_0 s0_1 s0_2 s0_3 s0_4 s0_5 s0_6 s0_7 a1 a2 r hr
      )
  · cases H
theorem bits_Add64.sound : ∀ args h v h', bits_Add64.o args h = some (v, h') → Spec Try.prog 77 args h v h' := by
  intro args h v h' H
  unfold bits_Add64.o at H
  split at H
  · rename_i a0 a1 a2
    obtain ⟨r, hr, H⟩ := Option.map_eq_some_iff.mp H
    cases H
    unfold bits_Add64.f at hr
    by_cases c : a2 = 0
    · rw [if_pos c] at hr
      subst c
      cases hr
      intro w l B xs ra rh hA hH h1 hm
      simp only [RepL, Rep] at hA
      obtain ⟨_, _, r1, s1, rfl, hs1, ⟨rfl, hr1⟩, _, _, r2, s2, rfl, hs2, ⟨rfl, hr2⟩, _, _, r3, s3, rfl, hs3, ⟨rfl, hr3⟩, rfl, hs4⟩ := hA
      refine .inr ⟨_, w, add64_run (by kernel_rfl : Try.prog.funcs[77]? = some Try.f77) (by kernel_rfl) (by kernel_rfl) (by kernel_rfl) (by kernel_rfl) a0 a1 w, l, nil0, rh, ?_, hH, fun b => by have := h1 b; simp [nil0]; omega, Ext.refl _ _ _, fun b hb => ⟨hm b (by simp [nil0] at hb; omega), fun _ => by simp [nil0] at hb; omega⟩⟩
      simp only [Rep]
      exact ⟨[_, _], rfl, RepL.cons Rep.of_scalar (RepL.cons Rep.of_scalar RepL.nil (fun _ => rfl)) (fun _ => rfl)⟩
    · rw [if_neg c] at hr; cases hr
  · cases H
theorem interval_computer_within.sound : ∀ args h v h', interval_computer_within.o args h = some (v, h') → Spec Try.prog 84 args h v h' := by
  intro args h v h' H
  unfold interval_computer_within.o at H
  split at H
  · rename_i a1 s0_0 s0_1 s0_2 s0_3 s0_4 s0_5 s0_6 s0_7
    obtain ⟨r, hr, H⟩ := Option.map_eq_some_iff.mp H
    cases H
    exact fn_ok tys_ok Sound.nil mixed_ok Try.func84 (by kernel_rfl) h84_ok (interval_computer_within.ev rfl (fun _ _ _ => rfl) (fun _ _ => rfl) 0 _ s0_0 s0_1 s0_2 s0_3 s0_4 s0_5 s0_6 s0_7 a1 r hr
      )
  · cases H
theorem interval_computer_sum.sound : ∀ args h v h', interval_computer_sum.o args h = some (v, h') → Spec Try.prog 78 args h v h' := by
  intro args h v h' H
  unfold interval_computer_sum.o at H
  split at H
  · rename_i a1 a2 s0_0 s0_1 s0_2 s0_3 s0_4 s0_5 s0_6 s0_7
    obtain ⟨r, hr, H⟩ := Option.map_eq_some_iff.mp H
    cases H
    exact fn_ok tys_ok (Sound.cons interval_computer_within.sound Sound.nil) mixed_ok Try.func78 (by kernel_rfl) h78_ok (interval_computer_sum.ev rfl (fun _ _ _ => rfl) (fun _ _ => rfl) 0 _ s0_0 s0_1 s0_2 s0_3 s0_4 s0_5 s0_6 s0_7 a1 a2 r hr
      _ rfl (fun _ _ _ _ _ _ _ _ _ => rfl))
  · cases H
theorem interval_computer_s.sound : ∀ args h v h', interval_computer_s.o args h = some (v, h') → Spec Try.prog 79 args h v h' := by
  intro args h v h' H
  unfold interval_computer_s.o at H
  split at H
  · rename_i a1 a2 s0_0 s0_1 s0_2 s0_3 s0_4 s0_5 s0_6 s0_7
    obtain ⟨r, hr, H⟩ := Option.map_eq_some_iff.mp H
    cases H
    exact fn_ok tys_ok Sound.nil mixed_ok Try.func79 (by kernel_rfl) h79_ok (interval_computer_s.ev rfl (fun _ _ _ => rfl) (fun _ _ => rfl) 0 _ s0_0 s0_1 s0_2 s0_3 s0_4 s0_5 s0_6 s0_7 a1 a2 r hr
      )
  · cases H
theorem interval_computer_add.sound : ∀ args h v h', interval_computer_add.o args h = some (v, h') → Spec Try.prog 52 args h v h' := by
  intro args h v h' H
  unfold interval_computer_add.o at H
  split at H
  · rename_i a1_0 a1_1 a1_2 a1_3 a2_0 a2_1 a2_2 a2_3 s0_0 s0_1 s0_2 s0_3 s0_4 s0_5 s0_6 s0_7
    obtain ⟨r, hr, H⟩ := Option.map_eq_some_iff.mp H
    cases H
    obtain ⟨k, hk⟩ := lim_ex hr
    exact fn_ok tys_ok (Sound.cons interval_computer_sum.sound (Sound.cons interval_computer_s.sound (Sound.cons interval_computer_u.sound (Sound.cons bits_Add64.sound Sound.nil)))) mixed_ok Try.func52 (by kernel_rfl) h52_ok (interval_computer_add.ev rfl (fun _ _ _ => rfl) (fun _ _ => rfl) k _ s0_0 s0_1 s0_2 s0_3 s0_4 s0_5 s0_6 s0_7 a1_0 a1_1 a1_2 a1_3 a2_0 a2_1 a2_2 a2_3 r hk
      _ rfl (fun _ _ _ _ _ _ _ _ _ _ => rfl) _ rfl (fun _ _ _ _ _ _ _ _ _ _ => rfl) _ rfl (fun _ _ _ _ _ _ _ _ _ _ => rfl) _ rfl (fun _ _ _ => rfl))
  · cases H
theorem interval_computer_less.sound : ∀ args h v h', interval_computer_less.o args h = some (v, h') → Spec Try.prog 80 args h v h' := by
  intro args h v h' H
  unfold interval_computer_less.o at H
  split at H
  · rename_i a1 a2 s0_0 s0_1 s0_2 s0_3 s0_4 s0_5 s0_6 s0_7
    obtain ⟨r, hr, H⟩ := Option.map_eq_some_iff.mp H
    cases H
    exact fn_ok tys_ok (Sound.cons interval_computer_within.sound Sound.nil) mixed_ok Try.func80 (by kernel_rfl) h80_ok (interval_computer_less.ev rfl (fun _ _ _ => rfl) (fun _ _ => rfl) 0 _ s0_0 s0_1 s0_2 s0_3 s0_4 s0_5 s0_6 s0_7 a1 a2 r hr
      _ rfl (fun _ _ _ _ _ _ _ _ _ => rfl))
  · cases H
theorem interval_computer_sub.sound : ∀ args h v h', interval_computer_sub.o args h = some (v, h') → Spec Try.prog 53 args h v h' := by
  intro args h v h' H
  unfold interval_computer_sub.o at H
  split at H
  · rename_i a1_0 a1_1 a1_2 a1_3 a2_0 a2_1 a2_2 a2_3 s0_0 s0_1 s0_2 s0_3 s0_4 s0_5 s0_6 s0_7
    obtain ⟨r, hr, H⟩ := Option.map_eq_some_iff.mp H
    cases H
    obtain ⟨k, hk⟩ := lim_ex hr
    exact fn_ok tys_ok (Sound.cons interval_computer_u.sound (Sound.cons interval_computer_less.sound (Sound.cons interval_computer_s.sound Sound.nil))) mixed_ok Try.func53 (by kernel_rfl) h53_ok (interval_computer_sub.ev rfl (fun _ _ _ => rfl) (fun _ _ => rfl) k _ s0_0 s0_1 s0_2 s0_3 s0_4 s0_5 s0_6 s0_7 a1_0 a1_1 a1_2 a1_3 a2_0 a2_1 a2_2 a2_3 r hk
      _ rfl (fun _ _ _ _ _ _ _ _ _ _ => rfl) _ rfl (fun _ _ _ _ _ _ _ _ _ _ => rfl) _ rfl (fun _ _ _ _ _ _ _ _ _ _ => rfl))
  · cases H
theorem bits_Mul64.sound : ∀ args h v h', bits_Mul64.o args h = some (v, h') → Spec Try.prog 81 args h v h' := by
  intro args h v h' H
  unfold bits_Mul64.o at H
  split at H
  · rename_i a0 a1
    obtain ⟨r, hr, H⟩ := Option.map_eq_some_iff.mp H
    cases H
    exact fn_ok tys_ok Sound.nil mixed_ok Try.func81 (by kernel_rfl) h81_ok (bits_Mul64.ev rfl (fun _ _ _ => rfl) (fun _ _ => rfl) 0 _ a0 a1 r hr
      )
  · cases H
theorem interval_computer_times.sound : ∀ args h v h', interval_computer_times.o args h = some (v, h') → Spec Try.prog 82 args h v h' := by
  intro args h v h' H
  unfold interval_computer_times.o at H
  split at H
  · rename_i a1 a2 s0_0 s0_1 s0_2 s0_3 s0_4 s0_5 s0_6 s0_7
    obtain ⟨r, hr, H⟩ := Option.map_eq_some_iff.mp H
    cases H
    exact fn_ok tys_ok (Sound.cons interval_computer_within.sound Sound.nil) mixed_ok Try.func82 (by kernel_rfl) h82_ok (interval_computer_times.ev rfl (fun _ _ _ => rfl) (fun _ _ => rfl) 0 _ s0_0 s0_1 s0_2 s0_3 s0_4 s0_5 s0_6 s0_7 a1 a2 r hr
      _ rfl (fun _ _ _ _ _ _ _ _ _ => rfl))
  · cases H
theorem interval_computer_corners.sound : ∀ args h v h', interval_computer_corners.o args h = some (v, h') → Spec Try.prog 83 args h v h' := by
  intro args h v h' H
  unfold interval_computer_corners.o at H
  split at H
  · rename_i a1 cl2 s0_0 s0_1 s0_2 s0_3 s0_4 s0_5 s0_6 s0_7
    obtain ⟨l2, hl2, H⟩ := Option.bind_eq_some_iff.mp H
    obtain ⟨r, hr, H⟩ := Option.map_eq_some_iff.mp H
    cases H
    obtain rfl := unI_inv hl2
    obtain ⟨k, hk⟩ := lim_ex hr
    exact fn_ok tys_ok (Sound.cons interval_computer_s.sound Sound.nil) mixed_ok Try.func83 (by kernel_rfl) h83_ok (interval_computer_corners.ev rfl (fun _ _ _ => rfl) (fun _ _ => rfl) k _ s0_0 s0_1 s0_2 s0_3 s0_4 s0_5 s0_6 s0_7 a1 l2 r hk
      _ rfl (fun _ _ _ _ _ _ _ _ _ _ => rfl))
  · cases H
theorem interval_computer_mul.sound : ∀ args h v h', interval_computer_mul.o args h = some (v, h') → Spec Try.prog 54 args h v h' := by
  intro args h v h' H
  unfold interval_computer_mul.o at H
  split at H
  · rename_i a1_0 a1_1 a1_2 a1_3 a2_0 a2_1 a2_2 a2_3 s0_0 s0_1 s0_2 s0_3 s0_4 s0_5 s0_6 s0_7
    obtain ⟨r, hr, H⟩ := Option.map_eq_some_iff.mp H
    cases H
    obtain ⟨k, hk⟩ := lim_ex hr
    exact fn_ok tys_ok (Sound.cons interval_computer_u.sound (Sound.cons interval_computer_times.sound (Sound.cons interval_computer_corners.sound (Sound.cons bits_Mul64.sound Sound.nil)))) mixed_ok Try.func54 (by kernel_rfl) h54_ok (interval_computer_mul.ev rfl (fun _ _ _ => rfl) (fun _ _ => rfl) k _ s0_0 s0_1 s0_2 s0_3 s0_4 s0_5 s0_6 s0_7 a1_0 a1_1 a1_2 a1_3 a2_0 a2_1 a2_2 a2_3 r hk
      _ rfl (fun _ _ _ _ _ _ _ _ _ _ => rfl) _ rfl (fun _ _ _ _ _ _ _ _ _ _ => rfl) _ rfl (fun cl2 l2 hl2 _ _ _ _ _ _ _ _ _ => by simp only [orcs, reduceIte, Nat.reduceEqDiff, eq_self, interval_computer_corners.o, hl2, Option.bind_some]) _ rfl (fun _ _ => rfl))
  · cases H
theorem interval_computer_divide.sound : ∀ args h v h', interval_computer_divide.o args h = some (v, h') → Spec Try.prog 55 args h v h' := by
  intro args h v h' H
  unfold interval_computer_divide.o at H
  split at H
  · rename_i a1 a2_0 a2_1 a2_2 a2_3 a3_0 a3_1 a3_2 a3_3 s0_0 s0_1 s0_2 s0_3 s0_4 s0_5 s0_6 s0_7
    obtain ⟨r, hr, H⟩ := Option.map_eq_some_iff.mp H
    cases H
    obtain ⟨k, hk⟩ := lim_ex hr
    exact fn_ok tys_ok (Sound.cons interval_computer_u.sound (Sound.cons interval_computer_corners.sound (Sound.cons interval_computer_s.sound Sound.nil))) mixed_ok Try.func55 (by kernel_rfl) h55_ok (interval_computer_divide.ev rfl (fun _ _ _ => rfl) (fun _ _ => rfl) k _ s0_0 s0_1 s0_2 s0_3 s0_4 s0_5 s0_6 s0_7 a1 a2_0 a2_1 a2_2 a2_3 a3_0 a3_1 a3_2 a3_3 r hk
      _ rfl (fun _ _ _ _ _ _ _ _ _ _ => rfl) _ rfl (fun cl2 l2 hl2 _ _ _ _ _ _ _ _ _ => by simp only [orcs, reduceIte, Nat.reduceEqDiff, eq_self, interval_computer_corners.o, hl2, Option.bind_some]) _ rfl (fun _ _ _ _ _ _ _ _ _ _ => rfl))
  · cases H
theorem bits_Len64.sound : ∀ args h v h', bits_Len64.o args h = some (v, h') → Spec Try.prog 57 args h v h' := by
  intro args h v h' H
  unfold bits_Len64.o at H
  split at H
  · rename_i a0
    obtain ⟨r, hr, H⟩ := Option.map_eq_some_iff.mp H
    cases H
    obtain ⟨k, hk⟩ := lim_ex hr
    exact fn_ok tys_ok Sound.nil mixed_ok Try.func57 (by kernel_rfl) h57_ok (bits_Len64.ev rfl (fun _ _ _ => rfl) (fun _ _ => rfl) k _ a0 r hk
      )
  · cases H
theorem interval_computer_shift.sound : ∀ args h v h', interval_computer_shift.o args h = some (v, h') → Spec Try.prog 58 args h v h' := by
  intro args h v h' H
  unfold interval_computer_shift.o at H
  split at H
  · rename_i a1 a2_0 a2_1 a2_2 a2_3 a3_0 a3_1 a3_2 a3_3 s0_0 s0_1 s0_2 s0_3 s0_4 s0_5 s0_6 s0_7
    obtain ⟨r, hr, H⟩ := Option.map_eq_some_iff.mp H
    cases H
    obtain ⟨k, hk⟩ := lim_ex hr
    exact fn_ok tys_ok (Sound.cons interval_computer_u.sound (Sound.cons interval_computer_corners.sound (Sound.cons interval_computer_s.sound Sound.nil))) mixed_ok Try.func58 (by kernel_rfl) h58_ok (interval_computer_shift.ev rfl (fun _ _ _ => rfl) (fun _ _ => rfl) k _ s0_0 s0_1 s0_2 s0_3 s0_4 s0_5 s0_6 s0_7 a1 a2_0 a2_1 a2_2 a2_3 a3_0 a3_1 a3_2 a3_3 r hk
      _ rfl (fun _ _ _ _ _ _ _ _ _ _ => rfl) _ rfl (fun cl2 l2 hl2 _ _ _ _ _ _ _ _ _ => by simp only [orcs, reduceIte, Nat.reduceEqDiff, eq_self, interval_computer_corners.o, hl2, Option.bind_some]) _ rfl (fun _ _ _ _ _ _ _ _ _ _ => rfl))
  · cases H
theorem interval_Join.sound : ∀ args h v h', interval_Join.o args h = some (v, h') → Spec Try.prog 59 args h v h' := by
  intro args h v h' H
  unfold interval_Join.o at H
  split at H
  · rename_i a0_0 a0_1 a0_2 a0_3 a1_0 a1_1 a1_2 a1_3
    obtain ⟨r, hr, H⟩ := Option.map_eq_some_iff.mp H
    cases H
    exact fn_ok tys_ok Sound.nil mixed_ok Try.func59 (by kernel_rfl) h59_ok (interval_Join.ev rfl (fun _ _ _ => rfl) (fun _ _ => rfl) 0 _ a0_0 a0_1 a0_2 a0_3 a1_0 a1_1 a1_2 a1_3 r hr
      )
  · cases H
theorem interval_computer_convert.sound : ∀ args h v h', interval_computer_convert.o args h = some (v, h') → Spec Try.prog 60 args h v h' := by
  intro args h v h' H
  unfold interval_computer_convert.o at H
  split at H
  · rename_i a1 a2 a3_0 a3_1 a3_2 a3_3 s0_0 s0_1 s0_2 s0_3 s0_4 s0_5 s0_6 s0_7
    obtain ⟨r, hr, H⟩ := Option.map_eq_some_iff.mp H
    cases H
    obtain ⟨k, hk⟩ := lim_ex hr
    exact fn_ok tys_ok (Sound.cons interval_computer_within.sound (Sound.cons interval_computer_s.sound (Sound.cons interval_computer_u.sound Sound.nil))) mixed_ok Try.func60 (by kernel_rfl) h60_ok (interval_computer_convert.ev rfl (fun _ _ _ => rfl) (fun _ _ => rfl) k _ s0_0 s0_1 s0_2 s0_3 s0_4 s0_5 s0_6 s0_7 a1 a2 a3_0 a3_1 a3_2 a3_3 r hk
      _ rfl (fun _ _ _ _ _ _ _ _ _ => rfl) _ rfl (fun _ _ _ _ _ _ _ _ _ _ => rfl) _ rfl (fun _ _ _ _ _ _ _ _ _ _ => rfl))
  · cases H
theorem interval_computer_truth.sound : ∀ args h v h', interval_computer_truth.o args h = some (v, h') → Spec Try.prog 85 args h v h' := by
  intro args h v h' H
  unfold interval_computer_truth.o at H
  split at H
  · rename_i a1 a2 s0_0 s0_1 s0_2 s0_3 s0_4 s0_5 s0_6 s0_7
    obtain ⟨r, hr, H⟩ := Option.map_eq_some_iff.mp H
    cases H
    obtain ⟨k, hk⟩ := lim_ex hr
    exact fn_ok tys_ok (Sound.cons interval_Of.sound Sound.nil) mixed_ok Try.func85 (by kernel_rfl) h85_ok (interval_computer_truth.ev rfl (fun _ _ _ => rfl) (fun _ _ => rfl) k _ s0_0 s0_1 s0_2 s0_3 s0_4 s0_5 s0_6 s0_7 a1 a2 r hk
      _ rfl (fun _ _ => rfl))
  · cases H
theorem interval_computer_compare.sound : ∀ args h v h', interval_computer_compare.o args h = some (v, h') → Spec Try.prog 61 args h v h' := by
  intro args h v h' H
  unfold interval_computer_compare.o at H
  split at H
  · rename_i a1 a2_0 a2_1 a2_2 a2_3 a3_0 a3_1 a3_2 a3_3 s0_0 s0_1 s0_2 s0_3 s0_4 s0_5 s0_6 s0_7
    obtain ⟨r, hr, H⟩ := Option.map_eq_some_iff.mp H
    cases H
    obtain ⟨k, hk⟩ := lim_ex hr
    exact fn_ok tys_ok (Sound.cons interval_computer_truth.sound Sound.nil) mixed_ok Try.func61 (by kernel_rfl) h61_ok (interval_computer_compare.ev rfl (fun _ _ _ => rfl) (fun _ _ => rfl) k _ s0_0 s0_1 s0_2 s0_3 s0_4 s0_5 s0_6 s0_7 a1 a2_0 a2_1 a2_2 a2_3 a3_0 a3_1 a3_2 a3_3 r hk
      _ rfl (fun _ _ _ _ _ _ _ _ _ _ => rfl))
  · cases H
theorem interval_computer_compute.sound : ∀ args h v h', interval_computer_compute.o args h = some (v, h') → Spec Try.prog 27 args h v h' := by
  intro args h v h' H
  unfold interval_computer_compute.o at H
  split at H
  · rename_i a1 cl2 cl3 s0_0 s0_1 s0_2 s0_3 s0_4 s0_5 s0_6 s0_7
    obtain ⟨l2, hl2, H⟩ := Option.bind_eq_some_iff.mp H
    obtain ⟨l3, hl3, H⟩ := Option.bind_eq_some_iff.mp H
    obtain ⟨r, hr, H⟩ := Option.map_eq_some_iff.mp H
    cases H
    obtain rfl := unI_inv hl2
    obtain rfl := unk30_inv hl3
    obtain ⟨k, hk⟩ := lim_ex hr
    exact fn_ok tys_ok (Sound.cons interval_computer_divide.sound (Sound.cons interval_computer_u.sound (Sound.cons bits_Len64.sound (Sound.cons bits_Mask.sound (Sound.cons interval_computer_shift.sound (Sound.cons interval_Join.sound (Sound.cons interval_computer_convert.sound (Sound.cons interval_computer_compare.sound (Sound.cons interval_computer_add.sound (Sound.cons interval_computer_sub.sound (Sound.cons interval_computer_mul.sound Sound.nil))))))))))) mixed_ok Try.func27 (by kernel_rfl) h27_ok (interval_computer_compute.ev rfl (fun _ _ _ => rfl) (fun _ _ => rfl) k _ s0_0 s0_1 s0_2 s0_3 s0_4 s0_5 s0_6 s0_7 a1 l2 l3 r hk
      _ rfl (fun _ _ _ _ _ _ _ _ _ _ _ _ _ _ _ _ _ => rfl) _ rfl (fun _ _ _ _ _ _ _ _ _ _ => rfl) _ rfl (fun _ => rfl) _ rfl (fun _ => rfl) _ rfl (fun _ _ _ _ _ _ _ _ _ _ _ _ _ _ _ _ _ => rfl) _ rfl (fun _ _ _ _ _ _ _ _ => rfl) _ rfl (fun _ _ _ _ _ _ _ _ _ _ _ _ _ _ => rfl) _ rfl (fun _ _ _ _ _ _ _ _ _ _ _ _ _ _ _ _ _ => rfl) _ rfl (fun _ _ _ _ _ _ _ _ _ _ _ _ _ _ _ _ => rfl) _ rfl (fun _ _ _ _ _ _ _ _ _ _ _ _ _ _ _ _ => rfl) _ rfl (fun _ _ _ _ _ _ _ _ _ _ _ _ _ _ _ _ => rfl))
  · cases H
theorem interval_Apply.sound : ∀ args h v h', interval_Apply.o args h = some (v, h') → Spec Try.prog 10 args h v h' := by
  intro args h v h' H
  unfold interval_Apply.o at H
  split at H
  · rename_i a0 a1 cl2 cl3 a4
    obtain ⟨l2, hl2, H⟩ := Option.bind_eq_some_iff.mp H
    obtain ⟨l3, hl3, H⟩ := Option.bind_eq_some_iff.mp H
    obtain ⟨r, hr, H⟩ := Option.map_eq_some_iff.mp H
    cases H
    obtain rfl := unI_inv hl2
    obtain rfl := unk30_inv hl3
    obtain ⟨k, hk⟩ := lim_ex hr
    exact fn_ok tys_ok (Sound.cons interval_Top.sound (Sound.cons interval_Of.sound (Sound.cons interval_Tighten.sound (Sound.cons interval_value.sound (Sound.cons interval_ends.sound (Sound.cons bits_Mask.sound (Sound.cons interval_computer_compute.sound (Sound.cons interval_shaped.sound Sound.nil)))))))) mixed_ok Try.func10 (by kernel_rfl) h10_ok (interval_Apply.ev rfl (fun _ _ _ => rfl) (fun _ _ => rfl) k _ a0 a1 l2 l3 a4 r hk
      _ rfl (fun _ => rfl) _ rfl (fun _ _ => rfl) _ rfl (fun _ _ _ _ _ => rfl) _ rfl (fun cl2 l2 hl2 cl3 l3 hl3 _ _ => by simp only [orcs, reduceIte, Nat.reduceEqDiff, eq_self, interval_value.o, hl2, hl3, Option.bind_some]) _ rfl (fun _ => rfl) _ rfl (fun _ => rfl) _ rfl (fun cl2 l2 hl2 cl3 l3 hl3 _ _ _ _ _ _ _ _ _ => by simp only [orcs, reduceIte, Nat.reduceEqDiff, eq_self, interval_computer_compute.o, hl2, hl3, Option.bind_some]) _ rfl (fun cl2 l2 hl2 _ _ => by simp only [orcs, reduceIte, Nat.reduceEqDiff, eq_self, interval_shaped.o, hl2, Option.bind_some]))
  · cases H
theorem jacquardref12_Shape.sound : ∀ args h v h', jacquardref12_Shape.o args h = some (v, h') → Spec Try.prog 12 args h v h' := by
  intro args h v h' H
  unfold jacquardref12_Shape.o at H
  split at H
  · rename_i a0 a1 cl2
    obtain ⟨l2, hl2, H⟩ := Option.bind_eq_some_iff.mp H
    obtain ⟨r, hr, H⟩ := Option.map_eq_some_iff.mp H
    cases H
    obtain rfl := unI_inv hl2
    obtain ⟨k, hk⟩ := lim_ex hr
    exact fn_ok tys_ok Sound.nil mixed_ok Try.func12 (by kernel_rfl) h12_ok (jacquardref12_Shape.ev rfl (fun _ _ _ => rfl) (fun _ _ => rfl) k _ a0 a1 l2 r hk
      )
  · cases H
theorem jacquardref12_Mask.sound : ∀ args h v h', jacquardref12_Mask.o args h = some (v, h') → Spec Try.prog 13 args h v h' := by
  intro args h v h' H
  unfold jacquardref12_Mask.o at H
  split at H
  · rename_i a0
    obtain ⟨r, hr, H⟩ := Option.map_eq_some_iff.mp H
    cases H
    obtain ⟨k, hk⟩ := lim_ex hr
    exact fn_ok tys_ok Sound.nil mixed_ok Try.func13 (by kernel_rfl) h13_ok (jacquardref12_Mask.ev rfl (fun _ _ _ => rfl) (fun _ _ => rfl) k _ a0 r hk
      )
  · cases H
theorem jacquardref12_Bit.sound : ∀ args h v h', jacquardref12_Bit.o args h = some (v, h') → Spec Try.prog 41 args h v h' := by
  intro args h v h' H
  unfold jacquardref12_Bit.o at H
  split at H
  · rename_i a0 a1
    obtain ⟨r, hr, H⟩ := Option.map_eq_some_iff.mp H
    cases H
    exact fn_ok tys_ok Sound.nil mixed_ok Try.func41 (by kernel_rfl) h41_ok (jacquardref12_Bit.ev rfl (fun _ _ _ => rfl) (fun _ _ => rfl) 0 _ a0 a1 r hr
      )
  · cases H
theorem jacquardref12_Signed.sound : ∀ args h v h', jacquardref12_Signed.o args h = some (v, h') → Spec Try.prog 43 args h v h' := by
  intro args h v h' H
  unfold jacquardref12_Signed.o at H
  split at H
  · rename_i a0 a1
    obtain ⟨r, hr, H⟩ := Option.map_eq_some_iff.mp H
    cases H
    obtain ⟨k, hk⟩ := lim_ex hr
    exact fn_ok tys_ok (Sound.cons jacquardref12_Bit.sound (Sound.cons jacquardref12_Mask.sound Sound.nil)) mixed_ok Try.func43 (by kernel_rfl) h43_ok (jacquardref12_Signed.ev rfl (fun _ _ _ => rfl) (fun _ _ => rfl) k _ a0 a1 r hk
      _ rfl (fun _ _ => rfl) _ rfl (fun _ => rfl))
  · cases H
theorem jacquardref12_divide.sound : ∀ args h v h', jacquardref12_divide.o args h = some (v, h') → Spec Try.prog 39 args h v h' := by
  intro args h v h' H
  unfold jacquardref12_divide.o at H
  split at H
  · rename_i a0 a1 a2
    obtain ⟨r, hr, H⟩ := Option.map_eq_some_iff.mp H
    cases H
    obtain ⟨k, hk⟩ := lim_ex hr
    exact fn_ok tys_ok (Sound.cons jacquardref12_Signed.sound (Sound.cons jacquardref12_Mask.sound Sound.nil)) mixed_ok Try.func39 (by kernel_rfl) h39_ok (jacquardref12_divide.ev rfl (fun _ _ _ => rfl) (fun _ _ => rfl) k _ a0 a1 a2 r hk
      _ rfl (fun _ _ => rfl) _ rfl (fun _ => rfl))
  · cases H
theorem jacquardref12_shift.sound : ∀ args h v h', jacquardref12_shift.o args h = some (v, h') → Spec Try.prog 40 args h v h' := by
  intro args h v h' H
  unfold jacquardref12_shift.o at H
  split at H
  · rename_i a0 a1 a2 a3
    obtain ⟨r, hr, H⟩ := Option.map_eq_some_iff.mp H
    cases H
    obtain ⟨k, hk⟩ := lim_ex hr
    exact fn_ok tys_ok (Sound.cons jacquardref12_Bit.sound Sound.nil) mixed_ok Try.func40 (by kernel_rfl) h40_ok (jacquardref12_shift.ev rfl (fun _ _ _ => rfl) (fun _ _ => rfl) k _ a0 a1 a2 a3 r hk
      _ rfl (fun _ _ => rfl))
  · cases H
theorem jacquardref12_truth.sound : ∀ args h v h', jacquardref12_truth.o args h = some (v, h') → Spec Try.prog 42 args h v h' := by
  intro args h v h' H
  unfold jacquardref12_truth.o at H
  split at H
  · rename_i a0
    obtain ⟨r, hr, H⟩ := Option.map_eq_some_iff.mp H
    cases H
    exact fn_ok tys_ok Sound.nil mixed_ok Try.func42 (by kernel_rfl) h42_ok (jacquardref12_truth.ev rfl (fun _ _ _ => rfl) (fun _ _ => rfl) 0 _ a0 r hr
      )
  · cases H
theorem jacquardref12_Eval.sound : ∀ args h v h', jacquardref12_Eval.o args h = some (v, h') → Spec Try.prog 15 args h v h' := by
  intro args h v h' H
  unfold jacquardref12_Eval.o at H
  split at H
  · rename_i a0 a1 cl2 cl3 a4
    obtain ⟨l2, hl2, H⟩ := Option.bind_eq_some_iff.mp H
    obtain ⟨l3, hl3, H⟩ := Option.bind_eq_some_iff.mp H
    obtain ⟨r, hr, H⟩ := Option.map_eq_some_iff.mp H
    cases H
    obtain rfl := unI_inv hl2
    obtain rfl := unI_inv hl3
    obtain ⟨k, hk⟩ := lim_ex hr
    exact fn_ok tys_ok (Sound.cons jacquardref12_Mask.sound (Sound.cons jacquardref12_divide.sound (Sound.cons jacquardref12_shift.sound (Sound.cons jacquardref12_Bit.sound (Sound.cons jacquardref12_truth.sound (Sound.cons jacquardref12_Signed.sound Sound.nil)))))) mixed_ok Try.func15 (by kernel_rfl) h15_ok (jacquardref12_Eval.ev rfl (fun _ _ _ => rfl) (fun _ _ => rfl) k _ a0 a1 l2 l3 a4 r hk
      _ rfl (fun _ => rfl) _ rfl (fun _ _ _ => rfl) _ rfl (fun _ _ _ _ => rfl) _ rfl (fun _ _ => rfl) _ rfl (fun _ => rfl) _ rfl (fun _ _ => rfl))
  · cases H
theorem jacquardref13_Umax.sound : ∀ args h v h', jacquardref13_Umax.o args h = some (v, h') → Spec Try.prog 45 args h v h' := by
  intro args h v h' H
  unfold jacquardref13_Umax.o at H
  split at H
  · rename_i a0
    obtain ⟨r, hr, H⟩ := Option.map_eq_some_iff.mp H
    cases H
    obtain ⟨k, hk⟩ := lim_ex hr
    exact fn_ok tys_ok (Sound.cons jacquardref12_Mask.sound Sound.nil) mixed_ok Try.func45 (by kernel_rfl) h45_ok (jacquardref13_Umax.ev rfl (fun _ _ _ => rfl) (fun _ _ => rfl) k _ a0 r hk
      _ rfl (fun _ => rfl))
  · cases H
theorem jacquardref13_Smax.sound : ∀ args h v h', jacquardref13_Smax.o args h = some (v, h') → Spec Try.prog 63 args h v h' := by
  intro args h v h' H
  unfold jacquardref13_Smax.o at H
  split at H
  · rename_i a0
    obtain ⟨r, hr, H⟩ := Option.map_eq_some_iff.mp H
    cases H
    obtain ⟨k, hk⟩ := lim_ex hr
    exact fn_ok tys_ok (Sound.cons jacquardref13_Umax.sound Sound.nil) mixed_ok Try.func63 (by kernel_rfl) h63_ok (jacquardref13_Smax.ev rfl (fun _ _ _ => rfl) (fun _ _ => rfl) k _ a0 r hk
      _ rfl (fun _ => rfl))
  · cases H
theorem jacquardref13_Smin.sound : ∀ args h v h', jacquardref13_Smin.o args h = some (v, h') → Spec Try.prog 62 args h v h' := by
  intro args h v h' H
  unfold jacquardref13_Smin.o at H
  split at H
  · rename_i a0
    obtain ⟨r, hr, H⟩ := Option.map_eq_some_iff.mp H
    cases H
    obtain ⟨k, hk⟩ := lim_ex hr
    exact fn_ok tys_ok (Sound.cons jacquardref13_Smax.sound Sound.nil) mixed_ok Try.func62 (by kernel_rfl) h62_ok (jacquardref13_Smin.ev rfl (fun _ _ _ => rfl) (fun _ _ => rfl) k _ a0 r hk
      _ rfl (fun _ => rfl))
  · cases H
theorem jacquardref13_Valid.sound : ∀ args h v h', jacquardref13_Valid.o args h = some (v, h') → Spec Try.prog 44 args h v h' := by
  intro args h v h' H
  unfold jacquardref13_Valid.o at H
  split at H
  · rename_i a0 a1_0 a1_1 a1_2 a1_3
    obtain ⟨r, hr, H⟩ := Option.map_eq_some_iff.mp H
    cases H
    obtain ⟨k, hk⟩ := lim_ex hr
    exact fn_ok tys_ok (Sound.cons jacquardref13_Umax.sound (Sound.cons jacquardref13_Smin.sound (Sound.cons jacquardref13_Smax.sound Sound.nil))) mixed_ok Try.func44 (by kernel_rfl) h44_ok (jacquardref13_Valid.ev rfl (fun _ _ _ => rfl) (fun _ _ => rfl) k _ a0 a1_0 a1_1 a1_2 a1_3 r hk
      _ rfl (fun _ => rfl) _ rfl (fun _ => rfl) _ rfl (fun _ => rfl))
  · cases H
theorem jacquardlaw13_right.sound : ∀ args h v h', jacquardlaw13_right.o args h = some (v, h') → Spec Try.prog 16 args h v h' := by
  intro args h v h' H
  unfold jacquardlaw13_right.o at H
  split at H
  · rename_i a0_0 a0_1 cl0_2 cl0_3 a0_4
    obtain ⟨l0_2, hl0_2, H⟩ := Option.bind_eq_some_iff.mp H
    obtain ⟨l0_3, hl0_3, H⟩ := Option.bind_eq_some_iff.mp H
    obtain ⟨r, hr, H⟩ := Option.map_eq_some_iff.mp H
    cases H
    obtain rfl := unI_inv hl0_2
    obtain rfl := unk30_inv hl0_3
    obtain ⟨k, hk⟩ := lim_ex hr
    exact fn_ok tys_ok (Sound.cons jacquardref13_Valid.sound (Sound.cons jacquardlaw13_few.sound (Sound.cons jacquardref12_Shape.sound Sound.nil))) mixed_ok Try.func16 (by kernel_rfl) h16_ok (jacquardlaw13_right.ev rfl (fun _ _ _ => rfl) (fun _ _ => rfl) k _ a0_0 a0_1 l0_2 l0_3 a0_4 r hk
      _ rfl (fun _ _ _ _ _ => rfl) _ rfl (fun cl0_2 l0_2 hl0_2 cl0_3 l0_3 hl0_3 _ _ _ => by simp only [orcs, reduceIte, Nat.reduceEqDiff, eq_self, jacquardlaw13_few.o, hl0_2, hl0_3, Option.bind_some]) _ rfl (fun cl2 l2 hl2 _ _ => by simp only [orcs, reduceIte, Nat.reduceEqDiff, eq_self, jacquardref12_Shape.o, hl2, Option.bind_some]))
  · cases H
theorem jacquardref13_Contains.sound : ∀ args h v h', jacquardref13_Contains.o args h = some (v, h') → Spec Try.prog 20 args h v h' := by
  intro args h v h' H
  unfold jacquardref13_Contains.o at H
  split at H
  · rename_i a0 a1_0 a1_1 a1_2 a1_3 a2
    obtain ⟨r, hr, H⟩ := Option.map_eq_some_iff.mp H
    cases H
    obtain ⟨k, hk⟩ := lim_ex hr
    exact fn_ok tys_ok (Sound.cons jacquardref13_Umax.sound (Sound.cons jacquardref12_Signed.sound Sound.nil)) mixed_ok Try.func20 (by kernel_rfl) h20_ok (jacquardref13_Contains.ev rfl (fun _ _ _ => rfl) (fun _ _ => rfl) k _ a0 a1_0 a1_1 a1_2 a1_3 a2 r hk
      _ rfl (fun _ => rfl) _ rfl (fun _ _ => rfl))
  · cases H
theorem interval_Contains.sound : ∀ args h v h', interval_Contains.o args h = some (v, h') → Spec Try.prog 19 args h v h' := by
  intro args h v h' H
  unfold interval_Contains.o at H
  split at H
  · rename_i a0 a1_0 a1_1 a1_2 a1_3 a2
    obtain ⟨r, hr, H⟩ := Option.map_eq_some_iff.mp H
    cases H
    exact fn_ok tys_ok (Sound.cons interval_good.sound (Sound.cons bits_Mask.sound (Sound.cons bits_Signed.sound Sound.nil))) mixed_ok Try.func19 (by kernel_rfl) h19_ok (interval_Contains.ev rfl (fun _ _ _ => rfl) (fun _ _ => rfl) 0 _ a0 a1_0 a1_1 a1_2 a1_3 a2 r hr
      _ rfl (fun _ => rfl) _ rfl (fun _ => rfl) _ rfl (fun _ _ => rfl))
  · cases H
end Go.Vm
