/- Each function does what the oracle says; the law's function. -/
import Derived.Test.YthhhegblccoonaaGreatDoorT
import Derived.Test.YthhhegblccoonaaGreatDoorGs
import Derived.Test.YthhhegblccoonaaGreatDoorE0
import Derived.Test.YthhhegblccoonaaGreatDoorE1
import Derived.Test.YthhhegblccoonaaGreatDoorE2
import Derived.Test.YthhhegblccoonaaGreatDoorE3
import Derived.Test.YthhhegblccoonaaGreatDoorE4
import Derived.Test.YthhhegblccoonaaGreatDoorE5
import Derived.Test.YthhhegblccoonaaGreatDoorE6
import Derived.Test.YthhhegblccoonaaGreatDoorE7
import Derived.Test.YthhhegblccoonaaGreatDoorE8
import Derived.Test.YthhhegblccoonaaGreatDoorE9
import Derived.Test.YthhhegblccoonaaGreatDoorE10
import Derived.Test.YthhhegblccoonaaGreatDoorE11
import Derived.Test.YthhhegblccoonaaGreatDoorE12
namespace Go.Vm
open Go.Proofs Go.Proofs.YthhhegblccoonaaGreatDoor Go.Proofs.YthhhegblccoonaaGreatDoor.P Go.RowKit Go.Proofs.YthhhegblccoonaaGreatDoorW.PrintWords Go.Proofs.YthhhegblccoonaaGreatDoorW.PrintLast Go.Proofs.YthhhegblccoonaaGreatDoorW.PrintMore
set_option linter.unusedVariables false
set_option linter.unusedSimpArgs false
set_option maxRecDepth 100000
set_option maxHeartbeats 40000000
theorem mixed_ok : Tryz.prog.follows .mixedOrders = true := by kernel_rfl
noncomputable abbrev KR : Oracle := orc realF realC realU
theorem sc {n : Nat} {fn : Go.Func} {H : Hints} {l : List Nat} (ev : Ev n H fn) (hS : Sound Tryz.prog (cutK l KR)) (hf : Tryz.prog.funcs[n]? = some fn := by kernel_rfl) (hfit : fitFn l H fn = true := by kernel_rfl) : Sound Tryz.prog (cutK (n :: l) KR) := by
  obtain ⟨q, hQ⟩ : ∃ q, Q = q + 8 := ⟨Q - 8, by unfold Q; omega⟩
  exact sound_step (L := Q) tys_ok mixed_ok hS hf hfit fun args h v h' hk => ev realF realC realU KR _ _ _ _ _ _ _ _ _ _ _ _ _ _ _ Q q rfl rfl rfl rfl rfl rfl hQ (Nat.le_refl _) args h v h' hk
theorem add64_s {l : List Nat} (hS : Sound Tryz.prog (cutK l KR)) : Sound Tryz.prog (cutK (141 :: l) KR) := cut_cons hS fun args h v h' H => by
  have hc : On (KR 141) fun args h R => ∀ v h', R = some (v, h') → Spec Tryz.prog 141 args h v h' := by
    delta KR orc
    refine On.I fun a0 => On.I fun a1 => On.I fun a2 => On.r rfl fun r R hr hR => ?_
    intro v h' hv
    subst hR
    cases hv
    have hr : bits_Add64.f a0 a1 a2 = some r := hr
    unfold bits_Add64.f at hr
    by_cases c : a2 = 0
    · rw [if_pos c] at hr
      subst c
      cases hr
      intro w l B xs ra rh hA hH h1 hm
      simp only [RepL, Rep] at hA
      obtain ⟨_, _, r1, s1, rfl, hs1, ⟨rfl, hr1⟩, _, _, r2, s2, rfl, hs2, ⟨rfl, hr2⟩, _, _, r3, s3, rfl, hs3, ⟨rfl, hr3⟩, rfl, hs4⟩ := hA
      refine fun _ => .inr ⟨_, w, add64_run (by kernel_rfl : Tryz.prog.funcs[141]? = some Tryz.f141) (by kernel_rfl) (by kernel_rfl) (by kernel_rfl) (by kernel_rfl) a0 a1 w, l, nil0, rh, ?_, hH, fun b => by have := h1 b; simp [nil0]; omega, Ext.refl _ _ _, fun b hb => ⟨hm b (by simp [nil0] at hb; omega), fun _ => by simp [nil0] at hb; omega⟩⟩
      simp only [V.u, Rep]
      exact ⟨[_, _], rfl, RepL.cons Rep.of_scalar (RepL.cons Rep.of_scalar RepL.nil (fun _ => rfl)) (fun _ => rfl)⟩
    · rw [if_neg c] at hr; cases hr
  exact hc args h v h' H v h' rfl
theorem all_ok : Sound Tryz.prog (cutK [8, 27, 30, 92, 137, 135, 150, 134, 133, 136, 91, 132, 131, 90, 89, 88, 130, 87, 73, 125, 29, 9, 82, 86, 129, 72, 71, 81, 128, 80, 79, 77, 127, 78, 126, 83, 76, 84, 85, 75, 15, 42, 40, 39, 43, 41, 74, 11, 32, 26, 31, 25, 24, 28, 70, 94, 95, 93, 10, 7, 20, 23, 66, 112, 69, 118, 145, 146, 117, 144, 116, 141, 142, 119, 122, 121, 147, 124, 149, 123, 120, 143, 148, 67, 115, 113, 138, 151, 140, 152, 139, 114, 49, 101, 22, 51, 64, 63, 62, 110, 111, 60, 59, 58, 109, 56, 57, 108, 50, 55, 107, 106, 54, 53, 102, 103, 105, 61, 104, 52, 6, 5, 13, 36, 19, 35, 18, 17, 46, 68, 16, 21, 45, 48, 100, 98, 47, 99, 97, 44, 65, 96] KR) := by
  have s : Sound Tryz.prog (cutK [] KR) := cut_nil
  replace s := sc e96 s
  replace s := sc e65 s
  replace s := sc e44 s
  replace s := sc e97 s
  replace s := sc e99 s
  replace s := sc e47 s
  replace s := sc e98 s
  replace s := sc e100 s
  replace s := sc e48 s
  replace s := sc e45 s
  replace s := sc e21 s
  replace s := sc e16 s
  replace s := sc e68 s
  replace s := sc e46 s
  replace s := sc e17 s
  replace s := sc e18 s
  replace s := sc e35 s
  replace s := sc e19 s
  replace s := sc e36 s
  replace s := sc e13 s
  replace s := sc e5 s
  replace s := sc e6 s
  replace s := sc e52 s
  replace s := sc e104 s
  replace s := sc e61 s
  replace s := sc e105 s
  replace s := sc e103 s
  replace s := sc e102 s
  replace s := sc e53 s
  replace s := sc e54 s
  replace s := sc e106 s
  replace s := sc e107 s
  replace s := sc e55 s
  replace s := sc e50 s
  replace s := sc e108 s
  replace s := sc e57 s
  replace s := sc e56 s
  replace s := sc e109 s
  replace s := sc e58 s
  replace s := sc e59 s
  replace s := sc e60 s
  replace s := sc e111 s
  replace s := sc e110 s
  replace s := sc e62 s
  replace s := sc e63 s
  replace s := sc e64 s
  replace s := sc e51 s
  replace s := sc e22 s
  replace s := sc e101 s
  replace s := sc e49 s
  replace s := sc e114 s
  replace s := sc e139 s
  replace s := sc e152 s
  replace s := sc e140 s
  replace s := sc e151 s
  replace s := sc e138 s
  replace s := sc e113 s
  replace s := sc e115 s
  replace s := sc e67 s
  replace s := sc e148 s
  replace s := sc e143 s
  replace s := sc e120 s
  replace s := sc e123 s
  replace s := sc e149 s
  replace s := sc e124 s
  replace s := sc e147 s
  replace s := sc e121 s
  replace s := sc e122 s
  replace s := sc e119 s
  replace s := sc e142 s
  replace s := add64_s s
  replace s := sc e116 s
  replace s := sc e144 s
  replace s := sc e117 s
  replace s := sc e146 s
  replace s := sc e145 s
  replace s := sc e118 s
  replace s := sc e69 s
  replace s := sc e112 s
  replace s := sc e66 s
  replace s := sc e23 s
  replace s := sc e20 s
  replace s := sc e7 s
  replace s := sc e10 s
  replace s := sc e93 s
  replace s := sc e95 s
  replace s := sc e94 s
  replace s := sc e70 s
  replace s := sc e28 s
  replace s := sc e24 s
  replace s := sc e25 s
  replace s := sc e31 s
  replace s := sc e26 s
  replace s := sc e32 s
  replace s := sc e11 s
  replace s := sc e74 s
  replace s := sc e41 s
  replace s := sc e43 s
  replace s := sc e39 s
  replace s := sc e40 s
  replace s := sc e42 s
  replace s := sc e15 s
  replace s := sc e75 s
  replace s := sc e85 s
  replace s := sc e84 s
  replace s := sc e76 s
  replace s := sc e83 s
  replace s := sc e126 s
  replace s := sc e78 s
  replace s := sc e127 s
  replace s := sc e77 s
  replace s := sc e79 s
  replace s := sc e80 s
  replace s := sc e128 s
  replace s := sc e81 s
  replace s := sc e71 s
  replace s := sc e72 s
  replace s := sc e129 s
  replace s := sc e86 s
  replace s := sc e82 s
  replace s := sc e9 s
  replace s := sc e29 s
  replace s := sc e125 s
  replace s := sc e73 s
  replace s := sc e87 s
  replace s := sc e130 s
  replace s := sc e88 s
  replace s := sc e89 s
  replace s := sc e90 s
  replace s := sc e131 s
  replace s := sc e132 s
  replace s := sc e91 s
  replace s := sc e136 s
  replace s := sc e133 s
  replace s := sc e134 s
  replace s := sc e150 s
  replace s := sc e135 s
  replace s := sc e137 s
  replace s := sc e92 s
  replace s := sc e30 s
  replace s := sc e27 s
  replace s := sc e8 s
  exact s
/-- What a call of the law's function does. -/
theorem jacquardlaw14_FactsApply.law (a0_0 : Int) (a0_1 : Int) (l0_2 : List Int) (l0_3 : List (S30)) (a0_4 : Int) (hk : jacquardlaw14_FactsApply.f a0_0 a0_1 l0_2 l0_3 a0_4 = some true) (w : World) (xs : List Value) (hA : RepL w (limOf w) [V.agg [V.sc (.int .i64 a0_0), V.sc (.int .i64 a0_1), V.sl false ((cI .i64).m l0_2), V.sl false (c30.m l0_3), V.sc (.int .u64 a0_4)]] [] xs nil0) (hG : Held w (limOf w)) :
    Calls Tryz.prog 3 xs.toArray w fun e w' => e = .returned (.bool true) ∧ Below w.heap.size w w' := by
  obtain ⟨q, hQ⟩ : ∃ q, Q = q + 8 := ⟨Q - 8, by unfold Q; omega⟩
  have ho : KR 3 [V.agg [V.sc (.int .i64 a0_0), V.sc (.int .i64 a0_1), V.sl false ((cI .i64).m l0_2), V.sl false (c30.m l0_3), V.sc (.int .u64 a0_4)]] [] = some (V.sc (.bool true), []) := by
    delta KR orc
    simp [pI, pa, pl, pr, realU, realC, cm, realF, un_m, hk, V.b]
  have ev := e3 realF realC realU KR _ _ _ _ _ _ _ _ _ _ _ _ _ _ _ Q q rfl rfl rfl rfl rfl rfl hQ (Nat.le_refl _) _ _ _ _ ho
  refine (law_step (L := Q) tys_ok mixed_ok all_ok (by kernel_rfl) (by kernel_rfl) ev w (limOf w) [] xs nil0 nil0 hA (by simp [RepH, nil0]) (fun _ => by simp [nil0]) (fun b hb => by simp [nil0] at hb) hG).mono fun e w' ⟨x, he, l', rv, rh', hR, _, _, hX, _⟩ => ⟨?_, law_below hX⟩
  simp only [Rep] at hR
  rw [he, hR.1]
end Go.Vm
