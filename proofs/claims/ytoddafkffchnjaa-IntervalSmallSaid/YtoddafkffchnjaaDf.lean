/- The functions that the statement reaches, each as a Lean function (printed by the turned printer, definitions alone). -/
import Derived.Test.YtoddafkffchnjaaProg
import Derived.Test.YtoddafkffchnjaaVWords
import Derived.Test.YtoddafkffchnjaaVMore
import Derived.Test.YtoddafkffchnjaaVLast
import Derived.Test.YtoddafkffchnjaaVFour
import Derived.Test.YtoddafkffchnjaaEx
namespace Go.Proofs.Ytoddafkffchnjaa.P
open Go.RowKit Go.Proofs.YtoddafkffchnjaaW.PrintWords Go.Proofs.YtoddafkffchnjaaW.PrintLast Go.Proofs.YtoddafkffchnjaaW.PrintMore
set_option linter.unusedVariables false
set_option linter.unusedSimpArgs false
structure S30 where
  f0 : Int
  f1 : Int
  f2 : Int
  f3 : Int
def z30 : S30 := ⟨(0 : Int), (0 : Int), (0 : Int), (0 : Int)⟩
def rd_T30 (xs : List S30) (i : Int) : S30 := xs.getD i.toNat z30
/-! ### interval_good: function 36 -/
def interval_good.f (a0 : Int) : Option (Bool) := if a0 ≥ 1 then (some (decide (a0 ≤ 64))) else (some false)
/-! ### bits_limit: function 51 -/
def bits_limit.f (a0 : Int) : Option (Int) := some (mn (mx a0 0) 64)
/-! ### bits_Mask: function 26 -/
def bits_Mask.f (a0 : Int) : Option (Int) := (bits_limit.f a0).bind fun t101 => (if t101 = 0 then (some 0) else (if 0 ≤ (wrap64 (64 - t101)) then (some (shr .u64 18446744073709551615 (wrap64 (64 - t101)))) else (none)))
/-! ### bits_Fit: function 37 -/
def bits_Fit.f (a0 : Int) (a1 : Int) : Option (Int) := (bits_Mask.f a0).bind fun t102 => (some (Go.bits .and .u64 a1 t102))
/-! ### bits_negative: function 73 -/
def bits_negative.f (a0 : Int) (a1 : Int) : Option (Bool) := (bits_limit.f a0).bind fun t103 => (if t103 > 0 then (if 0 ≤ (wrap64 (t103 - 1)) then (some ((Go.bits .and .u64 (shr .u64 a1 (wrap64 (t103 - 1))) 1) == 1)) else (none)) else (some false))
/-! ### bits_Signed: function 38 -/
def bits_Signed.f (a0 : Int) (a1 : Int) : Option (Int) := (bits_Fit.f a0 a1).bind fun t104 => ((bits_negative.f a0 t104).bind fun t105 => (if t105 = true then ((bits_Mask.f a0).bind fun t106 => (some (wrap64 (Go.bits .or .u64 t104 (Go.bits .xor .u64 18446744073709551615 t106))))) else (some (wrap64 (t104)))))
/-! ### interval_Of: function 14 -/
def interval_Of.f (a0 : Int) (a1 : Int) : Option (Int × Int × Int × Int) := (interval_good.f a0).bind fun t108 => (if t108 = true then ((bits_Fit.f a0 a1).bind fun t109 => ((bits_Signed.f a0 a1).bind fun t110 => (some (t109, t109, t110, t110)))) else (some (0, 0, 0, 0)))
/-! ### interval_ends: function 25 -/
def interval_ends.f (a0 : Int) : Option (Int × Int) := if 0 ≤ (wrap64 (a0 - 1)) then (some (shl .i64 (-1) (wrap64 (a0 - 1)), wrap64 ((shl .i64 1 (wrap64 (a0 - 1))) - 1))) else (none)
/-! ### interval_Top: function 21 -/
def interval_Top.f (a0 : Int) : Option (Int × Int × Int × Int) := (interval_good.f a0).bind fun t112 => (if t112 = true then ((interval_ends.f a0).bind fun bt113 => ((bits_Mask.f a0).bind fun t115 => (some (0, t115, bt113.1, bt113.2)))) else (some (0, 0, 0, 0)))
/-! ### jacquardlaw13_awake: function 8 -/
def jacquardlaw13_awake.f  : Option (Bool) := (interval_Top.f 4).bind fun bt116 => (if (bt116.1 == 0 && (bt116.2.1 == 15 && (bt116.2.2.1 == (-8) && (bt116.2.2.2 == 7)))) = true then ((interval_Of.f 4 9).bind fun bt120 => (some (bt120.1 == 9 && (bt120.2.1 == 9 && (bt120.2.2.1 == (-7) && (bt120.2.2.2 == (-7))))))) else (some false))
/-! ### jacquardlaw13_few: function 9 -/
def jacquardlaw13_few.f (a0_0 : Int) (a0_1 : Int) (l0_2 : List Int) (l0_3 : List (S30)) (a0_4 : Int) : Option (Bool) := if (l0_2.length : Int) ≤ 8 then (some (decide ((l0_3.length : Int) ≤ 8))) else (some false)
/-! ### bits_IsCompare: function 46 -/
def bits_IsCompare.f (a0 : Int) : Option (Bool) := if a0 ≥ 15 then (some (decide (a0 ≤ 20))) else (some false)
/-! ### bits_IsBinary: function 47 -/
def bits_IsBinary.f (a0 : Int) : Option (Bool) := if a0 ≥ 2 then (some (decide (a0 ≤ 20))) else (some false)
/-! ### interval_shaped: function 22 -/
mutual
def interval_shaped.l0 : Nat → Int → Int → List Int → List Int → Int → Int → Option (Bool)
 | 0, _, _, _, _, _, _ => none
 | k + 1, x0, x1, x2, x3, x4, x5 => if x5 < x4 then (if 0 ≤ x5 then (if x5 < (x3.length : Int) then ((interval_good.f (rd x3 x5)).bind fun t127 => (if t127 = true then (interval_shaped.l0 k x0 x1 x2 x3 x4 (wrap64 (x5 + 1))) else (some false))) else (none)) else (none)) else (if x0 = 1 then (some ((x2.length : Int) == 0)) else (if x0 = 21 then (if (x2.length : Int) = 3 then (if 0 < (x2.length : Int) then (if (rd x2 0) = 1 then (if 1 < (x2.length : Int) then (if (rd x2 1) = x1 then (if 2 < (x2.length : Int) then (some ((rd x2 2) == x1)) else (none)) else (some false)) else (none)) else (some false)) else (none)) else (some false)) else (if x0 = 22 then (interval_shaped.j1 k x0 x1 x2 (x2.length : Int) x0 (x0 == 22)) else (interval_shaped.j1 k x0 x1 x2 (x2.length : Int) x0 (x0 == 23)))))
def interval_shaped.j1 : Nat → Int → Int → List Int → Int → Int → Bool → Option (Bool)
 | 0, _, _, _, _, _, _ => none
 | k + 1, x0, x1, x2, x3, x4, x5 => if x5 = true then (if x3 = 1 then (if 0 < (x2.length : Int) then (some (decide ((rd x2 0) ≤ x1))) else (none)) else (some false)) else (if x4 = 24 then (if x3 = 1 then (if 0 < (x2.length : Int) then (some (decide ((rd x2 0) ≥ x1))) else (none)) else (some false)) else ((bits_IsCompare.f x0).bind fun t133 => (if t133 = true then (if x3 = 2 then (if 0 < (x2.length : Int) then (if 1 < (x2.length : Int) then (if (rd x2 0) = (rd x2 1) then (some (x1 == 1)) else (some false)) else (none)) else (none)) else (some false)) else ((bits_IsBinary.f x0).bind fun t136 => (if t136 = true then (if x3 = 2 then (if 0 < (x2.length : Int) then (if (rd x2 0) = x1 then (if 1 < (x2.length : Int) then (some ((rd x2 1) == x1)) else (none)) else (some false)) else (none)) else (some false)) else (some false))))))
end
def interval_shaped.f (k : Nat) (a0 : Int) (a1 : Int) (l2 : List Int) : Option (Bool) := (interval_good.f a1).bind fun t125 => (if t125 = true then (interval_shaped.l0 k a0 a1 l2 l2 (l2.length : Int) 0) else (some false))
theorem interval_shaped.mono_l : ∀ k, (∀ y0 y1 y2 y3 y4 y5, LeO (interval_shaped.l0 k y0 y1 y2 y3 y4 y5) (interval_shaped.l0 (k + 1) y0 y1 y2 y3 y4 y5)) ∧ (∀ y0 y1 y2 y3 y4 y5, LeO (interval_shaped.j1 k y0 y1 y2 y3 y4 y5) (interval_shaped.j1 (k + 1) y0 y1 y2 y3 y4 y5))
 | 0 => ⟨fun _ _ _ _ _ _ r h => by simp [interval_shaped.l0] at h, fun _ _ _ _ _ _ r h => by simp [interval_shaped.j1] at h⟩
 | k + 1 => by
  obtain ⟨ih0, ih1⟩ := interval_shaped.mono_l k
  refine ⟨?_, ?_⟩
  all_goals
   intros
   first | unfold interval_shaped.l0 | unfold interval_shaped.j1
   repeat' first
   | (with_reducible first | apply ih0 | apply ih1 | exact LeO.refl _ | exact LeO.none _ | refine LeO.ite ?_ ?_ | refine LeO.bind ?_ (fun _ => ?_))
   | (first | apply ih0 | apply ih1 | exact LeO.none _ | refine LeO.ite ?_ ?_ | refine LeO.bind ?_ (fun _ => ?_))
theorem interval_shaped.mono : ∀ a0 a1 a2 k, LeO (interval_shaped.f k a0 a1 a2) (interval_shaped.f (k + 1) a0 a1 a2) := by
 intro a0 a1 a2 k
 obtain ⟨ih0, ih1⟩ := interval_shaped.mono_l k
 unfold interval_shaped.f
 repeat' first
   | (with_reducible first | apply ih0 | apply ih1 | exact LeO.refl _ | exact LeO.none _ | refine LeO.ite ?_ ?_ | refine LeO.bind ?_ (fun _ => ?_))
   | (first | apply ih0 | apply ih1 | exact LeO.none _ | refine LeO.ite ?_ ?_ | refine LeO.bind ?_ (fun _ => ?_))
/-! ### interval_Valid: function 18 -/
def interval_Valid.f (a0 : Int) (a1_0 : Int) (a1_1 : Int) (a1_2 : Int) (a1_3 : Int) : Option (Bool) := (interval_good.f a0).bind fun t140 => (if t140 = true then ((interval_ends.f a0).bind fun bt141 => (if a1_0 ≤ a1_1 then ((bits_Mask.f a0).bind fun t143 => (if a1_1 ≤ t143 then (if bt141.1 ≤ a1_2 then (if a1_2 ≤ a1_3 then (some (decide (a1_3 ≤ bt141.2))) else (some false)) else (some false)) else (some false))) else (some false))) else (some false))
def interval_Valid.T4 : Bool × List (List Nat × List Nat) := (true, [([], []), ([0], [0]), ([], []), ([2], [2]), ([1, 3], [1, 3]), ([4], [4]), ([5], [5]), ([6, 5], [5, 6]), ([5], [5]), ([8, 5, 5], [5, 8]), ([7, 9, 5], [5, 7, 9]), ([5, 10], [5, 10]), ([11, 9], [11]), ([12], [12]), ([12], [12]), ([14, 12], [12, 14]), ([13, 15, 12], [12, 13, 15]), ([12, 16], [12, 16]), ([17, 12], [17]), ([18], [18]), ([19, 18], [18, 19]), ([18], [18]), ([21, 18], [18, 21]), ([20, 22, 18], [18, 20, 22]), ([18, 23], [18, 23]), ([24, 18], [24]), ([25], [25]), ([26, 25], [25, 26]), ([25], [25]), ([27, 28, 25], [25, 27, 28]), ([25, 29], [25, 29]), ([30, 25, 0, 1, 2, 3, 4, 5, 6, 7, 8, 9, 10, 11, 12, 13, 14, 15, 16, 17, 18, 19, 20, 21, 22, 23, 24, 25, 26, 27, 28, 29, 30], [30])])
def interval_Valid.B4 : List Nat := [0, 1, 0, 4, 15, 31, 63, 127, 63, 319, 1023, 2047, 4095, 8191, 8191, 24575, 65535, 131071, 262143, 524287, 1048575, 524287, 2621439, 8388607, 16777215, 33554431, 67108863, 134217727, 67108863, 536870911, 1073741823, 2147483647]
/-! ### bits_From: function 48 -/
def bits_From.f (a0 : Int) (a1 : Int) : Option (Int) := (bits_Fit.f a0 (IntKind.u64.wrap (a1))).bind fun t144 => (some t144)
/-! ### interval_Tighten: function 23 -/
mutual
def interval_Tighten.j2 : Nat → Int → Int → Int → Option (Int × Int × Int × Int × Bool)
 | 0, _, _, _ => none
 | k + 1, x0, x1, x2 => if x1 > x2 then (some (0, 0, 0, 0, false)) else ((bits_Signed.f x0 x1).bind fun t152 => ((bits_Signed.f x0 x2).bind fun t153 => (some (x1, x2, t152, t153, true))))
def interval_Tighten.j0 : Nat → Int → Int → Int → Int → Bool → Int → Int → Int → Int → Option (Int × Int × Int × Int × Bool)
 | 0, _, _, _, _, _, _, _, _, _ => none
 | k + 1, x0, x1, x2, x3, x4, x5, x6, x7, x8 => if x4 = true then (if x8 < 0 then (some (0, 0, 0, 0, false)) else (interval_Tighten.j2 k x0 (mx x2 (IntKind.u64.wrap (mx x7 0))) (mn x3 (IntKind.u64.wrap (x8))))) else (if x5 > x1 then (interval_Tighten.j1 k x0 x1 x2 x3 true x5 x6 x7 x8) else (interval_Tighten.j1 k x0 x1 x2 x3 (decide (x8 < 0)) x5 x6 x7 x8))
def interval_Tighten.j1 : Nat → Int → Int → Int → Int → Bool → Int → Int → Int → Int → Option (Int × Int × Int × Int × Bool)
 | 0, _, _, _, _, _, _, _, _, _ => none
 | k + 1, x0, x1, x2, x3, x4, x5, x6, x7, x8 => if x4 = true then ((bits_From.f x0 x7).bind fun t150 => (if x8 < 0 then ((bits_From.f x0 x8).bind fun t151 => (interval_Tighten.j2 k x0 (mx (mx x2 t150) (IntKind.u64.wrap (x1 + 1))) (mn x3 t151))) else (interval_Tighten.j2 k x0 (mx (mx x2 t150) (IntKind.u64.wrap (x1 + 1))) x3))) else (some (x5, x6, x7, x8, true))
end
def interval_Tighten.f (k : Nat) (a0 : Int) (a1_0 : Int) (a1_1 : Int) (a1_2 : Int) (a1_3 : Int) : Option (Int × Int × Int × Int × Bool) := (interval_Valid.f a0 a1_0 a1_1 a1_2 a1_3).bind fun t147 => (if t147 = true then ((interval_ends.f a0).bind fun bt148 => (if a1_1 ≤ (IntKind.u64.wrap (bt148.2)) then (interval_Tighten.j0 k a0 (IntKind.u64.wrap (bt148.2)) a1_0 a1_1 true a1_0 a1_1 a1_2 a1_3) else (interval_Tighten.j0 k a0 (IntKind.u64.wrap (bt148.2)) a1_0 a1_1 (decide (a1_2 ≥ 0)) a1_0 a1_1 a1_2 a1_3))) else (some (0, 0, 0, 0, false)))
theorem interval_Tighten.mono_l : ∀ k, (∀ y0 y1 y2, LeO (interval_Tighten.j2 k y0 y1 y2) (interval_Tighten.j2 (k + 1) y0 y1 y2)) ∧ (∀ y0 y1 y2 y3 y4 y5 y6 y7 y8, LeO (interval_Tighten.j0 k y0 y1 y2 y3 y4 y5 y6 y7 y8) (interval_Tighten.j0 (k + 1) y0 y1 y2 y3 y4 y5 y6 y7 y8)) ∧ (∀ y0 y1 y2 y3 y4 y5 y6 y7 y8, LeO (interval_Tighten.j1 k y0 y1 y2 y3 y4 y5 y6 y7 y8) (interval_Tighten.j1 (k + 1) y0 y1 y2 y3 y4 y5 y6 y7 y8))
 | 0 => ⟨fun _ _ _ r h => by simp [interval_Tighten.j2] at h, fun _ _ _ _ _ _ _ _ _ r h => by simp [interval_Tighten.j0] at h, fun _ _ _ _ _ _ _ _ _ r h => by simp [interval_Tighten.j1] at h⟩
 | k + 1 => by
  obtain ⟨ih0, ih1, ih2⟩ := interval_Tighten.mono_l k
  refine ⟨?_, ?_, ?_⟩
  all_goals
   intros
   first | unfold interval_Tighten.j2 | unfold interval_Tighten.j0 | unfold interval_Tighten.j1
   repeat' first
   | (with_reducible first | apply ih0 | apply ih1 | apply ih2 | exact LeO.refl _ | exact LeO.none _ | refine LeO.ite ?_ ?_ | refine LeO.bind ?_ (fun _ => ?_))
   | (first | apply ih0 | apply ih1 | apply ih2 | exact LeO.none _ | refine LeO.ite ?_ ?_ | refine LeO.bind ?_ (fun _ => ?_))
theorem interval_Tighten.mono : ∀ a0 a1 a2 a3 a4 k, LeO (interval_Tighten.f k a0 a1 a2 a3 a4) (interval_Tighten.f (k + 1) a0 a1 a2 a3 a4) := by
 intro a0 a1 a2 a3 a4 k
 obtain ⟨ih0, ih1, ih2⟩ := interval_Tighten.mono_l k
 unfold interval_Tighten.f
 repeat' first
   | (with_reducible first | apply ih0 | apply ih1 | apply ih2 | exact LeO.refl _ | exact LeO.none _ | refine LeO.ite ?_ ?_ | refine LeO.bind ?_ (fun _ => ?_))
   | (first | apply ih0 | apply ih1 | apply ih2 | exact LeO.none _ | refine LeO.ite ?_ ?_ | refine LeO.bind ?_ (fun _ => ?_))
/-! ### bits_Extend: function 49 -/
def bits_Extend.f (a0 : Int) (a1 : Int) (a2 : Int) (a3 : Bool) : Option (Int) := if a3 = true then ((bits_Signed.f a0 a2).bind fun t154 => ((bits_From.f a1 t154).bind fun t155 => (some t155))) else ((bits_Fit.f a0 a2).bind fun t156 => ((bits_Fit.f a1 t156).bind fun t157 => (some t157)))
/-! ### bits_signed: function 87 -/
def bits_signed.f (a0 : Int) (a1 : Int) (a2 : Int) : Option (Int × Int) := (bits_Signed.f a0 a1).bind fun t158 => ((bits_Signed.f a0 a2).bind fun t159 => (if t159 = 0 then ((bits_Mask.f a0).bind fun t160 => (some (t160, a1))) else (if t159 = (-1) then ((bits_Fit.f a0 (IntKind.u64.wrap (-a1))).bind fun t161 => (some (t161, 0))) else ((bits_From.f a0 (wrap64 (Int.tdiv t158 t159))).bind fun t162 => ((bits_From.f a0 (Int.tmod t158 t159)).bind fun t163 => (some (t162, t163)))))))
def bits_signed.T7 : Bool × List (List Nat × List Nat) := (true, [([], []), ([], []), ([], []), ([1, 2], [1, 2]), ([0, 3], [0, 3]), ([], []), ([], []), ([], []), ([6, 7], [6, 7]), ([5, 8, 4], [5, 8]), ([4, 9, 0, 1, 2, 3, 4], [4]), ([9, 10, 0, 1, 2, 3, 4, 5, 6, 7, 8, 9, 10], [9])])
def bits_signed.B7 : List Nat := [0, 0, 0, 6, 15, 0, 0, 0, 192, 511, 1023, 2047]
/-! ### bits_divide: function 74 -/
def bits_divide.f (a0 : Int) (a1 : Int) (a2 : Int) (a3 : Int) : Option (Int) := if a0 = 5 then (if a3 = 0 then ((bits_Mask.f a1).bind fun t164 => (some t164)) else (some (IntKind.u64.wrap (Int.tdiv a2 a3)))) else (if a0 = 6 then (if a3 = 0 then (some a2) else (some (Int.tmod a2 a3))) else ((bits_signed.f a1 a2 a3).bind fun bt165 => (if a0 = 7 then (some bt165.1) else (some bt165.2))))
/-! ### bits_shift: function 75 -/
def bits_shift.f (a0 : Int) (a1 : Int) (a2 : Int) (a3 : Int) : Option (Int) := if a3 ≥ (IntKind.u64.wrap (a1)) then (if a0 = 14 then ((bits_negative.f a1 a2).bind fun t167 => (if t167 = true then ((bits_Mask.f a1).bind fun t168 => (some t168)) else (some 0))) else (some 0)) else (if a0 = 12 then (if 0 ≤ a3 then ((bits_Fit.f a1 (shl .u64 a2 a3)).bind fun t169 => (some t169)) else (none)) else (if a0 = 13 then (if 0 ≤ a3 then (some (shr .u64 a2 a3)) else (none)) else ((bits_Signed.f a1 a2).bind fun t170 => (if 0 ≤ a3 then ((bits_From.f a1 (shr .i64 t170 a3)).bind fun t171 => (some t171)) else (none)))))
/-! ### bits_one: function 88 -/
def bits_one.f (a0 : Bool) : Option (Int) := if a0 = true then (some 1) else (some 0)
/-! ### bits_compare: function 76 -/
def bits_compare.f (a0 : Int) (a1 : Int) (a2 : Int) (a3 : Int) : Option (Int) := if a0 = 15 then ((bits_one.f (a2 == a3)).bind fun t172 => (some t172)) else (if a0 = 16 then ((bits_one.f (a2 != a3)).bind fun t173 => (some t173)) else (if a0 = 17 then ((bits_one.f (decide (a2 < a3))).bind fun t174 => (some t174)) else (if a0 = 18 then ((bits_one.f (decide (a2 ≤ a3))).bind fun t175 => (some t175)) else (if a0 = 19 then ((bits_Signed.f a1 a2).bind fun t176 => ((bits_Signed.f a1 a3).bind fun t177 => ((bits_one.f (decide (t176 < t177))).bind fun t178 => (some t178)))) else ((bits_Signed.f a1 a2).bind fun t179 => ((bits_Signed.f a1 a3).bind fun t180 => ((bits_one.f (decide (t179 ≤ t180))).bind fun t181 => (some t181))))))))
/-! ### bits_Binary: function 50 -/
mutual
def bits_Binary.j0 : Nat → Int → Int → Int → Int → Bool → Option (Int × Int)
 | 0, _, _, _, _, _ => none
 | k + 1, x0, x1, x2, x3, x4 => if x4 = true then (some (0, 1)) else ((bits_Fit.f x1 x2).bind fun t183 => ((bits_Fit.f x1 x3).bind fun t184 => (if x0 = 2 then ((bits_Fit.f x1 (IntKind.u64.wrap (t183 + t184))).bind fun t185 => (some (t185, 0))) else (if x0 = 3 then ((bits_Fit.f x1 (IntKind.u64.wrap (t183 - t184))).bind fun t186 => (some (t186, 0))) else (if x0 = 4 then ((bits_Fit.f x1 (IntKind.u64.wrap (t183 * t184))).bind fun t187 => (some (t187, 0))) else (if x0 = 5 then (bits_Binary.j1 k x0 x1 t183 t184 x0 (x0 == 5)) else (if x0 = 6 then (bits_Binary.j1 k x0 x1 t183 t184 x0 (x0 == 6)) else (if x0 = 7 then (bits_Binary.j1 k x0 x1 t183 t184 x0 (x0 == 7)) else (bits_Binary.j1 k x0 x1 t183 t184 x0 (x0 == 8))))))))))
def bits_Binary.j1 : Nat → Int → Int → Int → Int → Int → Bool → Option (Int × Int)
 | 0, _, _, _, _, _, _ => none
 | k + 1, x0, x1, x2, x3, x4, x5 => if x5 = true then ((bits_divide.f x0 x1 x2 x3).bind fun t188 => (some (t188, 0))) else (if x4 = 9 then (some (Go.bits .and .u64 x2 x3, 0)) else (if x4 = 10 then (some (Go.bits .or .u64 x2 x3, 0)) else (if x4 = 11 then (some (Go.bits .xor .u64 x2 x3, 0)) else (if x4 = 12 then (bits_Binary.j2 k x0 x1 x2 x3 (x4 == 12)) else (if x4 = 13 then (bits_Binary.j2 k x0 x1 x2 x3 (x4 == 13)) else (bits_Binary.j2 k x0 x1 x2 x3 (x4 == 14)))))))
def bits_Binary.j2 : Nat → Int → Int → Int → Int → Bool → Option (Int × Int)
 | 0, _, _, _, _, _ => none
 | k + 1, x0, x1, x2, x3, x4 => if x4 = true then ((bits_shift.f x0 x1 x2 x3).bind fun t189 => (some (t189, 0))) else ((bits_compare.f x0 x1 x2 x3).bind fun t190 => (some (t190, 0)))
end
def bits_Binary.f (k : Nat) (a0 : Int) (a1 : Int) (a2 : Int) (a3 : Int) : Option (Int × Int) := (bits_IsBinary.f a0).bind fun t182 => (if t182 = true then (if a1 < 1 then (bits_Binary.j0 k a0 a1 a2 a3 true) else (bits_Binary.j0 k a0 a1 a2 a3 (decide (a1 > 64)))) else (bits_Binary.j0 k a0 a1 a2 a3 true))
theorem bits_Binary.mono_l : ∀ k, (∀ y0 y1 y2 y3 y4, LeO (bits_Binary.j0 k y0 y1 y2 y3 y4) (bits_Binary.j0 (k + 1) y0 y1 y2 y3 y4)) ∧ (∀ y0 y1 y2 y3 y4 y5, LeO (bits_Binary.j1 k y0 y1 y2 y3 y4 y5) (bits_Binary.j1 (k + 1) y0 y1 y2 y3 y4 y5)) ∧ (∀ y0 y1 y2 y3 y4, LeO (bits_Binary.j2 k y0 y1 y2 y3 y4) (bits_Binary.j2 (k + 1) y0 y1 y2 y3 y4))
 | 0 => ⟨fun _ _ _ _ _ r h => by simp [bits_Binary.j0] at h, fun _ _ _ _ _ _ r h => by simp [bits_Binary.j1] at h, fun _ _ _ _ _ r h => by simp [bits_Binary.j2] at h⟩
 | k + 1 => by
  obtain ⟨ih0, ih1, ih2⟩ := bits_Binary.mono_l k
  refine ⟨?_, ?_, ?_⟩
  all_goals
   intros
   first | unfold bits_Binary.j0 | unfold bits_Binary.j1 | unfold bits_Binary.j2
   repeat' first
   | (with_reducible first | apply ih0 | apply ih1 | apply ih2 | exact LeO.refl _ | exact LeO.none _ | refine LeO.ite ?_ ?_ | refine LeO.bind ?_ (fun _ => ?_))
   | (first | apply ih0 | apply ih1 | apply ih2 | exact LeO.none _ | refine LeO.ite ?_ ?_ | refine LeO.bind ?_ (fun _ => ?_))
theorem bits_Binary.mono : ∀ a0 a1 a2 a3 k, LeO (bits_Binary.f k a0 a1 a2 a3) (bits_Binary.f (k + 1) a0 a1 a2 a3) := by
 intro a0 a1 a2 a3 k
 obtain ⟨ih0, ih1, ih2⟩ := bits_Binary.mono_l k
 unfold bits_Binary.f
 repeat' first
   | (with_reducible first | apply ih0 | apply ih1 | apply ih2 | exact LeO.refl _ | exact LeO.none _ | refine LeO.ite ?_ ?_ | refine LeO.bind ?_ (fun _ => ?_))
   | (first | apply ih0 | apply ih1 | apply ih2 | exact LeO.none _ | refine LeO.ite ?_ ?_ | refine LeO.bind ?_ (fun _ => ?_))
/-! ### interval_value: function 24 -/
def interval_value.j0 : Nat → Int → Int → List Int → List (S30) → Int → Int → Bool → Option (Int)
 | 0, _, _, _, _, _, _, _ => none
 | k + 1, x0, x1, x2, x3, x4, x5, x6 => if x6 = true then (some x4) else (if x5 = 23 then (if 0 < (x2.length : Int) then ((bits_Extend.f (rd x2 0) x1 x4 true).bind fun t194 => (some t194)) else (none)) else (if 0 < (x2.length : Int) then (if 1 < (x3.length : Int) then ((bits_Binary.f k x0 (rd x2 0) x4 ((rd_T30 x3 1).f0)).bind fun bt197 => (some bt197.1)) else (none)) else (none)))
def interval_value.f (k : Nat) (a0 : Int) (a1 : Int) (l2 : List Int) (l3 : List (S30)) : Option (Int) := if 0 < (l3.length : Int) then (if a0 = 21 then (if 0 ≤ (IntKind.u64.wrap (2 - ((rd_T30 l3 0).f0))) then (if (IntKind.u64.wrap (2 - ((rd_T30 l3 0).f0))) < (l3.length : Int) then (some ((rd_T30 l3 (IntKind.u64.wrap (2 - ((rd_T30 l3 0).f0)))).f0)) else (none)) else (none)) else (if a0 = 22 then (interval_value.j0 k a0 a1 l2 l3 ((rd_T30 l3 0).f0) a0 (a0 == 22)) else (interval_value.j0 k a0 a1 l2 l3 ((rd_T30 l3 0).f0) a0 (a0 == 24)))) else (none)
theorem interval_value.mono_l : ∀ k, (∀ y0 y1 y2 y3 y4 y5 y6, LeO (interval_value.j0 k y0 y1 y2 y3 y4 y5 y6) (interval_value.j0 (k + 1) y0 y1 y2 y3 y4 y5 y6))
 | 0 => fun _ _ _ _ _ _ _ r h => by simp [interval_value.j0] at h
 | k + 1 => by
  have ih0 := interval_value.mono_l k
  ·
   intro y0 y1 y2 y3 y4 y5 y6
   unfold interval_value.j0
   repeat' first
   | (with_reducible first | apply ih0 | apply bits_Binary.mono | exact LeO.refl _ | exact LeO.none _ | refine LeO.ite ?_ ?_ | refine LeO.bind ?_ (fun _ => ?_))
   | (first | apply ih0 | apply bits_Binary.mono | exact LeO.none _ | refine LeO.ite ?_ ?_ | refine LeO.bind ?_ (fun _ => ?_))
theorem interval_value.mono : ∀ a0 a1 a2 a3 k, LeO (interval_value.f k a0 a1 a2 a3) (interval_value.f (k + 1) a0 a1 a2 a3) := by
 intro a0 a1 a2 a3 k
 have ih0 := interval_value.mono_l k
 unfold interval_value.f
 repeat' first
   | (with_reducible first | apply ih0 | apply bits_Binary.mono | exact LeO.refl _ | exact LeO.none _ | refine LeO.ite ?_ ?_ | refine LeO.bind ?_ (fun _ => ?_))
   | (first | apply ih0 | apply bits_Binary.mono | exact LeO.none _ | refine LeO.ite ?_ ?_ | refine LeO.bind ?_ (fun _ => ?_))
def interval_value.T10 : Bool × List (List Nat × List Nat) := (true, [([], []), ([], []), ([1], [1]), ([2], [2]), ([], []), ([], []), ([5], [5]), ([6], [6]), ([7], [7]), ([0, 3, 4, 8], [0, 3, 4, 8]), ([9], [9]), ([10], [10]), ([10], [10]), ([11, 9, 0, 1, 2, 3, 4, 5, 6, 7, 8, 9, 10, 11], [11]), ([12, 13, 0, 1, 2, 3, 4, 5, 6, 7, 8, 9, 10, 11, 12, 13], [12])])
def interval_value.B10 : List Nat := [0, 0, 2, 6, 0, 0, 32, 96, 224, 511, 1023, 2047, 2047, 4095, 16383]
def IsS57 (w0 W : World) (g : Nat) (f0 : Int) (f1 : Int) (f2 : Int) (f3 : Int) (f4 : Int) (f5 : Int) (f6 : Int) (f7 : Int) : Prop := W.heap[g]? = some (.cells #[.int .i64 f0, .int .u64 f1, .int .i64 f2, .int .i64 f3, .int .u64 f4, .int .u64 f5, .int .i64 f6, .int .i64 f7] 57 (0, 0)) ∧ w0.heap.size ≤ g
/-! ### interval_computer_u: function 56 -/
def interval_computer_u.f (s0_0 : Int) (s0_1 : Int) (s0_2 : Int) (s0_3 : Int) (s0_4 : Int) (s0_5 : Int) (s0_6 : Int) (s0_7 : Int) (a1 : Int) (a2 : Int) : Option (Int × Int × Int × Int × Int × Int × Int × Int) := some (s0_0, s0_1, s0_2, s0_3, a1, a2, s0_6, s0_7)
/-! ### bits_Add64: function 77 -/
def bits_Add64.f (a0 a1 a2 : Int) : Option (Int × Int) := if a2 = 0 then some (addlo a0 a1, addhi a0 a1) else none
/-! ### interval_computer_within: function 84 -/
def interval_computer_within.f (s0_0 : Int) (s0_1 : Int) (s0_2 : Int) (s0_3 : Int) (s0_4 : Int) (s0_5 : Int) (s0_6 : Int) (s0_7 : Int) (a1 : Int) : Option (Bool) := if a1 ≥ s0_2 then (some (decide (a1 ≤ s0_3))) else (some false)
/-! ### interval_computer_sum: function 78 -/
def interval_computer_sum.f (s0_0 : Int) (s0_1 : Int) (s0_2 : Int) (s0_3 : Int) (s0_4 : Int) (s0_5 : Int) (s0_6 : Int) (s0_7 : Int) (a1 : Int) (a2 : Int) : Option (Int × Bool) := if ((decide ((wrap64 (a1 + a2)) > a1)) == (decide (a2 > 0))) = true then ((interval_computer_within.f s0_0 s0_1 s0_2 s0_3 s0_4 s0_5 s0_6 s0_7 (wrap64 (a1 + a2))).bind fun t199 => (some (wrap64 (a1 + a2), t199))) else (some (wrap64 (a1 + a2), false))
/-! ### interval_computer_s: function 79 -/
def interval_computer_s.f (s0_0 : Int) (s0_1 : Int) (s0_2 : Int) (s0_3 : Int) (s0_4 : Int) (s0_5 : Int) (s0_6 : Int) (s0_7 : Int) (a1 : Int) (a2 : Int) : Option (Int × Int × Int × Int × Int × Int × Int × Int) := some (s0_0, s0_1, s0_2, s0_3, s0_4, s0_5, a1, a2)
/-! ### interval_computer_add: function 52 -/
mutual
def interval_computer_add.j1 : Nat → Int → Int → Int → Int → Int → Int → Int → Int → Int → Int → Int → Int → Int → Int → Int → Int → Option (Int × Int × Int × Int × Int × Int × Int × Int)
 | 0, _, _, _, _, _, _, _, _, _, _, _, _, _, _, _, _ => none
 | k + 1, x0, x1, x2, x3, x4, x5, x6, x7, x8, x9, x10, x11, x12, x13, x14, x15 => (interval_computer_sum.f x0 x1 x2 x3 x4 x5 x6 x7 x10 x14).bind fun bt230 => ((interval_computer_sum.f x0 x1 x2 x3 x4 x5 x6 x7 x11 x15).bind fun bt232 => (if bt230.2 = true then (if bt232.2 = true then ((interval_computer_s.f x0 x1 x2 x3 x4 x5 x6 x7 bt230.1 bt232.1).bind fun bt234 => (some (bt234.1, bt234.2.1, bt234.2.2.1, bt234.2.2.2.1, bt234.2.2.2.2.1, bt234.2.2.2.2.2.1, bt234.2.2.2.2.2.2.1, bt234.2.2.2.2.2.2.2))) else (some (x0, x1, x2, x3, x4, x5, x6, x7))) else (some (x0, x1, x2, x3, x4, x5, x6, x7))))
def interval_computer_add.j0 : Nat → Int → Int → Int → Bool → Int → Int → Int → Int → Int → Int → Int → Int → Int → Int → Int → Int → Int → Int → Int → Int → Option (Int × Int × Int × Int × Int × Int × Int × Int)
 | 0, _, _, _, _, _, _, _, _, _, _, _, _, _, _, _, _, _, _, _, _ => none
 | k + 1, x0, x1, x2, x3, x4, x5, x6, x7, x8, x9, x10, x11, x12, x13, x14, x15, x16, x17, x18, x19 => if x3 = true then ((interval_computer_u.f x4 x5 x6 x7 x8 x9 x10 x11 x0 x2).bind fun bt206 => (interval_computer_add.j1 k bt206.1 bt206.2.1 bt206.2.2.1 bt206.2.2.2.1 bt206.2.2.2.2.1 bt206.2.2.2.2.2.1 bt206.2.2.2.2.2.2.1 bt206.2.2.2.2.2.2.2 x12 x13 x14 x15 x16 x17 x18 x19)) else (if x1 = 1 then ((interval_computer_u.f x4 x5 x6 x7 x8 x9 x10 x11 (Go.bits .and .u64 x0 x5) (Go.bits .and .u64 x2 x5)).bind fun bt214 => (interval_computer_add.j1 k bt214.1 bt214.2.1 bt214.2.2.1 bt214.2.2.2.1 bt214.2.2.2.2.1 bt214.2.2.2.2.2.1 bt214.2.2.2.2.2.2.1 bt214.2.2.2.2.2.2.2 x12 x13 x14 x15 x16 x17 x18 x19)) else (if x0 > x5 then ((interval_computer_u.f x4 x5 x6 x7 x8 x9 x10 x11 (Go.bits .and .u64 x0 x5) (Go.bits .and .u64 x2 x5)).bind fun bt222 => (interval_computer_add.j1 k bt222.1 bt222.2.1 bt222.2.2.1 bt222.2.2.2.1 bt222.2.2.2.2.1 bt222.2.2.2.2.2.1 bt222.2.2.2.2.2.2.1 bt222.2.2.2.2.2.2.2 x12 x13 x14 x15 x16 x17 x18 x19)) else (interval_computer_add.j1 k x4 x5 x6 x7 x8 x9 x10 x11 x12 x13 x14 x15 x16 x17 x18 x19)))
end
def interval_computer_add.f (k : Nat) (s0_0 : Int) (s0_1 : Int) (s0_2 : Int) (s0_3 : Int) (s0_4 : Int) (s0_5 : Int) (s0_6 : Int) (s0_7 : Int) (a1_0 : Int) (a1_1 : Int) (a1_2 : Int) (a1_3 : Int) (a2_0 : Int) (a2_1 : Int) (a2_2 : Int) (a2_3 : Int) : Option (Int × Int × Int × Int × Int × Int × Int × Int) := (bits_Add64.f a1_0 a2_0 0).bind fun bt202 => ((bits_Add64.f a1_1 a2_1 0).bind fun bt204 => (if bt204.2 = 0 then (interval_computer_add.j0 k bt202.1 bt202.2 bt204.1 (decide (bt204.1 ≤ s0_1)) s0_0 s0_1 s0_2 s0_3 s0_4 s0_5 s0_6 s0_7 a1_0 a1_1 a1_2 a1_3 a2_0 a2_1 a2_2 a2_3) else (interval_computer_add.j0 k bt202.1 bt202.2 bt204.1 false s0_0 s0_1 s0_2 s0_3 s0_4 s0_5 s0_6 s0_7 a1_0 a1_1 a1_2 a1_3 a2_0 a2_1 a2_2 a2_3)))
theorem interval_computer_add.mono_l : ∀ k, (∀ y0 y1 y2 y3 y4 y5 y6 y7 y8 y9 y10 y11 y12 y13 y14 y15, LeO (interval_computer_add.j1 k y0 y1 y2 y3 y4 y5 y6 y7 y8 y9 y10 y11 y12 y13 y14 y15) (interval_computer_add.j1 (k + 1) y0 y1 y2 y3 y4 y5 y6 y7 y8 y9 y10 y11 y12 y13 y14 y15)) ∧ (∀ y0 y1 y2 y3 y4 y5 y6 y7 y8 y9 y10 y11 y12 y13 y14 y15 y16 y17 y18 y19, LeO (interval_computer_add.j0 k y0 y1 y2 y3 y4 y5 y6 y7 y8 y9 y10 y11 y12 y13 y14 y15 y16 y17 y18 y19) (interval_computer_add.j0 (k + 1) y0 y1 y2 y3 y4 y5 y6 y7 y8 y9 y10 y11 y12 y13 y14 y15 y16 y17 y18 y19))
 | 0 => ⟨fun _ _ _ _ _ _ _ _ _ _ _ _ _ _ _ _ r h => by simp [interval_computer_add.j1] at h, fun _ _ _ _ _ _ _ _ _ _ _ _ _ _ _ _ _ _ _ _ r h => by simp [interval_computer_add.j0] at h⟩
 | k + 1 => by
  obtain ⟨ih0, ih1⟩ := interval_computer_add.mono_l k
  refine ⟨?_, ?_⟩
  all_goals
   intros
   first | unfold interval_computer_add.j1 | unfold interval_computer_add.j0
   repeat' first
   | (with_reducible first | apply ih0 | apply ih1 | exact LeO.refl _ | exact LeO.none _ | refine LeO.ite ?_ ?_ | refine LeO.bind ?_ (fun _ => ?_))
   | (first | apply ih0 | apply ih1 | exact LeO.none _ | refine LeO.ite ?_ ?_ | refine LeO.bind ?_ (fun _ => ?_))
theorem interval_computer_add.mono : ∀ a0 a1 a2 a3 a4 a5 a6 a7 a8 a9 a10 a11 a12 a13 a14 a15 k, LeO (interval_computer_add.f k a0 a1 a2 a3 a4 a5 a6 a7 a8 a9 a10 a11 a12 a13 a14 a15) (interval_computer_add.f (k + 1) a0 a1 a2 a3 a4 a5 a6 a7 a8 a9 a10 a11 a12 a13 a14 a15) := by
 intro a0 a1 a2 a3 a4 a5 a6 a7 a8 a9 a10 a11 a12 a13 a14 a15 k
 obtain ⟨ih0, ih1⟩ := interval_computer_add.mono_l k
 unfold interval_computer_add.f
 repeat' first
   | (with_reducible first | apply ih0 | apply ih1 | exact LeO.refl _ | exact LeO.none _ | refine LeO.ite ?_ ?_ | refine LeO.bind ?_ (fun _ => ?_))
   | (first | apply ih0 | apply ih1 | exact LeO.none _ | refine LeO.ite ?_ ?_ | refine LeO.bind ?_ (fun _ => ?_))
def interval_computer_add.T6 : Bool × List (List Nat × List Nat) := (true, [([], []), ([], []), ([], []), ([2], [2]), ([3], [3]), ([4], [4]), ([1, 5], [1, 5]), ([], []), ([], []), ([8], [8]), ([9], [9]), ([10], [10]), ([7, 11], [7, 11]), ([0, 6, 12], [0, 6, 12])])
def interval_computer_add.B6 : List Nat := [0, 0, 0, 4, 12, 28, 62, 0, 0, 256, 768, 1792, 3968, 8191]
/-! ### interval_computer_less: function 80 -/
def interval_computer_less.f (s0_0 : Int) (s0_1 : Int) (s0_2 : Int) (s0_3 : Int) (s0_4 : Int) (s0_5 : Int) (s0_6 : Int) (s0_7 : Int) (a1 : Int) (a2 : Int) : Option (Int × Bool) := if ((decide ((wrap64 (a1 - a2)) < a1)) == (decide (a2 > 0))) = true then ((interval_computer_within.f s0_0 s0_1 s0_2 s0_3 s0_4 s0_5 s0_6 s0_7 (wrap64 (a1 - a2))).bind fun t242 => (some (wrap64 (a1 - a2), t242))) else (some (wrap64 (a1 - a2), false))
/-! ### interval_computer_sub: function 53 -/
mutual
def interval_computer_sub.j0 : Nat → Bool → Int → Int → Int → Int → Int → Int → Int → Int → Int → Int → Int → Int → Int → Int → Int → Int → Option (Int × Int × Int × Int × Int × Int × Int × Int)
 | 0, _, _, _, _, _, _, _, _, _, _, _, _, _, _, _, _, _ => none
 | k + 1, x0, x1, x2, x3, x4, x5, x6, x7, x8, x9, x10, x11, x12, x13, x14, x15, x16 => if x0 = true then ((interval_computer_u.f x1 x2 x3 x4 x5 x6 x7 x8 (Go.bits .and .u64 (IntKind.u64.wrap (x9 - x14)) x2) (Go.bits .and .u64 (IntKind.u64.wrap (x10 - x13)) x2)).bind fun bt245 => (interval_computer_sub.j1 k bt245.1 bt245.2.1 bt245.2.2.1 bt245.2.2.2.1 bt245.2.2.2.2.1 bt245.2.2.2.2.2.1 bt245.2.2.2.2.2.2.1 bt245.2.2.2.2.2.2.2 x9 x10 x11 x12 x13 x14 x15 x16)) else (interval_computer_sub.j1 k x1 x2 x3 x4 x5 x6 x7 x8 x9 x10 x11 x12 x13 x14 x15 x16)
def interval_computer_sub.j1 : Nat → Int → Int → Int → Int → Int → Int → Int → Int → Int → Int → Int → Int → Int → Int → Int → Int → Option (Int × Int × Int × Int × Int × Int × Int × Int)
 | 0, _, _, _, _, _, _, _, _, _, _, _, _, _, _, _, _ => none
 | k + 1, x0, x1, x2, x3, x4, x5, x6, x7, x8, x9, x10, x11, x12, x13, x14, x15 => (interval_computer_less.f x0 x1 x2 x3 x4 x5 x6 x7 x10 x15).bind fun bt253 => ((interval_computer_less.f x0 x1 x2 x3 x4 x5 x6 x7 x11 x14).bind fun bt255 => (if bt253.2 = true then (if bt255.2 = true then ((interval_computer_s.f x0 x1 x2 x3 x4 x5 x6 x7 bt253.1 bt255.1).bind fun bt257 => (some (bt257.1, bt257.2.1, bt257.2.2.1, bt257.2.2.2.1, bt257.2.2.2.2.1, bt257.2.2.2.2.2.1, bt257.2.2.2.2.2.2.1, bt257.2.2.2.2.2.2.2))) else (some (x0, x1, x2, x3, x4, x5, x6, x7))) else (some (x0, x1, x2, x3, x4, x5, x6, x7))))
end
def interval_computer_sub.f (k : Nat) (s0_0 : Int) (s0_1 : Int) (s0_2 : Int) (s0_3 : Int) (s0_4 : Int) (s0_5 : Int) (s0_6 : Int) (s0_7 : Int) (a1_0 : Int) (a1_1 : Int) (a1_2 : Int) (a1_3 : Int) (a2_0 : Int) (a2_1 : Int) (a2_2 : Int) (a2_3 : Int) : Option (Int × Int × Int × Int × Int × Int × Int × Int) := if a1_0 ≥ a2_1 then (interval_computer_sub.j0 k true s0_0 s0_1 s0_2 s0_3 s0_4 s0_5 s0_6 s0_7 a1_0 a1_1 a1_2 a1_3 a2_0 a2_1 a2_2 a2_3) else (interval_computer_sub.j0 k (decide (a1_1 < a2_0)) s0_0 s0_1 s0_2 s0_3 s0_4 s0_5 s0_6 s0_7 a1_0 a1_1 a1_2 a1_3 a2_0 a2_1 a2_2 a2_3)
theorem interval_computer_sub.mono_l : ∀ k, (∀ y0 y1 y2 y3 y4 y5 y6 y7 y8 y9 y10 y11 y12 y13 y14 y15 y16, LeO (interval_computer_sub.j0 k y0 y1 y2 y3 y4 y5 y6 y7 y8 y9 y10 y11 y12 y13 y14 y15 y16) (interval_computer_sub.j0 (k + 1) y0 y1 y2 y3 y4 y5 y6 y7 y8 y9 y10 y11 y12 y13 y14 y15 y16)) ∧ (∀ y0 y1 y2 y3 y4 y5 y6 y7 y8 y9 y10 y11 y12 y13 y14 y15, LeO (interval_computer_sub.j1 k y0 y1 y2 y3 y4 y5 y6 y7 y8 y9 y10 y11 y12 y13 y14 y15) (interval_computer_sub.j1 (k + 1) y0 y1 y2 y3 y4 y5 y6 y7 y8 y9 y10 y11 y12 y13 y14 y15))
 | 0 => ⟨fun _ _ _ _ _ _ _ _ _ _ _ _ _ _ _ _ _ r h => by simp [interval_computer_sub.j0] at h, fun _ _ _ _ _ _ _ _ _ _ _ _ _ _ _ _ r h => by simp [interval_computer_sub.j1] at h⟩
 | k + 1 => by
  obtain ⟨ih0, ih1⟩ := interval_computer_sub.mono_l k
  refine ⟨?_, ?_⟩
  all_goals
   intros
   first | unfold interval_computer_sub.j0 | unfold interval_computer_sub.j1
   repeat' first
   | (with_reducible first | apply ih0 | apply ih1 | exact LeO.refl _ | exact LeO.none _ | refine LeO.ite ?_ ?_ | refine LeO.bind ?_ (fun _ => ?_))
   | (first | apply ih0 | apply ih1 | exact LeO.none _ | refine LeO.ite ?_ ?_ | refine LeO.bind ?_ (fun _ => ?_))
theorem interval_computer_sub.mono : ∀ a0 a1 a2 a3 a4 a5 a6 a7 a8 a9 a10 a11 a12 a13 a14 a15 k, LeO (interval_computer_sub.f k a0 a1 a2 a3 a4 a5 a6 a7 a8 a9 a10 a11 a12 a13 a14 a15) (interval_computer_sub.f (k + 1) a0 a1 a2 a3 a4 a5 a6 a7 a8 a9 a10 a11 a12 a13 a14 a15) := by
 intro a0 a1 a2 a3 a4 a5 a6 a7 a8 a9 a10 a11 a12 a13 a14 a15 k
 obtain ⟨ih0, ih1⟩ := interval_computer_sub.mono_l k
 unfold interval_computer_sub.f
 repeat' first
   | (with_reducible first | apply ih0 | apply ih1 | exact LeO.refl _ | exact LeO.none _ | refine LeO.ite ?_ ?_ | refine LeO.bind ?_ (fun _ => ?_))
   | (first | apply ih0 | apply ih1 | exact LeO.none _ | refine LeO.ite ?_ ?_ | refine LeO.bind ?_ (fun _ => ?_))
def interval_computer_sub.T2 : Bool × List (List Nat × List Nat) := (true, [([], []), ([], []), ([1], [1]), ([], []), ([3], [3]), ([2, 4], [2, 4]), ([], []), ([6], [6]), ([7], [7]), ([8], [8]), ([5, 9], [5, 9]), ([], []), ([11], [11]), ([], []), ([13], [13]), ([12, 14], [12, 14]), ([], []), ([16], [16]), ([17], [17]), ([18], [18]), ([15, 19], [15, 19]), ([0, 10, 20], [0, 10, 20])])
def interval_computer_sub.B2 : List Nat := [0, 0, 2, 0, 8, 30, 0, 64, 192, 448, 1022, 0, 2048, 0, 8192, 30720, 0, 65536, 196608, 458752, 1046528, 2097151]
/-! ### bits_Mul64: function 81 -/
def bits_Mul64.f (a0 : Int) (a1 : Int) : Option (Int × Int) := some (IntKind.u64.wrap ((IntKind.u64.wrap ((IntKind.u64.wrap ((a0 / 4294967296) * (a1 / 4294967296))) + ((IntKind.u64.wrap ((IntKind.u64.wrap ((a0 / 4294967296) * (Go.bits .and .u64 a1 4294967295))) + ((IntKind.u64.wrap ((Go.bits .and .u64 a0 4294967295) * (Go.bits .and .u64 a1 4294967295))) / 4294967296))) / 4294967296))) + ((IntKind.u64.wrap ((Go.bits .and .u64 (IntKind.u64.wrap ((IntKind.u64.wrap ((a0 / 4294967296) * (Go.bits .and .u64 a1 4294967295))) + ((IntKind.u64.wrap ((Go.bits .and .u64 a0 4294967295) * (Go.bits .and .u64 a1 4294967295))) / 4294967296))) 4294967295) + (IntKind.u64.wrap ((Go.bits .and .u64 a0 4294967295) * (a1 / 4294967296))))) / 4294967296)), IntKind.u64.wrap (a0 * a1))
/-! ### interval_computer_times: function 82 -/
def interval_computer_times.f (s0_0 : Int) (s0_1 : Int) (s0_2 : Int) (s0_3 : Int) (s0_4 : Int) (s0_5 : Int) (s0_6 : Int) (s0_7 : Int) (a1 : Int) (a2 : Int) : Option (Int × Bool) := if a1 = 0 then ((interval_computer_within.f s0_0 s0_1 s0_2 s0_3 s0_4 s0_5 s0_6 s0_7 (wrap64 (a1 * a2))).bind fun t265 => (some (wrap64 (a1 * a2), t265))) else (if (wrap64 (Int.tdiv (wrap64 (a1 * a2)) a1)) = a2 then (if a1 = (-1) then (if (a2 = (-9223372036854775808)) then (some (wrap64 (a1 * a2), false)) else ((interval_computer_within.f s0_0 s0_1 s0_2 s0_3 s0_4 s0_5 s0_6 s0_7 (wrap64 (a1 * a2))).bind fun t266 => (some (wrap64 (a1 * a2), t266)))) else ((interval_computer_within.f s0_0 s0_1 s0_2 s0_3 s0_4 s0_5 s0_6 s0_7 (wrap64 (a1 * a2))).bind fun t267 => (some (wrap64 (a1 * a2), t267)))) else (some (wrap64 (a1 * a2), false)))
/-! ### interval_computer_corners: function 83 -/
def interval_computer_corners.l0 : Nat → Int → Int → List Int → Int → Int → Int → Int → Int → Int → Int → Int → Int → Int → Option (Int × Int × Int × Int × Int × Int × Int × Int)
 | 0, _, _, _, _, _, _, _, _, _, _, _, _, _ => none
 | k + 1, x0, x1, x2, x3, x4, x5, x6, x7, x8, x9, x10, x11, x12 => if x4 < x3 then (if 0 ≤ x4 then (if x4 < (x2.length : Int) then (interval_computer_corners.l0 k (mn x0 (rd x2 x4)) (mx x1 (rd x2 x4)) x2 x3 (wrap64 (x4 + 1)) x5 x6 x7 x8 x9 x10 x11 x12) else (none)) else (none)) else ((interval_computer_s.f x5 x6 x7 x8 x9 x10 x11 x12 x0 x1).bind fun bt269 => (some (bt269.1, bt269.2.1, bt269.2.2.1, bt269.2.2.2.1, bt269.2.2.2.2.1, bt269.2.2.2.2.2.1, bt269.2.2.2.2.2.2.1, bt269.2.2.2.2.2.2.2)))
def interval_computer_corners.f (k : Nat) (s0_0 : Int) (s0_1 : Int) (s0_2 : Int) (s0_3 : Int) (s0_4 : Int) (s0_5 : Int) (s0_6 : Int) (s0_7 : Int) (a1 : Int) (l2 : List Int) : Option (Int × Int × Int × Int × Int × Int × Int × Int) := interval_computer_corners.l0 k a1 a1 l2 (l2.length : Int) 0 s0_0 s0_1 s0_2 s0_3 s0_4 s0_5 s0_6 s0_7
theorem interval_computer_corners.mono_l : ∀ k, (∀ y0 y1 y2 y3 y4 y5 y6 y7 y8 y9 y10 y11 y12, LeO (interval_computer_corners.l0 k y0 y1 y2 y3 y4 y5 y6 y7 y8 y9 y10 y11 y12) (interval_computer_corners.l0 (k + 1) y0 y1 y2 y3 y4 y5 y6 y7 y8 y9 y10 y11 y12))
 | 0 => fun _ _ _ _ _ _ _ _ _ _ _ _ _ r h => by simp [interval_computer_corners.l0] at h
 | k + 1 => by
  have ih0 := interval_computer_corners.mono_l k
  ·
   intro y0 y1 y2 y3 y4 y5 y6 y7 y8 y9 y10 y11 y12
   unfold interval_computer_corners.l0
   repeat' first
   | (with_reducible first | apply ih0 | exact LeO.refl _ | exact LeO.none _ | refine LeO.ite ?_ ?_ | refine LeO.bind ?_ (fun _ => ?_))
   | (first | apply ih0 | exact LeO.none _ | refine LeO.ite ?_ ?_ | refine LeO.bind ?_ (fun _ => ?_))
theorem interval_computer_corners.mono : ∀ a0 a1 a2 a3 a4 a5 a6 a7 a8 a9 k, LeO (interval_computer_corners.f k a0 a1 a2 a3 a4 a5 a6 a7 a8 a9) (interval_computer_corners.f (k + 1) a0 a1 a2 a3 a4 a5 a6 a7 a8 a9) := by
 intro a0 a1 a2 a3 a4 a5 a6 a7 a8 a9 k
 have ih0 := interval_computer_corners.mono_l k
 unfold interval_computer_corners.f
 repeat' first
   | (with_reducible first | apply ih0 | exact LeO.refl _ | exact LeO.none _ | refine LeO.ite ?_ ?_ | refine LeO.bind ?_ (fun _ => ?_))
   | (first | apply ih0 | exact LeO.none _ | refine LeO.ite ?_ ?_ | refine LeO.bind ?_ (fun _ => ?_))
/-! ### interval_computer_mul: function 54 -/
mutual
def interval_computer_mul.j0 : Nat → Int → Bool → Int → Int → Int → Int → Int → Int → Int → Int → Int → Int → Int → Int → Int → Int → Int → Int → Option (Int × Int × Int × Int × Int × Int × Int × Int)
 | 0, _, _, _, _, _, _, _, _, _, _, _, _, _, _, _, _, _, _ => none
 | k + 1, x0, x1, x2, x3, x4, x5, x6, x7, x8, x9, x10, x11, x12, x13, x14, x15, x16, x17 => if x1 = true then ((interval_computer_u.f x2 x3 x4 x5 x6 x7 x8 x9 (IntKind.u64.wrap (x10 * x14)) x0).bind fun bt281 => (interval_computer_mul.j1 k bt281.1 bt281.2.1 bt281.2.2.1 bt281.2.2.2.1 bt281.2.2.2.2.1 bt281.2.2.2.2.2.1 bt281.2.2.2.2.2.2.1 bt281.2.2.2.2.2.2.2 x10 x11 x12 x13 x14 x15 x16 x17)) else (interval_computer_mul.j1 k x2 x3 x4 x5 x6 x7 x8 x9 x10 x11 x12 x13 x14 x15 x16 x17)
def interval_computer_mul.j1 : Nat → Int → Int → Int → Int → Int → Int → Int → Int → Int → Int → Int → Int → Int → Int → Int → Int → Option (Int × Int × Int × Int × Int × Int × Int × Int)
 | 0, _, _, _, _, _, _, _, _, _, _, _, _, _, _, _, _ => none
 | k + 1, x0, x1, x2, x3, x4, x5, x6, x7, x8, x9, x10, x11, x12, x13, x14, x15 => (interval_computer_times.f x0 x1 x2 x3 x4 x5 x6 x7 x10 x14).bind fun bt289 => ((interval_computer_times.f x0 x1 x2 x3 x4 x5 x6 x7 x10 x15).bind fun bt291 => ((interval_computer_times.f x0 x1 x2 x3 x4 x5 x6 x7 x11 x14).bind fun bt293 => ((interval_computer_times.f x0 x1 x2 x3 x4 x5 x6 x7 x11 x15).bind fun bt295 => (if bt289.2 = true then (if bt291.2 = true then (if bt293.2 = true then (if bt295.2 = true then ((interval_computer_corners.f k x0 x1 x2 x3 x4 x5 x6 x7 bt289.1 (([bt291.1, bt293.1, bt295.1] : List Int))).bind fun bt300 => (some (bt300.1, bt300.2.1, bt300.2.2.1, bt300.2.2.2.1, bt300.2.2.2.2.1, bt300.2.2.2.2.2.1, bt300.2.2.2.2.2.2.1, bt300.2.2.2.2.2.2.2))) else (some (x0, x1, x2, x3, x4, x5, x6, x7))) else (some (x0, x1, x2, x3, x4, x5, x6, x7))) else (some (x0, x1, x2, x3, x4, x5, x6, x7))) else (some (x0, x1, x2, x3, x4, x5, x6, x7))))))
end
def interval_computer_mul.f (k : Nat) (s0_0 : Int) (s0_1 : Int) (s0_2 : Int) (s0_3 : Int) (s0_4 : Int) (s0_5 : Int) (s0_6 : Int) (s0_7 : Int) (a1_0 : Int) (a1_1 : Int) (a1_2 : Int) (a1_3 : Int) (a2_0 : Int) (a2_1 : Int) (a2_2 : Int) (a2_3 : Int) : Option (Int × Int × Int × Int × Int × Int × Int × Int) := (bits_Mul64.f a1_1 a2_1).bind fun bt279 => (if bt279.1 = 0 then (interval_computer_mul.j0 k bt279.2 (decide (bt279.2 ≤ s0_1)) s0_0 s0_1 s0_2 s0_3 s0_4 s0_5 s0_6 s0_7 a1_0 a1_1 a1_2 a1_3 a2_0 a2_1 a2_2 a2_3) else (interval_computer_mul.j0 k bt279.2 false s0_0 s0_1 s0_2 s0_3 s0_4 s0_5 s0_6 s0_7 a1_0 a1_1 a1_2 a1_3 a2_0 a2_1 a2_2 a2_3))
theorem interval_computer_mul.mono_l : ∀ k, (∀ y0 y1 y2 y3 y4 y5 y6 y7 y8 y9 y10 y11 y12 y13 y14 y15 y16 y17, LeO (interval_computer_mul.j0 k y0 y1 y2 y3 y4 y5 y6 y7 y8 y9 y10 y11 y12 y13 y14 y15 y16 y17) (interval_computer_mul.j0 (k + 1) y0 y1 y2 y3 y4 y5 y6 y7 y8 y9 y10 y11 y12 y13 y14 y15 y16 y17)) ∧ (∀ y0 y1 y2 y3 y4 y5 y6 y7 y8 y9 y10 y11 y12 y13 y14 y15, LeO (interval_computer_mul.j1 k y0 y1 y2 y3 y4 y5 y6 y7 y8 y9 y10 y11 y12 y13 y14 y15) (interval_computer_mul.j1 (k + 1) y0 y1 y2 y3 y4 y5 y6 y7 y8 y9 y10 y11 y12 y13 y14 y15))
 | 0 => ⟨fun _ _ _ _ _ _ _ _ _ _ _ _ _ _ _ _ _ _ r h => by simp [interval_computer_mul.j0] at h, fun _ _ _ _ _ _ _ _ _ _ _ _ _ _ _ _ r h => by simp [interval_computer_mul.j1] at h⟩
 | k + 1 => by
  obtain ⟨ih0, ih1⟩ := interval_computer_mul.mono_l k
  refine ⟨?_, ?_⟩
  all_goals
   intros
   first | unfold interval_computer_mul.j0 | unfold interval_computer_mul.j1
   repeat' first
   | (with_reducible first | apply ih0 | apply ih1 | apply interval_computer_corners.mono | exact LeO.refl _ | exact LeO.none _ | refine LeO.ite ?_ ?_ | refine LeO.bind ?_ (fun _ => ?_))
   | (first | apply ih0 | apply ih1 | apply interval_computer_corners.mono | exact LeO.none _ | refine LeO.ite ?_ ?_ | refine LeO.bind ?_ (fun _ => ?_))
theorem interval_computer_mul.mono : ∀ a0 a1 a2 a3 a4 a5 a6 a7 a8 a9 a10 a11 a12 a13 a14 a15 k, LeO (interval_computer_mul.f k a0 a1 a2 a3 a4 a5 a6 a7 a8 a9 a10 a11 a12 a13 a14 a15) (interval_computer_mul.f (k + 1) a0 a1 a2 a3 a4 a5 a6 a7 a8 a9 a10 a11 a12 a13 a14 a15) := by
 intro a0 a1 a2 a3 a4 a5 a6 a7 a8 a9 a10 a11 a12 a13 a14 a15 k
 obtain ⟨ih0, ih1⟩ := interval_computer_mul.mono_l k
 unfold interval_computer_mul.f
 repeat' first
   | (with_reducible first | apply ih0 | apply ih1 | apply interval_computer_corners.mono | exact LeO.refl _ | exact LeO.none _ | refine LeO.ite ?_ ?_ | refine LeO.bind ?_ (fun _ => ?_))
   | (first | apply ih0 | apply ih1 | apply interval_computer_corners.mono | exact LeO.none _ | refine LeO.ite ?_ ?_ | refine LeO.bind ?_ (fun _ => ?_))
/-! ### interval_computer_divide: function 55 -/
mutual
def interval_computer_divide.j0 : Nat → Int → Bool → Int → Int → Int → Int → Int → Int → Int → Int → Int → Int → Int → Int → Int → Int → Int → Int → Option (Int × Int × Int × Int × Int × Int × Int × Int)
 | 0, _, _, _, _, _, _, _, _, _, _, _, _, _, _, _, _, _, _ => none
 | k + 1, x0, x1, x2, x3, x4, x5, x6, x7, x8, x9, x10, x11, x12, x13, x14, x15, x16, x17 => if x1 = true then (if x15 = 0 then (none) else (if x14 = 0 then (none) else ((interval_computer_u.f x2 x3 x4 x5 x6 x7 x8 x9 (IntKind.u64.wrap (Int.tdiv x10 x15)) (IntKind.u64.wrap (Int.tdiv x11 x14))).bind fun bt310 => (some (bt310.1, bt310.2.1, bt310.2.2.1, bt310.2.2.2.1, bt310.2.2.2.2.1, bt310.2.2.2.2.2.1, bt310.2.2.2.2.2.2.1, bt310.2.2.2.2.2.2.2))))) else (if x0 = 6 then (if x14 ≥ 1 then (interval_computer_divide.j1 k x0 (decide (x11 < x14)) x2 x3 x4 x5 x6 x7 x8 x9 x10 x11 x12 x13 x14 x15 x16 x17) else (interval_computer_divide.j1 k x0 false x2 x3 x4 x5 x6 x7 x8 x9 x10 x11 x12 x13 x14 x15 x16 x17)) else (interval_computer_divide.j1 k x0 false x2 x3 x4 x5 x6 x7 x8 x9 x10 x11 x12 x13 x14 x15 x16 x17))
def interval_computer_divide.j1 : Nat → Int → Bool → Int → Int → Int → Int → Int → Int → Int → Int → Int → Int → Int → Int → Int → Int → Int → Int → Option (Int × Int × Int × Int × Int × Int × Int × Int)
 | 0, _, _, _, _, _, _, _, _, _, _, _, _, _, _, _, _, _, _ => none
 | k + 1, x0, x1, x2, x3, x4, x5, x6, x7, x8, x9, x10, x11, x12, x13, x14, x15, x16, x17 => if x1 = true then ((interval_computer_u.f x2 x3 x4 x5 x6 x7 x8 x9 x10 x11).bind fun bt318 => (some (bt318.1, bt318.2.1, bt318.2.2.1, bt318.2.2.2.1, bt318.2.2.2.2.1, bt318.2.2.2.2.2.1, bt318.2.2.2.2.2.2.1, bt318.2.2.2.2.2.2.2))) else (if x0 = 6 then (interval_computer_divide.j2 k x0 (decide (x14 ≥ 1)) x2 x3 x4 x5 x6 x7 x8 x9 x10 x11 x12 x13 x14 x15 x16 x17) else (interval_computer_divide.j2 k x0 false x2 x3 x4 x5 x6 x7 x8 x9 x10 x11 x12 x13 x14 x15 x16 x17))
def interval_computer_divide.j2 : Nat → Int → Bool → Int → Int → Int → Int → Int → Int → Int → Int → Int → Int → Int → Int → Int → Int → Int → Int → Option (Int × Int × Int × Int × Int × Int × Int × Int)
 | 0, _, _, _, _, _, _, _, _, _, _, _, _, _, _, _, _, _, _ => none
 | k + 1, x0, x1, x2, x3, x4, x5, x6, x7, x8, x9, x10, x11, x12, x13, x14, x15, x16, x17 => if x1 = true then ((interval_computer_u.f x2 x3 x4 x5 x6 x7 x8 x9 0 (mn x11 (IntKind.u64.wrap (x15 - 1)))).bind fun bt326 => (some (bt326.1, bt326.2.1, bt326.2.2.1, bt326.2.2.2.1, bt326.2.2.2.2.1, bt326.2.2.2.2.2.1, bt326.2.2.2.2.2.2.1, bt326.2.2.2.2.2.2.2))) else (if x0 = 6 then ((interval_computer_u.f x2 x3 x4 x5 x6 x7 x8 x9 0 x11).bind fun bt334 => (some (bt334.1, bt334.2.1, bt334.2.2.1, bt334.2.2.2.1, bt334.2.2.2.2.1, bt334.2.2.2.2.2.1, bt334.2.2.2.2.2.2.1, bt334.2.2.2.2.2.2.2))) else (if x0 = 7 then (if x16 > 0 then (if x12 > x4 then (interval_computer_divide.j3 k x0 true x2 x3 x4 x5 x6 x7 x8 x9 x10 x11 x12 x13 x14 x15 x16 x17) else (if x16 > (-1) then (interval_computer_divide.j3 k x0 true x2 x3 x4 x5 x6 x7 x8 x9 x10 x11 x12 x13 x14 x15 x16 x17) else (interval_computer_divide.j3 k x0 (decide (x17 < (-1))) x2 x3 x4 x5 x6 x7 x8 x9 x10 x11 x12 x13 x14 x15 x16 x17))) else (if x17 < 0 then (if x12 > x4 then (interval_computer_divide.j3 k x0 true x2 x3 x4 x5 x6 x7 x8 x9 x10 x11 x12 x13 x14 x15 x16 x17) else (if x16 > (-1) then (interval_computer_divide.j3 k x0 true x2 x3 x4 x5 x6 x7 x8 x9 x10 x11 x12 x13 x14 x15 x16 x17) else (interval_computer_divide.j3 k x0 (decide (x17 < (-1))) x2 x3 x4 x5 x6 x7 x8 x9 x10 x11 x12 x13 x14 x15 x16 x17))) else (interval_computer_divide.j3 k x0 false x2 x3 x4 x5 x6 x7 x8 x9 x10 x11 x12 x13 x14 x15 x16 x17))) else (interval_computer_divide.j3 k x0 false x2 x3 x4 x5 x6 x7 x8 x9 x10 x11 x12 x13 x14 x15 x16 x17)))
def interval_computer_divide.j3 : Nat → Int → Bool → Int → Int → Int → Int → Int → Int → Int → Int → Int → Int → Int → Int → Int → Int → Int → Int → Option (Int × Int × Int × Int × Int × Int × Int × Int)
 | 0, _, _, _, _, _, _, _, _, _, _, _, _, _, _, _, _, _, _ => none
 | k + 1, x0, x1, x2, x3, x4, x5, x6, x7, x8, x9, x10, x11, x12, x13, x14, x15, x16, x17 => if x1 = true then (if x16 = 0 then (none) else (if x17 = 0 then (none) else ((interval_computer_corners.f k x2 x3 x4 x5 x6 x7 x8 x9 (wrap64 (Int.tdiv x12 x16)) (([wrap64 (Int.tdiv x12 x17), wrap64 (Int.tdiv x13 x16), wrap64 (Int.tdiv x13 x17)] : List Int))).bind fun bt345 => (some (bt345.1, bt345.2.1, bt345.2.2.1, bt345.2.2.2.1, bt345.2.2.2.2.1, bt345.2.2.2.2.2.1, bt345.2.2.2.2.2.2.1, bt345.2.2.2.2.2.2.2))))) else (if x0 = 8 then (interval_computer_divide.j4 k x0 (decide (x16 ≥ 1)) x2 x3 x4 x5 x6 x7 x8 x9 x10 x11 x12 x13 x14 x15 x16 x17) else (interval_computer_divide.j4 k x0 false x2 x3 x4 x5 x6 x7 x8 x9 x10 x11 x12 x13 x14 x15 x16 x17))
def interval_computer_divide.j4 : Nat → Int → Bool → Int → Int → Int → Int → Int → Int → Int → Int → Int → Int → Int → Int → Int → Int → Int → Int → Option (Int × Int × Int × Int × Int × Int × Int × Int)
 | 0, _, _, _, _, _, _, _, _, _, _, _, _, _, _, _, _, _, _ => none
 | k + 1, x0, x1, x2, x3, x4, x5, x6, x7, x8, x9, x10, x11, x12, x13, x14, x15, x16, x17 => if x1 = true then (if x12 < 0 then (if x13 > 0 then ((interval_computer_s.f x2 x3 x4 x5 x6 x7 x8 x9 (mx x12 (wrap64 (1 - x17))) (mn x13 (wrap64 (x17 - 1)))).bind fun bt353 => (some (bt353.1, bt353.2.1, bt353.2.2.1, bt353.2.2.2.1, bt353.2.2.2.2.1, bt353.2.2.2.2.2.1, bt353.2.2.2.2.2.2.1, bt353.2.2.2.2.2.2.2))) else ((interval_computer_s.f x2 x3 x4 x5 x6 x7 x8 x9 (mx x12 (wrap64 (1 - x17))) 0).bind fun bt361 => (some (bt361.1, bt361.2.1, bt361.2.2.1, bt361.2.2.2.1, bt361.2.2.2.2.1, bt361.2.2.2.2.2.1, bt361.2.2.2.2.2.2.1, bt361.2.2.2.2.2.2.2)))) else (if x13 > 0 then ((interval_computer_s.f x2 x3 x4 x5 x6 x7 x8 x9 0 (mn x13 (wrap64 (x17 - 1)))).bind fun bt369 => (some (bt369.1, bt369.2.1, bt369.2.2.1, bt369.2.2.2.1, bt369.2.2.2.2.1, bt369.2.2.2.2.2.1, bt369.2.2.2.2.2.2.1, bt369.2.2.2.2.2.2.2))) else ((interval_computer_s.f x2 x3 x4 x5 x6 x7 x8 x9 0 0).bind fun bt377 => (some (bt377.1, bt377.2.1, bt377.2.2.1, bt377.2.2.2.1, bt377.2.2.2.2.1, bt377.2.2.2.2.2.1, bt377.2.2.2.2.2.2.1, bt377.2.2.2.2.2.2.2))))) else (if x0 = 8 then ((interval_computer_s.f x2 x3 x4 x5 x6 x7 x8 x9 (mn x12 0) (mx x13 0)).bind fun bt385 => (some (bt385.1, bt385.2.1, bt385.2.2.1, bt385.2.2.2.1, bt385.2.2.2.2.1, bt385.2.2.2.2.2.1, bt385.2.2.2.2.2.2.1, bt385.2.2.2.2.2.2.2))) else (some (x2, x3, x4, x5, x6, x7, x8, x9)))
end
def interval_computer_divide.f (k : Nat) (s0_0 : Int) (s0_1 : Int) (s0_2 : Int) (s0_3 : Int) (s0_4 : Int) (s0_5 : Int) (s0_6 : Int) (s0_7 : Int) (a1 : Int) (a2_0 : Int) (a2_1 : Int) (a2_2 : Int) (a2_3 : Int) (a3_0 : Int) (a3_1 : Int) (a3_2 : Int) (a3_3 : Int) : Option (Int × Int × Int × Int × Int × Int × Int × Int) := if a1 = 5 then (interval_computer_divide.j0 k a1 (decide (a3_0 ≥ 1)) s0_0 s0_1 s0_2 s0_3 s0_4 s0_5 s0_6 s0_7 a2_0 a2_1 a2_2 a2_3 a3_0 a3_1 a3_2 a3_3) else (interval_computer_divide.j0 k a1 false s0_0 s0_1 s0_2 s0_3 s0_4 s0_5 s0_6 s0_7 a2_0 a2_1 a2_2 a2_3 a3_0 a3_1 a3_2 a3_3)
theorem interval_computer_divide.mono_l : ∀ k, (∀ y0 y1 y2 y3 y4 y5 y6 y7 y8 y9 y10 y11 y12 y13 y14 y15 y16 y17, LeO (interval_computer_divide.j0 k y0 y1 y2 y3 y4 y5 y6 y7 y8 y9 y10 y11 y12 y13 y14 y15 y16 y17) (interval_computer_divide.j0 (k + 1) y0 y1 y2 y3 y4 y5 y6 y7 y8 y9 y10 y11 y12 y13 y14 y15 y16 y17)) ∧ (∀ y0 y1 y2 y3 y4 y5 y6 y7 y8 y9 y10 y11 y12 y13 y14 y15 y16 y17, LeO (interval_computer_divide.j1 k y0 y1 y2 y3 y4 y5 y6 y7 y8 y9 y10 y11 y12 y13 y14 y15 y16 y17) (interval_computer_divide.j1 (k + 1) y0 y1 y2 y3 y4 y5 y6 y7 y8 y9 y10 y11 y12 y13 y14 y15 y16 y17)) ∧ (∀ y0 y1 y2 y3 y4 y5 y6 y7 y8 y9 y10 y11 y12 y13 y14 y15 y16 y17, LeO (interval_computer_divide.j2 k y0 y1 y2 y3 y4 y5 y6 y7 y8 y9 y10 y11 y12 y13 y14 y15 y16 y17) (interval_computer_divide.j2 (k + 1) y0 y1 y2 y3 y4 y5 y6 y7 y8 y9 y10 y11 y12 y13 y14 y15 y16 y17)) ∧ (∀ y0 y1 y2 y3 y4 y5 y6 y7 y8 y9 y10 y11 y12 y13 y14 y15 y16 y17, LeO (interval_computer_divide.j3 k y0 y1 y2 y3 y4 y5 y6 y7 y8 y9 y10 y11 y12 y13 y14 y15 y16 y17) (interval_computer_divide.j3 (k + 1) y0 y1 y2 y3 y4 y5 y6 y7 y8 y9 y10 y11 y12 y13 y14 y15 y16 y17)) ∧ (∀ y0 y1 y2 y3 y4 y5 y6 y7 y8 y9 y10 y11 y12 y13 y14 y15 y16 y17, LeO (interval_computer_divide.j4 k y0 y1 y2 y3 y4 y5 y6 y7 y8 y9 y10 y11 y12 y13 y14 y15 y16 y17) (interval_computer_divide.j4 (k + 1) y0 y1 y2 y3 y4 y5 y6 y7 y8 y9 y10 y11 y12 y13 y14 y15 y16 y17))
 | 0 => ⟨fun _ _ _ _ _ _ _ _ _ _ _ _ _ _ _ _ _ _ r h => by simp [interval_computer_divide.j0] at h, fun _ _ _ _ _ _ _ _ _ _ _ _ _ _ _ _ _ _ r h => by simp [interval_computer_divide.j1] at h, fun _ _ _ _ _ _ _ _ _ _ _ _ _ _ _ _ _ _ r h => by simp [interval_computer_divide.j2] at h, fun _ _ _ _ _ _ _ _ _ _ _ _ _ _ _ _ _ _ r h => by simp [interval_computer_divide.j3] at h, fun _ _ _ _ _ _ _ _ _ _ _ _ _ _ _ _ _ _ r h => by simp [interval_computer_divide.j4] at h⟩
 | k + 1 => by
  obtain ⟨ih0, ih1, ih2, ih3, ih4⟩ := interval_computer_divide.mono_l k
  refine ⟨?_, ?_, ?_, ?_, ?_⟩
  all_goals
   intros
   first | unfold interval_computer_divide.j0 | unfold interval_computer_divide.j1 | unfold interval_computer_divide.j2 | unfold interval_computer_divide.j3 | unfold interval_computer_divide.j4
   repeat' first
   | (with_reducible first | apply ih0 | apply ih1 | apply ih2 | apply ih3 | apply ih4 | apply interval_computer_corners.mono | exact LeO.refl _ | exact LeO.none _ | refine LeO.ite ?_ ?_ | refine LeO.bind ?_ (fun _ => ?_))
   | (first | apply ih0 | apply ih1 | apply ih2 | apply ih3 | apply ih4 | apply interval_computer_corners.mono | exact LeO.none _ | refine LeO.ite ?_ ?_ | refine LeO.bind ?_ (fun _ => ?_))
theorem interval_computer_divide.mono : ∀ a0 a1 a2 a3 a4 a5 a6 a7 a8 a9 a10 a11 a12 a13 a14 a15 a16 k, LeO (interval_computer_divide.f k a0 a1 a2 a3 a4 a5 a6 a7 a8 a9 a10 a11 a12 a13 a14 a15 a16) (interval_computer_divide.f (k + 1) a0 a1 a2 a3 a4 a5 a6 a7 a8 a9 a10 a11 a12 a13 a14 a15 a16) := by
 intro a0 a1 a2 a3 a4 a5 a6 a7 a8 a9 a10 a11 a12 a13 a14 a15 a16 k
 obtain ⟨ih0, ih1, ih2, ih3, ih4⟩ := interval_computer_divide.mono_l k
 unfold interval_computer_divide.f
 repeat' first
   | (with_reducible first | apply ih0 | apply ih1 | apply ih2 | apply ih3 | apply ih4 | apply interval_computer_corners.mono | exact LeO.refl _ | exact LeO.none _ | refine LeO.ite ?_ ?_ | refine LeO.bind ?_ (fun _ => ?_))
   | (first | apply ih0 | apply ih1 | apply ih2 | apply ih3 | apply ih4 | apply interval_computer_corners.mono | exact LeO.none _ | refine LeO.ite ?_ ?_ | refine LeO.bind ?_ (fun _ => ?_))
def interval_computer_divide.T2 : Bool × List (List Nat × List Nat) := (true, [([], []), ([], []), ([1], [1]), ([], []), ([3], [3]), ([2, 4], [2, 4]), ([], []), ([6], [6]), ([], []), ([8], [8]), ([7, 9], [7, 9]), ([0, 5, 10], [0, 5, 10])])
def interval_computer_divide.B2 : List Nat := [0, 0, 2, 0, 8, 30, 0, 64, 0, 256, 960, 2047]
def interval_computer_divide.T9 : Bool × List (List Nat × List Nat) := (true, [([], []), ([0], [0]), ([1], [1]), ([2], [2]), ([3, 2], [2, 3]), ([4, 2], [2, 4]), ([5, 2, 2], [2, 5]), ([6], [6]), ([7, 6], [6, 7]), ([8, 6], [6, 8]), ([6, 9, 2], [2, 6, 9]), ([2, 10], [2, 10]), ([11, 6], [11]), ([12], [12]), ([13, 12], [12, 13]), ([12], [12]), ([15, 12], [12, 15]), ([16, 12], [12, 16]), ([17, 12], [12, 17]), ([14, 18, 12], [12, 14, 18]), ([19, 12, 12], [12, 19]), ([20], [20]), ([21, 20], [20, 21]), ([22, 20], [20, 22]), ([20, 23, 12], [12, 20, 23]), ([24, 20, 12], [12, 24]), ([25], [25]), ([26, 25], [25, 26]), ([27, 25], [25, 27]), ([25, 28, 12], [12, 25, 28]), ([12, 29], [12, 29]), ([30, 25], [30])])
def interval_computer_divide.B9 : List Nat := [0, 1, 3, 7, 15, 31, 63, 127, 255, 511, 1023, 2047, 4095, 8191, 16383, 8191, 40959, 106495, 237567, 524287, 1048575, 2097151, 4194303, 8388607, 16777215, 33554431, 67108863, 134217727, 268435455, 536870911, 1073741823, 2147483647]
def interval_computer_divide.T10 : Bool × List (List Nat × List Nat) := (true, [([], []), ([], []), ([1], [1]), ([], []), ([3], [3]), ([2, 4], [2, 4]), ([], []), ([6], [6]), ([], []), ([8], [8]), ([7, 9], [7, 9]), ([], []), ([11], [11]), ([], []), ([13], [13]), ([12, 14], [12, 14]), ([], []), ([16], [16]), ([], []), ([18], [18]), ([17, 19], [17, 19]), ([10, 15, 20], [10, 15, 20]), ([0, 5, 21], [0, 5, 21])])
def interval_computer_divide.B10 : List Nat := [0, 0, 2, 0, 8, 30, 0, 64, 0, 256, 960, 0, 2048, 0, 8192, 30720, 0, 65536, 0, 262144, 983040, 2097088, 4194303]
/-! ### bits_Len64: function 57 -/
def bits_Len64.j0 : Nat → Int → Int → Option (Int)
 | 0, _, _ => none
 | k + 1, x0, x1 => if x0 ≥ 65536 then (if (x0 / 65536) ≥ 256 then (if 0 ≤ (((x0 / 65536) / 256) % 256) then (if (((x0 / 65536) / 256) % 256) < 256 then (some (wrap64 ((wrap64 ((wrap64 (x1 + 16)) + 8)) + (wrap64 (bt (⟨#[0, 1, 2, 2, 3, 3, 3, 3, 4, 4, 4, 4, 4, 4, 4, 4, 5, 5, 5, 5, 5, 5, 5, 5, 5, 5, 5, 5, 5, 5, 5, 5, 6, 6, 6, 6, 6, 6, 6, 6, 6, 6, 6, 6, 6, 6, 6, 6, 6, 6, 6, 6, 6, 6, 6, 6, 6, 6, 6, 6, 6, 6, 6, 6, 7, 7, 7, 7, 7, 7, 7, 7, 7, 7, 7, 7, 7, 7, 7, 7, 7, 7, 7, 7, 7, 7, 7, 7, 7, 7, 7, 7, 7, 7, 7, 7, 7, 7, 7, 7, 7, 7, 7, 7, 7, 7, 7, 7, 7, 7, 7, 7, 7, 7, 7, 7, 7, 7, 7, 7, 7, 7, 7, 7, 7, 7, 7, 7, 8, 8, 8, 8, 8, 8, 8, 8, 8, 8, 8, 8, 8, 8, 8, 8, 8, 8, 8, 8, 8, 8, 8, 8, 8, 8, 8, 8, 8, 8, 8, 8, 8, 8, 8, 8, 8, 8, 8, 8, 8, 8, 8, 8, 8, 8, 8, 8, 8, 8, 8, 8, 8, 8, 8, 8, 8, 8, 8, 8, 8, 8, 8, 8, 8, 8, 8, 8, 8, 8, 8, 8, 8, 8, 8, 8, 8, 8, 8, 8, 8, 8, 8, 8, 8, 8, 8, 8, 8, 8, 8, 8, 8, 8, 8, 8, 8, 8, 8, 8, 8, 8, 8, 8, 8, 8, 8, 8, 8, 8, 8, 8, 8, 8, 8, 8, 8, 8, 8, 8, 8, 8, 8, 8, 8, 8, 8, 8]⟩ : ByteArray) (((x0 / 65536) / 256) % 256)))))) else (none)) else (none)) else (if 0 ≤ ((x0 / 65536) % 256) then (if ((x0 / 65536) % 256) < 256 then (some (wrap64 ((wrap64 (x1 + 16)) + (wrap64 (bt (⟨#[0, 1, 2, 2, 3, 3, 3, 3, 4, 4, 4, 4, 4, 4, 4, 4, 5, 5, 5, 5, 5, 5, 5, 5, 5, 5, 5, 5, 5, 5, 5, 5, 6, 6, 6, 6, 6, 6, 6, 6, 6, 6, 6, 6, 6, 6, 6, 6, 6, 6, 6, 6, 6, 6, 6, 6, 6, 6, 6, 6, 6, 6, 6, 6, 7, 7, 7, 7, 7, 7, 7, 7, 7, 7, 7, 7, 7, 7, 7, 7, 7, 7, 7, 7, 7, 7, 7, 7, 7, 7, 7, 7, 7, 7, 7, 7, 7, 7, 7, 7, 7, 7, 7, 7, 7, 7, 7, 7, 7, 7, 7, 7, 7, 7, 7, 7, 7, 7, 7, 7, 7, 7, 7, 7, 7, 7, 7, 7, 8, 8, 8, 8, 8, 8, 8, 8, 8, 8, 8, 8, 8, 8, 8, 8, 8, 8, 8, 8, 8, 8, 8, 8, 8, 8, 8, 8, 8, 8, 8, 8, 8, 8, 8, 8, 8, 8, 8, 8, 8, 8, 8, 8, 8, 8, 8, 8, 8, 8, 8, 8, 8, 8, 8, 8, 8, 8, 8, 8, 8, 8, 8, 8, 8, 8, 8, 8, 8, 8, 8, 8, 8, 8, 8, 8, 8, 8, 8, 8, 8, 8, 8, 8, 8, 8, 8, 8, 8, 8, 8, 8, 8, 8, 8, 8, 8, 8, 8, 8, 8, 8, 8, 8, 8, 8, 8, 8, 8, 8, 8, 8, 8, 8, 8, 8, 8, 8, 8, 8, 8, 8, 8, 8, 8, 8, 8, 8]⟩ : ByteArray) ((x0 / 65536) % 256)))))) else (none)) else (none))) else (if x0 ≥ 256 then (if 0 ≤ ((x0 / 256) % 256) then (if ((x0 / 256) % 256) < 256 then (some (wrap64 ((wrap64 (x1 + 8)) + (wrap64 (bt (⟨#[0, 1, 2, 2, 3, 3, 3, 3, 4, 4, 4, 4, 4, 4, 4, 4, 5, 5, 5, 5, 5, 5, 5, 5, 5, 5, 5, 5, 5, 5, 5, 5, 6, 6, 6, 6, 6, 6, 6, 6, 6, 6, 6, 6, 6, 6, 6, 6, 6, 6, 6, 6, 6, 6, 6, 6, 6, 6, 6, 6, 6, 6, 6, 6, 7, 7, 7, 7, 7, 7, 7, 7, 7, 7, 7, 7, 7, 7, 7, 7, 7, 7, 7, 7, 7, 7, 7, 7, 7, 7, 7, 7, 7, 7, 7, 7, 7, 7, 7, 7, 7, 7, 7, 7, 7, 7, 7, 7, 7, 7, 7, 7, 7, 7, 7, 7, 7, 7, 7, 7, 7, 7, 7, 7, 7, 7, 7, 7, 8, 8, 8, 8, 8, 8, 8, 8, 8, 8, 8, 8, 8, 8, 8, 8, 8, 8, 8, 8, 8, 8, 8, 8, 8, 8, 8, 8, 8, 8, 8, 8, 8, 8, 8, 8, 8, 8, 8, 8, 8, 8, 8, 8, 8, 8, 8, 8, 8, 8, 8, 8, 8, 8, 8, 8, 8, 8, 8, 8, 8, 8, 8, 8, 8, 8, 8, 8, 8, 8, 8, 8, 8, 8, 8, 8, 8, 8, 8, 8, 8, 8, 8, 8, 8, 8, 8, 8, 8, 8, 8, 8, 8, 8, 8, 8, 8, 8, 8, 8, 8, 8, 8, 8, 8, 8, 8, 8, 8, 8, 8, 8, 8, 8, 8, 8, 8, 8, 8, 8, 8, 8, 8, 8, 8, 8, 8, 8]⟩ : ByteArray) ((x0 / 256) % 256)))))) else (none)) else (none)) else (if 0 ≤ ((x0) % 256) then (if ((x0) % 256) < 256 then (some (wrap64 (x1 + (wrap64 (bt (⟨#[0, 1, 2, 2, 3, 3, 3, 3, 4, 4, 4, 4, 4, 4, 4, 4, 5, 5, 5, 5, 5, 5, 5, 5, 5, 5, 5, 5, 5, 5, 5, 5, 6, 6, 6, 6, 6, 6, 6, 6, 6, 6, 6, 6, 6, 6, 6, 6, 6, 6, 6, 6, 6, 6, 6, 6, 6, 6, 6, 6, 6, 6, 6, 6, 7, 7, 7, 7, 7, 7, 7, 7, 7, 7, 7, 7, 7, 7, 7, 7, 7, 7, 7, 7, 7, 7, 7, 7, 7, 7, 7, 7, 7, 7, 7, 7, 7, 7, 7, 7, 7, 7, 7, 7, 7, 7, 7, 7, 7, 7, 7, 7, 7, 7, 7, 7, 7, 7, 7, 7, 7, 7, 7, 7, 7, 7, 7, 7, 8, 8, 8, 8, 8, 8, 8, 8, 8, 8, 8, 8, 8, 8, 8, 8, 8, 8, 8, 8, 8, 8, 8, 8, 8, 8, 8, 8, 8, 8, 8, 8, 8, 8, 8, 8, 8, 8, 8, 8, 8, 8, 8, 8, 8, 8, 8, 8, 8, 8, 8, 8, 8, 8, 8, 8, 8, 8, 8, 8, 8, 8, 8, 8, 8, 8, 8, 8, 8, 8, 8, 8, 8, 8, 8, 8, 8, 8, 8, 8, 8, 8, 8, 8, 8, 8, 8, 8, 8, 8, 8, 8, 8, 8, 8, 8, 8, 8, 8, 8, 8, 8, 8, 8, 8, 8, 8, 8, 8, 8, 8, 8, 8, 8, 8, 8, 8, 8, 8, 8, 8, 8, 8, 8, 8, 8, 8, 8]⟩ : ByteArray) ((x0) % 256)))))) else (none)) else (none)))
def bits_Len64.f (k : Nat) (a0 : Int) : Option (Int) := if a0 ≥ 4294967296 then (bits_Len64.j0 k (a0 / 4294967296) 32) else (bits_Len64.j0 k a0 0)
theorem bits_Len64.mono_l : ∀ k, (∀ y0 y1, LeO (bits_Len64.j0 k y0 y1) (bits_Len64.j0 (k + 1) y0 y1))
 | 0 => fun _ _ r h => by simp [bits_Len64.j0] at h
 | k + 1 => by
  have ih0 := bits_Len64.mono_l k
  ·
   intro y0 y1
   unfold bits_Len64.j0
   repeat' first
   | (with_reducible first | apply ih0 | exact LeO.refl _ | exact LeO.none _ | refine LeO.ite ?_ ?_ | refine LeO.bind ?_ (fun _ => ?_))
   | (first | apply ih0 | exact LeO.none _ | refine LeO.ite ?_ ?_ | refine LeO.bind ?_ (fun _ => ?_))
theorem bits_Len64.mono : ∀ a0 k, LeO (bits_Len64.f k a0) (bits_Len64.f (k + 1) a0) := by
 intro a0 k
 have ih0 := bits_Len64.mono_l k
 unfold bits_Len64.f
 repeat' first
   | (with_reducible first | apply ih0 | exact LeO.refl _ | exact LeO.none _ | refine LeO.ite ?_ ?_ | refine LeO.bind ?_ (fun _ => ?_))
   | (first | apply ih0 | exact LeO.none _ | refine LeO.ite ?_ ?_ | refine LeO.bind ?_ (fun _ => ?_))
/-! ### interval_computer_shift: function 58 -/
def interval_computer_shift.f (k : Nat) (s0_0 : Int) (s0_1 : Int) (s0_2 : Int) (s0_3 : Int) (s0_4 : Int) (s0_5 : Int) (s0_6 : Int) (s0_7 : Int) (a1 : Int) (a2_0 : Int) (a2_1 : Int) (a2_2 : Int) (a2_3 : Int) (a3_0 : Int) (a3_1 : Int) (a3_2 : Int) (a3_3 : Int) : Option (Int × Int × Int × Int × Int × Int × Int × Int) := if a1 = 13 then (if 0 ≤ a3_1 then (if 0 ≤ a3_0 then ((interval_computer_u.f s0_0 s0_1 s0_2 s0_3 s0_4 s0_5 s0_6 s0_7 (shr .u64 a2_0 a3_1) (shr .u64 a2_1 a3_0)).bind fun bt395 => (some (bt395.1, bt395.2.1, bt395.2.2.1, bt395.2.2.2.1, bt395.2.2.2.2.1, bt395.2.2.2.2.2.1, bt395.2.2.2.2.2.2.1, bt395.2.2.2.2.2.2.2))) else (none)) else (none)) else (if a1 = 14 then (if 0 ≤ (mn a3_0 (IntKind.u64.wrap (wrap64 (s0_0 - 1)))) then (if 0 ≤ (mn a3_1 (IntKind.u64.wrap (wrap64 (s0_0 - 1)))) then ((interval_computer_corners.f k s0_0 s0_1 s0_2 s0_3 s0_4 s0_5 s0_6 s0_7 (shr .i64 a2_2 (mn a3_0 (IntKind.u64.wrap (wrap64 (s0_0 - 1))))) (([shr .i64 a2_2 (mn a3_1 (IntKind.u64.wrap (wrap64 (s0_0 - 1)))), shr .i64 a2_3 (mn a3_0 (IntKind.u64.wrap (wrap64 (s0_0 - 1)))), shr .i64 a2_3 (mn a3_1 (IntKind.u64.wrap (wrap64 (s0_0 - 1))))] : List Int))).bind fun bt406 => (some (bt406.1, bt406.2.1, bt406.2.2.1, bt406.2.2.2.1, bt406.2.2.2.2.1, bt406.2.2.2.2.2.1, bt406.2.2.2.2.2.2.1, bt406.2.2.2.2.2.2.2))) else (none)) else (none)) else (if a3_0 = a3_1 then (if a3_0 > (IntKind.u64.wrap (wrap64 (s0_0 - 1))) then ((interval_computer_u.f s0_0 s0_1 s0_2 s0_3 s0_4 s0_5 s0_6 s0_7 0 0).bind fun bt414 => (some (bt414.1, bt414.2.1, bt414.2.2.1, bt414.2.2.2.1, bt414.2.2.2.2.1, bt414.2.2.2.2.2.1, bt414.2.2.2.2.2.2.1, bt414.2.2.2.2.2.2.2))) else (if 0 ≤ a3_0 then (if a2_1 ≤ (shr .u64 s0_1 a3_0) then ((interval_computer_u.f s0_0 s0_1 s0_2 s0_3 s0_4 s0_5 s0_6 s0_7 (shl .u64 a2_0 a3_0) (shl .u64 a2_1 a3_0)).bind fun bt422 => (if a2_2 ≥ (shr .i64 bt422.2.2.1 a3_0) then (if a2_3 ≤ (shr .i64 bt422.2.2.2.1 a3_0) then ((interval_computer_s.f bt422.1 bt422.2.1 bt422.2.2.1 bt422.2.2.2.1 bt422.2.2.2.2.1 bt422.2.2.2.2.2.1 bt422.2.2.2.2.2.2.1 bt422.2.2.2.2.2.2.2 (shl .i64 a2_2 a3_0) (shl .i64 a2_3 a3_0)).bind fun bt430 => (some (bt430.1, bt430.2.1, bt430.2.2.1, bt430.2.2.2.1, bt430.2.2.2.2.1, bt430.2.2.2.2.2.1, bt430.2.2.2.2.2.2.1, bt430.2.2.2.2.2.2.2))) else (some (bt422.1, bt422.2.1, bt422.2.2.1, bt422.2.2.2.1, bt422.2.2.2.2.1, bt422.2.2.2.2.2.1, bt422.2.2.2.2.2.2.1, bt422.2.2.2.2.2.2.2))) else (some (bt422.1, bt422.2.1, bt422.2.2.1, bt422.2.2.2.1, bt422.2.2.2.2.1, bt422.2.2.2.2.2.1, bt422.2.2.2.2.2.2.1, bt422.2.2.2.2.2.2.2)))) else (if a2_2 ≥ (shr .i64 s0_2 a3_0) then (if a2_3 ≤ (shr .i64 s0_3 a3_0) then ((interval_computer_s.f s0_0 s0_1 s0_2 s0_3 s0_4 s0_5 s0_6 s0_7 (shl .i64 a2_2 a3_0) (shl .i64 a2_3 a3_0)).bind fun bt438 => (some (bt438.1, bt438.2.1, bt438.2.2.1, bt438.2.2.2.1, bt438.2.2.2.2.1, bt438.2.2.2.2.2.1, bt438.2.2.2.2.2.2.1, bt438.2.2.2.2.2.2.2))) else (some (s0_0, s0_1, s0_2, s0_3, s0_4, s0_5, s0_6, s0_7))) else (some (s0_0, s0_1, s0_2, s0_3, s0_4, s0_5, s0_6, s0_7)))) else (none))) else (some (s0_0, s0_1, s0_2, s0_3, s0_4, s0_5, s0_6, s0_7))))
theorem interval_computer_shift.mono : ∀ a0 a1 a2 a3 a4 a5 a6 a7 a8 a9 a10 a11 a12 a13 a14 a15 a16 k, LeO (interval_computer_shift.f k a0 a1 a2 a3 a4 a5 a6 a7 a8 a9 a10 a11 a12 a13 a14 a15 a16) (interval_computer_shift.f (k + 1) a0 a1 a2 a3 a4 a5 a6 a7 a8 a9 a10 a11 a12 a13 a14 a15 a16) := by
 intro a0 a1 a2 a3 a4 a5 a6 a7 a8 a9 a10 a11 a12 a13 a14 a15 a16 k
 unfold interval_computer_shift.f
 repeat' first
   | (with_reducible first | apply interval_computer_corners.mono | exact LeO.refl _ | exact LeO.none _ | refine LeO.ite ?_ ?_ | refine LeO.bind ?_ (fun _ => ?_))
   | (first | apply interval_computer_corners.mono | exact LeO.none _ | refine LeO.ite ?_ ?_ | refine LeO.bind ?_ (fun _ => ?_))
/-! ### interval_Join: function 59 -/
def interval_Join.f (a0_0 : Int) (a0_1 : Int) (a0_2 : Int) (a0_3 : Int) (a1_0 : Int) (a1_1 : Int) (a1_2 : Int) (a1_3 : Int) : Option (Int × Int × Int × Int) := some (mn a0_0 a1_0, mx a0_1 a1_1, mn a0_2 a1_2, mx a0_3 a1_3)
/-! ### interval_computer_convert: function 60 -/
def interval_computer_convert.j0 : Nat → Int → Int → Int → Int → Int → Int → Int → Int → Int → Int → Int → Int → Option (Int × Int × Int × Int × Int × Int × Int × Int)
 | 0, _, _, _, _, _, _, _, _, _, _, _, _ => none
 | k + 1, x0, x1, x2, x3, x4, x5, x6, x7, x8, x9, x10, x11 => (interval_computer_within.f x0 x1 x2 x3 x4 x5 x6 x7 x10).bind fun t506 => (if t506 = true then ((interval_computer_within.f x0 x1 x2 x3 x4 x5 x6 x7 x11).bind fun t507 => (if t507 = true then ((interval_computer_s.f x0 x1 x2 x3 x4 x5 x6 x7 x10 x11).bind fun bt508 => (some (bt508.1, bt508.2.1, bt508.2.2.1, bt508.2.2.2.1, bt508.2.2.2.2.1, bt508.2.2.2.2.2.1, bt508.2.2.2.2.2.2.1, bt508.2.2.2.2.2.2.2))) else (some (x0, x1, x2, x3, x4, x5, x6, x7)))) else (some (x0, x1, x2, x3, x4, x5, x6, x7)))
def interval_computer_convert.f (k : Nat) (s0_0 : Int) (s0_1 : Int) (s0_2 : Int) (s0_3 : Int) (s0_4 : Int) (s0_5 : Int) (s0_6 : Int) (s0_7 : Int) (a1 : Int) (a2 : Int) (a3_0 : Int) (a3_1 : Int) (a3_2 : Int) (a3_3 : Int) : Option (Int × Int × Int × Int × Int × Int × Int × Int) := if a1 = 22 then ((interval_computer_u.f s0_0 s0_1 s0_2 s0_3 s0_4 s0_5 s0_6 s0_7 a3_0 a3_1).bind fun bt450 => (if bt450.1 > a2 then ((interval_computer_s.f bt450.1 bt450.2.1 bt450.2.2.1 bt450.2.2.2.1 bt450.2.2.2.2.1 bt450.2.2.2.2.2.1 bt450.2.2.2.2.2.2.1 bt450.2.2.2.2.2.2.2 (wrap64 (a3_0)) (wrap64 (a3_1))).bind fun bt458 => (some (bt458.1, bt458.2.1, bt458.2.2.1, bt458.2.2.2.1, bt458.2.2.2.2.1, bt458.2.2.2.2.2.1, bt458.2.2.2.2.2.2.1, bt458.2.2.2.2.2.2.2))) else ((interval_computer_s.f bt450.1 bt450.2.1 bt450.2.2.1 bt450.2.2.2.1 bt450.2.2.2.2.1 bt450.2.2.2.2.2.1 bt450.2.2.2.2.2.2.1 bt450.2.2.2.2.2.2.2 a3_2 a3_3).bind fun bt466 => (some (bt466.1, bt466.2.1, bt466.2.2.1, bt466.2.2.2.1, bt466.2.2.2.2.1, bt466.2.2.2.2.2.1, bt466.2.2.2.2.2.2.1, bt466.2.2.2.2.2.2.2))))) else (if a1 = 23 then (if s0_0 = a2 then ((interval_computer_u.f s0_0 s0_1 s0_2 s0_3 s0_4 s0_5 s0_6 s0_7 a3_0 a3_1).bind fun bt474 => ((interval_computer_s.f bt474.1 bt474.2.1 bt474.2.2.1 bt474.2.2.2.1 bt474.2.2.2.2.1 bt474.2.2.2.2.2.1 bt474.2.2.2.2.2.2.1 bt474.2.2.2.2.2.2.2 a3_2 a3_3).bind fun bt482 => (some (bt482.1, bt482.2.1, bt482.2.2.1, bt482.2.2.2.1, bt482.2.2.2.2.1, bt482.2.2.2.2.2.1, bt482.2.2.2.2.2.2.1, bt482.2.2.2.2.2.2.2)))) else ((interval_computer_s.f s0_0 s0_1 s0_2 s0_3 s0_4 s0_5 s0_6 s0_7 a3_2 a3_3).bind fun bt490 => (some (bt490.1, bt490.2.1, bt490.2.2.1, bt490.2.2.2.1, bt490.2.2.2.2.1, bt490.2.2.2.2.2.1, bt490.2.2.2.2.2.2.1, bt490.2.2.2.2.2.2.2)))) else (if a3_1 ≤ s0_1 then ((interval_computer_u.f s0_0 s0_1 s0_2 s0_3 s0_4 s0_5 s0_6 s0_7 a3_0 a3_1).bind fun bt498 => (interval_computer_convert.j0 k bt498.1 bt498.2.1 bt498.2.2.1 bt498.2.2.2.1 bt498.2.2.2.2.1 bt498.2.2.2.2.2.1 bt498.2.2.2.2.2.2.1 bt498.2.2.2.2.2.2.2 a3_0 a3_1 a3_2 a3_3)) else (interval_computer_convert.j0 k s0_0 s0_1 s0_2 s0_3 s0_4 s0_5 s0_6 s0_7 a3_0 a3_1 a3_2 a3_3)))
theorem interval_computer_convert.mono_l : ∀ k, (∀ y0 y1 y2 y3 y4 y5 y6 y7 y8 y9 y10 y11, LeO (interval_computer_convert.j0 k y0 y1 y2 y3 y4 y5 y6 y7 y8 y9 y10 y11) (interval_computer_convert.j0 (k + 1) y0 y1 y2 y3 y4 y5 y6 y7 y8 y9 y10 y11))
 | 0 => fun _ _ _ _ _ _ _ _ _ _ _ _ r h => by simp [interval_computer_convert.j0] at h
 | k + 1 => by
  have ih0 := interval_computer_convert.mono_l k
  ·
   intro y0 y1 y2 y3 y4 y5 y6 y7 y8 y9 y10 y11
   unfold interval_computer_convert.j0
   repeat' first
   | (with_reducible first | apply ih0 | exact LeO.refl _ | exact LeO.none _ | refine LeO.ite ?_ ?_ | refine LeO.bind ?_ (fun _ => ?_))
   | (first | apply ih0 | exact LeO.none _ | refine LeO.ite ?_ ?_ | refine LeO.bind ?_ (fun _ => ?_))
theorem interval_computer_convert.mono : ∀ a0 a1 a2 a3 a4 a5 a6 a7 a8 a9 a10 a11 a12 a13 k, LeO (interval_computer_convert.f k a0 a1 a2 a3 a4 a5 a6 a7 a8 a9 a10 a11 a12 a13) (interval_computer_convert.f (k + 1) a0 a1 a2 a3 a4 a5 a6 a7 a8 a9 a10 a11 a12 a13) := by
 intro a0 a1 a2 a3 a4 a5 a6 a7 a8 a9 a10 a11 a12 a13 k
 have ih0 := interval_computer_convert.mono_l k
 unfold interval_computer_convert.f
 repeat' first
   | (with_reducible first | apply ih0 | exact LeO.refl _ | exact LeO.none _ | refine LeO.ite ?_ ?_ | refine LeO.bind ?_ (fun _ => ?_))
   | (first | apply ih0 | exact LeO.none _ | refine LeO.ite ?_ ?_ | refine LeO.bind ?_ (fun _ => ?_))
/-! ### interval_computer_truth: function 85 -/
def interval_computer_truth.j0 : Nat → Bool → Bool → Int → Int → Int → Int → Int → Int → Int → Int → Option (Int × Int × Int × Int × Int × Int × Int × Int)
 | 0, _, _, _, _, _, _, _, _, _, _ => none
 | k + 1, x0, x1, x2, x3, x4, x5, x6, x7, x8, x9 => if x1 = true then (if x0 = true then ((interval_Of.f 1 1).bind fun bt516 => (some (x2, x3, x4, x5, bt516.1, bt516.2.1, bt516.2.2.1, bt516.2.2.2))) else ((interval_Of.f 1 0).bind fun bt520 => (some (x2, x3, x4, x5, bt520.1, bt520.2.1, bt520.2.2.1, bt520.2.2.2)))) else (some (x2, x3, x4, x5, x6, x7, x8, x9))
def interval_computer_truth.f (k : Nat) (s0_0 : Int) (s0_1 : Int) (s0_2 : Int) (s0_3 : Int) (s0_4 : Int) (s0_5 : Int) (s0_6 : Int) (s0_7 : Int) (a1 : Bool) (a2 : Bool) : Option (Int × Int × Int × Int × Int × Int × Int × Int) := if a1 = true then (interval_computer_truth.j0 k a1 true s0_0 s0_1 s0_2 s0_3 s0_4 s0_5 s0_6 s0_7) else (interval_computer_truth.j0 k a1 a2 s0_0 s0_1 s0_2 s0_3 s0_4 s0_5 s0_6 s0_7)
theorem interval_computer_truth.mono_l : ∀ k, (∀ y0 y1 y2 y3 y4 y5 y6 y7 y8 y9, LeO (interval_computer_truth.j0 k y0 y1 y2 y3 y4 y5 y6 y7 y8 y9) (interval_computer_truth.j0 (k + 1) y0 y1 y2 y3 y4 y5 y6 y7 y8 y9))
 | 0 => fun _ _ _ _ _ _ _ _ _ _ r h => by simp [interval_computer_truth.j0] at h
 | k + 1 => by
  have ih0 := interval_computer_truth.mono_l k
  ·
   intro y0 y1 y2 y3 y4 y5 y6 y7 y8 y9
   unfold interval_computer_truth.j0
   repeat' first
   | (with_reducible first | apply ih0 | exact LeO.refl _ | exact LeO.none _ | refine LeO.ite ?_ ?_ | refine LeO.bind ?_ (fun _ => ?_))
   | (first | apply ih0 | exact LeO.none _ | refine LeO.ite ?_ ?_ | refine LeO.bind ?_ (fun _ => ?_))
theorem interval_computer_truth.mono : ∀ a0 a1 a2 a3 a4 a5 a6 a7 a8 a9 k, LeO (interval_computer_truth.f k a0 a1 a2 a3 a4 a5 a6 a7 a8 a9) (interval_computer_truth.f (k + 1) a0 a1 a2 a3 a4 a5 a6 a7 a8 a9) := by
 intro a0 a1 a2 a3 a4 a5 a6 a7 a8 a9 k
 have ih0 := interval_computer_truth.mono_l k
 unfold interval_computer_truth.f
 repeat' first
   | (with_reducible first | apply ih0 | exact LeO.refl _ | exact LeO.none _ | refine LeO.ite ?_ ?_ | refine LeO.bind ?_ (fun _ => ?_))
   | (first | apply ih0 | exact LeO.none _ | refine LeO.ite ?_ ?_ | refine LeO.bind ?_ (fun _ => ?_))
/-! ### interval_computer_compare: function 61 -/
def interval_computer_compare.j0 : Nat → Int → Bool → Int → Int → Int → Int → Int → Int → Int → Int → Int → Int → Int → Int → Int → Int → Int → Int → Option (Int × Int × Int × Int × Int × Int × Int × Int)
 | 0, _, _, _, _, _, _, _, _, _, _, _, _, _, _, _, _, _, _ => none
 | k + 1, x0, x1, x2, x3, x4, x5, x6, x7, x8, x9, x10, x11, x12, x13, x14, x15, x16, x17 => if x0 = 15 then ((interval_computer_truth.f k x2 x3 x4 x5 x6 x7 x8 x9 false x1).bind fun bt526 => (some (bt526.1, bt526.2.1, bt526.2.2.1, bt526.2.2.2.1, bt526.2.2.2.2.1, bt526.2.2.2.2.2.1, bt526.2.2.2.2.2.2.1, bt526.2.2.2.2.2.2.2))) else (if x0 = 16 then ((interval_computer_truth.f k x2 x3 x4 x5 x6 x7 x8 x9 x1 false).bind fun bt534 => (some (bt534.1, bt534.2.1, bt534.2.2.1, bt534.2.2.2.1, bt534.2.2.2.2.1, bt534.2.2.2.2.2.1, bt534.2.2.2.2.2.2.1, bt534.2.2.2.2.2.2.2))) else (if x0 = 17 then ((interval_computer_truth.f k x2 x3 x4 x5 x6 x7 x8 x9 (decide (x11 < x14)) (decide (x10 ≥ x15))).bind fun bt542 => (some (bt542.1, bt542.2.1, bt542.2.2.1, bt542.2.2.2.1, bt542.2.2.2.2.1, bt542.2.2.2.2.2.1, bt542.2.2.2.2.2.2.1, bt542.2.2.2.2.2.2.2))) else (if x0 = 18 then ((interval_computer_truth.f k x2 x3 x4 x5 x6 x7 x8 x9 (decide (x11 ≤ x14)) (decide (x10 > x15))).bind fun bt550 => (some (bt550.1, bt550.2.1, bt550.2.2.1, bt550.2.2.2.1, bt550.2.2.2.2.1, bt550.2.2.2.2.2.1, bt550.2.2.2.2.2.2.1, bt550.2.2.2.2.2.2.2))) else (if x0 = 19 then ((interval_computer_truth.f k x2 x3 x4 x5 x6 x7 x8 x9 (decide (x13 < x16)) (decide (x12 ≥ x17))).bind fun bt558 => (some (bt558.1, bt558.2.1, bt558.2.2.1, bt558.2.2.2.1, bt558.2.2.2.2.1, bt558.2.2.2.2.2.1, bt558.2.2.2.2.2.2.1, bt558.2.2.2.2.2.2.2))) else ((interval_computer_truth.f k x2 x3 x4 x5 x6 x7 x8 x9 (decide (x13 ≤ x16)) (decide (x12 > x17))).bind fun bt566 => (some (bt566.1, bt566.2.1, bt566.2.2.1, bt566.2.2.2.1, bt566.2.2.2.2.1, bt566.2.2.2.2.2.1, bt566.2.2.2.2.2.2.1, bt566.2.2.2.2.2.2.2)))))))
def interval_computer_compare.f (k : Nat) (s0_0 : Int) (s0_1 : Int) (s0_2 : Int) (s0_3 : Int) (s0_4 : Int) (s0_5 : Int) (s0_6 : Int) (s0_7 : Int) (a1 : Int) (a2_0 : Int) (a2_1 : Int) (a2_2 : Int) (a2_3 : Int) (a3_0 : Int) (a3_1 : Int) (a3_2 : Int) (a3_3 : Int) : Option (Int × Int × Int × Int × Int × Int × Int × Int) := if a2_1 < a3_0 then (interval_computer_compare.j0 k a1 true s0_0 s0_1 s0_2 s0_3 s0_4 s0_5 s0_6 s0_7 a2_0 a2_1 a2_2 a2_3 a3_0 a3_1 a3_2 a3_3) else (if a3_1 < a2_0 then (interval_computer_compare.j0 k a1 true s0_0 s0_1 s0_2 s0_3 s0_4 s0_5 s0_6 s0_7 a2_0 a2_1 a2_2 a2_3 a3_0 a3_1 a3_2 a3_3) else (if a2_3 < a3_2 then (interval_computer_compare.j0 k a1 true s0_0 s0_1 s0_2 s0_3 s0_4 s0_5 s0_6 s0_7 a2_0 a2_1 a2_2 a2_3 a3_0 a3_1 a3_2 a3_3) else (interval_computer_compare.j0 k a1 (decide (a3_3 < a2_2)) s0_0 s0_1 s0_2 s0_3 s0_4 s0_5 s0_6 s0_7 a2_0 a2_1 a2_2 a2_3 a3_0 a3_1 a3_2 a3_3)))
theorem interval_computer_compare.mono_l : ∀ k, (∀ y0 y1 y2 y3 y4 y5 y6 y7 y8 y9 y10 y11 y12 y13 y14 y15 y16 y17, LeO (interval_computer_compare.j0 k y0 y1 y2 y3 y4 y5 y6 y7 y8 y9 y10 y11 y12 y13 y14 y15 y16 y17) (interval_computer_compare.j0 (k + 1) y0 y1 y2 y3 y4 y5 y6 y7 y8 y9 y10 y11 y12 y13 y14 y15 y16 y17))
 | 0 => fun _ _ _ _ _ _ _ _ _ _ _ _ _ _ _ _ _ _ r h => by simp [interval_computer_compare.j0] at h
 | k + 1 => by
  have ih0 := interval_computer_compare.mono_l k
  ·
   intro y0 y1 y2 y3 y4 y5 y6 y7 y8 y9 y10 y11 y12 y13 y14 y15 y16 y17
   unfold interval_computer_compare.j0
   repeat' first
   | (with_reducible first | apply ih0 | apply interval_computer_truth.mono | exact LeO.refl _ | exact LeO.none _ | refine LeO.ite ?_ ?_ | refine LeO.bind ?_ (fun _ => ?_))
   | (first | apply ih0 | apply interval_computer_truth.mono | exact LeO.none _ | refine LeO.ite ?_ ?_ | refine LeO.bind ?_ (fun _ => ?_))
theorem interval_computer_compare.mono : ∀ a0 a1 a2 a3 a4 a5 a6 a7 a8 a9 a10 a11 a12 a13 a14 a15 a16 k, LeO (interval_computer_compare.f k a0 a1 a2 a3 a4 a5 a6 a7 a8 a9 a10 a11 a12 a13 a14 a15 a16) (interval_computer_compare.f (k + 1) a0 a1 a2 a3 a4 a5 a6 a7 a8 a9 a10 a11 a12 a13 a14 a15 a16) := by
 intro a0 a1 a2 a3 a4 a5 a6 a7 a8 a9 a10 a11 a12 a13 a14 a15 a16 k
 have ih0 := interval_computer_compare.mono_l k
 unfold interval_computer_compare.f
 repeat' first
   | (with_reducible first | apply ih0 | apply interval_computer_truth.mono | exact LeO.refl _ | exact LeO.none _ | refine LeO.ite ?_ ?_ | refine LeO.bind ?_ (fun _ => ?_))
   | (first | apply ih0 | apply interval_computer_truth.mono | exact LeO.none _ | refine LeO.ite ?_ ?_ | refine LeO.bind ?_ (fun _ => ?_))
/-! ### interval_computer_compute: function 27 -/
mutual
def interval_computer_compute.j0 : Nat → Int → List Int → List (S30) → Int → Bool → Int → Int → Int → Int → Int → Int → Int → Int → Int → Int → Int → Int → Int → Int → Int → Int → Option (Int × Int × Int × Int × Int × Int × Int × Int)
 | 0, _, _, _, _, _, _, _, _, _, _, _, _, _, _, _, _, _, _, _, _, _ => none
 | k + 1, x0, x1, x2, x3, x4, x5, x6, x7, x8, x9, x10, x11, x12, x13, x14, x15, x16, x17, x18, x19, x20 => if x4 = true then ((interval_computer_divide.f k x5 x6 x7 x8 x9 x10 x11 x12 x0 x13 x14 x15 x16 x17 x18 x19 x20).bind fun bt602 => (some (bt602.1, bt602.2.1, bt602.2.2.1, bt602.2.2.2.1, bt602.2.2.2.2.1, bt602.2.2.2.2.2.1, bt602.2.2.2.2.2.2.1, bt602.2.2.2.2.2.2.2))) else (if x3 = 9 then ((interval_computer_u.f x5 x6 x7 x8 x9 x10 x11 x12 0 (mn x14 x18)).bind fun bt610 => (some (bt610.1, bt610.2.1, bt610.2.2.1, bt610.2.2.2.1, bt610.2.2.2.2.1, bt610.2.2.2.2.2.1, bt610.2.2.2.2.2.2.1, bt610.2.2.2.2.2.2.2))) else (if x3 = 10 then ((bits_Len64.f k (Go.bits .or .u64 x14 x18)).bind fun t618 => ((bits_Mask.f t618).bind fun t619 => ((interval_computer_u.f x5 x6 x7 x8 x9 x10 x11 x12 (mx x13 x17) t619).bind fun bt620 => (some (bt620.1, bt620.2.1, bt620.2.2.1, bt620.2.2.2.1, bt620.2.2.2.2.1, bt620.2.2.2.2.2.1, bt620.2.2.2.2.2.2.1, bt620.2.2.2.2.2.2.2))))) else (if x3 = 11 then ((bits_Len64.f k (Go.bits .or .u64 x14 x18)).bind fun t628 => ((bits_Mask.f t628).bind fun t629 => ((interval_computer_u.f x5 x6 x7 x8 x9 x10 x11 x12 0 t629).bind fun bt630 => (some (bt630.1, bt630.2.1, bt630.2.2.1, bt630.2.2.2.1, bt630.2.2.2.2.1, bt630.2.2.2.2.2.1, bt630.2.2.2.2.2.2.1, bt630.2.2.2.2.2.2.2))))) else (if x3 = 12 then (interval_computer_compute.j1 k x0 x1 x2 x3 (x3 == 12) x5 x6 x7 x8 x9 x10 x11 x12 x13 x14 x15 x16 x17 x18 x19 x20) else (if x3 = 13 then (interval_computer_compute.j1 k x0 x1 x2 x3 (x3 == 13) x5 x6 x7 x8 x9 x10 x11 x12 x13 x14 x15 x16 x17 x18 x19 x20) else (interval_computer_compute.j1 k x0 x1 x2 x3 (x3 == 14) x5 x6 x7 x8 x9 x10 x11 x12 x13 x14 x15 x16 x17 x18 x19 x20))))))
def interval_computer_compute.j1 : Nat → Int → List Int → List (S30) → Int → Bool → Int → Int → Int → Int → Int → Int → Int → Int → Int → Int → Int → Int → Int → Int → Int → Int → Option (Int × Int × Int × Int × Int × Int × Int × Int)
 | 0, _, _, _, _, _, _, _, _, _, _, _, _, _, _, _, _, _, _, _, _, _ => none
 | k + 1, x0, x1, x2, x3, x4, x5, x6, x7, x8, x9, x10, x11, x12, x13, x14, x15, x16, x17, x18, x19, x20 => if x4 = true then ((interval_computer_shift.f k x5 x6 x7 x8 x9 x10 x11 x12 x0 x13 x14 x15 x16 x17 x18 x19 x20).bind fun bt638 => (some (bt638.1, bt638.2.1, bt638.2.2.1, bt638.2.2.2.1, bt638.2.2.2.2.1, bt638.2.2.2.2.2.1, bt638.2.2.2.2.2.2.1, bt638.2.2.2.2.2.2.2))) else (if x3 = 21 then (if x13 = x14 then (if x13 = 1 then (some (x5, x6, x7, x8, x17, x18, x19, x20)) else (if 2 < (x2.length : Int) then (some (x5, x6, x7, x8, (rd_T30 x2 2).f0, (rd_T30 x2 2).f1, (rd_T30 x2 2).f2, (rd_T30 x2 2).f3)) else (none))) else (if 2 < (x2.length : Int) then ((interval_Join.f x17 x18 x19 x20 ((rd_T30 x2 2).f0) ((rd_T30 x2 2).f1) ((rd_T30 x2 2).f2) ((rd_T30 x2 2).f3)).bind fun bt648 => (some (x5, x6, x7, x8, bt648.1, bt648.2.1, bt648.2.2.1, bt648.2.2.2))) else (none))) else (if x3 = 22 then (interval_computer_compute.j2 k x0 x1 (x3 == 22) x5 x6 x7 x8 x9 x10 x11 x12 x13 x14 x15 x16 x17 x18 x19 x20) else (if x3 = 23 then (interval_computer_compute.j2 k x0 x1 (x3 == 23) x5 x6 x7 x8 x9 x10 x11 x12 x13 x14 x15 x16 x17 x18 x19 x20) else (interval_computer_compute.j2 k x0 x1 (x3 == 24) x5 x6 x7 x8 x9 x10 x11 x12 x13 x14 x15 x16 x17 x18 x19 x20))))
def interval_computer_compute.j2 : Nat → Int → List Int → Bool → Int → Int → Int → Int → Int → Int → Int → Int → Int → Int → Int → Int → Int → Int → Int → Int → Option (Int × Int × Int × Int × Int × Int × Int × Int)
 | 0, _, _, _, _, _, _, _, _, _, _, _, _, _, _, _, _, _, _, _ => none
 | k + 1, x0, x1, x2, x3, x4, x5, x6, x7, x8, x9, x10, x11, x12, x13, x14, x15, x16, x17, x18 => if x2 = true then (if 0 < (x1.length : Int) then ((interval_computer_convert.f k x3 x4 x5 x6 x7 x8 x9 x10 x0 (rd x1 0) x11 x12 x13 x14).bind fun bt653 => (some (bt653.1, bt653.2.1, bt653.2.2.1, bt653.2.2.2.1, bt653.2.2.2.2.1, bt653.2.2.2.2.2.1, bt653.2.2.2.2.2.2.1, bt653.2.2.2.2.2.2.2))) else (none)) else ((interval_computer_compare.f k x3 x4 x5 x6 x7 x8 x9 x10 x0 x11 x12 x13 x14 x15 x16 x17 x18).bind fun bt661 => (some (bt661.1, bt661.2.1, bt661.2.2.1, bt661.2.2.2.1, bt661.2.2.2.2.1, bt661.2.2.2.2.2.1, bt661.2.2.2.2.2.2.1, bt661.2.2.2.2.2.2.2)))
end
def interval_computer_compute.f (k : Nat) (s0_0 : Int) (s0_1 : Int) (s0_2 : Int) (s0_3 : Int) (s0_4 : Int) (s0_5 : Int) (s0_6 : Int) (s0_7 : Int) (a1 : Int) (l2 : List Int) (l3 : List (S30)) : Option (Int × Int × Int × Int × Int × Int × Int × Int) := if 0 < (l3.length : Int) then (if 0 ≤ (mn 1 (wrap64 ((l3.length : Int) - 1))) then (if (mn 1 (wrap64 ((l3.length : Int) - 1))) < (l3.length : Int) then (if a1 = 2 then ((interval_computer_add.f k s0_0 s0_1 s0_2 s0_3 s0_4 s0_5 s0_6 s0_7 ((rd_T30 l3 0).f0) ((rd_T30 l3 0).f1) ((rd_T30 l3 0).f2) ((rd_T30 l3 0).f3) ((rd_T30 l3 (mn 1 (wrap64 ((l3.length : Int) - 1)))).f0) ((rd_T30 l3 (mn 1 (wrap64 ((l3.length : Int) - 1)))).f1) ((rd_T30 l3 (mn 1 (wrap64 ((l3.length : Int) - 1)))).f2) ((rd_T30 l3 (mn 1 (wrap64 ((l3.length : Int) - 1)))).f3)).bind fun bt578 => (some (bt578.1, bt578.2.1, bt578.2.2.1, bt578.2.2.2.1, bt578.2.2.2.2.1, bt578.2.2.2.2.2.1, bt578.2.2.2.2.2.2.1, bt578.2.2.2.2.2.2.2))) else (if a1 = 3 then ((interval_computer_sub.f k s0_0 s0_1 s0_2 s0_3 s0_4 s0_5 s0_6 s0_7 ((rd_T30 l3 0).f0) ((rd_T30 l3 0).f1) ((rd_T30 l3 0).f2) ((rd_T30 l3 0).f3) ((rd_T30 l3 (mn 1 (wrap64 ((l3.length : Int) - 1)))).f0) ((rd_T30 l3 (mn 1 (wrap64 ((l3.length : Int) - 1)))).f1) ((rd_T30 l3 (mn 1 (wrap64 ((l3.length : Int) - 1)))).f2) ((rd_T30 l3 (mn 1 (wrap64 ((l3.length : Int) - 1)))).f3)).bind fun bt586 => (some (bt586.1, bt586.2.1, bt586.2.2.1, bt586.2.2.2.1, bt586.2.2.2.2.1, bt586.2.2.2.2.2.1, bt586.2.2.2.2.2.2.1, bt586.2.2.2.2.2.2.2))) else (if a1 = 4 then ((interval_computer_mul.f k s0_0 s0_1 s0_2 s0_3 s0_4 s0_5 s0_6 s0_7 ((rd_T30 l3 0).f0) ((rd_T30 l3 0).f1) ((rd_T30 l3 0).f2) ((rd_T30 l3 0).f3) ((rd_T30 l3 (mn 1 (wrap64 ((l3.length : Int) - 1)))).f0) ((rd_T30 l3 (mn 1 (wrap64 ((l3.length : Int) - 1)))).f1) ((rd_T30 l3 (mn 1 (wrap64 ((l3.length : Int) - 1)))).f2) ((rd_T30 l3 (mn 1 (wrap64 ((l3.length : Int) - 1)))).f3)).bind fun bt594 => (some (bt594.1, bt594.2.1, bt594.2.2.1, bt594.2.2.2.1, bt594.2.2.2.2.1, bt594.2.2.2.2.2.1, bt594.2.2.2.2.2.2.1, bt594.2.2.2.2.2.2.2))) else (if a1 = 5 then (interval_computer_compute.j0 k a1 l2 l3 a1 (a1 == 5) s0_0 s0_1 s0_2 s0_3 s0_4 s0_5 s0_6 s0_7 ((rd_T30 l3 0).f0) ((rd_T30 l3 0).f1) ((rd_T30 l3 0).f2) ((rd_T30 l3 0).f3) ((rd_T30 l3 (mn 1 (wrap64 ((l3.length : Int) - 1)))).f0) ((rd_T30 l3 (mn 1 (wrap64 ((l3.length : Int) - 1)))).f1) ((rd_T30 l3 (mn 1 (wrap64 ((l3.length : Int) - 1)))).f2) ((rd_T30 l3 (mn 1 (wrap64 ((l3.length : Int) - 1)))).f3)) else (if a1 = 6 then (interval_computer_compute.j0 k a1 l2 l3 a1 (a1 == 6) s0_0 s0_1 s0_2 s0_3 s0_4 s0_5 s0_6 s0_7 ((rd_T30 l3 0).f0) ((rd_T30 l3 0).f1) ((rd_T30 l3 0).f2) ((rd_T30 l3 0).f3) ((rd_T30 l3 (mn 1 (wrap64 ((l3.length : Int) - 1)))).f0) ((rd_T30 l3 (mn 1 (wrap64 ((l3.length : Int) - 1)))).f1) ((rd_T30 l3 (mn 1 (wrap64 ((l3.length : Int) - 1)))).f2) ((rd_T30 l3 (mn 1 (wrap64 ((l3.length : Int) - 1)))).f3)) else (if a1 = 7 then (interval_computer_compute.j0 k a1 l2 l3 a1 (a1 == 7) s0_0 s0_1 s0_2 s0_3 s0_4 s0_5 s0_6 s0_7 ((rd_T30 l3 0).f0) ((rd_T30 l3 0).f1) ((rd_T30 l3 0).f2) ((rd_T30 l3 0).f3) ((rd_T30 l3 (mn 1 (wrap64 ((l3.length : Int) - 1)))).f0) ((rd_T30 l3 (mn 1 (wrap64 ((l3.length : Int) - 1)))).f1) ((rd_T30 l3 (mn 1 (wrap64 ((l3.length : Int) - 1)))).f2) ((rd_T30 l3 (mn 1 (wrap64 ((l3.length : Int) - 1)))).f3)) else (interval_computer_compute.j0 k a1 l2 l3 a1 (a1 == 8) s0_0 s0_1 s0_2 s0_3 s0_4 s0_5 s0_6 s0_7 ((rd_T30 l3 0).f0) ((rd_T30 l3 0).f1) ((rd_T30 l3 0).f2) ((rd_T30 l3 0).f3) ((rd_T30 l3 (mn 1 (wrap64 ((l3.length : Int) - 1)))).f0) ((rd_T30 l3 (mn 1 (wrap64 ((l3.length : Int) - 1)))).f1) ((rd_T30 l3 (mn 1 (wrap64 ((l3.length : Int) - 1)))).f2) ((rd_T30 l3 (mn 1 (wrap64 ((l3.length : Int) - 1)))).f3)))))))) else (none)) else (none)) else (none)
theorem interval_computer_compute.mono_l : ∀ k, (∀ y0 y1 y2 y3 y4 y5 y6 y7 y8 y9 y10 y11 y12 y13 y14 y15 y16 y17 y18 y19 y20, LeO (interval_computer_compute.j0 k y0 y1 y2 y3 y4 y5 y6 y7 y8 y9 y10 y11 y12 y13 y14 y15 y16 y17 y18 y19 y20) (interval_computer_compute.j0 (k + 1) y0 y1 y2 y3 y4 y5 y6 y7 y8 y9 y10 y11 y12 y13 y14 y15 y16 y17 y18 y19 y20)) ∧ (∀ y0 y1 y2 y3 y4 y5 y6 y7 y8 y9 y10 y11 y12 y13 y14 y15 y16 y17 y18 y19 y20, LeO (interval_computer_compute.j1 k y0 y1 y2 y3 y4 y5 y6 y7 y8 y9 y10 y11 y12 y13 y14 y15 y16 y17 y18 y19 y20) (interval_computer_compute.j1 (k + 1) y0 y1 y2 y3 y4 y5 y6 y7 y8 y9 y10 y11 y12 y13 y14 y15 y16 y17 y18 y19 y20)) ∧ (∀ y0 y1 y2 y3 y4 y5 y6 y7 y8 y9 y10 y11 y12 y13 y14 y15 y16 y17 y18, LeO (interval_computer_compute.j2 k y0 y1 y2 y3 y4 y5 y6 y7 y8 y9 y10 y11 y12 y13 y14 y15 y16 y17 y18) (interval_computer_compute.j2 (k + 1) y0 y1 y2 y3 y4 y5 y6 y7 y8 y9 y10 y11 y12 y13 y14 y15 y16 y17 y18))
 | 0 => ⟨fun _ _ _ _ _ _ _ _ _ _ _ _ _ _ _ _ _ _ _ _ _ r h => by simp [interval_computer_compute.j0] at h, fun _ _ _ _ _ _ _ _ _ _ _ _ _ _ _ _ _ _ _ _ _ r h => by simp [interval_computer_compute.j1] at h, fun _ _ _ _ _ _ _ _ _ _ _ _ _ _ _ _ _ _ _ r h => by simp [interval_computer_compute.j2] at h⟩
 | k + 1 => by
  obtain ⟨ih0, ih1, ih2⟩ := interval_computer_compute.mono_l k
  refine ⟨?_, ?_, ?_⟩
  all_goals
   intros
   first | unfold interval_computer_compute.j0 | unfold interval_computer_compute.j1 | unfold interval_computer_compute.j2
   repeat' first
   | (with_reducible first | apply ih0 | apply ih1 | apply ih2 | apply bits_Len64.mono | apply interval_computer_add.mono | apply interval_computer_compare.mono | apply interval_computer_convert.mono | apply interval_computer_divide.mono | apply interval_computer_mul.mono | apply interval_computer_shift.mono | apply interval_computer_sub.mono | exact LeO.refl _ | exact LeO.none _ | refine LeO.ite ?_ ?_ | refine LeO.bind ?_ (fun _ => ?_))
   | (first | apply ih0 | apply ih1 | apply ih2 | apply bits_Len64.mono | apply interval_computer_add.mono | apply interval_computer_compare.mono | apply interval_computer_convert.mono | apply interval_computer_divide.mono | apply interval_computer_mul.mono | apply interval_computer_shift.mono | apply interval_computer_sub.mono | exact LeO.none _ | refine LeO.ite ?_ ?_ | refine LeO.bind ?_ (fun _ => ?_))
theorem interval_computer_compute.mono : ∀ a0 a1 a2 a3 a4 a5 a6 a7 a8 a9 a10 k, LeO (interval_computer_compute.f k a0 a1 a2 a3 a4 a5 a6 a7 a8 a9 a10) (interval_computer_compute.f (k + 1) a0 a1 a2 a3 a4 a5 a6 a7 a8 a9 a10) := by
 intro a0 a1 a2 a3 a4 a5 a6 a7 a8 a9 a10 k
 obtain ⟨ih0, ih1, ih2⟩ := interval_computer_compute.mono_l k
 unfold interval_computer_compute.f
 repeat' first
   | (with_reducible first | apply ih0 | apply ih1 | apply ih2 | apply bits_Len64.mono | apply interval_computer_add.mono | apply interval_computer_compare.mono | apply interval_computer_convert.mono | apply interval_computer_divide.mono | apply interval_computer_mul.mono | apply interval_computer_shift.mono | apply interval_computer_sub.mono | exact LeO.refl _ | exact LeO.none _ | refine LeO.ite ?_ ?_ | refine LeO.bind ?_ (fun _ => ?_))
   | (first | apply ih0 | apply ih1 | apply ih2 | apply bits_Len64.mono | apply interval_computer_add.mono | apply interval_computer_compare.mono | apply interval_computer_convert.mono | apply interval_computer_divide.mono | apply interval_computer_mul.mono | apply interval_computer_shift.mono | apply interval_computer_sub.mono | exact LeO.none _ | refine LeO.ite ?_ ?_ | refine LeO.bind ?_ (fun _ => ?_))
def interval_computer_compute.T0 : Bool × List (List Nat × List Nat) := (true, [([], []), ([0], [0]), ([1], [1]), ([], []), ([], []), ([4], [4]), ([5], [5]), ([6], [6]), ([3, 7], [3, 7]), ([8], [8]), ([], []), ([], []), ([10, 2, 0, 1, 2, 10, 11], [2, 10]), ([11, 9, 12, 0, 1, 2, 3, 4, 5, 6, 7, 8, 9, 10, 11, 12], [9, 11])])
def interval_computer_compute.B0 : List Nat := [0, 1, 3, 0, 0, 16, 48, 112, 248, 504, 0, 0, 3079, 8191]
def interval_computer_compute.T17 : Bool × List (List Nat × List Nat) := (true, [([], []), ([], []), ([1], [1]), ([], []), ([3], [3]), ([2, 4], [2, 4]), ([], []), ([6], [6]), ([], []), ([8], [8]), ([7, 9], [7, 9]), ([10], [10]), ([11, 11], [11]), ([0, 5, 12, 12], [0, 5, 12])])
def interval_computer_compute.B17 : List Nat := [0, 0, 2, 0, 8, 30, 0, 64, 0, 256, 960, 1984, 4032, 8191]
def interval_computer_compute.T27 : Bool × List (List Nat × List Nat) := (true, [([], []), ([], []), ([], []), ([2], [2]), ([3], [3]), ([1, 4], [1, 4]), ([0, 0, 1, 2, 3, 4, 5], [0]), ([6, 0, 1, 2, 3, 4, 5], [6]), ([7, 5, 5, 0, 1, 2, 3, 4, 5], [5, 7])])
def interval_computer_compute.B27 : List Nat := [0, 0, 0, 4, 12, 30, 63, 127, 255]
/-! ### interval_Apply: function 10 -/
mutual
def interval_Apply.j0 : Nat → Int → Int → List Int → List (S30) → Int → Bool → Option (Int × Int × Int × Int)
 | 0, _, _, _, _, _, _ => none
 | k + 1, x0, x1, x2, x3, x4, x5 => if x5 = true then ((interval_Top.f x1).bind fun bt671 => (some (bt671.1, bt671.2.1, bt671.2.2.1, bt671.2.2.2))) else (if x0 = 1 then ((interval_Of.f x1 x4).bind fun bt675 => (some (bt675.1, bt675.2.1, bt675.2.2.1, bt675.2.2.2))) else (interval_Apply.l0 k x0 x1 x2 true ([] : List (S30)) x3 (x3.length : Int) 0))
def interval_Apply.l0 : Nat → Int → Int → List Int → Bool → List (S30) → List (S30) → Int → Int → Option (Int × Int × Int × Int)
 | 0, _, _, _, _, _, _, _, _ => none
 | k + 1, x0, x1, x2, x3, x4, x5, x6, x7 => if x7 < x6 then (if 0 ≤ x7 then (if x7 < (x5.length : Int) then (if x7 < (x2.length : Int) then ((interval_Tighten.f k (rd x2 x7) ((rd_T30 x5 x7).f0) ((rd_T30 x5 x7).f1) ((rd_T30 x5 x7).f2) ((rd_T30 x5 x7).f3)).bind fun bt682 => (if bt682.2.2.2.2 = true then (if x4.length < 4398046511104 then ((some (x4 ++ [(⟨bt682.1, bt682.2.1, bt682.2.2.1, bt682.2.2.2.1⟩ : S30)] : List (S30))).bind fun y688 => (if x3 = true then (interval_Apply.l0 k x0 x1 x2 (bt682.1 == bt682.2.1) y688 x5 x6 (wrap64 (x7 + 1))) else (interval_Apply.l0 k x0 x1 x2 false y688 x5 x6 (wrap64 (x7 + 1))))) else (none)) else ((interval_Top.f x1).bind fun bt691 => (some (bt691.1, bt691.2.1, bt691.2.2.1, bt691.2.2.2))))) else (none)) else (none)) else (none)) else (if x3 = true then ((interval_value.f k x0 x1 x2 x4).bind fun t695 => ((interval_Of.f x1 t695).bind fun bt696 => (some (bt696.1, bt696.2.1, bt696.2.2.1, bt696.2.2.2)))) else ((interval_ends.f x1).bind fun bt700 => ((bits_Mask.f x1).bind fun t702 => ((interval_Top.f x1).bind fun bt703 => ((interval_computer_compute.f k x1 t702 bt700.1 bt700.2 bt703.1 bt703.2.1 bt703.2.2.1 bt703.2.2.2 x0 x2 x4).bind fun bt708 => ((interval_Tighten.f k x1 bt708.2.2.2.2.1 bt708.2.2.2.2.2.1 bt708.2.2.2.2.2.2.1 bt708.2.2.2.2.2.2.2).bind fun bt716 => (if bt716.2.2.2.2 = true then (some (bt716.1, bt716.2.1, bt716.2.2.1, bt716.2.2.2.1)) else (some (bt703.1, bt703.2.1, bt703.2.2.1, bt703.2.2.2)))))))))
end
def interval_Apply.f (k : Nat) (a0 : Int) (a1 : Int) (l2 : List Int) (l3 : List (S30)) (a4 : Int) : Option (Int × Int × Int × Int) := (interval_shaped.f k a0 a1 l2).bind fun t670 => (if t670 = true then (interval_Apply.j0 k a0 a1 l2 l3 a4 ((l3.length : Int) != (l2.length : Int))) else (interval_Apply.j0 k a0 a1 l2 l3 a4 true))
theorem interval_Apply.mono_l : ∀ k, (∀ y0 y1 y2 y3 y4 y5, LeO (interval_Apply.j0 k y0 y1 y2 y3 y4 y5) (interval_Apply.j0 (k + 1) y0 y1 y2 y3 y4 y5)) ∧ (∀ y0 y1 y2 y3 y4 y5 y6 y7, LeO (interval_Apply.l0 k y0 y1 y2 y3 y4 y5 y6 y7) (interval_Apply.l0 (k + 1) y0 y1 y2 y3 y4 y5 y6 y7))
 | 0 => ⟨fun _ _ _ _ _ _ r h => by simp [interval_Apply.j0] at h, fun _ _ _ _ _ _ _ _ r h => by simp [interval_Apply.l0] at h⟩
 | k + 1 => by
  obtain ⟨ih0, ih1⟩ := interval_Apply.mono_l k
  refine ⟨?_, ?_⟩
  all_goals
   intros
   first | unfold interval_Apply.j0 | unfold interval_Apply.l0
   repeat' first
   | (with_reducible first | apply ih0 | apply ih1 | apply interval_Tighten.mono | apply interval_computer_compute.mono | apply interval_shaped.mono | apply interval_value.mono | exact LeO.refl _ | exact LeO.none _ | refine LeO.ite ?_ ?_ | refine LeO.bind ?_ (fun _ => ?_))
   | (first | apply ih0 | apply ih1 | apply interval_Tighten.mono | apply interval_computer_compute.mono | apply interval_shaped.mono | apply interval_value.mono | exact LeO.none _ | refine LeO.ite ?_ ?_ | refine LeO.bind ?_ (fun _ => ?_))
theorem interval_Apply.mono : ∀ a0 a1 a2 a3 a4 k, LeO (interval_Apply.f k a0 a1 a2 a3 a4) (interval_Apply.f (k + 1) a0 a1 a2 a3 a4) := by
 intro a0 a1 a2 a3 a4 k
 obtain ⟨ih0, ih1⟩ := interval_Apply.mono_l k
 unfold interval_Apply.f
 repeat' first
   | (with_reducible first | apply ih0 | apply ih1 | apply interval_Tighten.mono | apply interval_computer_compute.mono | apply interval_shaped.mono | apply interval_value.mono | exact LeO.refl _ | exact LeO.none _ | refine LeO.ite ?_ ?_ | refine LeO.bind ?_ (fun _ => ?_))
   | (first | apply ih0 | apply ih1 | apply interval_Tighten.mono | apply interval_computer_compute.mono | apply interval_shaped.mono | apply interval_value.mono | exact LeO.none _ | refine LeO.ite ?_ ?_ | refine LeO.bind ?_ (fun _ => ?_))
def interval_Apply.T10 : Bool × List (List Nat × List Nat) := (true, [([], []), ([], []), ([0, 1], [0, 1]), ([2], [2]), ([], []), ([3, 4], [3, 4]), ([5], [5]), ([6], [6]), ([6], [6]), ([], []), ([9, 7, 5, 0, 1, 2, 3, 4, 5, 6, 7, 9], [7, 9]), ([8, 10, 0, 1, 2, 3, 4, 5, 6, 7, 8, 9, 10], [8])])
def interval_Apply.B10 : List Nat := [0, 0, 3, 7, 0, 31, 63, 127, 127, 0, 767, 2047]
/-! ### jacquardref12_Shape: function 12 -/
mutual
def jacquardref12_Shape.j0 : Nat → Int → Int → List Int → Bool → Option (Bool)
 | 0, _, _, _, _ => none
 | k + 1, x0, x1, x2, x3 => if x3 = true then (some false) else (jacquardref12_Shape.l0 k x0 x1 x2 0)
def jacquardref12_Shape.l0 : Nat → Int → Int → List Int → Int → Option (Bool)
 | 0, _, _, _, _ => none
 | k + 1, x0, x1, x2, x3 => if x3 < (x2.length : Int) then (if 0 ≤ x3 then (if (rd x2 x3) < 1 then (some false) else (if (rd x2 x3) > 64 then (some false) else (jacquardref12_Shape.l0 k x0 x1 x2 (wrap64 (x3 + 1))))) else (none)) else (if x0 = 1 then (some ((x2.length : Int) == 0)) else (if x0 ≥ 2 then (jacquardref12_Shape.j2 k x0 x1 x2 (x2.length : Int) (decide (x0 ≤ 14))) else (jacquardref12_Shape.j2 k x0 x1 x2 (x2.length : Int) false)))
def jacquardref12_Shape.j2 : Nat → Int → Int → List Int → Int → Bool → Option (Bool)
 | 0, _, _, _, _, _ => none
 | k + 1, x0, x1, x2, x3, x4 => if x4 = true then (if x3 = 2 then (if 0 < (x2.length : Int) then (if (rd x2 0) = x1 then (if 1 < (x2.length : Int) then (some ((rd x2 1) == x1)) else (none)) else (some false)) else (none)) else (some false)) else (if x0 ≥ 15 then (jacquardref12_Shape.j3 k x0 x1 x2 x3 (decide (x0 ≤ 20))) else (jacquardref12_Shape.j3 k x0 x1 x2 x3 false))
def jacquardref12_Shape.j3 : Nat → Int → Int → List Int → Int → Bool → Option (Bool)
 | 0, _, _, _, _, _ => none
 | k + 1, x0, x1, x2, x3, x4 => if x4 = true then (if x3 = 2 then (if 0 < (x2.length : Int) then (if 1 < (x2.length : Int) then (if (rd x2 0) = (rd x2 1) then (some (x1 == 1)) else (some false)) else (none)) else (none)) else (some false)) else (if x0 = 21 then (if x3 = 3 then (if 0 < (x2.length : Int) then (if (rd x2 0) = 1 then (if 1 < (x2.length : Int) then (if (rd x2 1) = x1 then (if 2 < (x2.length : Int) then (some ((rd x2 2) == x1)) else (none)) else (some false)) else (none)) else (some false)) else (none)) else (some false)) else (if x0 = 22 then (jacquardref12_Shape.j4 k x0 x1 x2 x3 true) else (jacquardref12_Shape.j4 k x0 x1 x2 x3 (x0 == 23))))
def jacquardref12_Shape.j4 : Nat → Int → Int → List Int → Int → Bool → Option (Bool)
 | 0, _, _, _, _, _ => none
 | k + 1, x0, x1, x2, x3, x4 => if x4 = true then (if x3 = 1 then (if 0 < (x2.length : Int) then (some (decide ((rd x2 0) ≤ x1))) else (none)) else (some false)) else (if x0 = 24 then (if x3 = 1 then (if 0 < (x2.length : Int) then (some (decide ((rd x2 0) ≥ x1))) else (none)) else (some false)) else (some false))
end
def jacquardref12_Shape.f (k : Nat) (a0 : Int) (a1 : Int) (l2 : List Int) : Option (Bool) := if a1 < 1 then (jacquardref12_Shape.j0 k a0 a1 l2 true) else (jacquardref12_Shape.j0 k a0 a1 l2 (decide (a1 > 64)))
theorem jacquardref12_Shape.mono_l : ∀ k, (∀ y0 y1 y2 y3, LeO (jacquardref12_Shape.j0 k y0 y1 y2 y3) (jacquardref12_Shape.j0 (k + 1) y0 y1 y2 y3)) ∧ (∀ y0 y1 y2 y3, LeO (jacquardref12_Shape.l0 k y0 y1 y2 y3) (jacquardref12_Shape.l0 (k + 1) y0 y1 y2 y3)) ∧ (∀ y0 y1 y2 y3 y4, LeO (jacquardref12_Shape.j2 k y0 y1 y2 y3 y4) (jacquardref12_Shape.j2 (k + 1) y0 y1 y2 y3 y4)) ∧ (∀ y0 y1 y2 y3 y4, LeO (jacquardref12_Shape.j3 k y0 y1 y2 y3 y4) (jacquardref12_Shape.j3 (k + 1) y0 y1 y2 y3 y4)) ∧ (∀ y0 y1 y2 y3 y4, LeO (jacquardref12_Shape.j4 k y0 y1 y2 y3 y4) (jacquardref12_Shape.j4 (k + 1) y0 y1 y2 y3 y4))
 | 0 => ⟨fun _ _ _ _ r h => by simp [jacquardref12_Shape.j0] at h, fun _ _ _ _ r h => by simp [jacquardref12_Shape.l0] at h, fun _ _ _ _ _ r h => by simp [jacquardref12_Shape.j2] at h, fun _ _ _ _ _ r h => by simp [jacquardref12_Shape.j3] at h, fun _ _ _ _ _ r h => by simp [jacquardref12_Shape.j4] at h⟩
 | k + 1 => by
  obtain ⟨ih0, ih1, ih2, ih3, ih4⟩ := jacquardref12_Shape.mono_l k
  refine ⟨?_, ?_, ?_, ?_, ?_⟩
  all_goals
   intros
   first | unfold jacquardref12_Shape.j0 | unfold jacquardref12_Shape.l0 | unfold jacquardref12_Shape.j2 | unfold jacquardref12_Shape.j3 | unfold jacquardref12_Shape.j4
   repeat' first
   | (with_reducible first | apply ih0 | apply ih1 | apply ih2 | apply ih3 | apply ih4 | exact LeO.refl _ | exact LeO.none _ | refine LeO.ite ?_ ?_ | refine LeO.bind ?_ (fun _ => ?_))
   | (first | apply ih0 | apply ih1 | apply ih2 | apply ih3 | apply ih4 | exact LeO.none _ | refine LeO.ite ?_ ?_ | refine LeO.bind ?_ (fun _ => ?_))
theorem jacquardref12_Shape.mono : ∀ a0 a1 a2 k, LeO (jacquardref12_Shape.f k a0 a1 a2) (jacquardref12_Shape.f (k + 1) a0 a1 a2) := by
 intro a0 a1 a2 k
 obtain ⟨ih0, ih1, ih2, ih3, ih4⟩ := jacquardref12_Shape.mono_l k
 unfold jacquardref12_Shape.f
 repeat' first
   | (with_reducible first | apply ih0 | apply ih1 | apply ih2 | apply ih3 | apply ih4 | exact LeO.refl _ | exact LeO.none _ | refine LeO.ite ?_ ?_ | refine LeO.bind ?_ (fun _ => ?_))
   | (first | apply ih0 | apply ih1 | apply ih2 | apply ih3 | apply ih4 | exact LeO.none _ | refine LeO.ite ?_ ?_ | refine LeO.bind ?_ (fun _ => ?_))
/-! ### jacquardref12_Mask: function 13 -/
def jacquardref12_Mask.l0 : Nat → Int → Int → Int → Option (Int)
 | 0, _, _, _ => none
 | k + 1, x0, x1, x2 => if x2 < x0 then (jacquardref12_Mask.l0 k x0 (IntKind.u64.wrap ((IntKind.u64.wrap (x1 * 2)) + 1)) (wrap64 (x2 + 1))) else (some x1)
def jacquardref12_Mask.f (k : Nat) (a0 : Int) : Option (Int) := jacquardref12_Mask.l0 k a0 0 0
theorem jacquardref12_Mask.mono_l : ∀ k, (∀ y0 y1 y2, LeO (jacquardref12_Mask.l0 k y0 y1 y2) (jacquardref12_Mask.l0 (k + 1) y0 y1 y2))
 | 0 => fun _ _ _ r h => by simp [jacquardref12_Mask.l0] at h
 | k + 1 => by
  have ih0 := jacquardref12_Mask.mono_l k
  ·
   intro y0 y1 y2
   unfold jacquardref12_Mask.l0
   repeat' first
   | (with_reducible first | apply ih0 | exact LeO.refl _ | exact LeO.none _ | refine LeO.ite ?_ ?_ | refine LeO.bind ?_ (fun _ => ?_))
   | (first | apply ih0 | exact LeO.none _ | refine LeO.ite ?_ ?_ | refine LeO.bind ?_ (fun _ => ?_))
theorem jacquardref12_Mask.mono : ∀ a0 k, LeO (jacquardref12_Mask.f k a0) (jacquardref12_Mask.f (k + 1) a0) := by
 intro a0 k
 have ih0 := jacquardref12_Mask.mono_l k
 unfold jacquardref12_Mask.f
 repeat' first
   | (with_reducible first | apply ih0 | exact LeO.refl _ | exact LeO.none _ | refine LeO.ite ?_ ?_ | refine LeO.bind ?_ (fun _ => ?_))
   | (first | apply ih0 | exact LeO.none _ | refine LeO.ite ?_ ?_ | refine LeO.bind ?_ (fun _ => ?_))
/-! ### jacquardref12_Bit: function 41 -/
def jacquardref12_Bit.f (a0 : Int) (a1 : Int) : Option (Int) := if 0 ≤ a1 then (some (wrap64 (Go.bits .and .u64 (shr .u64 a0 a1) 1))) else (none)
/-! ### jacquardref12_Signed: function 43 -/
def jacquardref12_Signed.f (k : Nat) (a0 : Int) (a1 : Int) : Option (Int) := (jacquardref12_Bit.f a1 (wrap64 (a0 - 1))).bind fun t733 => (if t733 = 1 then ((jacquardref12_Mask.f k a0).bind fun t734 => (some (wrap64 (Go.bits .or .u64 a1 (Go.bits .xor .u64 18446744073709551615 t734))))) else (some (wrap64 (a1))))
theorem jacquardref12_Signed.mono : ∀ a0 a1 k, LeO (jacquardref12_Signed.f k a0 a1) (jacquardref12_Signed.f (k + 1) a0 a1) := by
 intro a0 a1 k
 unfold jacquardref12_Signed.f
 repeat' first
   | (with_reducible first | apply jacquardref12_Mask.mono | exact LeO.refl _ | exact LeO.none _ | refine LeO.ite ?_ ?_ | refine LeO.bind ?_ (fun _ => ?_))
   | (first | apply jacquardref12_Mask.mono | exact LeO.none _ | refine LeO.ite ?_ ?_ | refine LeO.bind ?_ (fun _ => ?_))
/-! ### jacquardref12_divide: function 39 -/
def jacquardref12_divide.f (k : Nat) (a0 : Int) (a1 : Int) (a2 : Int) : Option (Int × Int) := (jacquardref12_Signed.f k a0 a1).bind fun t735 => ((jacquardref12_Signed.f k a0 a2).bind fun t736 => (if t736 = 0 then ((jacquardref12_Mask.f k a0).bind fun t737 => (some (t737, a1))) else (if t736 = (-1) then ((jacquardref12_Mask.f k a0).bind fun t738 => (some (Go.bits .and .u64 (IntKind.u64.wrap (-a1)) t738, 0))) else ((jacquardref12_Mask.f k a0).bind fun t739 => (some (Go.bits .and .u64 (IntKind.u64.wrap (wrap64 (Int.tdiv t735 t736))) t739, Go.bits .and .u64 (IntKind.u64.wrap (Int.tmod t735 t736)) t739))))))
theorem jacquardref12_divide.mono : ∀ a0 a1 a2 k, LeO (jacquardref12_divide.f k a0 a1 a2) (jacquardref12_divide.f (k + 1) a0 a1 a2) := by
 intro a0 a1 a2 k
 unfold jacquardref12_divide.f
 repeat' first
   | (with_reducible first | apply jacquardref12_Mask.mono | apply jacquardref12_Signed.mono | exact LeO.refl _ | exact LeO.none _ | refine LeO.ite ?_ ?_ | refine LeO.bind ?_ (fun _ => ?_))
   | (first | apply jacquardref12_Mask.mono | apply jacquardref12_Signed.mono | exact LeO.none _ | refine LeO.ite ?_ ?_ | refine LeO.bind ?_ (fun _ => ?_))
/-! ### jacquardref12_shift: function 40 -/
def jacquardref12_shift.l0 : Nat → Int → Int → Int → Int → Int → Int → Option (Int)
 | 0, _, _, _, _, _, _ => none
 | k + 1, x0, x1, x2, x3, x4, x5 => if x5 < x0 then (if x2 < (IntKind.u64.wrap (x0)) then (if (wrap64 (x5 + (wrap64 (x2)))) < x0 then ((jacquardref12_Bit.f x1 (wrap64 (x5 + (wrap64 (x2))))).bind fun t740 => (if 0 ≤ x5 then (jacquardref12_shift.l0 k x0 x1 x2 x3 (Go.bits .or .u64 x4 (shl .u64 (IntKind.u64.wrap (t740)) x5)) (wrap64 (x5 + 1))) else (none))) else (if 0 ≤ x5 then (jacquardref12_shift.l0 k x0 x1 x2 x3 (Go.bits .or .u64 x4 (shl .u64 (IntKind.u64.wrap (x3)) x5)) (wrap64 (x5 + 1))) else (none))) else (if 0 ≤ x5 then (jacquardref12_shift.l0 k x0 x1 x2 x3 (Go.bits .or .u64 x4 (shl .u64 (IntKind.u64.wrap (x3)) x5)) (wrap64 (x5 + 1))) else (none))) else (some x4)
def jacquardref12_shift.f (k : Nat) (a0 : Int) (a1 : Int) (a2 : Int) (a3 : Int) : Option (Int) := jacquardref12_shift.l0 k a0 a1 a2 a3 0 0
theorem jacquardref12_shift.mono_l : ∀ k, (∀ y0 y1 y2 y3 y4 y5, LeO (jacquardref12_shift.l0 k y0 y1 y2 y3 y4 y5) (jacquardref12_shift.l0 (k + 1) y0 y1 y2 y3 y4 y5))
 | 0 => fun _ _ _ _ _ _ r h => by simp [jacquardref12_shift.l0] at h
 | k + 1 => by
  have ih0 := jacquardref12_shift.mono_l k
  ·
   intro y0 y1 y2 y3 y4 y5
   unfold jacquardref12_shift.l0
   repeat' first
   | (with_reducible first | apply ih0 | exact LeO.refl _ | exact LeO.none _ | refine LeO.ite ?_ ?_ | refine LeO.bind ?_ (fun _ => ?_))
   | (first | apply ih0 | exact LeO.none _ | refine LeO.ite ?_ ?_ | refine LeO.bind ?_ (fun _ => ?_))
theorem jacquardref12_shift.mono : ∀ a0 a1 a2 a3 k, LeO (jacquardref12_shift.f k a0 a1 a2 a3) (jacquardref12_shift.f (k + 1) a0 a1 a2 a3) := by
 intro a0 a1 a2 a3 k
 have ih0 := jacquardref12_shift.mono_l k
 unfold jacquardref12_shift.f
 repeat' first
   | (with_reducible first | apply ih0 | exact LeO.refl _ | exact LeO.none _ | refine LeO.ite ?_ ?_ | refine LeO.bind ?_ (fun _ => ?_))
   | (first | apply ih0 | exact LeO.none _ | refine LeO.ite ?_ ?_ | refine LeO.bind ?_ (fun _ => ?_))
/-! ### jacquardref12_truth: function 42 -/
def jacquardref12_truth.f (a0 : Bool) : Option (Int) := if a0 = true then (some 1) else (some 0)
/-! ### jacquardref12_Eval: function 15 -/
def jacquardref12_Eval.j0 : Nat → Int → Int → List Int → List Int → Int → Int → Option (Int)
 | 0, _, _, _, _, _, _ => none
 | k + 1, x0, x1, x2, x3, x4, x5 => if x0 = 2 then ((jacquardref12_Mask.f k x1).bind fun t744 => (some (Go.bits .and .u64 (IntKind.u64.wrap (x4 + x5)) t744))) else (if x0 = 3 then ((jacquardref12_Mask.f k x1).bind fun t745 => (some (Go.bits .and .u64 (IntKind.u64.wrap (x4 - x5)) t745))) else (if x0 = 4 then ((jacquardref12_Mask.f k x1).bind fun t746 => (some (Go.bits .and .u64 (IntKind.u64.wrap (x4 * x5)) t746))) else (if x0 = 5 then (if x5 = 0 then ((jacquardref12_Mask.f k x1).bind fun t747 => (some t747)) else (some (IntKind.u64.wrap (Int.tdiv x4 x5)))) else (if x0 = 6 then (if x5 = 0 then (some x4) else (some (Int.tmod x4 x5))) else (if x0 = 7 then ((jacquardref12_divide.f k x1 x4 x5).bind fun bt748 => (some bt748.1)) else (if x0 = 8 then ((jacquardref12_divide.f k x1 x4 x5).bind fun bt750 => (some bt750.2)) else (if x0 = 9 then (some (Go.bits .and .u64 x4 x5)) else (if x0 = 10 then (some (Go.bits .or .u64 x4 x5)) else (if x0 = 11 then (some (Go.bits .xor .u64 x4 x5)) else (if x0 = 12 then (if x5 ≥ (IntKind.u64.wrap (x1)) then (some 0) else (if 0 ≤ x5 then ((jacquardref12_Mask.f k x1).bind fun t752 => (some (Go.bits .and .u64 (shl .u64 x4 x5) t752))) else (none))) else (if x0 = 13 then ((jacquardref12_shift.f k x1 x4 x5 0).bind fun t753 => (some t753)) else (if x0 = 14 then ((jacquardref12_Bit.f x4 (wrap64 (x1 - 1))).bind fun t754 => ((jacquardref12_shift.f k x1 x4 x5 t754).bind fun t755 => (some t755))) else (if x0 = 15 then ((jacquardref12_truth.f (x4 == x5)).bind fun t756 => (some t756)) else (if x0 = 16 then ((jacquardref12_truth.f (x4 != x5)).bind fun t757 => (some t757)) else (if x0 = 17 then ((jacquardref12_truth.f (decide (x4 < x5))).bind fun t758 => (some t758)) else (if x0 = 18 then ((jacquardref12_truth.f (decide (x4 ≤ x5))).bind fun t759 => (some t759)) else (if x0 = 19 then (if 0 < (x2.length : Int) then ((jacquardref12_Signed.f k (rd x2 0) x4).bind fun t761 => (if 1 < (x2.length : Int) then ((jacquardref12_Signed.f k (rd x2 1) x5).bind fun t763 => ((jacquardref12_truth.f (decide (t761 < t763))).bind fun t764 => (some t764))) else (none))) else (none)) else (if x0 = 20 then (if 0 < (x2.length : Int) then ((jacquardref12_Signed.f k (rd x2 0) x4).bind fun t766 => (if 1 < (x2.length : Int) then ((jacquardref12_Signed.f k (rd x2 1) x5).bind fun t768 => ((jacquardref12_truth.f (decide (t766 ≤ t768))).bind fun t769 => (some t769))) else (none))) else (none)) else (if x0 = 21 then (if x4 = 1 then (some x5) else (if 2 < (x3.length : Int) then (some (rd x3 2)) else (none))) else (if x0 = 23 then (if 0 < (x2.length : Int) then ((jacquardref12_Signed.f k (rd x2 0) x4).bind fun t772 => ((jacquardref12_Mask.f k x1).bind fun t773 => (some (Go.bits .and .u64 (IntKind.u64.wrap (t772)) t773)))) else (none)) else ((jacquardref12_Mask.f k x1).bind fun t774 => (some (Go.bits .and .u64 x4 t774)))))))))))))))))))))))
def jacquardref12_Eval.f (k : Nat) (a0 : Int) (a1 : Int) (l2 : List Int) (l3 : List Int) (a4 : Int) : Option (Int) := if a0 = 1 then ((jacquardref12_Mask.f k a1).bind fun t741 => (some (Go.bits .and .u64 a4 t741))) else (if 0 < (l3.length : Int) then (if (l3.length : Int) > 1 then (if 1 < (l3.length : Int) then (jacquardref12_Eval.j0 k a0 a1 l2 l3 (rd l3 0) (rd l3 1)) else (none)) else (jacquardref12_Eval.j0 k a0 a1 l2 l3 (rd l3 0) 0)) else (none))
theorem jacquardref12_Eval.mono_l : ∀ k, (∀ y0 y1 y2 y3 y4 y5, LeO (jacquardref12_Eval.j0 k y0 y1 y2 y3 y4 y5) (jacquardref12_Eval.j0 (k + 1) y0 y1 y2 y3 y4 y5))
 | 0 => fun _ _ _ _ _ _ r h => by simp [jacquardref12_Eval.j0] at h
 | k + 1 => by
  have ih0 := jacquardref12_Eval.mono_l k
  ·
   intro y0 y1 y2 y3 y4 y5
   unfold jacquardref12_Eval.j0
   repeat' first
   | (with_reducible first | apply ih0 | apply jacquardref12_Mask.mono | apply jacquardref12_Signed.mono | apply jacquardref12_divide.mono | apply jacquardref12_shift.mono | exact LeO.refl _ | exact LeO.none _ | refine LeO.ite ?_ ?_ | refine LeO.bind ?_ (fun _ => ?_))
   | (first | apply ih0 | apply jacquardref12_Mask.mono | apply jacquardref12_Signed.mono | apply jacquardref12_divide.mono | apply jacquardref12_shift.mono | exact LeO.none _ | refine LeO.ite ?_ ?_ | refine LeO.bind ?_ (fun _ => ?_))
theorem jacquardref12_Eval.mono : ∀ a0 a1 a2 a3 a4 k, LeO (jacquardref12_Eval.f k a0 a1 a2 a3 a4) (jacquardref12_Eval.f (k + 1) a0 a1 a2 a3 a4) := by
 intro a0 a1 a2 a3 a4 k
 have ih0 := jacquardref12_Eval.mono_l k
 unfold jacquardref12_Eval.f
 repeat' first
   | (with_reducible first | apply ih0 | apply jacquardref12_Mask.mono | apply jacquardref12_Signed.mono | apply jacquardref12_divide.mono | apply jacquardref12_shift.mono | exact LeO.refl _ | exact LeO.none _ | refine LeO.ite ?_ ?_ | refine LeO.bind ?_ (fun _ => ?_))
   | (first | apply ih0 | apply jacquardref12_Mask.mono | apply jacquardref12_Signed.mono | apply jacquardref12_divide.mono | apply jacquardref12_shift.mono | exact LeO.none _ | refine LeO.ite ?_ ?_ | refine LeO.bind ?_ (fun _ => ?_))
/-! ### jacquardref13_Umax: function 45 -/
def jacquardref13_Umax.f (k : Nat) (a0 : Int) : Option (Int) := (jacquardref12_Mask.f k a0).bind fun t775 => (some t775)
theorem jacquardref13_Umax.mono : ∀ a0 k, LeO (jacquardref13_Umax.f k a0) (jacquardref13_Umax.f (k + 1) a0) := by
 intro a0 k
 unfold jacquardref13_Umax.f
 repeat' first
   | (with_reducible first | apply jacquardref12_Mask.mono | exact LeO.refl _ | exact LeO.none _ | refine LeO.ite ?_ ?_ | refine LeO.bind ?_ (fun _ => ?_))
   | (first | apply jacquardref12_Mask.mono | exact LeO.none _ | refine LeO.ite ?_ ?_ | refine LeO.bind ?_ (fun _ => ?_))
/-! ### jacquardref13_Smax: function 63 -/
def jacquardref13_Smax.f (k : Nat) (a0 : Int) : Option (Int) := (jacquardref13_Umax.f k a0).bind fun t776 => (some (wrap64 (t776 / 2)))
theorem jacquardref13_Smax.mono : ∀ a0 k, LeO (jacquardref13_Smax.f k a0) (jacquardref13_Smax.f (k + 1) a0) := by
 intro a0 k
 unfold jacquardref13_Smax.f
 repeat' first
   | (with_reducible first | apply jacquardref13_Umax.mono | exact LeO.refl _ | exact LeO.none _ | refine LeO.ite ?_ ?_ | refine LeO.bind ?_ (fun _ => ?_))
   | (first | apply jacquardref13_Umax.mono | exact LeO.none _ | refine LeO.ite ?_ ?_ | refine LeO.bind ?_ (fun _ => ?_))
/-! ### jacquardref13_Smin: function 62 -/
def jacquardref13_Smin.f (k : Nat) (a0 : Int) : Option (Int) := (jacquardref13_Smax.f k a0).bind fun t777 => (some (wrap64 ((wrap64 (-t777)) - 1)))
theorem jacquardref13_Smin.mono : ∀ a0 k, LeO (jacquardref13_Smin.f k a0) (jacquardref13_Smin.f (k + 1) a0) := by
 intro a0 k
 unfold jacquardref13_Smin.f
 repeat' first
   | (with_reducible first | apply jacquardref13_Smax.mono | exact LeO.refl _ | exact LeO.none _ | refine LeO.ite ?_ ?_ | refine LeO.bind ?_ (fun _ => ?_))
   | (first | apply jacquardref13_Smax.mono | exact LeO.none _ | refine LeO.ite ?_ ?_ | refine LeO.bind ?_ (fun _ => ?_))
/-! ### jacquardref13_Top: function 28 -/
def jacquardref13_Top.j0 : Nat → Int → Bool → Option (Int × Int × Int × Int)
 | 0, _, _ => none
 | k + 1, x0, x1 => if x1 = true then (some (0, 0, 0, 0)) else ((jacquardref13_Umax.f k x0).bind fun t779 => ((jacquardref13_Smin.f k x0).bind fun t780 => ((jacquardref13_Smax.f k x0).bind fun t781 => (some (0, t779, t780, t781)))))
def jacquardref13_Top.f (k : Nat) (a0 : Int) : Option (Int × Int × Int × Int) := if a0 < 1 then (jacquardref13_Top.j0 k a0 true) else (jacquardref13_Top.j0 k a0 (decide (a0 > 64)))
theorem jacquardref13_Top.mono_l : ∀ k, (∀ y0 y1, LeO (jacquardref13_Top.j0 k y0 y1) (jacquardref13_Top.j0 (k + 1) y0 y1))
 | 0 => fun _ _ r h => by simp [jacquardref13_Top.j0] at h
 | k + 1 => by
  have ih0 := jacquardref13_Top.mono_l k
  ·
   intro y0 y1
   unfold jacquardref13_Top.j0
   repeat' first
   | (with_reducible first | apply ih0 | apply jacquardref13_Smax.mono | apply jacquardref13_Smin.mono | apply jacquardref13_Umax.mono | exact LeO.refl _ | exact LeO.none _ | refine LeO.ite ?_ ?_ | refine LeO.bind ?_ (fun _ => ?_))
   | (first | apply ih0 | apply jacquardref13_Smax.mono | apply jacquardref13_Smin.mono | apply jacquardref13_Umax.mono | exact LeO.none _ | refine LeO.ite ?_ ?_ | refine LeO.bind ?_ (fun _ => ?_))
theorem jacquardref13_Top.mono : ∀ a0 k, LeO (jacquardref13_Top.f k a0) (jacquardref13_Top.f (k + 1) a0) := by
 intro a0 k
 have ih0 := jacquardref13_Top.mono_l k
 unfold jacquardref13_Top.f
 repeat' first
   | (with_reducible first | apply ih0 | apply jacquardref13_Smax.mono | apply jacquardref13_Smin.mono | apply jacquardref13_Umax.mono | exact LeO.refl _ | exact LeO.none _ | refine LeO.ite ?_ ?_ | refine LeO.bind ?_ (fun _ => ?_))
   | (first | apply ih0 | apply jacquardref13_Smax.mono | apply jacquardref13_Smin.mono | apply jacquardref13_Umax.mono | exact LeO.none _ | refine LeO.ite ?_ ?_ | refine LeO.bind ?_ (fun _ => ?_))
/-! ### jacquardref13_Valid: function 44 -/
def jacquardref13_Valid.f (k : Nat) (a0 : Int) (a1_0 : Int) (a1_1 : Int) (a1_2 : Int) (a1_3 : Int) : Option (Bool) := if a0 ≥ 1 then (if a0 ≤ 64 then (if a1_0 ≤ a1_1 then ((jacquardref13_Umax.f k a0).bind fun t783 => (if a1_1 ≤ t783 then ((jacquardref13_Smin.f k a0).bind fun t784 => (if t784 ≤ a1_2 then (if a1_2 ≤ a1_3 then ((jacquardref13_Smax.f k a0).bind fun t785 => (some (decide (a1_3 ≤ t785)))) else (some false)) else (some false))) else (some false))) else (some false)) else (some false)) else (some false)
theorem jacquardref13_Valid.mono : ∀ a0 a1 a2 a3 a4 k, LeO (jacquardref13_Valid.f k a0 a1 a2 a3 a4) (jacquardref13_Valid.f (k + 1) a0 a1 a2 a3 a4) := by
 intro a0 a1 a2 a3 a4 k
 unfold jacquardref13_Valid.f
 repeat' first
   | (with_reducible first | apply jacquardref13_Smax.mono | apply jacquardref13_Smin.mono | apply jacquardref13_Umax.mono | exact LeO.refl _ | exact LeO.none _ | refine LeO.ite ?_ ?_ | refine LeO.bind ?_ (fun _ => ?_))
   | (first | apply jacquardref13_Smax.mono | apply jacquardref13_Smin.mono | apply jacquardref13_Umax.mono | exact LeO.none _ | refine LeO.ite ?_ ?_ | refine LeO.bind ?_ (fun _ => ?_))
def jacquardref13_Valid.T1 : Bool × List (List Nat × List Nat) := (true, [([], []), ([0], [0]), ([1], [1]), ([2], [2]), ([3, 2], [2, 3]), ([2, 4], [2, 4]), ([5, 2], [5]), ([6], [6]), ([7, 6], [6, 7]), ([6], [6]), ([9, 6], [6, 9]), ([8, 10, 6], [6, 8, 10]), ([6, 11], [6, 11]), ([12, 6], [12]), ([13], [13]), ([14, 13], [13, 14]), ([13], [13]), ([16, 13, 13], [13, 16]), ([15, 17, 13], [13, 15, 17]), ([13, 18], [13, 18]), ([19, 17], [19]), ([20], [20]), ([21, 20, 20], [20, 21]), ([20], [20]), ([23, 20], [20, 23]), ([22, 24, 20], [20, 22, 24]), ([20, 25], [20, 25]), ([26, 22], [26]), ([27], [27]), ([28, 27], [27, 28]), ([27], [27]), ([30, 27], [27, 30]), ([29, 31, 27], [27, 29, 31]), ([27, 32], [27, 32]), ([33, 27], [33]), ([34], [34]), ([35, 34], [34, 35]), ([34], [34]), ([37, 34, 34], [34, 37]), ([36, 38, 34], [34, 36, 38]), ([34, 39], [34, 39]), ([40, 38, 0, 1, 2, 3, 4, 5, 6, 7, 8, 9, 10, 11, 12, 13, 14, 15, 16, 17, 18, 19, 20, 21, 22, 23, 24, 25, 26, 27, 28, 29, 30, 31, 32, 33, 34, 35, 36, 37, 38, 39, 40], [40])])
def jacquardref13_Valid.B1 : List Nat := [0, 1, 3, 7, 15, 31, 63, 127, 255, 127, 639, 2047, 4095, 8191, 16383, 32767, 16383, 81919, 262143, 524287, 1048575, 2097151, 4194303, 2097151, 10485759, 33554431, 67108863, 134217727, 268435455, 536870911, 268435455, 1342177279, 4294967295, 8589934591, 17179869183, 34359738367, 68719476735, 34359738367, 171798691839, 549755813887, 1099511627775, 2199023255551]
/-! ### jacquardref13_same: function 64 -/
def jacquardref13_same.f (k : Nat) (a0 : Int) (a1 : Int) (a2 : Int) : Option (Int × Int × Int × Int × Bool) := if a1 > a2 then (some (0, 0, 0, 0, false)) else ((jacquardref12_Signed.f k a0 a1).bind fun t787 => ((jacquardref12_Signed.f k a0 a2).bind fun t788 => (some (a1, a2, t787, t788, true))))
theorem jacquardref13_same.mono : ∀ a0 a1 a2 k, LeO (jacquardref13_same.f k a0 a1 a2) (jacquardref13_same.f (k + 1) a0 a1 a2) := by
 intro a0 a1 a2 k
 unfold jacquardref13_same.f
 repeat' first
   | (with_reducible first | apply jacquardref12_Signed.mono | exact LeO.refl _ | exact LeO.none _ | refine LeO.ite ?_ ?_ | refine LeO.bind ?_ (fun _ => ?_))
   | (first | apply jacquardref12_Signed.mono | exact LeO.none _ | refine LeO.ite ?_ ?_ | refine LeO.bind ?_ (fun _ => ?_))
/-! ### jacquardref13_Tighten: function 29 -/
mutual
def jacquardref13_Tighten.j0 : Nat → Int → Int → Bool → Int → Int → Int → Int → Option (Int × Int × Int × Int × Bool)
 | 0, _, _, _, _, _, _, _ => none
 | k + 1, x0, x1, x2, x3, x4, x5, x6 => if x2 = true then (if x6 < 0 then (some (0, 0, 0, 0, false)) else (if x5 > 0 then ((jacquardref13_same.f k x0 (mx x3 (IntKind.u64.wrap (x5))) (mn x4 (IntKind.u64.wrap (x6)))).bind fun bt793 => (some (bt793.1, bt793.2.1, bt793.2.2.1, bt793.2.2.2.1, bt793.2.2.2.2))) else ((jacquardref13_same.f k x0 x3 (mn x4 (IntKind.u64.wrap (x6)))).bind fun bt798 => (some (bt798.1, bt798.2.1, bt798.2.2.1, bt798.2.2.2.1, bt798.2.2.2.2))))) else (if x3 > x1 then (jacquardref13_Tighten.j1 k x0 x1 true x3 x4 x5 x6) else (jacquardref13_Tighten.j1 k x0 x1 (decide (x6 < 0)) x3 x4 x5 x6))
def jacquardref13_Tighten.j1 : Nat → Int → Int → Bool → Int → Int → Int → Int → Option (Int × Int × Int × Int × Bool)
 | 0, _, _, _, _, _, _, _ => none
 | k + 1, x0, x1, x2, x3, x4, x5, x6 => if x2 = true then ((jacquardref13_Umax.f k x0).bind fun t803 => (if x6 < 0 then ((jacquardref13_same.f k x0 (mx (mx x3 (IntKind.u64.wrap (x1 + 1))) (Go.bits .and .u64 (IntKind.u64.wrap (x5)) t803)) (mn x4 (Go.bits .and .u64 (IntKind.u64.wrap (x6)) t803))).bind fun bt804 => (some (bt804.1, bt804.2.1, bt804.2.2.1, bt804.2.2.2.1, bt804.2.2.2.2))) else ((jacquardref13_same.f k x0 (mx (mx x3 (IntKind.u64.wrap (x1 + 1))) (Go.bits .and .u64 (IntKind.u64.wrap (x5)) t803)) x4).bind fun bt809 => (some (bt809.1, bt809.2.1, bt809.2.2.1, bt809.2.2.2.1, bt809.2.2.2.2))))) else (some (x3, x4, x5, x6, true))
end
def jacquardref13_Tighten.f (k : Nat) (a0 : Int) (a1_0 : Int) (a1_1 : Int) (a1_2 : Int) (a1_3 : Int) : Option (Int × Int × Int × Int × Bool) := (jacquardref13_Valid.f k a0 a1_0 a1_1 a1_2 a1_3).bind fun t791 => (if t791 = true then ((jacquardref13_Smax.f k a0).bind fun t792 => (if a1_1 ≤ (IntKind.u64.wrap (t792)) then (jacquardref13_Tighten.j0 k a0 (IntKind.u64.wrap (t792)) true a1_0 a1_1 a1_2 a1_3) else (jacquardref13_Tighten.j0 k a0 (IntKind.u64.wrap (t792)) (decide (a1_2 ≥ 0)) a1_0 a1_1 a1_2 a1_3))) else (some (0, 0, 0, 0, false)))
theorem jacquardref13_Tighten.mono_l : ∀ k, (∀ y0 y1 y2 y3 y4 y5 y6, LeO (jacquardref13_Tighten.j0 k y0 y1 y2 y3 y4 y5 y6) (jacquardref13_Tighten.j0 (k + 1) y0 y1 y2 y3 y4 y5 y6)) ∧ (∀ y0 y1 y2 y3 y4 y5 y6, LeO (jacquardref13_Tighten.j1 k y0 y1 y2 y3 y4 y5 y6) (jacquardref13_Tighten.j1 (k + 1) y0 y1 y2 y3 y4 y5 y6))
 | 0 => ⟨fun _ _ _ _ _ _ _ r h => by simp [jacquardref13_Tighten.j0] at h, fun _ _ _ _ _ _ _ r h => by simp [jacquardref13_Tighten.j1] at h⟩
 | k + 1 => by
  obtain ⟨ih0, ih1⟩ := jacquardref13_Tighten.mono_l k
  refine ⟨?_, ?_⟩
  all_goals
   intros
   first | unfold jacquardref13_Tighten.j0 | unfold jacquardref13_Tighten.j1
   repeat' first
   | (with_reducible first | apply ih0 | apply ih1 | apply jacquardref13_Smax.mono | apply jacquardref13_Umax.mono | apply jacquardref13_Valid.mono | apply jacquardref13_same.mono | exact LeO.refl _ | exact LeO.none _ | refine LeO.ite ?_ ?_ | refine LeO.bind ?_ (fun _ => ?_))
   | (first | apply ih0 | apply ih1 | apply jacquardref13_Smax.mono | apply jacquardref13_Umax.mono | apply jacquardref13_Valid.mono | apply jacquardref13_same.mono | exact LeO.none _ | refine LeO.ite ?_ ?_ | refine LeO.bind ?_ (fun _ => ?_))
theorem jacquardref13_Tighten.mono : ∀ a0 a1 a2 a3 a4 k, LeO (jacquardref13_Tighten.f k a0 a1 a2 a3 a4) (jacquardref13_Tighten.f (k + 1) a0 a1 a2 a3 a4) := by
 intro a0 a1 a2 a3 a4 k
 obtain ⟨ih0, ih1⟩ := jacquardref13_Tighten.mono_l k
 unfold jacquardref13_Tighten.f
 repeat' first
   | (with_reducible first | apply ih0 | apply ih1 | apply jacquardref13_Smax.mono | apply jacquardref13_Umax.mono | apply jacquardref13_Valid.mono | apply jacquardref13_same.mono | exact LeO.refl _ | exact LeO.none _ | refine LeO.ite ?_ ?_ | refine LeO.bind ?_ (fun _ => ?_))
   | (first | apply ih0 | apply ih1 | apply jacquardref13_Smax.mono | apply jacquardref13_Umax.mono | apply jacquardref13_Valid.mono | apply jacquardref13_same.mono | exact LeO.none _ | refine LeO.ite ?_ ?_ | refine LeO.bind ?_ (fun _ => ?_))
/-! ### jacquardref13_Of: function 30 -/
def jacquardref13_Of.j0 : Nat → Int → Int → Bool → Option (Int × Int × Int × Int)
 | 0, _, _, _ => none
 | k + 1, x0, x1, x2 => if x2 = true then (some (0, 0, 0, 0)) else ((jacquardref13_Umax.f k x0).bind fun t815 => ((jacquardref12_Signed.f k x0 (Go.bits .and .u64 x1 t815)).bind fun t816 => (some (Go.bits .and .u64 x1 t815, Go.bits .and .u64 x1 t815, t816, t816))))
def jacquardref13_Of.f (k : Nat) (a0 : Int) (a1 : Int) : Option (Int × Int × Int × Int) := if a0 < 1 then (jacquardref13_Of.j0 k a0 a1 true) else (jacquardref13_Of.j0 k a0 a1 (decide (a0 > 64)))
theorem jacquardref13_Of.mono_l : ∀ k, (∀ y0 y1 y2, LeO (jacquardref13_Of.j0 k y0 y1 y2) (jacquardref13_Of.j0 (k + 1) y0 y1 y2))
 | 0 => fun _ _ _ r h => by simp [jacquardref13_Of.j0] at h
 | k + 1 => by
  have ih0 := jacquardref13_Of.mono_l k
  ·
   intro y0 y1 y2
   unfold jacquardref13_Of.j0
   repeat' first
   | (with_reducible first | apply ih0 | apply jacquardref12_Signed.mono | apply jacquardref13_Umax.mono | exact LeO.refl _ | exact LeO.none _ | refine LeO.ite ?_ ?_ | refine LeO.bind ?_ (fun _ => ?_))
   | (first | apply ih0 | apply jacquardref12_Signed.mono | apply jacquardref13_Umax.mono | exact LeO.none _ | refine LeO.ite ?_ ?_ | refine LeO.bind ?_ (fun _ => ?_))
theorem jacquardref13_Of.mono : ∀ a0 a1 k, LeO (jacquardref13_Of.f k a0 a1) (jacquardref13_Of.f (k + 1) a0 a1) := by
 intro a0 a1 k
 have ih0 := jacquardref13_Of.mono_l k
 unfold jacquardref13_Of.f
 repeat' first
   | (with_reducible first | apply ih0 | apply jacquardref12_Signed.mono | apply jacquardref13_Umax.mono | exact LeO.refl _ | exact LeO.none _ | refine LeO.ite ?_ ?_ | refine LeO.bind ?_ (fun _ => ?_))
   | (first | apply ih0 | apply jacquardref12_Signed.mono | apply jacquardref13_Umax.mono | exact LeO.none _ | refine LeO.ite ?_ ?_ | refine LeO.bind ?_ (fun _ => ?_))
/-! ### jacquardref13_decided: function 65 -/
def jacquardref13_decided.f (k : Nat) (a0 : Bool) (a1 : Bool) : Option (Int × Int × Int × Int) := if a0 = true then ((jacquardref13_Of.f k 1 1).bind fun bt818 => (some (bt818.1, bt818.2.1, bt818.2.2.1, bt818.2.2.2))) else (if a1 = true then ((jacquardref13_Of.f k 1 0).bind fun bt822 => (some (bt822.1, bt822.2.1, bt822.2.2.1, bt822.2.2.2))) else ((jacquardref13_Top.f k 1).bind fun bt826 => (some (bt826.1, bt826.2.1, bt826.2.2.1, bt826.2.2.2))))
theorem jacquardref13_decided.mono : ∀ a0 a1 k, LeO (jacquardref13_decided.f k a0 a1) (jacquardref13_decided.f (k + 1) a0 a1) := by
 intro a0 a1 k
 unfold jacquardref13_decided.f
 repeat' first
   | (with_reducible first | apply jacquardref13_Of.mono | apply jacquardref13_Top.mono | exact LeO.refl _ | exact LeO.none _ | refine LeO.ite ?_ ?_ | refine LeO.bind ?_ (fun _ => ?_))
   | (first | apply jacquardref13_Of.mono | apply jacquardref13_Top.mono | exact LeO.none _ | refine LeO.ite ?_ ?_ | refine LeO.bind ?_ (fun _ => ?_))
/-! ### jacquardref13_compare: function 31 -/
def jacquardref13_compare.j0 : Nat → Int → Bool → Int → Int → Int → Int → Int → Int → Int → Int → Option (Int × Int × Int × Int)
 | 0, _, _, _, _, _, _, _, _, _, _ => none
 | k + 1, x0, x1, x2, x3, x4, x5, x6, x7, x8, x9 => if x0 = 15 then ((jacquardref13_decided.f k false x1).bind fun bt833 => (some (bt833.1, bt833.2.1, bt833.2.2.1, bt833.2.2.2))) else (if x0 = 16 then ((jacquardref13_decided.f k x1 false).bind fun bt837 => (some (bt837.1, bt837.2.1, bt837.2.2.1, bt837.2.2.2))) else (if x0 = 17 then ((jacquardref13_decided.f k (decide (x3 < x6)) (decide (x2 ≥ x7))).bind fun bt841 => (some (bt841.1, bt841.2.1, bt841.2.2.1, bt841.2.2.2))) else (if x0 = 18 then ((jacquardref13_decided.f k (decide (x3 ≤ x6)) (decide (x2 > x7))).bind fun bt845 => (some (bt845.1, bt845.2.1, bt845.2.2.1, bt845.2.2.2))) else (if x0 = 19 then ((jacquardref13_decided.f k (decide (x5 < x8)) (decide (x4 ≥ x9))).bind fun bt849 => (some (bt849.1, bt849.2.1, bt849.2.2.1, bt849.2.2.2))) else ((jacquardref13_decided.f k (decide (x5 ≤ x8)) (decide (x4 > x9))).bind fun bt853 => (some (bt853.1, bt853.2.1, bt853.2.2.1, bt853.2.2.2)))))))
def jacquardref13_compare.f (k : Nat) (a0 : Int) (a1_0 : Int) (a1_1 : Int) (a1_2 : Int) (a1_3 : Int) (a2_0 : Int) (a2_1 : Int) (a2_2 : Int) (a2_3 : Int) : Option (Int × Int × Int × Int) := if a1_1 < a2_0 then (jacquardref13_compare.j0 k a0 true a1_0 a1_1 a1_2 a1_3 a2_0 a2_1 a2_2 a2_3) else (if a2_1 < a1_0 then (jacquardref13_compare.j0 k a0 true a1_0 a1_1 a1_2 a1_3 a2_0 a2_1 a2_2 a2_3) else (if a1_3 < a2_2 then (jacquardref13_compare.j0 k a0 true a1_0 a1_1 a1_2 a1_3 a2_0 a2_1 a2_2 a2_3) else (jacquardref13_compare.j0 k a0 (decide (a2_3 < a1_2)) a1_0 a1_1 a1_2 a1_3 a2_0 a2_1 a2_2 a2_3)))
theorem jacquardref13_compare.mono_l : ∀ k, (∀ y0 y1 y2 y3 y4 y5 y6 y7 y8 y9, LeO (jacquardref13_compare.j0 k y0 y1 y2 y3 y4 y5 y6 y7 y8 y9) (jacquardref13_compare.j0 (k + 1) y0 y1 y2 y3 y4 y5 y6 y7 y8 y9))
 | 0 => fun _ _ _ _ _ _ _ _ _ _ r h => by simp [jacquardref13_compare.j0] at h
 | k + 1 => by
  have ih0 := jacquardref13_compare.mono_l k
  ·
   intro y0 y1 y2 y3 y4 y5 y6 y7 y8 y9
   unfold jacquardref13_compare.j0
   repeat' first
   | (with_reducible first | apply ih0 | apply jacquardref13_decided.mono | exact LeO.refl _ | exact LeO.none _ | refine LeO.ite ?_ ?_ | refine LeO.bind ?_ (fun _ => ?_))
   | (first | apply ih0 | apply jacquardref13_decided.mono | exact LeO.none _ | refine LeO.ite ?_ ?_ | refine LeO.bind ?_ (fun _ => ?_))
theorem jacquardref13_compare.mono : ∀ a0 a1 a2 a3 a4 a5 a6 a7 a8 k, LeO (jacquardref13_compare.f k a0 a1 a2 a3 a4 a5 a6 a7 a8) (jacquardref13_compare.f (k + 1) a0 a1 a2 a3 a4 a5 a6 a7 a8) := by
 intro a0 a1 a2 a3 a4 a5 a6 a7 a8 k
 have ih0 := jacquardref13_compare.mono_l k
 unfold jacquardref13_compare.f
 repeat' first
   | (with_reducible first | apply ih0 | apply jacquardref13_decided.mono | exact LeO.refl _ | exact LeO.none _ | refine LeO.ite ?_ ?_ | refine LeO.bind ?_ (fun _ => ?_))
   | (first | apply ih0 | apply jacquardref13_decided.mono | exact LeO.none _ | refine LeO.ite ?_ ?_ | refine LeO.bind ?_ (fun _ => ?_))
/-! ### jacquardref13_Join: function 32 -/
def jacquardref13_Join.f (a0_0 : Int) (a0_1 : Int) (a0_2 : Int) (a0_3 : Int) (a1_0 : Int) (a1_1 : Int) (a1_2 : Int) (a1_3 : Int) : Option (Int × Int × Int × Int) := some (mn a0_0 a1_0, mx a0_1 a1_1, mn a0_2 a1_2, mx a0_3 a1_3)
/-! ### jacquardref13_cast: function 33 -/
def jacquardref13_cast.j0 : Nat → Int → Int → Int → Int → Int → Int → Int → Int → Int → Option (Int × Int × Int × Int)
 | 0, _, _, _, _, _, _, _, _, _ => none
 | k + 1, x0, x1, x2, x3, x4, x5, x6, x7, x8 => (jacquardref13_Smin.f k x0).bind fun t868 => (if x3 ≥ t868 then ((jacquardref13_Smax.f k x0).bind fun t869 => (if x4 ≤ t869 then (some (x5, x6, x3, x4)) else (some (x5, x6, x7, x8)))) else (some (x5, x6, x7, x8)))
def jacquardref13_cast.f (k : Nat) (a0 : Int) (a1 : Int) (a2 : Int) (a3_0 : Int) (a3_1 : Int) (a3_2 : Int) (a3_3 : Int) : Option (Int × Int × Int × Int) := (jacquardref13_Top.f k a1).bind fun bt862 => (if a1 = a2 then (some (a3_0, a3_1, a3_2, a3_3)) else (if a0 = 22 then (some (a3_0, a3_1, wrap64 (a3_0), wrap64 (a3_1))) else (if a0 = 23 then (some (bt862.1, bt862.2.1, a3_2, a3_3)) else ((jacquardref13_Umax.f k a1).bind fun t867 => (if a3_1 ≤ t867 then (jacquardref13_cast.j0 k a1 a3_0 a3_1 a3_2 a3_3 a3_0 a3_1 bt862.2.2.1 bt862.2.2.2) else (jacquardref13_cast.j0 k a1 a3_0 a3_1 a3_2 a3_3 bt862.1 bt862.2.1 bt862.2.2.1 bt862.2.2.2))))))
theorem jacquardref13_cast.mono_l : ∀ k, (∀ y0 y1 y2 y3 y4 y5 y6 y7 y8, LeO (jacquardref13_cast.j0 k y0 y1 y2 y3 y4 y5 y6 y7 y8) (jacquardref13_cast.j0 (k + 1) y0 y1 y2 y3 y4 y5 y6 y7 y8))
 | 0 => fun _ _ _ _ _ _ _ _ _ r h => by simp [jacquardref13_cast.j0] at h
 | k + 1 => by
  have ih0 := jacquardref13_cast.mono_l k
  ·
   intro y0 y1 y2 y3 y4 y5 y6 y7 y8
   unfold jacquardref13_cast.j0
   repeat' first
   | (with_reducible first | apply ih0 | apply jacquardref13_Smax.mono | apply jacquardref13_Smin.mono | apply jacquardref13_Top.mono | apply jacquardref13_Umax.mono | exact LeO.refl _ | exact LeO.none _ | refine LeO.ite ?_ ?_ | refine LeO.bind ?_ (fun _ => ?_))
   | (first | apply ih0 | apply jacquardref13_Smax.mono | apply jacquardref13_Smin.mono | apply jacquardref13_Top.mono | apply jacquardref13_Umax.mono | exact LeO.none _ | refine LeO.ite ?_ ?_ | refine LeO.bind ?_ (fun _ => ?_))
theorem jacquardref13_cast.mono : ∀ a0 a1 a2 a3 a4 a5 a6 k, LeO (jacquardref13_cast.f k a0 a1 a2 a3 a4 a5 a6) (jacquardref13_cast.f (k + 1) a0 a1 a2 a3 a4 a5 a6) := by
 intro a0 a1 a2 a3 a4 a5 a6 k
 have ih0 := jacquardref13_cast.mono_l k
 unfold jacquardref13_cast.f
 repeat' first
   | (with_reducible first | apply ih0 | apply jacquardref13_Smax.mono | apply jacquardref13_Smin.mono | apply jacquardref13_Top.mono | apply jacquardref13_Umax.mono | exact LeO.refl _ | exact LeO.none _ | refine LeO.ite ?_ ?_ | refine LeO.bind ?_ (fun _ => ?_))
   | (first | apply ih0 | apply jacquardref13_Smax.mono | apply jacquardref13_Smin.mono | apply jacquardref13_Top.mono | apply jacquardref13_Umax.mono | exact LeO.none _ | refine LeO.ite ?_ ?_ | refine LeO.bind ?_ (fun _ => ?_))
/-! ### jacquardref13_product: function 66 -/
def jacquardref13_product.f (a0 : Int) (a1 : Int) (a2 : Int) : Option (Int × Bool) := if a0 = 0 then (some (0, true)) else (if a1 = 0 then (some (0, true)) else (some (IntKind.u64.wrap (a0 * a1), decide (a1 ≤ (IntKind.u64.wrap (Int.tdiv a2 a0))))))
/-! ### jacquardref13_ones: function 67 -/
def jacquardref13_ones.l0 : Nat → Int → Int → Option (Int)
 | 0, _, _ => none
 | k + 1, x0, x1 => if x1 < x0 then (jacquardref13_ones.l0 k x0 (IntKind.u64.wrap ((IntKind.u64.wrap (x1 * 2)) + 1))) else (some x1)
def jacquardref13_ones.f (k : Nat) (a0 : Int) : Option (Int) := jacquardref13_ones.l0 k a0 0
theorem jacquardref13_ones.mono_l : ∀ k, (∀ y0 y1, LeO (jacquardref13_ones.l0 k y0 y1) (jacquardref13_ones.l0 (k + 1) y0 y1))
 | 0 => fun _ _ r h => by simp [jacquardref13_ones.l0] at h
 | k + 1 => by
  have ih0 := jacquardref13_ones.mono_l k
  ·
   intro y0 y1
   unfold jacquardref13_ones.l0
   repeat' first
   | (with_reducible first | apply ih0 | exact LeO.refl _ | exact LeO.none _ | refine LeO.ite ?_ ?_ | refine LeO.bind ?_ (fun _ => ?_))
   | (first | apply ih0 | exact LeO.none _ | refine LeO.ite ?_ ?_ | refine LeO.bind ?_ (fun _ => ?_))
theorem jacquardref13_ones.mono : ∀ a0 k, LeO (jacquardref13_ones.f k a0) (jacquardref13_ones.f (k + 1) a0) := by
 intro a0 k
 have ih0 := jacquardref13_ones.mono_l k
 unfold jacquardref13_ones.f
 repeat' first
   | (with_reducible first | apply ih0 | exact LeO.refl _ | exact LeO.none _ | refine LeO.ite ?_ ?_ | refine LeO.bind ?_ (fun _ => ?_))
   | (first | apply ih0 | exact LeO.none _ | refine LeO.ite ?_ ?_ | refine LeO.bind ?_ (fun _ => ?_))
/-! ### jacquardref13_unsigned: function 34 -/
mutual
def jacquardref13_unsigned.j0 : Nat → Bool → Int → Int → Int → Int → Int → Int → Int → Int → Option (Int × Int)
 | 0, _, _, _, _, _, _, _, _, _ => none
 | k + 1, x0, x1, x2, x3, x4, x5, x6, x7, x8 => if x0 = true then (some (x1, x2)) else (if x5 ≥ 1 then (some (0, mn x2 (IntKind.u64.wrap (x6 - 1)))) else (some (0, x2)))
def jacquardref13_unsigned.j1 : Nat → Int → Bool → Int → Int → Int → Int → Int → Int → Int → Int → Option (Int × Int)
 | 0, _, _, _, _, _, _, _, _, _, _ => none
 | k + 1, x0, x1, x2, x3, x4, x5, x6, x7, x8, x9 => if x1 = true then (some (0, 0)) else (if x6 = x7 then (if 0 ≤ x6 then (if x3 ≤ (shr .u64 x0 x6) then (some (shl .u64 x2 x6, shl .u64 x3 x6)) else (some (0, x0))) else (none)) else (some (0, x0)))
end
def jacquardref13_unsigned.f (k : Nat) (a0 : Int) (a1 : Int) (a2_0 : Int) (a2_1 : Int) (a2_2 : Int) (a2_3 : Int) (a3_0 : Int) (a3_1 : Int) (a3_2 : Int) (a3_3 : Int) : Option (Int × Int) := (jacquardref13_Umax.f k a1).bind fun t872 => (if a0 = 2 then (if a2_1 ≤ (IntKind.u64.wrap (t872 - a3_1)) then (some (IntKind.u64.wrap (a2_0 + a3_0), IntKind.u64.wrap (a2_1 + a3_1))) else (if a2_0 > (IntKind.u64.wrap (t872 - a3_0)) then (some (Go.bits .and .u64 (IntKind.u64.wrap (a2_0 + a3_0)) t872, Go.bits .and .u64 (IntKind.u64.wrap (a2_1 + a3_1)) t872)) else (some (0, t872)))) else (if a0 = 3 then (if a2_0 ≥ a3_1 then (some (Go.bits .and .u64 (IntKind.u64.wrap (a2_0 - a3_1)) t872, Go.bits .and .u64 (IntKind.u64.wrap (a2_1 - a3_0)) t872)) else (if a2_1 < a3_0 then (some (Go.bits .and .u64 (IntKind.u64.wrap (a2_0 - a3_1)) t872, Go.bits .and .u64 (IntKind.u64.wrap (a2_1 - a3_0)) t872)) else (some (0, t872)))) else (if a0 = 4 then ((jacquardref13_product.f a2_1 a3_1 t872).bind fun bt873 => (if bt873.2 = true then (some (IntKind.u64.wrap (a2_0 * a3_0), bt873.1)) else (some (0, t872)))) else (if a0 = 5 then (if a3_0 ≥ 1 then (if a3_1 = 0 then (none) else (if a3_0 = 0 then (none) else (some (IntKind.u64.wrap (Int.tdiv a2_0 a3_1), IntKind.u64.wrap (Int.tdiv a2_1 a3_0))))) else (some (0, t872))) else (if a0 = 6 then (if a3_0 ≥ 1 then (jacquardref13_unsigned.j0 k (decide (a2_1 < a3_0)) a2_0 a2_1 a2_2 a2_3 a3_0 a3_1 a3_2 a3_3) else (jacquardref13_unsigned.j0 k false a2_0 a2_1 a2_2 a2_3 a3_0 a3_1 a3_2 a3_3)) else (if a0 = 9 then (some (0, mn a2_1 a3_1)) else (if a0 = 10 then ((jacquardref13_ones.f k (mx a2_1 a3_1)).bind fun t875 => (some (mx a2_0 a3_0, t875))) else (if a0 = 11 then ((jacquardref13_ones.f k (mx a2_1 a3_1)).bind fun t876 => (some (0, t876))) else (if a0 = 12 then (if a3_0 = a3_1 then (jacquardref13_unsigned.j1 k t872 (decide (a3_0 ≥ (IntKind.u64.wrap (a1)))) a2_0 a2_1 a2_2 a2_3 a3_0 a3_1 a3_2 a3_3) else (jacquardref13_unsigned.j1 k t872 false a2_0 a2_1 a2_2 a2_3 a3_0 a3_1 a3_2 a3_3)) else (if a0 = 13 then ((some (([a1, a1] : List Int) : List Int)).bind fun y877 => ((jacquardref12_Eval.f k a0 a1 y877 (([a2_0, a3_1] : List Int)) 0).bind fun t883 => ((jacquardref12_Eval.f k a0 a1 y877 (([a2_1, a3_0] : List Int)) 0).bind fun t887 => (some (t883, t887))))) else (some (0, t872))))))))))))
theorem jacquardref13_unsigned.mono_l : ∀ k, (∀ y0 y1 y2 y3 y4 y5 y6 y7 y8, LeO (jacquardref13_unsigned.j0 k y0 y1 y2 y3 y4 y5 y6 y7 y8) (jacquardref13_unsigned.j0 (k + 1) y0 y1 y2 y3 y4 y5 y6 y7 y8)) ∧ (∀ y0 y1 y2 y3 y4 y5 y6 y7 y8 y9, LeO (jacquardref13_unsigned.j1 k y0 y1 y2 y3 y4 y5 y6 y7 y8 y9) (jacquardref13_unsigned.j1 (k + 1) y0 y1 y2 y3 y4 y5 y6 y7 y8 y9))
 | 0 => ⟨fun _ _ _ _ _ _ _ _ _ r h => by simp [jacquardref13_unsigned.j0] at h, fun _ _ _ _ _ _ _ _ _ _ r h => by simp [jacquardref13_unsigned.j1] at h⟩
 | k + 1 => by
  obtain ⟨ih0, ih1⟩ := jacquardref13_unsigned.mono_l k
  refine ⟨?_, ?_⟩
  all_goals
   intros
   first | unfold jacquardref13_unsigned.j0 | unfold jacquardref13_unsigned.j1
   repeat' first
   | (with_reducible first | apply ih0 | apply ih1 | apply jacquardref12_Eval.mono | apply jacquardref13_Umax.mono | apply jacquardref13_ones.mono | exact LeO.refl _ | exact LeO.none _ | refine LeO.ite ?_ ?_ | refine LeO.bind ?_ (fun _ => ?_))
   | (first | apply ih0 | apply ih1 | apply jacquardref12_Eval.mono | apply jacquardref13_Umax.mono | apply jacquardref13_ones.mono | exact LeO.none _ | refine LeO.ite ?_ ?_ | refine LeO.bind ?_ (fun _ => ?_))
theorem jacquardref13_unsigned.mono : ∀ a0 a1 a2 a3 a4 a5 a6 a7 a8 a9 k, LeO (jacquardref13_unsigned.f k a0 a1 a2 a3 a4 a5 a6 a7 a8 a9) (jacquardref13_unsigned.f (k + 1) a0 a1 a2 a3 a4 a5 a6 a7 a8 a9) := by
 intro a0 a1 a2 a3 a4 a5 a6 a7 a8 a9 k
 obtain ⟨ih0, ih1⟩ := jacquardref13_unsigned.mono_l k
 unfold jacquardref13_unsigned.f
 repeat' first
   | (with_reducible first | apply ih0 | apply ih1 | apply jacquardref12_Eval.mono | apply jacquardref13_Umax.mono | apply jacquardref13_ones.mono | exact LeO.refl _ | exact LeO.none _ | refine LeO.ite ?_ ?_ | refine LeO.bind ?_ (fun _ => ?_))
   | (first | apply ih0 | apply ih1 | apply jacquardref12_Eval.mono | apply jacquardref13_Umax.mono | apply jacquardref13_ones.mono | exact LeO.none _ | refine LeO.ite ?_ ?_ | refine LeO.bind ?_ (fun _ => ?_))
def jacquardref13_unsigned.T5 : Bool × List (List Nat × List Nat) := (true, [([], []), ([0], [0]), ([], []), ([2], [2]), ([1, 3], [1, 3]), ([], []), ([5], [5]), ([], []), ([7], [7]), ([6, 8], [6, 8]), ([4, 0, 1, 2, 3, 4], [4]), ([9, 10, 0, 1, 2, 3, 4, 5, 6, 7, 8, 9, 10], [9])])
def jacquardref13_unsigned.B5 : List Nat := [0, 1, 0, 4, 15, 0, 32, 0, 128, 480, 31, 2047]
def jacquardref13_unsigned.T7 : Bool × List (List Nat × List Nat) := (true, [([], []), ([0], [0]), ([], []), ([2], [2]), ([1, 3], [1, 3]), ([], []), ([4, 5], [4, 5]), ([], []), ([7], [7]), ([], []), ([9], [9]), ([8, 10], [8, 10]), ([], []), ([11, 12], [11, 12]), ([6, 0, 1, 2, 3, 4, 5, 6], [6]), ([13, 14, 0, 1, 2, 3, 4, 5, 6, 7, 8, 9, 10, 11, 12, 13, 14], [13])])
def jacquardref13_unsigned.B7 : List Nat := [0, 1, 0, 4, 15, 0, 63, 0, 128, 0, 512, 1920, 0, 8064, 127, 32767]
def jacquardref13_unsigned.T10 : Bool × List (List Nat × List Nat) := (true, [([], []), ([0], [0]), ([], []), ([2], [2]), ([1, 3], [1, 3]), ([], []), ([4, 5], [4, 5]), ([], []), ([7], [7]), ([], []), ([9], [9]), ([8, 10], [8, 10]), ([], []), ([11, 12], [11, 12]), ([6, 0, 1, 2, 3, 4, 5, 6], [6]), ([13, 14, 0, 1, 2, 3, 4, 5, 6, 7, 8, 9, 10, 11, 12, 13, 14], [13])])
def jacquardref13_unsigned.B10 : List Nat := [0, 1, 0, 4, 15, 0, 63, 0, 128, 0, 512, 1920, 0, 8064, 127, 32767]
def jacquardref13_unsigned.T17 : Bool × List (List Nat × List Nat) := (true, [([], []), ([0], [0]), ([], []), ([2], [2]), ([1, 3], [1, 3]), ([], []), ([5], [5]), ([], []), ([7], [7]), ([6, 8], [6, 8]), ([4, 0, 1, 2, 3, 4], [4]), ([9, 10, 0, 1, 2, 3, 4, 5, 6, 7, 8, 9, 10], [9])])
def jacquardref13_unsigned.B17 : List Nat := [0, 1, 0, 4, 15, 0, 32, 0, 128, 480, 31, 2047]
def jacquardref13_unsigned.T22 : Bool × List (List Nat × List Nat) := (true, [([], []), ([0], [0]), ([], []), ([2], [2]), ([3], [3]), ([1, 4], [1, 4]), ([], []), ([5, 6, 0, 1, 2, 3, 4, 5, 6], [5])])
def jacquardref13_unsigned.B22 : List Nat := [0, 1, 0, 4, 12, 31, 0, 127]
def jacquardref13_unsigned.T27 : Bool × List (List Nat × List Nat) := (true, [([], []), ([0], [0]), ([], []), ([2], [2]), ([1, 3], [1, 3]), ([], []), ([5], [5]), ([], []), ([7], [7]), ([6, 8], [6, 8]), ([9], [9]), ([4, 10, 0, 1, 2, 3, 4], [4]), ([10, 11, 0, 1, 2, 3, 4, 5, 6, 7, 8, 9, 10, 11], [10])])
def jacquardref13_unsigned.B27 : List Nat := [0, 1, 0, 4, 15, 0, 32, 0, 128, 480, 992, 2047, 4095]
def jacquardref13_unsigned.T34 : Bool × List (List Nat × List Nat) := (true, [([], []), ([0], [0]), ([], []), ([2], [2]), ([1, 3], [1, 3]), ([], []), ([5], [5]), ([], []), ([7], [7]), ([6, 8], [6, 8]), ([4, 0, 1, 2, 3, 4], [4]), ([9, 10, 0, 1, 2, 3, 4, 5, 6, 7, 8, 9, 10], [9])])
def jacquardref13_unsigned.B34 : List Nat := [0, 1, 0, 4, 15, 0, 32, 0, 128, 480, 31, 2047]
def jacquardref13_unsigned.T37 : Bool × List (List Nat × List Nat) := (true, [([], []), ([], []), ([], []), ([], []), ([3], [3]), ([], []), ([5], [5]), ([4, 6], [4, 6]), ([0, 1, 2, 7], [0, 1, 2, 7]), ([], []), ([], []), ([], []), ([], []), ([12], [12]), ([], []), ([14], [14]), ([13, 15], [13, 15]), ([9, 10, 11, 16, 8], [9, 10, 11, 16]), ([8, 17, 0, 1, 2, 3, 4, 5, 6, 7, 8], [8]), ([17, 18, 0, 1, 2, 3, 4, 5, 6, 7, 8, 9, 10, 11, 12, 13, 14, 15, 16, 17, 18], [17])])
def jacquardref13_unsigned.B37 : List Nat := [0, 0, 0, 0, 8, 0, 32, 120, 255, 0, 0, 0, 0, 4096, 0, 16384, 61440, 131071, 262143, 524287]
/-! ### jacquardref13_plus: function 68 -/
def jacquardref13_plus.j0 : Nat → Int → Int → Bool → Option (Int × Bool)
 | 0, _, _, _ => none
 | k + 1, x0, x1, x2 => if x2 = true then (some (0, false)) else ((jacquardref13_Smin.f k x0).bind fun t888 => (if x1 ≥ t888 then ((jacquardref13_Smax.f k x0).bind fun t889 => (some (x1, decide (x1 ≤ t889)))) else (some (x1, false))))
def jacquardref13_plus.f (k : Nat) (a0 : Int) (a1 : Int) (a2 : Int) : Option (Int × Bool) := if a1 ≥ 0 then (if a2 ≥ 0 then (if (wrap64 (a1 + a2)) < 0 then (jacquardref13_plus.j0 k a0 (wrap64 (a1 + a2)) true) else (if a1 < 0 then (if a2 < 0 then (jacquardref13_plus.j0 k a0 (wrap64 (a1 + a2)) (decide ((wrap64 (a1 + a2)) ≥ 0))) else (jacquardref13_plus.j0 k a0 (wrap64 (a1 + a2)) false)) else (jacquardref13_plus.j0 k a0 (wrap64 (a1 + a2)) false))) else (if a1 < 0 then (if a2 < 0 then (jacquardref13_plus.j0 k a0 (wrap64 (a1 + a2)) (decide ((wrap64 (a1 + a2)) ≥ 0))) else (jacquardref13_plus.j0 k a0 (wrap64 (a1 + a2)) false)) else (jacquardref13_plus.j0 k a0 (wrap64 (a1 + a2)) false))) else (if a1 < 0 then (if a2 < 0 then (jacquardref13_plus.j0 k a0 (wrap64 (a1 + a2)) (decide ((wrap64 (a1 + a2)) ≥ 0))) else (jacquardref13_plus.j0 k a0 (wrap64 (a1 + a2)) false)) else (jacquardref13_plus.j0 k a0 (wrap64 (a1 + a2)) false))
theorem jacquardref13_plus.mono_l : ∀ k, (∀ y0 y1 y2, LeO (jacquardref13_plus.j0 k y0 y1 y2) (jacquardref13_plus.j0 (k + 1) y0 y1 y2))
 | 0 => fun _ _ _ r h => by simp [jacquardref13_plus.j0] at h
 | k + 1 => by
  have ih0 := jacquardref13_plus.mono_l k
  ·
   intro y0 y1 y2
   unfold jacquardref13_plus.j0
   repeat' first
   | (with_reducible first | apply ih0 | apply jacquardref13_Smax.mono | apply jacquardref13_Smin.mono | exact LeO.refl _ | exact LeO.none _ | refine LeO.ite ?_ ?_ | refine LeO.bind ?_ (fun _ => ?_))
   | (first | apply ih0 | apply jacquardref13_Smax.mono | apply jacquardref13_Smin.mono | exact LeO.none _ | refine LeO.ite ?_ ?_ | refine LeO.bind ?_ (fun _ => ?_))
theorem jacquardref13_plus.mono : ∀ a0 a1 a2 k, LeO (jacquardref13_plus.f k a0 a1 a2) (jacquardref13_plus.f (k + 1) a0 a1 a2) := by
 intro a0 a1 a2 k
 have ih0 := jacquardref13_plus.mono_l k
 unfold jacquardref13_plus.f
 repeat' first
   | (with_reducible first | apply ih0 | apply jacquardref13_Smax.mono | apply jacquardref13_Smin.mono | exact LeO.refl _ | exact LeO.none _ | refine LeO.ite ?_ ?_ | refine LeO.bind ?_ (fun _ => ?_))
   | (first | apply ih0 | apply jacquardref13_Smax.mono | apply jacquardref13_Smin.mono | exact LeO.none _ | refine LeO.ite ?_ ?_ | refine LeO.bind ?_ (fun _ => ?_))
/-! ### jacquardref13_minus: function 69 -/
def jacquardref13_minus.j0 : Nat → Int → Int → Bool → Option (Int × Bool)
 | 0, _, _, _ => none
 | k + 1, x0, x1, x2 => if x2 = true then (some (0, false)) else ((jacquardref13_Smin.f k x0).bind fun t890 => (if x1 ≥ t890 then ((jacquardref13_Smax.f k x0).bind fun t891 => (some (x1, decide (x1 ≤ t891)))) else (some (x1, false))))
def jacquardref13_minus.f (k : Nat) (a0 : Int) (a1 : Int) (a2 : Int) : Option (Int × Bool) := if a1 ≥ 0 then (if a2 < 0 then (if (wrap64 (a1 - a2)) < 0 then (jacquardref13_minus.j0 k a0 (wrap64 (a1 - a2)) true) else (if a1 < 0 then (if a2 ≥ 0 then (jacquardref13_minus.j0 k a0 (wrap64 (a1 - a2)) (decide ((wrap64 (a1 - a2)) ≥ 0))) else (jacquardref13_minus.j0 k a0 (wrap64 (a1 - a2)) false)) else (jacquardref13_minus.j0 k a0 (wrap64 (a1 - a2)) false))) else (if a1 < 0 then (if a2 ≥ 0 then (jacquardref13_minus.j0 k a0 (wrap64 (a1 - a2)) (decide ((wrap64 (a1 - a2)) ≥ 0))) else (jacquardref13_minus.j0 k a0 (wrap64 (a1 - a2)) false)) else (jacquardref13_minus.j0 k a0 (wrap64 (a1 - a2)) false))) else (if a1 < 0 then (if a2 ≥ 0 then (jacquardref13_minus.j0 k a0 (wrap64 (a1 - a2)) (decide ((wrap64 (a1 - a2)) ≥ 0))) else (jacquardref13_minus.j0 k a0 (wrap64 (a1 - a2)) false)) else (jacquardref13_minus.j0 k a0 (wrap64 (a1 - a2)) false))
theorem jacquardref13_minus.mono_l : ∀ k, (∀ y0 y1 y2, LeO (jacquardref13_minus.j0 k y0 y1 y2) (jacquardref13_minus.j0 (k + 1) y0 y1 y2))
 | 0 => fun _ _ _ r h => by simp [jacquardref13_minus.j0] at h
 | k + 1 => by
  have ih0 := jacquardref13_minus.mono_l k
  ·
   intro y0 y1 y2
   unfold jacquardref13_minus.j0
   repeat' first
   | (with_reducible first | apply ih0 | apply jacquardref13_Smax.mono | apply jacquardref13_Smin.mono | exact LeO.refl _ | exact LeO.none _ | refine LeO.ite ?_ ?_ | refine LeO.bind ?_ (fun _ => ?_))
   | (first | apply ih0 | apply jacquardref13_Smax.mono | apply jacquardref13_Smin.mono | exact LeO.none _ | refine LeO.ite ?_ ?_ | refine LeO.bind ?_ (fun _ => ?_))
theorem jacquardref13_minus.mono : ∀ a0 a1 a2 k, LeO (jacquardref13_minus.f k a0 a1 a2) (jacquardref13_minus.f (k + 1) a0 a1 a2) := by
 intro a0 a1 a2 k
 have ih0 := jacquardref13_minus.mono_l k
 unfold jacquardref13_minus.f
 repeat' first
   | (with_reducible first | apply ih0 | apply jacquardref13_Smax.mono | apply jacquardref13_Smin.mono | exact LeO.refl _ | exact LeO.none _ | refine LeO.ite ?_ ?_ | refine LeO.bind ?_ (fun _ => ?_))
   | (first | apply ih0 | apply jacquardref13_Smax.mono | apply jacquardref13_Smin.mono | exact LeO.none _ | refine LeO.ite ?_ ?_ | refine LeO.bind ?_ (fun _ => ?_))
/-! ### jacquardref13_size: function 86 -/
def jacquardref13_size.f (a0 : Int) : Option (Int) := if a0 < 0 then (some (IntKind.u64.wrap (-(IntKind.u64.wrap (a0))))) else (some (IntKind.u64.wrap (a0)))
/-! ### jacquardref13_times: function 70 -/
def jacquardref13_times.j0 : Nat → Int → Int → Bool → Int → Option (Int × Bool)
 | 0, _, _, _, _ => none
 | k + 1, x0, x1, x2, x3 => (jacquardref13_size.f x0).bind fun t893 => ((jacquardref13_size.f x1).bind fun t894 => ((jacquardref13_product.f t893 t894 x3).bind fun bt895 => (if x2 = true then (some (wrap64 (IntKind.u64.wrap (-bt895.1)), bt895.2)) else (some (wrap64 (bt895.1), bt895.2)))))
def jacquardref13_times.f (k : Nat) (a0 : Int) (a1 : Int) (a2 : Int) : Option (Int × Bool) := (jacquardref13_Smax.f k a0).bind fun t892 => (if ((decide (a1 < 0)) != (decide (a2 < 0))) = true then (jacquardref13_times.j0 k a1 a2 ((decide (a1 < 0)) != (decide (a2 < 0))) (IntKind.u64.wrap ((IntKind.u64.wrap (t892)) + 1))) else (jacquardref13_times.j0 k a1 a2 ((decide (a1 < 0)) != (decide (a2 < 0))) (IntKind.u64.wrap (t892))))
theorem jacquardref13_times.mono_l : ∀ k, (∀ y0 y1 y2 y3, LeO (jacquardref13_times.j0 k y0 y1 y2 y3) (jacquardref13_times.j0 (k + 1) y0 y1 y2 y3))
 | 0 => fun _ _ _ _ r h => by simp [jacquardref13_times.j0] at h
 | k + 1 => by
  have ih0 := jacquardref13_times.mono_l k
  ·
   intro y0 y1 y2 y3
   unfold jacquardref13_times.j0
   repeat' first
   | (with_reducible first | apply ih0 | apply jacquardref13_Smax.mono | exact LeO.refl _ | exact LeO.none _ | refine LeO.ite ?_ ?_ | refine LeO.bind ?_ (fun _ => ?_))
   | (first | apply ih0 | apply jacquardref13_Smax.mono | exact LeO.none _ | refine LeO.ite ?_ ?_ | refine LeO.bind ?_ (fun _ => ?_))
theorem jacquardref13_times.mono : ∀ a0 a1 a2 k, LeO (jacquardref13_times.f k a0 a1 a2) (jacquardref13_times.f (k + 1) a0 a1 a2) := by
 intro a0 a1 a2 k
 have ih0 := jacquardref13_times.mono_l k
 unfold jacquardref13_times.f
 repeat' first
   | (with_reducible first | apply ih0 | apply jacquardref13_Smax.mono | exact LeO.refl _ | exact LeO.none _ | refine LeO.ite ?_ ?_ | refine LeO.bind ?_ (fun _ => ?_))
   | (first | apply ih0 | apply jacquardref13_Smax.mono | exact LeO.none _ | refine LeO.ite ?_ ?_ | refine LeO.bind ?_ (fun _ => ?_))
/-! ### jacquardref13_four: function 71 -/
def jacquardref13_four.f (a0 : Int) (a1 : Int) (a2 : Int) (a3 : Int) : Option (Int × Int) := some (mn (mn (mn a0 a1) a2) a3, mx (mx (mx a0 a1) a2) a3)
/-! ### jacquardref13_within: function 72 -/
def jacquardref13_within.f (a0 : Int) (a1_0 : Int) (a1_1 : Int) (a1_2 : Int) (a1_3 : Int) : Option (Bool) := if a0 ≥ a1_2 then (some (decide (a0 ≤ a1_3))) else (some false)
/-! ### jacquardref13_signed: function 35 -/
mutual
def jacquardref13_signed.j0 : Nat → Int → Int → Int → Bool → Option (Int × Int)
 | 0, _, _, _, _ => none
 | k + 1, x0, x1, x2, x3 => if x3 = true then (some (x1, x2)) else ((jacquardref13_Smin.f k x0).bind fun t904 => ((jacquardref13_Smax.f k x0).bind fun t905 => (some (t904, t905))))
def jacquardref13_signed.j1 : Nat → Int → Int → Int → Bool → Option (Int × Int)
 | 0, _, _, _, _ => none
 | k + 1, x0, x1, x2, x3 => if x3 = true then (some (x1, x2)) else ((jacquardref13_Smin.f k x0).bind fun t910 => ((jacquardref13_Smax.f k x0).bind fun t911 => (some (t910, t911))))
def jacquardref13_signed.j2 : Nat → Int → Int → Int → Int → Int → Bool → Option (Int × Int)
 | 0, _, _, _, _, _, _ => none
 | k + 1, x0, x1, x2, x3, x4, x5 => if x5 = true then ((jacquardref13_four.f x1 x2 x3 x4).bind fun bt920 => (some (bt920.1, bt920.2))) else ((jacquardref13_Smin.f k x0).bind fun t922 => ((jacquardref13_Smax.f k x0).bind fun t923 => (some (t922, t923))))
def jacquardref13_signed.j3 : Nat → Int → Bool → Int → Int → Int → Int → Int → Int → Int → Int → Option (Int × Int)
 | 0, _, _, _, _, _, _, _, _, _, _ => none
 | k + 1, x0, x1, x2, x3, x4, x5, x6, x7, x8, x9 => if x1 = true then (if x8 = 0 then (none) else (if x9 = 0 then (none) else ((jacquardref13_four.f (wrap64 (Int.tdiv x4 x8)) (wrap64 (Int.tdiv x4 x9)) (wrap64 (Int.tdiv x5 x8)) (wrap64 (Int.tdiv x5 x9))).bind fun bt927 => (some (bt927.1, bt927.2))))) else ((jacquardref13_Smin.f k x0).bind fun t929 => ((jacquardref13_Smax.f k x0).bind fun t930 => (some (t929, t930))))
def jacquardref13_signed.j4 : Nat → Int → Bool → Int → Int → Int → Int → Int → Int → Int → Int → Option (Int × Int)
 | 0, _, _, _, _, _, _, _, _, _, _ => none
 | k + 1, x0, x1, x2, x3, x4, x5, x6, x7, x8, x9 => if x1 = true then (if 0 ≤ x6 then (some (shl .i64 x4 x6, shl .i64 x5 x6)) else (none)) else ((jacquardref13_Smin.f k x0).bind fun t933 => ((jacquardref13_Smax.f k x0).bind fun t934 => (some (t933, t934))))
end
def jacquardref13_signed.f (k : Nat) (a0 : Int) (a1 : Int) (a2_0 : Int) (a2_1 : Int) (a2_2 : Int) (a2_3 : Int) (a3_0 : Int) (a3_1 : Int) (a3_2 : Int) (a3_3 : Int) : Option (Int × Int) := if a0 = 2 then ((jacquardref13_plus.f k a1 a2_2 a3_2).bind fun bt900 => ((jacquardref13_plus.f k a1 a2_3 a3_3).bind fun bt902 => (if bt900.2 = true then (jacquardref13_signed.j0 k a1 bt900.1 bt902.1 bt902.2) else (jacquardref13_signed.j0 k a1 bt900.1 bt902.1 false)))) else (if a0 = 3 then ((jacquardref13_minus.f k a1 a2_2 a3_3).bind fun bt906 => ((jacquardref13_minus.f k a1 a2_3 a3_2).bind fun bt908 => (if bt906.2 = true then (jacquardref13_signed.j1 k a1 bt906.1 bt908.1 bt908.2) else (jacquardref13_signed.j1 k a1 bt906.1 bt908.1 false)))) else (if a0 = 4 then ((jacquardref13_times.f k a1 a2_2 a3_2).bind fun bt912 => ((jacquardref13_times.f k a1 a2_2 a3_3).bind fun bt914 => ((jacquardref13_times.f k a1 a2_3 a3_2).bind fun bt916 => ((jacquardref13_times.f k a1 a2_3 a3_3).bind fun bt918 => (if bt912.2 = true then (if bt914.2 = true then (if bt916.2 = true then (jacquardref13_signed.j2 k a1 bt912.1 bt914.1 bt916.1 bt918.1 bt918.2) else (jacquardref13_signed.j2 k a1 bt912.1 bt914.1 bt916.1 bt918.1 false)) else (jacquardref13_signed.j2 k a1 bt912.1 bt914.1 bt916.1 bt918.1 false)) else (jacquardref13_signed.j2 k a1 bt912.1 bt914.1 bt916.1 bt918.1 false)))))) else (if a0 = 7 then ((jacquardref13_within.f 0 a3_0 a3_1 a3_2 a3_3).bind fun t924 => (if t924 = true then (jacquardref13_signed.j3 k a1 false a2_0 a2_1 a2_2 a2_3 a3_0 a3_1 a3_2 a3_3) else ((jacquardref13_Smin.f k a1).bind fun t925 => (if a2_2 > t925 then (jacquardref13_signed.j3 k a1 true a2_0 a2_1 a2_2 a2_3 a3_0 a3_1 a3_2 a3_3) else ((jacquardref13_within.f (-1) a3_0 a3_1 a3_2 a3_3).bind fun t926 => (jacquardref13_signed.j3 k a1 (!t926) a2_0 a2_1 a2_2 a2_3 a3_0 a3_1 a3_2 a3_3)))))) else (if a0 = 8 then (if a3_2 ≥ 1 then (some (mx (mn a2_2 0) (wrap64 (1 - a3_3)), mn (mx a2_3 0) (wrap64 (a3_3 - 1)))) else (some (mn a2_2 0, mx a2_3 0))) else (if a0 = 12 then (if a3_0 = a3_1 then (if a3_0 < (IntKind.u64.wrap (a1)) then ((jacquardref13_Smin.f k a1).bind fun t931 => (if 0 ≤ a3_0 then (if a2_2 ≥ (shr .i64 t931 a3_0) then ((jacquardref13_Smax.f k a1).bind fun t932 => (jacquardref13_signed.j4 k a1 (decide (a2_3 ≤ (shr .i64 t932 a3_0))) a2_0 a2_1 a2_2 a2_3 a3_0 a3_1 a3_2 a3_3)) else (jacquardref13_signed.j4 k a1 false a2_0 a2_1 a2_2 a2_3 a3_0 a3_1 a3_2 a3_3)) else (none))) else (jacquardref13_signed.j4 k a1 false a2_0 a2_1 a2_2 a2_3 a3_0 a3_1 a3_2 a3_3)) else (jacquardref13_signed.j4 k a1 false a2_0 a2_1 a2_2 a2_3 a3_0 a3_1 a3_2 a3_3)) else (if a0 = 14 then (if 0 ≤ (mn a3_0 (IntKind.u64.wrap (wrap64 (a1 - 1)))) then (if 0 ≤ (mn a3_1 (IntKind.u64.wrap (wrap64 (a1 - 1)))) then ((jacquardref13_four.f (shr .i64 a2_2 (mn a3_0 (IntKind.u64.wrap (wrap64 (a1 - 1))))) (shr .i64 a2_2 (mn a3_1 (IntKind.u64.wrap (wrap64 (a1 - 1))))) (shr .i64 a2_3 (mn a3_0 (IntKind.u64.wrap (wrap64 (a1 - 1))))) (shr .i64 a2_3 (mn a3_1 (IntKind.u64.wrap (wrap64 (a1 - 1)))))).bind fun bt935 => (some (bt935.1, bt935.2))) else (none)) else (none)) else ((jacquardref13_Smin.f k a1).bind fun t937 => ((jacquardref13_Smax.f k a1).bind fun t938 => (some (t937, t938))))))))))
theorem jacquardref13_signed.mono_l : ∀ k, (∀ y0 y1 y2 y3, LeO (jacquardref13_signed.j0 k y0 y1 y2 y3) (jacquardref13_signed.j0 (k + 1) y0 y1 y2 y3)) ∧ (∀ y0 y1 y2 y3, LeO (jacquardref13_signed.j1 k y0 y1 y2 y3) (jacquardref13_signed.j1 (k + 1) y0 y1 y2 y3)) ∧ (∀ y0 y1 y2 y3 y4 y5, LeO (jacquardref13_signed.j2 k y0 y1 y2 y3 y4 y5) (jacquardref13_signed.j2 (k + 1) y0 y1 y2 y3 y4 y5)) ∧ (∀ y0 y1 y2 y3 y4 y5 y6 y7 y8 y9, LeO (jacquardref13_signed.j3 k y0 y1 y2 y3 y4 y5 y6 y7 y8 y9) (jacquardref13_signed.j3 (k + 1) y0 y1 y2 y3 y4 y5 y6 y7 y8 y9)) ∧ (∀ y0 y1 y2 y3 y4 y5 y6 y7 y8 y9, LeO (jacquardref13_signed.j4 k y0 y1 y2 y3 y4 y5 y6 y7 y8 y9) (jacquardref13_signed.j4 (k + 1) y0 y1 y2 y3 y4 y5 y6 y7 y8 y9))
 | 0 => ⟨fun _ _ _ _ r h => by simp [jacquardref13_signed.j0] at h, fun _ _ _ _ r h => by simp [jacquardref13_signed.j1] at h, fun _ _ _ _ _ _ r h => by simp [jacquardref13_signed.j2] at h, fun _ _ _ _ _ _ _ _ _ _ r h => by simp [jacquardref13_signed.j3] at h, fun _ _ _ _ _ _ _ _ _ _ r h => by simp [jacquardref13_signed.j4] at h⟩
 | k + 1 => by
  obtain ⟨ih0, ih1, ih2, ih3, ih4⟩ := jacquardref13_signed.mono_l k
  refine ⟨?_, ?_, ?_, ?_, ?_⟩
  all_goals
   intros
   first | unfold jacquardref13_signed.j0 | unfold jacquardref13_signed.j1 | unfold jacquardref13_signed.j2 | unfold jacquardref13_signed.j3 | unfold jacquardref13_signed.j4
   repeat' first
   | (with_reducible first | apply ih0 | apply ih1 | apply ih2 | apply ih3 | apply ih4 | apply jacquardref13_Smax.mono | apply jacquardref13_Smin.mono | apply jacquardref13_minus.mono | apply jacquardref13_plus.mono | apply jacquardref13_times.mono | exact LeO.refl _ | exact LeO.none _ | refine LeO.ite ?_ ?_ | refine LeO.bind ?_ (fun _ => ?_))
   | (first | apply ih0 | apply ih1 | apply ih2 | apply ih3 | apply ih4 | apply jacquardref13_Smax.mono | apply jacquardref13_Smin.mono | apply jacquardref13_minus.mono | apply jacquardref13_plus.mono | apply jacquardref13_times.mono | exact LeO.none _ | refine LeO.ite ?_ ?_ | refine LeO.bind ?_ (fun _ => ?_))
theorem jacquardref13_signed.mono : ∀ a0 a1 a2 a3 a4 a5 a6 a7 a8 a9 k, LeO (jacquardref13_signed.f k a0 a1 a2 a3 a4 a5 a6 a7 a8 a9) (jacquardref13_signed.f (k + 1) a0 a1 a2 a3 a4 a5 a6 a7 a8 a9) := by
 intro a0 a1 a2 a3 a4 a5 a6 a7 a8 a9 k
 obtain ⟨ih0, ih1, ih2, ih3, ih4⟩ := jacquardref13_signed.mono_l k
 unfold jacquardref13_signed.f
 repeat' first
   | (with_reducible first | apply ih0 | apply ih1 | apply ih2 | apply ih3 | apply ih4 | apply jacquardref13_Smax.mono | apply jacquardref13_Smin.mono | apply jacquardref13_minus.mono | apply jacquardref13_plus.mono | apply jacquardref13_times.mono | exact LeO.refl _ | exact LeO.none _ | refine LeO.ite ?_ ?_ | refine LeO.bind ?_ (fun _ => ?_))
   | (first | apply ih0 | apply ih1 | apply ih2 | apply ih3 | apply ih4 | apply jacquardref13_Smax.mono | apply jacquardref13_Smin.mono | apply jacquardref13_minus.mono | apply jacquardref13_plus.mono | apply jacquardref13_times.mono | exact LeO.none _ | refine LeO.ite ?_ ?_ | refine LeO.bind ?_ (fun _ => ?_))
def jacquardref13_signed.T20 : Bool × List (List Nat × List Nat) := (true, [([], []), ([0], [0]), ([1], [1]), ([2, 1], [2]), ([3], [3]), ([4, 3], [3, 4]), ([3], [3]), ([6, 3, 3], [3, 6]), ([5, 7, 3], [3, 5, 7]), ([8, 7, 3], [3, 8]), ([9], [9]), ([10, 9, 9], [9, 10]), ([11, 9], [9, 11]), ([9, 12, 3], [3, 9, 12]), ([3, 13], [3, 13])])
def jacquardref13_signed.B20 : List Nat := [0, 1, 3, 7, 15, 31, 15, 79, 255, 511, 1023, 2047, 4095, 8191, 16383]
def jacquardref13_signed.T21 : Bool × List (List Nat × List Nat) := (true, [([], []), ([0], [0]), ([], []), ([2], [2]), ([1, 3], [1, 3]), ([], []), ([5], [5]), ([], []), ([7], [7]), ([6, 8], [6, 8]), ([], []), ([10], [10]), ([], []), ([12], [12]), ([11, 13], [11, 13]), ([], []), ([15], [15]), ([], []), ([17], [17]), ([16, 18], [16, 18]), ([4, 9, 14, 19], [4, 9, 14, 19]), ([20], [20]), ([20], [20]), ([21, 20, 0, 1, 2, 3, 4, 5, 6, 7, 8, 9, 10, 11, 12, 13, 14, 15, 16, 17, 18, 19, 20, 21, 22], [21]), ([22, 23, 0, 1, 2, 3, 4, 5, 6, 7, 8, 9, 10, 11, 12, 13, 14, 15, 16, 17, 18, 19, 20, 21, 22, 23], [22])])
def jacquardref13_signed.B21 : List Nat := [0, 1, 0, 4, 15, 0, 32, 0, 128, 480, 0, 1024, 0, 4096, 15360, 0, 32768, 0, 131072, 491520, 1048575, 2097151, 2097151, 8388607, 16777215]
def jacquardref13_signed.T30 : Bool × List (List Nat × List Nat) := (true, [([], []), ([0], [0]), ([], []), ([2], [2]), ([1, 3], [1, 3]), ([4], [4]), ([5], [5]), ([6, 5], [5, 6]), ([5], [5]), ([8, 5], [5, 8]), ([7, 9, 5], [5, 7, 9]), ([5, 10], [5, 10]), ([11, 5], [11]), ([12], [12]), ([13, 12], [12, 13]), ([12], [12]), ([15, 12, 12], [12, 15]), ([12], [12]), ([17, 12], [12, 17]), ([16, 18, 12], [12, 16, 18]), ([14, 19, 12], [12, 14, 19]), ([12, 20], [12, 20]), ([21, 16], [21]), ([22], [22]), ([23, 22], [22, 23]), ([22], [22]), ([25, 22, 22], [22, 25]), ([22], [22]), ([27, 22], [22, 27]), ([26, 28, 22], [22, 26, 28]), ([24, 29, 22], [22, 24, 29]), ([22, 30], [22, 30])])
def jacquardref13_signed.B30 : List Nat := [0, 1, 0, 4, 15, 31, 63, 127, 63, 319, 1023, 2047, 4095, 8191, 16383, 8191, 40959, 8191, 139263, 499711, 1048575, 2097151, 4194303, 8388607, 16777215, 8388607, 41943039, 8388607, 142606335, 511705087, 1073741823, 2147483647]
def jacquardref13_signed.T31 : Bool × List (List Nat × List Nat) := (true, [([], []), ([0], [0]), ([], []), ([2], [2]), ([1, 3], [1, 3]), ([], []), ([5], [5]), ([], []), ([7], [7]), ([6, 8], [6, 8]), ([4, 0, 1, 2, 3, 4], [4]), ([9, 10, 0, 1, 2, 3, 4, 5, 6, 7, 8, 9, 10], [9])])
def jacquardref13_signed.B31 : List Nat := [0, 1, 0, 4, 15, 0, 32, 0, 128, 480, 31, 2047]
/-! ### jacquardref13_Apply: function 11 -/
mutual
def jacquardref13_Apply.j0 : Nat → Int → Int → List Int → List (S30) → Int → Bool → Option (Int × Int × Int × Int)
 | 0, _, _, _, _, _, _ => none
 | k + 1, x0, x1, x2, x3, x4, x5 => if x5 = true then ((jacquardref13_Top.f k x1).bind fun bt941 => (some (bt941.1, bt941.2.1, bt941.2.2.1, bt941.2.2.2))) else (jacquardref13_Apply.l0 k x0 x1 x2 x3 x4 ([] : List (S30)) ([] : List Int) true 0)
def jacquardref13_Apply.l0 : Nat → Int → Int → List Int → List (S30) → Int → List (S30) → List Int → Bool → Int → Option (Int × Int × Int × Int)
 | 0, _, _, _, _, _, _, _, _, _ => none
 | k + 1, x0, x1, x2, x3, x4, x5, x6, x7, x8 => if x8 < (x3.length : Int) then (if 0 ≤ x8 then (if x8 < (x2.length : Int) then ((jacquardref13_Tighten.f k (rd x2 x8) ((rd_T30 x3 x8).f0) ((rd_T30 x3 x8).f1) ((rd_T30 x3 x8).f2) ((rd_T30 x3 x8).f3)).bind fun bt947 => (if bt947.2.2.2.2 = true then (if x5.length < 4398046511104 then ((some (x5 ++ [(⟨bt947.1, bt947.2.1, bt947.2.2.1, bt947.2.2.2.1⟩ : S30)] : List (S30))).bind fun y953 => (if x6.length < 17592186044416 then ((some (x6 ++ [bt947.1] : List Int)).bind fun y956 => (if x7 = true then (jacquardref13_Apply.l0 k x0 x1 x2 x3 x4 y953 y956 (bt947.1 == bt947.2.1) (wrap64 (x8 + 1))) else (jacquardref13_Apply.l0 k x0 x1 x2 x3 x4 y953 y956 false (wrap64 (x8 + 1))))) else (none))) else (none)) else ((jacquardref13_Top.f k x1).bind fun bt959 => (some (bt959.1, bt959.2.1, bt959.2.2.1, bt959.2.2.2))))) else (none)) else (none)) else (if x7 = true then ((jacquardref12_Eval.f k x0 x1 x2 x6 x4).bind fun t963 => ((jacquardref13_Of.f k x1 t963).bind fun bt964 => (some (bt964.1, bt964.2.1, bt964.2.2.1, bt964.2.2.2)))) else (if x0 ≥ 15 then (jacquardref13_Apply.j2 k x0 x1 x2 x5 (decide (x0 ≤ 20))) else (jacquardref13_Apply.j2 k x0 x1 x2 x5 false)))
def jacquardref13_Apply.j4 : Nat → Int → Int → Int → Int → Int → Option (Int × Int × Int × Int)
 | 0, _, _, _, _, _ => none
 | k + 1, x0, x1, x2, x3, x4 => (jacquardref13_Tighten.f k x0 x1 x2 x3 x4).bind fun bt999 => (if bt999.2.2.2.2 = true then (some (bt999.1, bt999.2.1, bt999.2.2.1, bt999.2.2.2.1)) else ((jacquardref13_Top.f k x0).bind fun bt1005 => (some (bt1005.1, bt1005.2.1, bt1005.2.2.1, bt1005.2.2.2))))
def jacquardref13_Apply.j2 : Nat → Int → Int → List Int → List (S30) → Bool → Option (Int × Int × Int × Int)
 | 0, _, _, _, _, _ => none
 | k + 1, x0, x1, x2, x3, x4 => if x4 = true then (if 0 < (x3.length : Int) then (if 1 < (x3.length : Int) then ((jacquardref13_compare.f k x0 ((rd_T30 x3 0).f0) ((rd_T30 x3 0).f1) ((rd_T30 x3 0).f2) ((rd_T30 x3 0).f3) ((rd_T30 x3 1).f0) ((rd_T30 x3 1).f1) ((rd_T30 x3 1).f2) ((rd_T30 x3 1).f3)).bind fun bt971 => (some (bt971.1, bt971.2.1, bt971.2.2.1, bt971.2.2.2))) else (none)) else (none)) else (if x0 = 21 then (if 0 < (x3.length : Int) then (jacquardref13_Apply.j3 k x0 x1 x2 x3 (((rd_T30 x3 0).f0) == ((rd_T30 x3 0).f1))) else (none)) else (jacquardref13_Apply.j3 k x0 x1 x2 x3 false))
def jacquardref13_Apply.j3 : Nat → Int → Int → List Int → List (S30) → Bool → Option (Int × Int × Int × Int)
 | 0, _, _, _, _, _ => none
 | k + 1, x0, x1, x2, x3, x4 => if x4 = true then (if 0 < (x3.length : Int) then (if 0 ≤ (wrap64 (2 - (wrap64 ((rd_T30 x3 0).f0)))) then (if (wrap64 (2 - (wrap64 ((rd_T30 x3 0).f0)))) < (x3.length : Int) then (jacquardref13_Apply.j4 k x1 ((rd_T30 x3 (wrap64 (2 - (wrap64 ((rd_T30 x3 0).f0))))).f0) ((rd_T30 x3 (wrap64 (2 - (wrap64 ((rd_T30 x3 0).f0))))).f1) ((rd_T30 x3 (wrap64 (2 - (wrap64 ((rd_T30 x3 0).f0))))).f2) ((rd_T30 x3 (wrap64 (2 - (wrap64 ((rd_T30 x3 0).f0))))).f3)) else (none)) else (none)) else (none)) else (if x0 = 21 then (if 1 < (x3.length : Int) then (if 2 < (x3.length : Int) then ((jacquardref13_Join.f ((rd_T30 x3 1).f0) ((rd_T30 x3 1).f1) ((rd_T30 x3 1).f2) ((rd_T30 x3 1).f3) ((rd_T30 x3 2).f0) ((rd_T30 x3 2).f1) ((rd_T30 x3 2).f2) ((rd_T30 x3 2).f3)).bind fun bt981 => (jacquardref13_Apply.j4 k x1 bt981.1 bt981.2.1 bt981.2.2.1 bt981.2.2.2)) else (none)) else (none)) else (if (x3.length : Int) = 1 then (if 0 < (x2.length : Int) then (if 0 < (x3.length : Int) then ((jacquardref13_cast.f k x0 x1 (rd x2 0) ((rd_T30 x3 0).f0) ((rd_T30 x3 0).f1) ((rd_T30 x3 0).f2) ((rd_T30 x3 0).f3)).bind fun bt987 => (jacquardref13_Apply.j4 k x1 bt987.1 bt987.2.1 bt987.2.2.1 bt987.2.2.2)) else (none)) else (none)) else (if 0 < (x3.length : Int) then (if 1 < (x3.length : Int) then ((jacquardref13_unsigned.f k x0 x1 ((rd_T30 x3 0).f0) ((rd_T30 x3 0).f1) ((rd_T30 x3 0).f2) ((rd_T30 x3 0).f3) ((rd_T30 x3 1).f0) ((rd_T30 x3 1).f1) ((rd_T30 x3 1).f2) ((rd_T30 x3 1).f3)).bind fun bt993 => ((jacquardref13_signed.f k x0 x1 ((rd_T30 x3 0).f0) ((rd_T30 x3 0).f1) ((rd_T30 x3 0).f2) ((rd_T30 x3 0).f3) ((rd_T30 x3 1).f0) ((rd_T30 x3 1).f1) ((rd_T30 x3 1).f2) ((rd_T30 x3 1).f3)).bind fun bt997 => (jacquardref13_Apply.j4 k x1 bt993.1 bt993.2 bt997.1 bt997.2))) else (none)) else (none))))
end
def jacquardref13_Apply.f (k : Nat) (a0 : Int) (a1 : Int) (l2 : List Int) (l3 : List (S30)) (a4 : Int) : Option (Int × Int × Int × Int) := (jacquardref12_Shape.f k a0 a1 l2).bind fun t940 => (if t940 = true then (jacquardref13_Apply.j0 k a0 a1 l2 l3 a4 ((l3.length : Int) != (l2.length : Int))) else (jacquardref13_Apply.j0 k a0 a1 l2 l3 a4 true))
theorem jacquardref13_Apply.mono_l : ∀ k, (∀ y0 y1 y2 y3 y4 y5, LeO (jacquardref13_Apply.j0 k y0 y1 y2 y3 y4 y5) (jacquardref13_Apply.j0 (k + 1) y0 y1 y2 y3 y4 y5)) ∧ (∀ y0 y1 y2 y3 y4 y5 y6 y7 y8, LeO (jacquardref13_Apply.l0 k y0 y1 y2 y3 y4 y5 y6 y7 y8) (jacquardref13_Apply.l0 (k + 1) y0 y1 y2 y3 y4 y5 y6 y7 y8)) ∧ (∀ y0 y1 y2 y3 y4, LeO (jacquardref13_Apply.j4 k y0 y1 y2 y3 y4) (jacquardref13_Apply.j4 (k + 1) y0 y1 y2 y3 y4)) ∧ (∀ y0 y1 y2 y3 y4, LeO (jacquardref13_Apply.j2 k y0 y1 y2 y3 y4) (jacquardref13_Apply.j2 (k + 1) y0 y1 y2 y3 y4)) ∧ (∀ y0 y1 y2 y3 y4, LeO (jacquardref13_Apply.j3 k y0 y1 y2 y3 y4) (jacquardref13_Apply.j3 (k + 1) y0 y1 y2 y3 y4))
 | 0 => ⟨fun _ _ _ _ _ _ r h => by simp [jacquardref13_Apply.j0] at h, fun _ _ _ _ _ _ _ _ _ r h => by simp [jacquardref13_Apply.l0] at h, fun _ _ _ _ _ r h => by simp [jacquardref13_Apply.j4] at h, fun _ _ _ _ _ r h => by simp [jacquardref13_Apply.j2] at h, fun _ _ _ _ _ r h => by simp [jacquardref13_Apply.j3] at h⟩
 | k + 1 => by
  obtain ⟨ih0, ih1, ih2, ih3, ih4⟩ := jacquardref13_Apply.mono_l k
  refine ⟨?_, ?_, ?_, ?_, ?_⟩
  all_goals
   intros
   first | unfold jacquardref13_Apply.j0 | unfold jacquardref13_Apply.l0 | unfold jacquardref13_Apply.j4 | unfold jacquardref13_Apply.j2 | unfold jacquardref13_Apply.j3
   repeat' first
   | (with_reducible first | apply ih0 | apply ih1 | apply ih2 | apply ih3 | apply ih4 | apply jacquardref12_Eval.mono | apply jacquardref12_Shape.mono | apply jacquardref13_Of.mono | apply jacquardref13_Tighten.mono | apply jacquardref13_Top.mono | apply jacquardref13_cast.mono | apply jacquardref13_compare.mono | apply jacquardref13_signed.mono | apply jacquardref13_unsigned.mono | exact LeO.refl _ | exact LeO.none _ | refine LeO.ite ?_ ?_ | refine LeO.bind ?_ (fun _ => ?_))
   | (first | apply ih0 | apply ih1 | apply ih2 | apply ih3 | apply ih4 | apply jacquardref12_Eval.mono | apply jacquardref12_Shape.mono | apply jacquardref13_Of.mono | apply jacquardref13_Tighten.mono | apply jacquardref13_Top.mono | apply jacquardref13_cast.mono | apply jacquardref13_compare.mono | apply jacquardref13_signed.mono | apply jacquardref13_unsigned.mono | exact LeO.none _ | refine LeO.ite ?_ ?_ | refine LeO.bind ?_ (fun _ => ?_))
theorem jacquardref13_Apply.mono : ∀ a0 a1 a2 a3 a4 k, LeO (jacquardref13_Apply.f k a0 a1 a2 a3 a4) (jacquardref13_Apply.f (k + 1) a0 a1 a2 a3 a4) := by
 intro a0 a1 a2 a3 a4 k
 obtain ⟨ih0, ih1, ih2, ih3, ih4⟩ := jacquardref13_Apply.mono_l k
 unfold jacquardref13_Apply.f
 repeat' first
   | (with_reducible first | apply ih0 | apply ih1 | apply ih2 | apply ih3 | apply ih4 | apply jacquardref12_Eval.mono | apply jacquardref12_Shape.mono | apply jacquardref13_Of.mono | apply jacquardref13_Tighten.mono | apply jacquardref13_Top.mono | apply jacquardref13_cast.mono | apply jacquardref13_compare.mono | apply jacquardref13_signed.mono | apply jacquardref13_unsigned.mono | exact LeO.refl _ | exact LeO.none _ | refine LeO.ite ?_ ?_ | refine LeO.bind ?_ (fun _ => ?_))
   | (first | apply ih0 | apply ih1 | apply ih2 | apply ih3 | apply ih4 | apply jacquardref12_Eval.mono | apply jacquardref12_Shape.mono | apply jacquardref13_Of.mono | apply jacquardref13_Tighten.mono | apply jacquardref13_Top.mono | apply jacquardref13_cast.mono | apply jacquardref13_compare.mono | apply jacquardref13_signed.mono | apply jacquardref13_unsigned.mono | exact LeO.none _ | refine LeO.ite ?_ ?_ | refine LeO.bind ?_ (fun _ => ?_))
def jacquardref13_Apply.T9 : Bool × List (List Nat × List Nat) := (true, [([], []), ([], []), ([0, 1], [0, 1]), ([2], [2]), ([], []), ([], []), ([4, 5], [4, 5]), ([6], [6]), ([3, 7], [3, 7]), ([8], [8]), ([9], [9]), ([9], [9]), ([], []), ([12, 10, 8, 0, 1, 2, 3, 4, 5, 6, 7, 8, 9, 10, 12], [10, 12]), ([11, 13, 0, 1, 2, 3, 4, 5, 6, 7, 8, 9, 10, 11, 12, 13], [11])])
def jacquardref13_Apply.B9 : List Nat := [0, 0, 3, 7, 0, 0, 48, 112, 255, 511, 1023, 1023, 0, 6143, 16383]
def jacquardref13_Apply.T18 : Bool × List (List Nat × List Nat) := (true, [([], []), ([], []), ([], []), ([2], [2]), ([3], [3]), ([], []), ([5], [5]), ([6], [6]), ([0, 1, 4, 7], [0, 1, 4, 7]), ([8], [8]), ([9], [9]), ([9], [9]), ([10, 8, 0, 1, 2, 3, 4, 5, 6, 7, 8, 9, 10], [10]), ([11, 12, 0, 1, 2, 3, 4, 5, 6, 7, 8, 9, 10, 11, 12], [11])])
def jacquardref13_Apply.B18 : List Nat := [0, 0, 0, 4, 12, 0, 32, 96, 255, 511, 1023, 1023, 2047, 8191]
def jacquardref13_Apply.T19 : Bool × List (List Nat × List Nat) := (true, [([], []), ([], []), ([], []), ([2], [2]), ([3], [3]), ([], []), ([5], [5]), ([6], [6]), ([0, 1, 4, 7], [0, 1, 4, 7]), ([8], [8]), ([9], [9]), ([9], [9]), ([10, 8, 0, 1, 2, 3, 4, 5, 6, 7, 8, 9, 10], [10]), ([11, 12, 0, 1, 2, 3, 4, 5, 6, 7, 8, 9, 10, 11, 12], [11])])
def jacquardref13_Apply.B19 : List Nat := [0, 0, 0, 4, 12, 0, 32, 96, 255, 511, 1023, 1023, 2047, 8191]
def jacquardref13_Apply.T22 : Bool × List (List Nat × List Nat) := (true, [([], []), ([], []), ([1], [1]), ([2], [2]), ([], []), ([4], [4]), ([5], [5]), ([0, 3, 6], [0, 3, 6]), ([7, 7, 0, 1, 2, 3, 4, 5, 6, 7], [7])])
def jacquardref13_Apply.B22 : List Nat := [0, 0, 2, 6, 0, 16, 48, 127, 255]
def jacquardref13_Apply.T23 : Bool × List (List Nat × List Nat) := (true, [([], []), ([0], [0]), ([1], [1]), ([2], [2]), ([3, 2], [2, 3]), ([4, 2], [2, 4]), ([5, 2], [2, 5]), ([2], [2]), ([7, 2], [2, 7]), ([8, 2], [2, 8]), ([9, 2], [2, 9]), ([6, 10, 2], [2, 6, 10]), ([2, 11], [2, 11]), ([12, 2], [12])])
def jacquardref13_Apply.B23 : List Nat := [0, 1, 3, 7, 15, 31, 63, 7, 135, 391, 903, 2047, 4095, 8191]
def jacquardref13_Apply.T26 : Bool × List (List Nat × List Nat) := (true, [([], []), ([0], [0]), ([1], [1]), ([], []), ([3], [3]), ([4], [4]), ([2, 5], [2, 5]), ([6, 6, 0, 1, 2, 3, 4, 5, 6], [6])])
def jacquardref13_Apply.B26 : List Nat := [0, 1, 3, 0, 8, 24, 63, 127]
def jacquardref13_Apply.T28 : Bool × List (List Nat × List Nat) := (true, [([], []), ([], []), ([], []), ([2], [2]), ([3], [3]), ([], []), ([5], [5]), ([6], [6]), ([0, 1, 4, 7], [0, 1, 4, 7]), ([8, 8, 0, 1, 2, 3, 4, 5, 6, 7, 8], [8])])
def jacquardref13_Apply.B28 : List Nat := [0, 0, 0, 4, 12, 0, 32, 96, 255, 511]
/-! ### jacquardlaw13_IntervalApply: function 3 -/
def jacquardlaw13_IntervalApply.f (k : Nat) (a0_0 : Int) (a0_1 : Int) (l0_2 : List Int) (l0_3 : List (S30)) (a0_4 : Int) : Option (Bool) := (jacquardlaw13_awake.f).bind fun t1010 => (if t1010 = true then ((jacquardlaw13_few.f a0_0 a0_1 l0_2 l0_3 a0_4).bind fun t1011 => (if t1011 = true then ((interval_Apply.f k a0_0 a0_1 l0_2 l0_3 a0_4).bind fun bt1012 => ((jacquardref13_Apply.f k a0_0 a0_1 l0_2 l0_3 a0_4).bind fun bt1016 => (some (bt1012.1 == bt1016.1 && (bt1012.2.1 == bt1016.2.1 && (bt1012.2.2.1 == bt1016.2.2.1 && (bt1012.2.2.2 == bt1016.2.2.2))))))) else (some true))) else (some false))
theorem jacquardlaw13_IntervalApply.mono : ∀ a0 a1 a2 a3 a4 k, LeO (jacquardlaw13_IntervalApply.f k a0 a1 a2 a3 a4) (jacquardlaw13_IntervalApply.f (k + 1) a0 a1 a2 a3 a4) := by
 intro a0 a1 a2 a3 a4 k
 unfold jacquardlaw13_IntervalApply.f
 repeat' first
   | (with_reducible first | apply interval_Apply.mono | apply jacquardref13_Apply.mono | exact LeO.refl _ | exact LeO.none _ | refine LeO.ite ?_ ?_ | refine LeO.bind ?_ (fun _ => ?_))
   | (first | apply interval_Apply.mono | apply jacquardref13_Apply.mono | exact LeO.none _ | refine LeO.ite ?_ ?_ | refine LeO.bind ?_ (fun _ => ?_))
def jacquardlaw13_IntervalApply.T5 : Bool × List (List Nat × List Nat) := (true, [([], []), ([0], [0]), ([], []), ([2], [2]), ([], []), ([4], [4]), ([], []), ([6], [6]), ([], []), ([8], [8]), ([1, 3, 5, 7, 9], [1, 3, 5, 7, 9]), ([], []), ([11], [11]), ([], []), ([13], [13]), ([], []), ([15], [15]), ([], []), ([17], [17]), ([], []), ([19], [19]), ([12, 14, 16, 18, 20, 10], [12, 14, 16, 18, 20]), ([10, 21], [10, 21]), ([22, 21, 0, 1, 2, 3, 4, 5, 6, 7, 8, 9, 10, 11, 12, 13, 14, 15, 16, 17, 18, 19, 20, 21, 22], [22])])
def jacquardlaw13_IntervalApply.B5 : List Nat := [0, 1, 0, 4, 0, 16, 0, 64, 0, 256, 1023, 0, 2048, 0, 8192, 0, 32768, 0, 131072, 0, 524288, 2097151, 4194303, 8388607]
def jacquardlaw13_IntervalApply.Pure : Prop := ∀ (a0_0 : Int) (a0_1 : Int) (l0_2 : List Int) (l0_3 : List (S30)) (a0_4 : Int), (Lit.int .i64 a0_0).wf = true → (Lit.int .i64 a0_1).wf = true → (l0_2.length * 8 ≤ 140737488351232 ∧ ∀ x ∈ l0_2, (Lit.int .i64 x).wf = true) → (l0_3.length * 32 ≤ 140737488351232 ∧ ∀ x ∈ l0_3, ((Lit.int .u64 x.f0).wf = true) ∧ ((Lit.int .u64 x.f1).wf = true) ∧ ((Lit.int .i64 x.f2).wf = true) ∧ ((Lit.int .i64 x.f3).wf = true)) → (Lit.int .u64 a0_4).wf = true → ∃ k, jacquardlaw13_IntervalApply.f k a0_0 a0_1 l0_2 l0_3 a0_4 = some true
/-! ### jacquardlaw13_right: function 16 -/
mutual
def jacquardlaw13_right.j0 : Nat → Bool → Int → Int → List Int → List (S30) → Int → Option (Bool)
 | 0, _, _, _, _, _, _ => none
 | k + 1, x0, x1, x2, x3, x4, x5 => if x0 = true then (some false) else (jacquardlaw13_right.l0 k x4 (x4.length : Int) 0 x1 x2 x3 x4 x5)
def jacquardlaw13_right.l0 : Nat → List (S30) → Int → Int → Int → Int → List Int → List (S30) → Int → Option (Bool)
 | 0, _, _, _, _, _, _, _, _ => none
 | k + 1, x0, x1, x2, x3, x4, x5, x6, x7 => if x2 < x1 then (if 0 ≤ x2 then (if x2 < (x0.length : Int) then (if x2 < (x5.length : Int) then ((jacquardref13_Valid.f k (rd x5 x2) ((rd_T30 x0 x2).f0) ((rd_T30 x0 x2).f1) ((rd_T30 x0 x2).f2) ((rd_T30 x0 x2).f3)).bind fun t1026 => (if t1026 = true then (jacquardlaw13_right.l0 k x0 x1 (wrap64 (x2 + 1)) x3 x4 x5 x6 x7) else (some false))) else (none)) else (none)) else (none)) else (some true)
end
def jacquardlaw13_right.f (k : Nat) (a0_0 : Int) (a0_1 : Int) (l0_2 : List Int) (l0_3 : List (S30)) (a0_4 : Int) : Option (Bool) := (jacquardlaw13_few.f a0_0 a0_1 l0_2 l0_3 a0_4).bind fun t1021 => (if t1021 = true then ((jacquardref12_Shape.f k a0_0 a0_1 l0_2).bind fun t1022 => (if t1022 = true then (jacquardlaw13_right.j0 k ((l0_3.length : Int) != (l0_2.length : Int)) a0_0 a0_1 l0_2 l0_3 a0_4) else (jacquardlaw13_right.j0 k true a0_0 a0_1 l0_2 l0_3 a0_4))) else (jacquardlaw13_right.j0 k true a0_0 a0_1 l0_2 l0_3 a0_4))
theorem jacquardlaw13_right.mono_l : ∀ k, (∀ y0 y1 y2 y3 y4 y5, LeO (jacquardlaw13_right.j0 k y0 y1 y2 y3 y4 y5) (jacquardlaw13_right.j0 (k + 1) y0 y1 y2 y3 y4 y5)) ∧ (∀ y0 y1 y2 y3 y4 y5 y6 y7, LeO (jacquardlaw13_right.l0 k y0 y1 y2 y3 y4 y5 y6 y7) (jacquardlaw13_right.l0 (k + 1) y0 y1 y2 y3 y4 y5 y6 y7))
 | 0 => ⟨fun _ _ _ _ _ _ r h => by simp [jacquardlaw13_right.j0] at h, fun _ _ _ _ _ _ _ _ r h => by simp [jacquardlaw13_right.l0] at h⟩
 | k + 1 => by
  obtain ⟨ih0, ih1⟩ := jacquardlaw13_right.mono_l k
  refine ⟨?_, ?_⟩
  all_goals
   intros
   first | unfold jacquardlaw13_right.j0 | unfold jacquardlaw13_right.l0
   repeat' first
   | (with_reducible first | apply ih0 | apply ih1 | apply jacquardref12_Shape.mono | apply jacquardref13_Valid.mono | exact LeO.refl _ | exact LeO.none _ | refine LeO.ite ?_ ?_ | refine LeO.bind ?_ (fun _ => ?_))
   | (first | apply ih0 | apply ih1 | apply jacquardref12_Shape.mono | apply jacquardref13_Valid.mono | exact LeO.none _ | refine LeO.ite ?_ ?_ | refine LeO.bind ?_ (fun _ => ?_))
theorem jacquardlaw13_right.mono : ∀ a0 a1 a2 a3 a4 k, LeO (jacquardlaw13_right.f k a0 a1 a2 a3 a4) (jacquardlaw13_right.f (k + 1) a0 a1 a2 a3 a4) := by
 intro a0 a1 a2 a3 a4 k
 obtain ⟨ih0, ih1⟩ := jacquardlaw13_right.mono_l k
 unfold jacquardlaw13_right.f
 repeat' first
   | (with_reducible first | apply ih0 | apply ih1 | apply jacquardref12_Shape.mono | apply jacquardref13_Valid.mono | exact LeO.refl _ | exact LeO.none _ | refine LeO.ite ?_ ?_ | refine LeO.bind ?_ (fun _ => ?_))
   | (first | apply ih0 | apply ih1 | apply jacquardref12_Shape.mono | apply jacquardref13_Valid.mono | exact LeO.none _ | refine LeO.ite ?_ ?_ | refine LeO.bind ?_ (fun _ => ?_))
def jacquardlaw13_right.T6 : Bool × List (List Nat × List Nat) := (true, [([], []), ([0], [0]), ([], []), ([1, 2], [1, 2]), ([3], [3]), ([], []), ([4, 5], [4, 5]), ([6], [6])])
def jacquardlaw13_right.B6 : List Nat := [0, 1, 0, 7, 15, 0, 63, 127]
/-! ### jacquardref13_Contains: function 20 -/
def jacquardref13_Contains.f (k : Nat) (a0 : Int) (a1_0 : Int) (a1_1 : Int) (a1_2 : Int) (a1_3 : Int) (a2 : Int) : Option (Bool) := if a0 < 1 then (some false) else (if a0 > 64 then (some false) else ((jacquardref13_Umax.f k a0).bind fun t1028 => (if a2 > t1028 then (some false) else ((jacquardref12_Signed.f k a0 a2).bind fun t1029 => (if a2 ≥ a1_0 then (if a2 ≤ a1_1 then (if t1029 ≥ a1_2 then (some (decide (t1029 ≤ a1_3))) else (some false)) else (some false)) else (some false))))))
theorem jacquardref13_Contains.mono : ∀ a0 a1 a2 a3 a4 a5 k, LeO (jacquardref13_Contains.f k a0 a1 a2 a3 a4 a5) (jacquardref13_Contains.f (k + 1) a0 a1 a2 a3 a4 a5) := by
 intro a0 a1 a2 a3 a4 a5 k
 unfold jacquardref13_Contains.f
 repeat' first
   | (with_reducible first | apply jacquardref12_Signed.mono | apply jacquardref13_Umax.mono | exact LeO.refl _ | exact LeO.none _ | refine LeO.ite ?_ ?_ | refine LeO.bind ?_ (fun _ => ?_))
   | (first | apply jacquardref12_Signed.mono | apply jacquardref13_Umax.mono | exact LeO.none _ | refine LeO.ite ?_ ?_ | refine LeO.bind ?_ (fun _ => ?_))
/-! ### jacquardlaw13_word: function 17 -/
def jacquardlaw13_word.f (k : Nat) (a0 : Int) (a1_0 : Int) (a1_1 : Int) (a1_2 : Int) (a1_3 : Int) (a2 : Int) : Option (Int × Bool) := (jacquardref12_Mask.f k a0).bind fun t1031 => ((jacquardref12_Mask.f k 64).bind fun t1032 => (if (IntKind.u64.wrap (a1_1 - a1_0)) < t1032 then (if (IntKind.u64.wrap ((IntKind.u64.wrap (a1_1 - a1_0)) + 1)) = 0 then (none) else ((jacquardref13_Contains.f k a0 a1_0 a1_1 a1_2 a1_3 (IntKind.u64.wrap (a1_0 + (Int.tmod a2 (IntKind.u64.wrap ((IntKind.u64.wrap (a1_1 - a1_0)) + 1)))))).bind fun t1033 => (some (IntKind.u64.wrap (a1_0 + (Int.tmod a2 (IntKind.u64.wrap ((IntKind.u64.wrap (a1_1 - a1_0)) + 1)))), t1033)))) else ((jacquardref13_Contains.f k a0 a1_0 a1_1 a1_2 a1_3 (Go.bits .and .u64 a2 t1031)).bind fun t1034 => (some (Go.bits .and .u64 a2 t1031, t1034)))))
theorem jacquardlaw13_word.mono : ∀ a0 a1 a2 a3 a4 a5 k, LeO (jacquardlaw13_word.f k a0 a1 a2 a3 a4 a5) (jacquardlaw13_word.f (k + 1) a0 a1 a2 a3 a4 a5) := by
 intro a0 a1 a2 a3 a4 a5 k
 unfold jacquardlaw13_word.f
 repeat' first
   | (with_reducible first | apply jacquardref12_Mask.mono | apply jacquardref13_Contains.mono | exact LeO.refl _ | exact LeO.none _ | refine LeO.ite ?_ ?_ | refine LeO.bind ?_ (fun _ => ?_))
   | (first | apply jacquardref12_Mask.mono | apply jacquardref13_Contains.mono | exact LeO.none _ | refine LeO.ite ?_ ?_ | refine LeO.bind ?_ (fun _ => ?_))
/-! ### interval_Contains: function 19 -/
def interval_Contains.f (a0 : Int) (a1_0 : Int) (a1_1 : Int) (a1_2 : Int) (a1_3 : Int) (a2 : Int) : Option (Bool) := (interval_good.f a0).bind fun t1036 => (if t1036 = true then ((bits_Mask.f a0).bind fun t1037 => (if a2 > t1037 then (some false) else ((bits_Signed.f a0 a2).bind fun t1038 => (if a2 ≥ a1_0 then (if a2 ≤ a1_1 then (if t1038 ≥ a1_2 then (some (decide (t1038 ≤ a1_3))) else (some false)) else (some false)) else (some false))))) else (some false))
/-! ### jacquardlaw13_IntervalSound: function 6 -/
def jacquardlaw13_IntervalSound.l0 : Nat → List Int → List Int → List (S30) → Int → Int → Int → Int → List Int → List (S30) → Int → Option (Bool)
 | 0, _, _, _, _, _, _, _, _, _, _ => none
 | k + 1, x0, x1, x2, x3, x4, x5, x6, x7, x8, x9 => if x4 < x3 then (if 0 ≤ x4 then (if x4 < (x2.length : Int) then (if x4 < (x0.length : Int) then (if x4 < (x7.length : Int) then ((jacquardlaw13_word.f k (rd x7 x4) ((rd_T30 x2 x4).f0) ((rd_T30 x2 x4).f1) ((rd_T30 x2 x4).f2) ((rd_T30 x2 x4).f3) (rd x0 x4)).bind fun bt1046 => (if bt1046.2 = true then (if x1.length < 17592186044416 then (jacquardlaw13_IntervalSound.l0 k x0 (x1 ++ [bt1046.1]) x2 x3 (wrap64 (x4 + 1)) x5 x6 x7 x8 x9) else (none)) else (some true))) else (none)) else (if x4 < (x7.length : Int) then ((jacquardlaw13_word.f k (rd x7 x4) ((rd_T30 x2 x4).f0) ((rd_T30 x2 x4).f1) ((rd_T30 x2 x4).f2) ((rd_T30 x2 x4).f3) 0).bind fun bt1052 => (if bt1052.2 = true then (if x1.length < 17592186044416 then (jacquardlaw13_IntervalSound.l0 k x0 (x1 ++ [bt1052.1]) x2 x3 (wrap64 (x4 + 1)) x5 x6 x7 x8 x9) else (none)) else (some true))) else (none))) else (none)) else (none)) else ((interval_Apply.f k x5 x6 x7 x8 x9).bind fun bt1057 => ((interval_Valid.f x6 bt1057.1 bt1057.2.1 bt1057.2.2.1 bt1057.2.2.2).bind fun t1062 => (if t1062 = true then ((jacquardref12_Eval.f k x5 x6 x7 x1 x9).bind fun t1063 => ((interval_Contains.f x6 bt1057.1 bt1057.2.1 bt1057.2.2.1 bt1057.2.2.2 t1063).bind fun t1064 => (some t1064))) else (some false))))
def jacquardlaw13_IntervalSound.f (k : Nat) (a0_0 : Int) (a0_1 : Int) (l0_2 : List Int) (l0_3 : List (S30)) (a0_4 : Int) (l1 : List Int) : Option (Bool) := (jacquardlaw13_awake.f).bind fun t1040 => (if t1040 = true then ((jacquardlaw13_right.f k a0_0 a0_1 l0_2 l0_3 a0_4).bind fun t1041 => (if t1041 = true then (jacquardlaw13_IntervalSound.l0 k l1 ([] : List Int) l0_3 (l0_3.length : Int) 0 a0_0 a0_1 l0_2 l0_3 a0_4) else (some true))) else (some false))
theorem jacquardlaw13_IntervalSound.mono_l : ∀ k, (∀ y0 y1 y2 y3 y4 y5 y6 y7 y8 y9, LeO (jacquardlaw13_IntervalSound.l0 k y0 y1 y2 y3 y4 y5 y6 y7 y8 y9) (jacquardlaw13_IntervalSound.l0 (k + 1) y0 y1 y2 y3 y4 y5 y6 y7 y8 y9))
 | 0 => fun _ _ _ _ _ _ _ _ _ _ r h => by simp [jacquardlaw13_IntervalSound.l0] at h
 | k + 1 => by
  have ih0 := jacquardlaw13_IntervalSound.mono_l k
  ·
   intro y0 y1 y2 y3 y4 y5 y6 y7 y8 y9
   unfold jacquardlaw13_IntervalSound.l0
   repeat' first
   | (with_reducible first | apply ih0 | apply interval_Apply.mono | apply jacquardlaw13_right.mono | apply jacquardlaw13_word.mono | apply jacquardref12_Eval.mono | exact LeO.refl _ | exact LeO.none _ | refine LeO.ite ?_ ?_ | refine LeO.bind ?_ (fun _ => ?_))
   | (first | apply ih0 | apply interval_Apply.mono | apply jacquardlaw13_right.mono | apply jacquardlaw13_word.mono | apply jacquardref12_Eval.mono | exact LeO.none _ | refine LeO.ite ?_ ?_ | refine LeO.bind ?_ (fun _ => ?_))
theorem jacquardlaw13_IntervalSound.mono : ∀ a0 a1 a2 a3 a4 a5 k, LeO (jacquardlaw13_IntervalSound.f k a0 a1 a2 a3 a4 a5) (jacquardlaw13_IntervalSound.f (k + 1) a0 a1 a2 a3 a4 a5) := by
 intro a0 a1 a2 a3 a4 a5 k
 have ih0 := jacquardlaw13_IntervalSound.mono_l k
 unfold jacquardlaw13_IntervalSound.f
 repeat' first
   | (with_reducible first | apply ih0 | apply interval_Apply.mono | apply jacquardlaw13_right.mono | apply jacquardlaw13_word.mono | apply jacquardref12_Eval.mono | exact LeO.refl _ | exact LeO.none _ | refine LeO.ite ?_ ?_ | refine LeO.bind ?_ (fun _ => ?_))
   | (first | apply ih0 | apply interval_Apply.mono | apply jacquardlaw13_right.mono | apply jacquardlaw13_word.mono | apply jacquardref12_Eval.mono | exact LeO.none _ | refine LeO.ite ?_ ?_ | refine LeO.bind ?_ (fun _ => ?_))
def jacquardlaw13_IntervalSound.T12 : Bool × List (List Nat × List Nat) := (true, [([], []), ([0], [0]), ([], []), ([1, 2], [1, 2]), ([3], [3]), ([], []), ([], []), ([4, 5, 6], [4, 5, 6]), ([7], [7]), ([8], [8]), ([8], [8]), ([9, 7, 0, 1, 2, 3, 4, 5, 6, 7, 8, 9], [9]), ([10, 11, 0, 1, 2, 3, 4, 5, 6, 7, 8, 9, 10, 11], [10])])
def jacquardlaw13_IntervalSound.B12 : List Nat := [0, 1, 0, 7, 15, 0, 0, 127, 255, 511, 511, 1023, 4095]
def jacquardlaw13_IntervalSound.T18 : Bool × List (List Nat × List Nat) := (true, [([], []), ([0], [0]), ([], []), ([1, 2], [1, 2]), ([3, 3], [3]), ([4], [4]), ([5, 4], [4, 5]), ([4], [4]), ([4], [4]), ([8, 4], [4, 8]), ([4], [4]), ([10, 4], [4, 10]), ([4], [4]), ([12, 4], [4, 12]), ([4], [4]), ([4], [4]), ([15, 4], [4, 15]), ([9, 11, 13, 14, 16, 4, 4], [4, 9, 11, 13, 14, 16]), ([6, 7, 17, 17, 4], [4, 6, 7, 17]), ([4, 18], [4, 18]), ([19, 18, 0, 1, 2, 3, 4, 5, 6, 7, 8, 9, 10, 11, 12, 13, 14, 15, 16, 17, 18, 19], [19])])
def jacquardlaw13_IntervalSound.B18 : List Nat := [0, 1, 0, 7, 15, 31, 63, 31, 31, 287, 31, 1055, 31, 4127, 31, 31, 32799, 130847, 262143, 524287, 1048575]
def jacquardlaw13_IntervalSound.Pure : Prop := ∀ (a0_0 : Int) (a0_1 : Int) (l0_2 : List Int) (l0_3 : List (S30)) (a0_4 : Int) (l1 : List Int), (Lit.int .i64 a0_0).wf = true → (Lit.int .i64 a0_1).wf = true → (l0_2.length * 8 ≤ 140737488351232 ∧ ∀ x ∈ l0_2, (Lit.int .i64 x).wf = true) → (l0_3.length * 32 ≤ 140737488351232 ∧ ∀ x ∈ l0_3, ((Lit.int .u64 x.f0).wf = true) ∧ ((Lit.int .u64 x.f1).wf = true) ∧ ((Lit.int .i64 x.f2).wf = true) ∧ ((Lit.int .i64 x.f3).wf = true)) → (Lit.int .u64 a0_4).wf = true → (l1.length * 8 ≤ 140737488351232 ∧ ∀ x ∈ l1, (Lit.int .u64 x).wf = true) → ∃ k, jacquardlaw13_IntervalSound.f k a0_0 a0_1 l0_2 l0_3 a0_4 l1 = some true
end Go.Proofs.Ytoddafkffchnjaa.P
