import Derived.Test.YtoddafkffchnjaaAq
import Derived.Test.YtoddafkffchnjaaDf
/- Apply, by both packages: one result. -/
namespace Go.Proofs.Ytoddafkffchnjaa.Ar
set_option linter.unusedVariables false
set_option linter.unusedSimpArgs false
set_option linter.unusedSectionVars false
open Go.RowKit Go.Proofs.Ytoddafkffchnjaa.P Go.Proofs.YtoddafkffchnjaaW.PrintWords Wd Im Iv Tg Lw0 Ap Cm Cn Ev Rf Aq

/-- A range as the program's data let it come in. -/
def Wf (s : S30) : Prop := (0 ≤ s.f0 ∧ s.f0 < 18446744073709551616) ∧ I64 s.f2 ∧ I64 s.f3
theorem tg_eq {w : Int} {s : S30} (h : Wf s) {k : Nat} (hk : 3 ≤ k) : interval_Tighten.f k w s.f0 s.f1 s.f2 s.f3 = some (tg w (q s)) := by
  obtain ⟨k, rfl⟩ : ∃ m, k = m + 3 := ⟨k - 3, by omega⟩
  obtain ⟨h0, h2, h3⟩ := h
  unfold I64 at h2 h3
  rw [tighten_eq _ _ _ _ _ h0.1 ⟨h2.1, h3.2⟩]; rfl
theorem rtg_eq {w : Int} {s : S30} (h : Wf s) {k : Nat} (hk : 70 < k) : jacquardref13_Tighten.f k w s.f0 s.f1 s.f2 s.f3 = some (tg w (q s)) := by
  obtain ⟨h0, h2, h3⟩ := h
  unfold I64 at h2 h3
  rw [rtighten_eq _ _ _ _ _ h0.1 ⟨h2.1, h3.2⟩ hk]; rfl
def ts (t : Int × Int × Int × Int × Bool) : S30 := ⟨t.1, t.2.1, t.2.2.1, t.2.2.2.1⟩
/-- A range that is tight at a width. -/
def Ti (v : Int) (s : S30) : Prop := (1 ≤ v ∧ v ≤ 64) ∧ BdR (nn v) (q s)
theorem ti_of {v : Int} (hv : 1 ≤ v ∧ v ≤ 64) {s : S30} (h : Wf s) (hok : (tg v (q s)).2.2.2.2 = true) : Ti v (ts (tg v (q s))) := ⟨hv, tg_bd hv h.1.1 hok⟩
theorem word_of {v : Int} {s : S30} (h : Ti v s) : 0 ≤ s.f0 ∧ s.f0 < 2 ^ nn v := by
  obtain ⟨_, hb, h0⟩ := h
  have h1 := hb.h1
  have h2 := hb.h2
  simp only [q] at h0 h1 h2
  omega
theorem top_i {w : Int} (hw : 1 ≤ w ∧ w ≤ 64) : interval_Top.f w = some (top (nn w)) := by rw [top_eq, if_pos hw]; rfl
theorem of_i {w : Int} (hw : 1 ≤ w ∧ w ≤ 64) {x : Int} (hx : 0 ≤ x ∧ x < 18446744073709551616) : interval_Of.f w x = some (one (nn w) x) := by rw [of_eq w hx, if_pos hw]; rfl
theorem bin_i (k : Nat) {op v a b : Int} (hv : 1 ≤ v ∧ v ≤ 64) (ho : 2 ≤ op ∧ op ≤ 20) (ha : 0 ≤ a ∧ a < 2 ^ nn v) (hb : 0 ≤ b ∧ b < 2 ^ nn v) : bits_Binary.f (k + 3) op v a b = some (bin op (nn v) a b, 0) := by
  have hp := pow_le (nn_le v)
  rw [binary_eq k op v a b (by omega) (by omega), if_pos ⟨ho.1, ho.2, hv.1, hv.2⟩, mod_small ha.1 ha.2, mod_small hb.1 hb.2]
/-- The value for two words. -/
theorem value_two {op w v : Int} (hv : 1 ≤ v ∧ v ≤ 64) (ho : 2 ≤ op ∧ op ≤ 20) {a b : S30} (ha : Ti v a) (hb : Ti v b) {k : Nat} (hk : 5 ≤ k) : interval_value.f k op w [v, v] [a, b] = some (bin op (nn v) a.f0 b.f0) := by
  obtain ⟨k, rfl⟩ : ∃ m, k = m + 4 := ⟨k - 4, by omega⟩
  unfold interval_value.f
  rw [if_pos (by simp), if_neg (by omega), if_neg (by omega), show rd_T30 [a, b] 0 = a from rfl, interval_value.j0, if_neg (by simp; omega), if_neg (by omega), if_pos (by simp), if_pos (by simp), show rd [v, v] 0 = v from rfl, show rd_T30 [a, b] 1 = b from rfl, bin_i k hv ho (word_of ha) (word_of hb)]
  rfl
theorem value_sel {w : Int} {ws : List Int} {a b c : S30} (ha : Ti 1 a) (k : Nat) : interval_value.f k 21 w ws [a, b, c] = some (if a.f0 = 1 then b.f0 else c.f0) := by
  have h := word_of ha
  have e : nn 1 = 1 := by decide
  rw [e] at h
  have hx : a.f0 = 0 ∨ a.f0 = 1 := by omega
  unfold interval_value.f
  rw [if_pos (by simp), if_pos rfl, show rd_T30 [a, b, c] 0 = a from rfl]
  rcases hx with hx | hx
  · rw [hx, show IntKind.u64.wrap (2 - 0) = 2 by decide, if_pos (by decide), if_pos (by simp)]; rfl
  · rw [hx, show IntKind.u64.wrap (2 - 1) = 1 by decide, if_pos (by decide), if_pos (by simp)]; rfl
/-- What an extension or a truncation of one word yields, cut to the result's width. -/
theorem value_cast {op w v : Int} (hw : 1 ≤ w ∧ w ≤ 64) (ho : op = 22 ∨ op = 23 ∨ op = 24) {a : S30} (ha : Ti v a) {k : Nat} (hk : 2 ≤ k) : ∃ x, interval_value.f k op w [v] [a] = some x ∧ (0 ≤ x ∧ x < 18446744073709551616) ∧ one (nn w) x = one (nn w) (castv op (nn w) (nn v) a.f0) := by
  obtain ⟨k, rfl⟩ : ∃ m, k = m + 1 := ⟨k - 1, by omega⟩
  have h := word_of ha
  have hp := pow_le (nn_le v)
  have mm : ∀ x : Int, one (nn w) x = one (nn w) (x % 2 ^ nn w) := fun x => by
    unfold one; rw [sg_fit, Int.emod_emod_of_dvd _ (Int.dvd_refl _)]
  unfold interval_value.f
  rw [if_pos (by simp), if_neg (by omega), show rd_T30 [a] 0 = a from rfl]
  rcases ho with rfl | rfl | rfl
  · refine ⟨a.f0, ?_, by omega, ?_⟩
    · rw [if_pos rfl, interval_value.j0, if_pos (by decide)]
    · rw [show castv 22 (nn w) (nn v) a.f0 = a.f0 % 2 ^ nn w by simp [castv]]; exact mm _
  · refine ⟨sg (nn v) a.f0 % 2 ^ nn w, ?_, mod_U (nn_le w) _, ?_⟩
    · rw [if_neg (by decide), interval_value.j0, if_neg (by decide), if_pos rfl, if_pos (by simp), show rd [v] 0 = v from rfl]
      unfold bits_Extend.f
      rw [if_pos rfl, signed_eq v (by omega), Option.bind_some, from_eq]; rfl
    · rw [show castv 23 (nn w) (nn v) a.f0 = sg (nn v) a.f0 % 2 ^ nn w by simp [castv]]
  · refine ⟨a.f0, ?_, by omega, ?_⟩
    · rw [if_neg (by decide), interval_value.j0, if_pos (by decide)]
    · rw [show castv 24 (nn w) (nn v) a.f0 = a.f0 % 2 ^ nn w by simp [castv]]; exact mm _
/-! ### One round of the loops -/
theorem rd_at {ws : List Int} {i : Nat} (h : i < ws.length) : rd ws (i : Int) = ws[i] := by
  unfold rd; rw [Int.toNat_natCast, List.getD_eq_getElem?_getD, List.getElem?_eq_getElem h]; rfl
theorem step_i {op w : Int} (hw : 1 ≤ w ∧ w ≤ 64) {ws : List Int} {args acc : List S30} (s : Bool) {i : Nat} (h1 : i < args.length) (h2 : i < ws.length) (hl : args.length ≤ 8) (ha : acc.length ≤ 8) {v : Int} {a : S30} (hv : rd ws (i : Int) = v) (he : rd_T30 args (i : Int) = a) (hwf : Wf a) {k : Nat} (hk : 3 ≤ k) :
    interval_Apply.l0 (k + 1) op w ws s acc args (args.length : Int) (i : Int) = if (tg v (q a)).2.2.2.2 = true then interval_Apply.l0 k op w ws (s && ((tg v (q a)).1 == (tg v (q a)).2.1)) (acc ++ [ts (tg v (q a))]) args (args.length : Int) ((i + 1 : Nat) : Int) else some (top (nn w)) := by
  rw [interval_Apply.l0, if_pos (by omega), if_pos (by omega), if_pos (by omega), if_pos (by omega), hv, he, tg_eq hwf hk, Option.bind_some]
  by_cases c : (tg v (q a)).2.2.2.2 = true
  · rw [if_pos c, if_pos c, if_pos (by omega), Option.bind_some, show wrap64 ((i : Int) + 1) = ((i + 1 : Nat) : Int) by rw [wrap64_id (by omega) (by omega)]; omega]
    cases s
    · rw [if_neg (by decide)]; rfl
    · rw [if_pos rfl, Bool.true_and]; rfl
  · rw [if_neg c, if_neg c, top_i hw]; rfl
theorem step_r {op w : Int} (hw : 1 ≤ w ∧ w ≤ 64) {ws : List Int} {args acc : List S30} {words : List Int} (num : Int) (s : Bool) {i : Nat} (h1 : i < args.length) (h2 : i < ws.length) (hl : args.length ≤ 8) (ha : acc.length ≤ 8) (hwd : words.length ≤ 8) {v : Int} {a : S30} (hv : rd ws (i : Int) = v) (he : rd_T30 args (i : Int) = a) (hwf : Wf a) {k : Nat} (hk : 71 < k) :
    jacquardref13_Apply.l0 (k + 1) op w ws args num acc words s (i : Int) = if (tg v (q a)).2.2.2.2 = true then jacquardref13_Apply.l0 k op w ws args num (acc ++ [ts (tg v (q a))]) (words ++ [(tg v (q a)).1]) (s && ((tg v (q a)).1 == (tg v (q a)).2.1)) ((i + 1 : Nat) : Int) else some (top (nn w)) := by
  have hn := nn_of (w := w) (by omega) hw.2
  obtain ⟨k, rfl⟩ : ∃ m, k = m + 1 := ⟨k - 1, by omega⟩
  rw [jacquardref13_Apply.l0, if_pos (by omega), if_pos (by omega), if_pos (by omega), hv, he, rtg_eq hwf (by omega), Option.bind_some]
  by_cases c : (tg v (q a)).2.2.2.2 = true
  · rw [if_pos c, if_pos c, if_pos (by omega), Option.bind_some, if_pos (by omega), Option.bind_some, show wrap64 ((i : Int) + 1) = ((i + 1 : Nat) : Int) by rw [wrap64_id (by omega) (by omega)]; omega]
    cases s
    · rw [if_neg (by decide)]; rfl
    · rw [if_pos rfl, Bool.true_and]; rfl
  · rw [if_neg c, if_neg c, rtop (w := w) (n := nn w) (k := k) hn.symm (by omega) (nn_le w) (by omega)]; rfl
/-! ### The end of the loops -/
theorem fin_one_i {op w : Int} (hw : 1 ≤ w ∧ w ≤ 64) {ws : List Int} {args acc : List S30} {i : Int} (h : ¬ i < (args.length : Int)) {x : Int} {k : Nat} (hv : interval_value.f k op w ws acc = some x) (hx : 0 ≤ x ∧ x < 18446744073709551616) :
    interval_Apply.l0 (k + 1) op w ws true acc args (args.length : Int) i = some (one (nn w) x) := by
  rw [interval_Apply.l0, if_neg h, if_pos rfl, hv, Option.bind_some, of_i hw hx]; rfl
theorem fin_many_i {op w : Int} (hw : 1 ≤ w ∧ w ≤ 64) {ws : List Int} {args acc : List S30} {i : Int} (h : ¬ i < (args.length : Int)) {u s : Int × Int} {k : Nat} (hk : 3 ≤ k)
    (hc : interval_computer_compute.f k w (2 ^ nn w - 1) (-2 ^ (nn w - 1)) (2 ^ (nn w - 1) - 1) 0 (2 ^ nn w - 1) (-2 ^ (nn w - 1)) (2 ^ (nn w - 1) - 1) op ws acc = res w (nn w) u s) (h0 : 0 ≤ u.1) (hI : I64 s.1 ∧ I64 s.2) :
    interval_Apply.l0 (k + 1) op w ws false acc args (args.length : Int) i = some (fitr w (u.1, u.2, s.1, s.2)) := by
  obtain ⟨k, rfl⟩ : ∃ m, k = m + 3 := ⟨k - 3, by omega⟩
  rw [interval_Apply.l0, if_neg h, if_neg (by decide), ends_eq hw, Option.bind_some, mask_eq, Option.bind_some, top_i hw, Option.bind_some]
  simp only [top]
  rw [hc]
  unfold res
  simp only [Option.bind_some]
  rw [tighten_eq w u.1 u.2 s.1 s.2 h0 ⟨hI.1.1, hI.2.2⟩, Option.bind_some]
  unfold fitr tg
  simp only []
  by_cases c : Valid w u.1 u.2 s.1 s.2
  · rw [if_pos c]
    by_cases c2 : (Tg.tight (nn w) u.1 u.2 s.1 s.2).2.2.2.2 = true
    · rw [if_pos c2, if_pos c2]
    · rw [if_neg c2, if_neg c2]; rfl
  · rw [if_neg c]; rfl
theorem fin_one_r {op w : Int} (hw : 1 ≤ w ∧ w ≤ 64) {ws : List Int} {args acc : List S30} {words : List Int} {num i : Int} (h : ¬ i < (args.length : Int)) {x : Int} {k : Nat} (hk : 71 < k) (hv : jacquardref12_Eval.f k op w ws words num = some x) (hx : 0 ≤ x ∧ x < 18446744073709551616) :
    jacquardref13_Apply.l0 (k + 1) op w ws args num acc words true i = some (one (nn w) x) := by
  have hn := nn_of (w := w) (by omega) hw.2
  obtain ⟨k, rfl⟩ : ∃ m, k = m + 1 := ⟨k - 1, by omega⟩
  rw [jacquardref13_Apply.l0, if_neg h, if_pos rfl, hv, Option.bind_some, rof (w := w) (n := nn w) (k := k) hn.symm (by omega) (nn_le w) (by omega) hx]; rfl
theorem fit_r {w : Int} (hw : 1 ≤ w ∧ w ≤ 64) {r : R} (h0 : 0 ≤ r.1) (hI : I64 r.2.2.1 ∧ I64 r.2.2.2) {k : Nat} (hk : 71 < k) : jacquardref13_Apply.j4 (k + 1) w r.1 r.2.1 r.2.2.1 r.2.2.2 = some (fitr w r) := by
  have hn := nn_of (w := w) (by omega) hw.2
  obtain ⟨k, rfl⟩ : ∃ m, k = m + 1 := ⟨k - 1, by omega⟩
  rw [jacquardref13_Apply.j4, rtighten_eq w r.1 r.2.1 r.2.2.1 r.2.2.2 h0 ⟨hI.1.1, hI.2.2⟩ (by omega), Option.bind_some]
  unfold fitr tg
  by_cases c : Valid w r.1 r.2.1 r.2.2.1 r.2.2.2
  · rw [if_pos c]
    by_cases c2 : (Tg.tight (nn w) r.1 r.2.1 r.2.2.1 r.2.2.2).2.2.2.2 = true
    · rw [if_pos c2, if_pos c2]
    · rw [if_neg c2, if_neg c2, rtop (w := w) (n := nn w) (k := k) hn.symm (by omega) (nn_le w) (by omega)]; rfl
  · rw [if_neg c]
    rw [if_neg (by decide), if_neg (by decide), rtop (w := w) (n := nn w) (k := k) hn.symm (by omega) (nn_le w) (by omega)]; rfl
/-- The whole, for both: the rounds that are left, and what they end in. -/
def go (top : R) (fin : Bool → List S30 → R) : List (Int × S30) → Bool → List S30 → R
  | [], s, acc => fin s acc
  | (v, a) :: l, s, acc => if (tg v (q a)).2.2.2.2 = true then go top fin l (s && ((tg v (q a)).1 == (tg v (q a)).2.1)) (acc ++ [ts (tg v (q a))]) else top
end Go.Proofs.Ytoddafkffchnjaa.Ar
