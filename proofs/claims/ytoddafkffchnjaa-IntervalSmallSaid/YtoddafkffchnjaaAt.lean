import Derived.Test.YtoddafkffchnjaaAs
import Derived.Test.YtoddafkffchnjaaDf
/- Apply, by both packages: one result. -/
namespace Go.Proofs.Ytoddafkffchnjaa.At
set_option linter.unusedVariables false
set_option linter.unusedSimpArgs false
set_option linter.unusedSectionVars false
open Go.RowKit Go.Proofs.Ytoddafkffchnjaa.P Go.Proofs.YtoddafkffchnjaaW.PrintWords Wd Im Iv Tg Lw0 Ap Cm Cn Ev Rf Aq Ar As

/-- What the rounds lead to, for lists of one, two and three ranges. -/
def g1 (t : R) (fin : Bool → S30 → R) (v : Int) (a : S30) : R := if (tg v (q a)).2.2.2.2 = true then fin (true && ((tg v (q a)).1 == (tg v (q a)).2.1)) (ts (tg v (q a))) else t
def g2 (t : R) (fin : Bool → S30 → S30 → R) (v u : Int) (a b : S30) : R :=
  if (tg v (q a)).2.2.2.2 = true then (if (tg u (q b)).2.2.2.2 = true then fin (true && ((tg v (q a)).1 == (tg v (q a)).2.1) && ((tg u (q b)).1 == (tg u (q b)).2.1)) (ts (tg v (q a))) (ts (tg u (q b))) else t) else t
def g3 (t : R) (fin : Bool → S30 → S30 → S30 → R) (v u x : Int) (a b c : S30) : R :=
  if (tg v (q a)).2.2.2.2 = true then (if (tg u (q b)).2.2.2.2 = true then (if (tg x (q c)).2.2.2.2 = true then fin (true && ((tg v (q a)).1 == (tg v (q a)).2.1) && ((tg u (q b)).1 == (tg u (q b)).2.1) && ((tg x (q c)).1 == (tg x (q c)).2.1)) (ts (tg v (q a))) (ts (tg u (q b))) (ts (tg x (q c))) else t) else t) else t
section
variable {op w : Int} (hw : 1 ≤ w ∧ w ≤ 64)
include hw
theorem one_i {v : Int} {a : S30} (hv : 1 ≤ v ∧ v ≤ 64) (wa : Wf a) {k : Nat} (hk : 90 < k) {fin : Bool → S30 → R}
    (hf : ∀ s a', Ti v a' → interval_Apply.l0 k op w [v] s [a'] [a] 1 1 = some (fin s a')) : interval_Apply.l0 (k + 1) op w [v] true [] [a] 1 0 = some (g1 (top (nn w)) fin v a) := by
  have h := step_i hw (op := op) (ws := [v]) (args := [a]) (acc := []) true (i := 0) (by simp) (by simp) (by simp) (by simp) (v := v) (a := a) rfl rfl wa (k := k) (by omega)
  refine (show _ = _ from h).trans ?_
  unfold g1
  by_cases c : (tg v (q a)).2.2.2.2 = true
  · rw [if_pos c, if_pos c]; exact hf _ _ (ti_of hv wa c)
  · rw [if_neg c, if_neg c]
theorem one_r {v num : Int} {a : S30} (hv : 1 ≤ v ∧ v ≤ 64) (wa : Wf a) {k : Nat} (hk : 90 < k) {fin : Bool → S30 → R}
    (hf : ∀ s a', Ti v a' → jacquardref13_Apply.l0 k op w [v] [a] num [a'] [a'.f0] s 1 = some (fin s a')) : jacquardref13_Apply.l0 (k + 1) op w [v] [a] num [] [] true 0 = some (g1 (top (nn w)) fin v a) := by
  have h := step_r hw (op := op) (ws := [v]) (args := [a]) (acc := []) (words := []) num true (i := 0) (by simp) (by simp) (by simp) (by simp) (by simp) (v := v) (a := a) rfl rfl wa (k := k) (by omega)
  refine (show _ = _ from h).trans ?_
  unfold g1
  by_cases c : (tg v (q a)).2.2.2.2 = true
  · rw [if_pos c, if_pos c]; exact hf _ _ (ti_of hv wa c)
  · rw [if_neg c, if_neg c]
theorem two_i {v u : Int} {a b : S30} (hv : 1 ≤ v ∧ v ≤ 64) (hu : 1 ≤ u ∧ u ≤ 64) (wa : Wf a) (wb : Wf b) {k : Nat} (hk : 90 < k) {fin : Bool → S30 → S30 → R}
    (hf : ∀ s a' b', Ti v a' → Ti u b' → interval_Apply.l0 k op w [v, u] s [a', b'] [a, b] 2 2 = some (fin s a' b')) : interval_Apply.l0 (k + 2) op w [v, u] true [] [a, b] 2 0 = some (g2 (top (nn w)) fin v u a b) := by
  have h := step_i hw (op := op) (ws := [v, u]) (args := [a, b]) (acc := []) true (i := 0) (by simp) (by simp) (by simp) (by simp) (v := v) (a := a) rfl rfl wa (k := k + 1) (by omega)
  refine (show _ = _ from h).trans ?_
  unfold g2
  by_cases c : (tg v (q a)).2.2.2.2 = true
  · rw [if_pos c, if_pos c]
    have h2 := step_i hw (op := op) (ws := [v, u]) (args := [a, b]) (acc := [ts (tg v (q a))]) (true && ((tg v (q a)).1 == (tg v (q a)).2.1)) (i := 1) (by simp) (by simp) (by simp) (by simp) (v := u) (a := b) rfl rfl wb (k := k) (by omega)
    refine (show _ = _ from h2).trans ?_
    by_cases c2 : (tg u (q b)).2.2.2.2 = true
    · rw [if_pos c2, if_pos c2]; exact hf _ _ _ (ti_of hv wa c) (ti_of hu wb c2)
    · rw [if_neg c2, if_neg c2]
  · rw [if_neg c, if_neg c]
theorem two_r {v u num : Int} {a b : S30} (hv : 1 ≤ v ∧ v ≤ 64) (hu : 1 ≤ u ∧ u ≤ 64) (wa : Wf a) (wb : Wf b) {k : Nat} (hk : 90 < k) {fin : Bool → S30 → S30 → R}
    (hf : ∀ s a' b', Ti v a' → Ti u b' → jacquardref13_Apply.l0 k op w [v, u] [a, b] num [a', b'] [a'.f0, b'.f0] s 2 = some (fin s a' b')) : jacquardref13_Apply.l0 (k + 2) op w [v, u] [a, b] num [] [] true 0 = some (g2 (top (nn w)) fin v u a b) := by
  have h := step_r hw (op := op) (ws := [v, u]) (args := [a, b]) (acc := []) (words := []) num true (i := 0) (by simp) (by simp) (by simp) (by simp) (by simp) (v := v) (a := a) rfl rfl wa (k := k + 1) (by omega)
  refine (show _ = _ from h).trans ?_
  unfold g2
  by_cases c : (tg v (q a)).2.2.2.2 = true
  · rw [if_pos c, if_pos c]
    have h2 := step_r hw (op := op) (ws := [v, u]) (args := [a, b]) (acc := [ts (tg v (q a))]) (words := [(tg v (q a)).1]) num (true && ((tg v (q a)).1 == (tg v (q a)).2.1)) (i := 1) (by simp) (by simp) (by simp) (by simp) (by simp) (v := u) (a := b) rfl rfl wb (k := k) (by omega)
    refine (show _ = _ from h2).trans ?_
    by_cases c2 : (tg u (q b)).2.2.2.2 = true
    · rw [if_pos c2, if_pos c2]; exact hf _ _ _ (ti_of hv wa c) (ti_of hu wb c2)
    · rw [if_neg c2, if_neg c2]
  · rw [if_neg c, if_neg c]
theorem three_i {v u x : Int} {a b d : S30} (hv : 1 ≤ v ∧ v ≤ 64) (hu : 1 ≤ u ∧ u ≤ 64) (hx : 1 ≤ x ∧ x ≤ 64) (wa : Wf a) (wb : Wf b) (wd : Wf d) {k : Nat} (hk : 90 < k) {fin : Bool → S30 → S30 → S30 → R}
    (hf : ∀ s a' b' d', Ti v a' → Ti u b' → Ti x d' → interval_Apply.l0 k op w [v, u, x] s [a', b', d'] [a, b, d] 3 3 = some (fin s a' b' d')) : interval_Apply.l0 (k + 3) op w [v, u, x] true [] [a, b, d] 3 0 = some (g3 (top (nn w)) fin v u x a b d) := by
  have h := step_i hw (op := op) (ws := [v, u, x]) (args := [a, b, d]) (acc := []) true (i := 0) (by simp) (by simp) (by simp) (by simp) (v := v) (a := a) rfl rfl wa (k := k + 2) (by omega)
  refine (show _ = _ from h).trans ?_
  unfold g3
  by_cases c : (tg v (q a)).2.2.2.2 = true
  · rw [if_pos c, if_pos c]
    have h2 := step_i hw (op := op) (ws := [v, u, x]) (args := [a, b, d]) (acc := [ts (tg v (q a))]) (true && ((tg v (q a)).1 == (tg v (q a)).2.1)) (i := 1) (by simp) (by simp) (by simp) (by simp) (v := u) (a := b) rfl rfl wb (k := k + 1) (by omega)
    refine (show _ = _ from h2).trans ?_
    by_cases c2 : (tg u (q b)).2.2.2.2 = true
    · rw [if_pos c2, if_pos c2]
      have h3 := step_i hw (op := op) (ws := [v, u, x]) (args := [a, b, d]) (acc := [ts (tg v (q a)), ts (tg u (q b))]) (true && ((tg v (q a)).1 == (tg v (q a)).2.1) && ((tg u (q b)).1 == (tg u (q b)).2.1)) (i := 2) (by simp) (by simp) (by simp) (by simp) (v := x) (a := d) rfl rfl wd (k := k) (by omega)
      refine (show _ = _ from h3).trans ?_
      by_cases c3 : (tg x (q d)).2.2.2.2 = true
      · rw [if_pos c3, if_pos c3]; exact hf _ _ _ _ (ti_of hv wa c) (ti_of hu wb c2) (ti_of hx wd c3)
      · rw [if_neg c3, if_neg c3]
    · rw [if_neg c2, if_neg c2]
  · rw [if_neg c, if_neg c]
theorem three_r {v u x num : Int} {a b d : S30} (hv : 1 ≤ v ∧ v ≤ 64) (hu : 1 ≤ u ∧ u ≤ 64) (hx : 1 ≤ x ∧ x ≤ 64) (wa : Wf a) (wb : Wf b) (wd : Wf d) {k : Nat} (hk : 90 < k) {fin : Bool → S30 → S30 → S30 → R}
    (hf : ∀ s a' b' d', Ti v a' → Ti u b' → Ti x d' → jacquardref13_Apply.l0 k op w [v, u, x] [a, b, d] num [a', b', d'] [a'.f0, b'.f0, d'.f0] s 3 = some (fin s a' b' d')) : jacquardref13_Apply.l0 (k + 3) op w [v, u, x] [a, b, d] num [] [] true 0 = some (g3 (top (nn w)) fin v u x a b d) := by
  have h := step_r hw (op := op) (ws := [v, u, x]) (args := [a, b, d]) (acc := []) (words := []) num true (i := 0) (by simp) (by simp) (by simp) (by simp) (by simp) (v := v) (a := a) rfl rfl wa (k := k + 2) (by omega)
  refine (show _ = _ from h).trans ?_
  unfold g3
  by_cases c : (tg v (q a)).2.2.2.2 = true
  · rw [if_pos c, if_pos c]
    have h2 := step_r hw (op := op) (ws := [v, u, x]) (args := [a, b, d]) (acc := [ts (tg v (q a))]) (words := [(tg v (q a)).1]) num (true && ((tg v (q a)).1 == (tg v (q a)).2.1)) (i := 1) (by simp) (by simp) (by simp) (by simp) (by simp) (v := u) (a := b) rfl rfl wb (k := k + 1) (by omega)
    refine (show _ = _ from h2).trans ?_
    by_cases c2 : (tg u (q b)).2.2.2.2 = true
    · rw [if_pos c2, if_pos c2]
      have h3 := step_r hw (op := op) (ws := [v, u, x]) (args := [a, b, d]) (acc := [ts (tg v (q a)), ts (tg u (q b))]) (words := [(tg v (q a)).1, (tg u (q b)).1]) num (true && ((tg v (q a)).1 == (tg v (q a)).2.1) && ((tg u (q b)).1 == (tg u (q b)).2.1)) (i := 2) (by simp) (by simp) (by simp) (by simp) (by simp) (v := x) (a := d) rfl rfl wd (k := k) (by omega)
      refine (show _ = _ from h3).trans ?_
      by_cases c3 : (tg x (q d)).2.2.2.2 = true
      · rw [if_pos c3, if_pos c3]; exact hf _ _ _ _ (ti_of hv wa c) (ti_of hu wb c2) (ti_of hx wd c3)
      · rw [if_neg c3, if_neg c3]
    · rw [if_neg c2, if_neg c2]
  · rw [if_neg c, if_neg c]
end
end Go.Proofs.Ytoddafkffchnjaa.At
