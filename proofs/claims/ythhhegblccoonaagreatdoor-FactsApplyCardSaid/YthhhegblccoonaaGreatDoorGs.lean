import Derived.Test.YthhhegblccoonaaGreatDoorPr
import Derived.Test.YthhhegblccoonaaGreatDoorV1
import Derived.KernelRfl
/- From the evaluations to what calls do: callees first, one by one. -/
namespace Go.Vm
set_option linter.unusedSectionVars false
variable [Globs]
set_option linter.unusedVariables false
set_option linter.unusedSimpArgs false
def callsOp (o : Oper) : List Nat := match o.op with
  | .call c => (match c.callee with | .value (.func f) => [f] | _ => [])
  | _ => []
def callsC : Code → List Nat
  | .region _ ops _ => ops.toList.flatMap callsOp
  | .seq a b => callsC a ++ callsC b
  | .cond _ a b => callsC a ++ callsC b
  | .block _ c => callsC c
  | .loop c => callsC c
  | _ => []
section
variable {T : En} {K K' : Oracle} {L : Nat} {H : Hints}
theorem callV_congr {f : Nat} (h : K f = K' f) (fo : Bool) (vs : List V) (hp : Heap) : callV K fo f vs hp = callV K' fo f vs hp := by
  simp only [callV, callW, callR, ask, h]
theorem act_congr {p : PO} (hk : ∀ f ∈ callsOp p.o, K f = K' f) (fo : Bool) (vs : List V) (h : Heap) : act T K p fo vs h = act T K' p fo vs h := by
  unfold act
  split <;> try rfl
  rename_i c hc
  split <;> try rfl
  rename_i f hf
  split <;> try rfl
  exact callV_congr (hk f (by simp [callsOp, hc, hf])) _ _ _
theorem step_congr {p : PO} (hk : ∀ f ∈ callsOp p.o, K f = K' f) (fo : Bool) (st : St) : step T K fo p st = step T K' fo p st := by
  simp only [step, act_congr hk]
theorem runsH_congr : ∀ (hs : List Hint) (os : List Oper) (n : Nat) (st : St), (∀ f ∈ os.flatMap callsOp, K f = K' f) → runsH T K hs os n st = runsH T K' hs os n st
  | [], [], _, _, _ => rfl
  | [], _ :: _, _, _, _ => rfl
  | _ :: _, [], _, _, _ => rfl
  | (fo, g, tk, ps) :: hs, o :: os, n, st, hk => by
    simp only [runsH]
    rw [step_congr (p := ⟨o, n, g, tk, ps⟩) (fun f hf => hk f (by simp only [List.flatMap_cons, List.mem_append]; exact .inl hf))]
    split
    · exact runsH_congr hs os _ _ (fun f hf => hk f (by simp only [List.flatMap_cons, List.mem_append]; exact .inr hf))
    · rfl
theorem evC_congr : ∀ (c : Code), (∀ f ∈ callsC c, K f = K' f) → evC T K L H c = evC T K' L H c
  | .region id ops d, hk => by
    funext st
    simp only [evC, evRegionH]
    split
    · rename_i st' h
      split at h
      · cases h
      · rw [runsH_congr _ _ _ _ hk] at h; rw [h]
    · rename_i h
      split at h
      · rfl
      · rw [runsH_congr _ _ _ _ hk] at h; rw [h]
  | .seq a b, hk => by
    funext st
    simp only [evC]
    rw [evC_congr a fun f hf => hk f (List.mem_append_left _ hf), evC_congr b fun f hf => hk f (List.mem_append_right _ hf)]
  | .cond x a b, hk => by
    funext st
    simp only [evC]
    rw [evC_congr a fun f hf => hk f (List.mem_append_left _ hf), evC_congr b fun f hf => hk f (List.mem_append_right _ hf)]
  | .block id c, hk => by
    funext st
    simp only [evC]
    rw [evC_congr c hk]
  | .loop c, hk => by
    funext st
    simp only [evC]
    rw [evC_congr c hk]
  | .skip, _ => rfl
  | .label _, _ => rfl
  | .exit _, _ => rfl
  | .ret, _ => rfl
  | .rangeFunc .., _ => rfl
  | .scope _, _ => rfl
  | .goto _, _ => rfl
  | .refuse _, _ => rfl
end
/-- An oracle for some functions alone. -/
def cutK (l : List Nat) (K : Oracle) : Oracle := fun f a h => match l.contains f with | true => K f a h | false => none
def fitFn (l : List Nat) (H : Hints) (fn : Func) : Bool := fnOk H fn && !(fn.name == "runtime.NumGoroutine") && (match fn.body with | some c => (callsC c).all l.contains | none => false)
theorem evFn_cut {T : En} {K : Oracle} {L : Nat} {H : Hints} {l : List Nat} {fn : Func} (hfit : fitFn l H fn = true) (args : List V) (h : Heap) : evFn T L (cutK l K) H fn args h = evFn T L K H fn args h := by
  simp only [fitFn, Bool.and_eq_true] at hfit
  have hc := hfit.2
  unfold evFn
  split
  · rfl
  · rename_i c hb
    rw [hb] at hc
    simp only [List.all_eq_true] at hc
    rw [evC_congr (K := cutK l K) (K' := K) c fun f hf => by
      funext a h; simp only [cutK, hc f hf]]
section
variable {P : Program} {E : En} {K : Oracle} {l : List Nat} {n : Nat} {fn : Func} {H : Hints} {L : Nat}
theorem cut_nil : Sound P (cutK [] K) := fun f args h v h' hk => by simp [cutK] at hk
theorem cut_cons (hS : Sound P (cutK l K)) (h1 : ∀ args h v h', K n args h = some (v, h') → Spec P n args h v h') : Sound P (cutK (n :: l) K) := fun f args h v h' hk => by
  unfold cutK at hk
  split at hk
  · rename_i hf
    by_cases hn : f = n
    · subst hn; exact h1 _ _ _ _ hk
    · refine hS f args h v h' ?_
      have : l.contains f = true := by simpa [hn] using hf
      unfold cutK; rw [this]; exact hk
  · cases hk
theorem sound_step (hE : E.ok P) (hmix : P.follows .mixedOrders = true) (hS : Sound P (cutK l K)) (hf : P.funcs[n]? = some fn) (hfit : fitFn l H fn = true)
    (ev : ∀ args h v h', K n args h = some (v, h') → evFn E L K H fn args h = some (v, h')) : Sound P (cutK (n :: l) K) := by
  refine cut_cons hS fun args h v h' hk => ?_
  have hq := hfit
  simp only [fitFn, Bool.and_eq_true, Bool.not_eq_true'] at hq
  exact fn_ok hE hS hmix hf hq.1.2 hq.1.1 (by rw [evFn_cut hfit]; exact ev _ _ _ _ hk)
theorem law_step (hE : E.ok P) (hmix : P.follows .mixedOrders = true) (hS : Sound P (cutK l K)) (hf : P.funcs[n]? = some fn) (hfit : fitFn l H fn = true) {args : List V} {h h' : Heap} {v : V}
    (ev : evFn E L K H fn args h = some (v, h')) : ∀ (w : World) (li : Lim) (B : BM) (xs : List Value) (ra rh : Res), RepL w li args B xs ra → RepH w li B h B rh → (∀ b, ra b + rh b ≤ 1) → (∀ b, ra b + rh b ≠ 0 → b < w.heap.size) → Held w li →
    Calls P n xs.toArray w fun e w' => ∃ x, e = .returned x ∧ ∃ (l' : Lim) (rv rh' : Res), Rep w' l' v B x rv ∧ RepH w' l' B h' B rh' ∧ (∀ b, rv b + rh' b ≤ 1) ∧
      Ext (fun b => ra b + rh b) w li w' l' ∧ (∀ b, rv b + rh' b ≠ 0 → b < w'.heap.size ∧ (b < w.heap.size → ra b + rh b ≠ 0)) := fun w li B xs ra rh hA hH h1 hm hG => by
  have hq := hfit
  simp only [fitFn, Bool.and_eq_true, Bool.not_eq_true'] at hq
  exact (fn_calls hE hS hmix hf hq.1.2 hq.1.1 (by rw [evFn_cut hfit]; exact ev) w li B xs ra rh hA hH h1 hm hG).2
end
end Go.Vm
