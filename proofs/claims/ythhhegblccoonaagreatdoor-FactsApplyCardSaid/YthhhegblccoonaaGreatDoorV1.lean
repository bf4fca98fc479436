import Derived.Test.YthhhegblccoonaaGreatDoorV0
import Derived.Laws.AppendOwn
import Derived.Orders
import Derived.LoopN
import Derived.OpenShut
import Derived.ChangeSlices
import Derived.Deep.Slices
import Derived.SizedLaws
import Derived.Below
/- The evaluator by value: states; operations that take over. -/
namespace Go.Vm
set_option linter.unusedSectionVars false
variable [Globs]
set_option linter.unusedVariables false
set_option linter.unusedSimpArgs false

/-- What a function does, called from anywhere: by its body, or as an entry of the model. -/
def Does (P : Program) (f : FuncId) (xs : Array Value) (w : World) (R : Value → World → Prop) : Prop :=
  (∃ fn, P.funcs[f]? = some fn ∧ fn.body.isNone = false ∧ (fn.name == "runtime.NumGoroutine") = false ∧ Calls P f xs w fun e w' => ∃ x, e = .returned x ∧ R x w') ∨
  (∃ x w', (callFunc f xs).run P w = .ok (.value x) w' ∧ R x w')

/-- What a call of a function does, for any world that holds its arguments. -/
def Spec (P : Program) (f : FuncId) (args : List V) (h : Heap) (v : V) (h' : Heap) : Prop :=
  ∀ (w : World) (l : Lim) (B : BM) (xs : List Value) (ra rh : Res), RepL w l args B xs ra → RepH w l B h B rh → (∀ b, ra b + rh b ≤ 1) → (∀ b, ra b + rh b ≠ 0 → b < w.heap.size) → Held w l →
    Does P f xs.toArray w fun x w' => ∃ (l' : Lim) (rv rh' : Res), Rep w' l' v B x rv ∧ RepH w' l' B h' B rh' ∧ (∀ b, rv b + rh' b ≤ 1) ∧
      Ext (fun b => ra b + rh b) w l w' l' ∧ (∀ b, rv b + rh' b ≠ 0 → b < w'.heap.size ∧ (b < w.heap.size → ra b + rh b ≠ 0))

def Sound (P : Program) (K : Oracle) : Prop := ∀ f args h v h', K f args h = some (v, h') → Spec P f args h v h'

/-- A real state for an abstract one. -/
structure RelB (w0 : World) (l0 : Lim) (R0 : Res) (B0 : BM) (st : St) (a : Act) (w : World) (B : BM) (l : Lim) (rs rh : Res) : Prop where
  defers : a.defers = []
  slots : RepL w l st.s B a.tmps.toList rs
  heap : RepH w l B st.h B rh
  once : ∀ b, rs b + rh b ≤ 1
  mine : ∀ b, rs b + rh b ≠ 0 → b < w.heap.size ∧ (b < w0.heap.size → R0 b ≠ 0)
  ext : Ext R0 w0 l0 w l
  base : ∀ i : Nat, i < B0.length → B[i]? = B0[i]?
  more : B0.length ≤ B.length
  glob : Held w0 l0

theorem RelB.held {w0 : World} {l0 : Lim} {R0 : Res} {B0 : BM} {st : St} {a : Act} {w : World} {B : BM} {l : Lim} {rs rh : Res} (h : RelB w0 l0 R0 B0 st a w B l rs rh) : Held w l := h.glob.mono h.ext

section
variable {P : Program} {E : En} {w : World} {l : Lim} {B : BM} {w0 : World} {l0 : Lim} {R0 : Res} {B0 : BM} {pend : List Nat} {st : St} {a : Act} {rs rh : Res}

/-- The value of an operand. -/
theorem ev_ok {s : List V} {rs : Res} (hG : Held w l) (hL : RepL w l s B a.tmps.toList rs) {o : Operand} {v : V} (h : ev s o = some v) :
    ∃ r, Rep w l v B (a.eval o) r ∧ Sub r rs ∧ ((∀ t, o ≠ .tmp t) → ∀ b, r b = 0) := by
  cases o with
  | tmp t =>
    obtain ⟨y, r1, r2, hy, hR, hs, _⟩ := hL.at h
    have : a.eval (.tmp t) = y := by
      have : a.tmps[t]? = some y := by simpa using hy
      simp [Act.eval, Array.getD_eq_getD_getElem?, this]
    rw [this]
    exact ⟨r1, hR, fun b => by have := hs b; omega, fun hc => absurd rfl (hc t)⟩
  | const c =>
    simp [ev] at h
    obtain ⟨hc, rfl⟩ := h
    have hc' : c.cells.toList.all Value.oneCell' = true ∨ ∀ cs, c ≠ .agg cs := by
      cases c <;> first | (left; simpa [constV, Value.cells] using hc; done) | (right; intro cs; exact nofun)
    exact ⟨nil0, Rep.ofConst hc', fun b => Nat.zero_le _, fun _ _ => rfl⟩
  | func f =>
    simp [ev] at h; subst h
    exact ⟨nil0, Rep.of_scalar, fun b => Nat.zero_le _, fun _ _ => rfl⟩
  | global g =>
    simp only [ev] at h
    split at h
    · rename_i cs hg
      cases h
      have := hG g cs hg
      refine ⟨nil0, ?_, fun b => Nat.zero_le _, fun _ _ => rfl⟩
      simp only [Rep] at this ⊢
      exact this
    · cases h

theorem evs_ok {s : List V} {rs : Res} (hG : Held w l) (hL : RepL w l s B a.tmps.toList rs) : ∀ (os : List Operand) (vs : List V), os.mapM (ev s) = some vs → Opd w l B vs (os.map a.eval)
  | [], vs, h => by simp at h; subst h; simp [Opd]
  | o :: os, vs, h => by
    simp only [List.mapM_cons, Option.bind_eq_bind, Option.bind_eq_some_iff, Option.pure_def] at h
    obtain ⟨v, hv, us, hus, he⟩ := h
    cases he
    obtain ⟨r, hR, _⟩ := ev_ok hG hL hv
    simp only [List.map_cons, Opd]
    exact ⟨⟨r, hR⟩, evs_ok hG hL os us hus⟩

/-- A value is put into a slot. -/
theorem putV_ok {w : World} {l : Lim} {s : List V} {rs rv : Res} {dst : Option Nat} {v : V} {x : Value} (hL : RepL w l s B a.tmps.toList rs) (hv : Rep w l v B x rv) :
    ∃ r', RepL w l (putV s dst v) B (a.put dst x).tmps.toList r' ∧ ∀ b, r' b ≤ rs b + rv b := by
  cases dst with
  | none => exact ⟨rs, hL, fun b => Nat.le_add_right _ _⟩
  | some d =>
    have e1 : putV s (some d) v = s.set d v := rfl
    have e2 : (a.put (some d) x).tmps.toList = a.tmps.toList.set d x := by simp [Act.put]
    rw [e1, e2]
    cases hd : s[d]? with
    | none =>
      have h1 : s.length ≤ d := by simpa using hd
      rw [List.set_eq_of_length_le h1, List.set_eq_of_length_le (by rw [hL.length]; exact h1)]
      exact ⟨rs, hL, fun b => Nat.le_add_right _ _⟩
    | some u =>
      obtain ⟨y, r1, r2, hy, hR, hs, hset⟩ := hL.at hd
      exact ⟨_, hset v x rv hv, fun b => by have := hs b; show rv b + r2 b ≤ _; omega⟩

/-- What is taken over is no longer owned where it was. -/
theorem take_ok {s : List V} {rs : Res} (hL : RepL w l s B a.tmps.toList rs) {t : Nat} {v : V} (h : s[t]? = some v) :
    ∃ r1 r2, Rep w l v B (a.eval (.tmp t)) r1 ∧ RepL w l (s.modify t erase) B a.tmps.toList r2 ∧ ∀ b, rs b = r1 b + r2 b := by
  obtain ⟨y, r1, r2, hy, hR, hs, hset⟩ := hL.at h
  have hy' : a.tmps[t]? = some y := by simpa using hy
  have he : a.eval (.tmp t) = y := by simp [Act.eval, Array.getD_eq_getD_getElem?, hy']
  rw [he]
  refine ⟨r1, r2, hR, ?_, hs⟩
  have h1 := hset (erase v) y nil0 (Rep.erase _ _ _ _ hR)
  have hm : s.modify t erase = s.set t (erase v) := by
    apply List.ext_getElem?
    intro i
    rw [List.getElem?_modify]
    by_cases hi : t = i
    · subst hi
      rw [List.getElem?_set_self']
      simp [h]
    · rw [List.getElem?_set_ne hi]
      simp [hi]
  have hl : a.tmps.toList.set t y = a.tmps.toList := by
    apply List.ext_getElem?
    intro i
    by_cases hi : i = t
    · subst hi
      rw [List.getElem?_set_self']
      simp [hy']
    · rw [List.getElem?_set_ne (Ne.symm hi)]
  rw [hm, ← hl]
  exact RepL.res (fun b => by simp [nil0]) h1


/-- A step's end: what it yields is put into its slot. -/
theorem finish (h : RelB w0 l0 R0 B0 st a w B l rs rh) {w' : World} {l' : Lim} {B' : BM} {s' : List V} {rs' rv rh' : Res} {v : V} {x : Value} {h' : Heap}
    (hs : RepL w' l' s' B' a.tmps.toList rs') (hv : Rep w' l' v B' x rv) (hh : RepH w' l' B' h' B' rh') (h1 : ∀ b, rs' b + rv b + rh' b ≤ 1)
    (hm : ∀ b, rs' b + rv b + rh' b ≠ 0 → b < w'.heap.size ∧ (b < w.heap.size → rs b + rh b ≠ 0)) (hE : Ext (fun b => rs b + rh b) w l w' l')
    (hB : ∀ i : Nat, i < B0.length → B'[i]? = B[i]?) (hBl : B.length ≤ B'.length) (dst : Option Nat) :
    ∃ rs'', RelB w0 l0 R0 B0 ⟨putV s' dst v, h'⟩ (a.put dst x) w' B' l' rs'' rh' := by
  obtain ⟨r', hL, hle⟩ := putV_ok (dst := dst) hs hv
  refine ⟨r', ⟨?_, hL, hh, fun b => ?_, fun b hb => ?_, ?_, fun i hi => (hB i hi).trans (h.base i hi), Nat.le_trans h.more hBl, h.glob⟩⟩
  · cases dst <;> exact h.defers
  · have := h1 b; have := hle b; omega
  · have := hle b
    have h2 := hm b (by omega)
    exact ⟨h2.1, fun hb0 => (h.mine b (h2.2 (Nat.lt_of_lt_of_le hb0 h.ext.size))).2 hb0⟩
  · exact h.ext.trans hE fun b hb hn => (h.mine b hn).2 hb

/-- A step that changes nothing else. -/
theorem finish_same (h : RelB w0 l0 R0 B0 st a w B l rs rh) {v : V} {x : Value} (hv : Rep w l v B x nil0) (dst : Option Nat) :
    ∃ rs'', RelB w0 l0 R0 B0 ⟨putV st.s dst v, st.h⟩ (a.put dst x) w B l rs'' rh :=
  finish h h.slots hv h.heap (fun b => by have := h.once b; simp only [nil0]; omega) (fun b hb => by
    have h2 := h.mine b (by simp only [nil0] at hb; omega)
    exact ⟨h2.1, fun _ => by simp only [nil0] at hb; omega⟩) (Ext.refl _ _ _) (fun _ _ => rfl) (Nat.le_refl _) dst

/-- A step that takes over a slot's value. -/
theorem finish_take (h : RelB w0 l0 R0 B0 st a w B l rs rh) {t : Nat} {v : V} (ht : st.s[t]? = some v) (dst : Option Nat) :
    ∃ rs'', RelB w0 l0 R0 B0 ⟨putV (st.s.modify t erase) dst v, st.h⟩ (a.put dst (a.eval (.tmp t))) w B l rs'' rh := by
  obtain ⟨r1, r2, hR, hL, hs⟩ := take_ok h.slots ht
  refine finish h hL hR h.heap (fun b => by have := h.once b; have := hs b; omega) (fun b hb => ?_) (Ext.refl _ _ _) (fun _ _ => rfl) (Nat.le_refl _) dst
  have := hs b
  have h2 := h.mine b (by omega)
  exact ⟨h2.1, fun _ => by omega⟩

theorem alloc_ext {R : Res} (w : World) (l : Lim) (o : Obj) (n : Nat) : Ext R w l { w with heap := w.heap.push o } (fun b => if b = w.heap.size then n else l b) where
  size := by simp
  env := ⟨rfl, rfl, rfl⟩
  other b hb _ := by
    refine ⟨by rw [Array.getElem?_push]; simp [Nat.ne_of_lt hb], by simp [Nat.ne_of_lt hb]⟩
  own b hb _ := by
    refine ⟨by simp [Nat.ne_of_lt hb], fun c ty fz hc => ⟨c, ?_, rfl, fun _ _ => rfl⟩⟩
    show (w.heap.push o)[b]? = _
    rw [Array.getElem?_push]; simp [Nat.ne_of_lt hb, hc]

theorem ext_mono {R R' : Res} {w' : World} {l' : Lim} (h : Ext R w l w' l') (hR : ∀ b, R' b = 0 → R b = 0) : Ext R' w l w' l' := h.weaken fun b hb h0 => hb (hR b h0)

/-- A block is made: the pending block i becomes it. -/
theorem finish_new (h : RelB w0 l0 R0 B0 st a w B l rs rh) {s' : List V} {rs' rv : Res} {i : Nat} {c : List V} {cr : Array Value} {ty : TypeId} (hi : B[i]? = some none) (hi0 : B0.length ≤ i) (hs : RepL w l s' B a.tmps.toList rs')
    (hc : RepL w l c B cr.toList rv) (hf : flat cr.toList) (hsum : ∀ b, rs b = rs' b + rv b) (dst : Option Nat) :
    ∃ rs'' rh'', RelB w0 l0 R0 B0 ⟨putV s' dst (.ptr i 0), st.h.set i c⟩ (a.put dst (.pointer (some ⟨w.heap.size, 0, none⟩))) { w with heap := w.heap.push (.cells cr ty) } (B.set i (some w.heap.size)) (fun b => if b = w.heap.size then 0 else l b) rs'' rh'' := by
  have hlt : i < B.length := by
    rcases Nat.lt_or_ge i B.length with h' | h'
    · exact h'
    · simp [List.getElem?_eq_none h'] at hi
  have hmore : ∀ (j b : Nat), B[j]? = some (some b) → (B.set i (some w.heap.size))[j]? = some (some b) := by
    intro j b hb
    have : i ≠ j := fun e => by subst e; rw [hi] at hb; simp at hb
    rw [List.getElem?_set_ne this]; exact hb
  have hX := alloc_ext (R := nil0) w l (.cells cr ty) 0
  have hbound : ∀ b, rs b + rh b ≠ 0 → b < w.heap.size := fun b hb => (h.mine b hb).1
  have hs1 : RepL _ _ s' (B.set i (some w.heap.size)) a.tmps.toList rs' := (RepL.mono hX s' B _ rs' (fun _ _ => rfl) hs).more hmore
  have hc1 := (RepL.mono hX c B _ rv (fun _ _ => rfl) hc).more hmore
  have hh1 := (RepH.mono hX (fun _ _ => rfl) h.heap).more hmore
  have hB1 : RepB { w with heap := w.heap.push (.cells cr ty) } (fun b => if b = w.heap.size then 0 else l b) (B.set i (some w.heap.size)) c w.heap.size (fun b => one w.heap.size b + rv b) := by
    refine ⟨by simp, cr, ty, ?_, hf, rv, fun _ => rfl, hc1⟩
    show (w.heap.push _)[w.heap.size]? = _
    simp
  have hput := RepH.put hh1 hi hB1
  obtain ⟨rs'', hrel⟩ := finish h (rv := nil0) (x := .pointer (some ⟨w.heap.size, 0, none⟩)) (v := .ptr i 0) (dst := dst) hs1 (by
      simp only [Rep]
      exact ⟨fun _ => rfl, w.heap.size, by simp [hlt], rfl⟩) hput (fun b => by
      have := h.once b; have := hsum b; have hb := hbound b
      simp only [nil0, one]
      split
      · rename_i e; subst e
        have : ¬ (rs w.heap.size + rh w.heap.size ≠ 0) := fun hn => Nat.lt_irrefl _ (hb hn)
        omega
      · omega) (fun b hb => by
      have := hsum b
      simp only [nil0, one] at hb
      constructor
      · show b < (w.heap.push _).size
        rw [Array.size_push]
        split at hb
        · rename_i e; subst e; omega
        · have := hbound b (by omega); omega
      · intro hlt'
        have : b ≠ w.heap.size := by omega
        simp only [this, if_false] at hb
        omega) (ext_mono hX (fun _ _ => rfl)) (fun j hj => by rw [List.getElem?_set_ne (by omega)]) (by simp)
  exact ⟨rs'', _, hrel⟩

end
end Go.Vm
/- The evaluator by value: append, slices that are built. -/
namespace Go.Vm
set_option linter.unusedSectionVars false
variable [Globs]
set_option linter.unusedVariables false
set_option linter.unusedSimpArgs false
section
variable {P : Program} {E : En} {w : World} {l : Lim} {B : BM}

theorem RepLL.flat_len : ∀ {es : List (List V)} {ys : List Value} {k : Nat}, (∀ e ∈ es, e.length = k) → RepLL w l es ys → flat ys ∧ ys.length = es.length * k
  | [], ys, k, _, h => by simp only [RepLL] at h; subst h; exact ⟨fun y hy => by simp at hy, by simp⟩
  | e :: es, ys, k, hk, h => by
    simp only [RepLL] at h
    obtain ⟨y1, y2, rfl, hf, h1, h2⟩ := h
    obtain ⟨h3, h4⟩ := RepLL.flat_len (fun e he => hk e (by simp [he])) h2
    refine ⟨flat_append hf h3, ?_⟩
    rw [List.length_append, h4, h1.length, hk e (by simp), List.length_cons, Nat.succ_mul, Nat.add_comm]

theorem RepLL.append : ∀ {es fs : List (List V)} {ys zs : List Value}, RepLL w l es ys → RepLL w l fs zs → RepLL w l (es ++ fs) (ys ++ zs)
  | [], fs, ys, zs, h1, h2 => by simp only [RepLL] at h1; subst h1; simpa using h2
  | e :: es, fs, ys, zs, h1, h2 => by
    simp only [RepLL] at h1
    obtain ⟨y1, y2, rfl, hf, h3, h4⟩ := h1
    simp only [List.cons_append, RepLL, List.append_assoc]
    exact ⟨y1, y2 ++ zs, rfl, hf, h3, RepLL.append h4 h2⟩

/-- The cells of a slice. -/
theorem slice_cells {own : Bool} {es : List (List V)} {x : Value} {r : Res} {k : Nat} (h : Rep w l (.sl own es) B x r) (hk : (es.head?.map (·.length)).getD k = k) :
    ∃ (a : Option Addr) (cap : Nat) (ys : List Value), x = .slice a es.length cap ∧ es.length ≤ cap ∧ RepLL w l es ys ∧ (∀ e ∈ es, e.length = k) ∧ flat ys ∧ ys.length = es.length * k ∧
      ∀ w1 : World, w1.heap = w.heap → (Builtin.firstCells k es.length x).run P w1 = .ok ys.toArray w1 := by
  simp only [Rep] at h
  obtain ⟨a, cap, rfl, h⟩ := h
  rcases h with ⟨rfl, h0, h1⟩ | ⟨hne, b, off, k', c, ty, fz, rfl, hc, hkl, hLL, hs1, hs2, hcap, _⟩
  · refine ⟨a, cap, [], rfl, by simp, by simp [RepLL], by simp, fun y hy => by simp at hy, by simp, fun w1 _ => ?_⟩
    cases a <;> simp [Builtin.firstCells, loadCells, loadCellsFrom]
  · have hkk : k' = k := by
      cases es with
      | nil => exact absurd rfl hne
      | cons e es => simp at hk; rw [← hk]; exact (hkl e (by simp)).symm
    subst hkk
    obtain ⟨hfl, hlen⟩ := RepLL.flat_len hkl hLL
    refine ⟨_, cap, _, rfl, hcap, hLL, hkl, hfl, hlen, fun w1 hw => ?_⟩
    simp only [Builtin.firstCells]
    rw [run_loadCells (w := w1) (by rw [hw]; exact hc) hs1]

theorem appendV_ok (hE : E.ok P) {t u : TypeId} {e2 : TypeId} {ts : Array TypeId} {ty : TypeId} {x y v : V} {xr yr : Value} {rx ry : Res} (h : appendV E t x y = some v) (ht : ts[0]? = some t) (hu : ts[1]? = some u) (hus : P.underlying u = some (.slice e2))
    (hx : Rep w l x B xr rx) (hy : Rep w l y B yr ry) (hsz : ∀ b, rx b ≠ 0 → b < w.heap.size) :
    ∃ z w' l' rz, (Builtin.append_ ts ty #[xr, yr]).run P w = .ok z w' ∧ Ext rx w l w' l' ∧ Rep w' l' v B z rz ∧ (∀ b, rz b ≠ 0 → b < w'.heap.size ∧ (b < w.heap.size → rx b ≠ 0)) ∧ ∀ b, rz b ≤ 1 := by
  unfold appendV at h
  cases hk : kd E t with
  | none => simp [hk] at h
  | some kk =>
    have hk' := hE.kd hk
    rw [hk] at h
    split at h <;> try (simp at h; done)
    rename_i e es own2 fs he
    cases he
    simp only [Kd.ok] at hk'
    cases hi : E.ty e with
    | none => simp [hi] at h
    | some i =>
      simp only [hi] at h
      split at h <;> try (simp at h; done)
      rename_i hcond
      obtain ⟨hpos, hzl⟩ := hcond
      rw [hE.ar] at h
      simp only [real, Option.map_if] at h
      split at h <;> try (simp at h; done)
      rename_i hcond
      obtain ⟨hb40, hl40, hes, hfs⟩ := hcond
      cases h
      obtain ⟨info, zz, h1, h2, h3, h4, h5, h6, h7, h8, h9⟩ := hE.ty e i hi
      have hzsz : zz.cells.size = i.size := by
        have := (RepL.ofConst (w := w) (l := l) (B := B) (z := zz)).length
        rw [h5, hzl] at this; simpa using this
      obtain ⟨xa, xcap, xs, rfl, hxcap, hxLL, hxk, hxf, hxl, hxrun⟩ := slice_cells (P := P) hx hes
      obtain ⟨ya, ycap, ys, rfl, hycap, hyLL, hyk, hyf, hyl, hyrun⟩ := slice_cells (P := P) hy hfs
      have hLL := RepLL.append hxLL hyLL
      have hkk : ∀ e ∈ es ++ fs, e.length = i.size := fun e he => (List.mem_append.1 he).elim (hxk e) (hyk e)
      have hlen : (xs ++ ys).length = (es ++ fs).length * i.size := (RepLL.flat_len hkk hLL).2
      have hflat : flat (xs ++ ys) := flat_append hxf hyf
      simp only [most] at hb40 hl40
      by_cases hroom : es.length + fs.length ≤ xcap
      · -- in place
        simp only [Rep] at hx
        obtain ⟨a', cap', hxe, hx⟩ := hx
        cases hxe
        rcases hx with ⟨rfl, h0, hcap0⟩ | ⟨hne, b, off, k', c, cty, fz, rfl, hc, hkl, hL, hs1, hs2, hcap, hown⟩
        · -- nothing to nothing
          have hc0 := hcap0 trivial
          subst hc0
          have hf0 : fs = [] := by
            cases fs with
            | nil => rfl
            | cons => simp at hroom
          subst hf0
          have hys : ys = [] := by simpa using hyl
          subst hys
          refine ⟨.slice xa 0 0, w, l, nil0, ?_, Ext.refl _ _ _, ?_, fun b hb => absurd rfl hb, fun b => Nat.zero_le _⟩
          · have := hyrun w rfl
            simp only [List.length_nil] at this
            cases xa <;> simp [Builtin.append_, ht, hu, run_und hk', run_und hus, run_sizeOf h1, h2, Builtin.lenOf, this, storeCells]
          · simp only [Rep]; exact ⟨xa, 0, rfl, .inl ⟨rfl, fun _ => rfl, fun _ => rfl⟩⟩
        · have hkk' : k' = i.size := by
            cases es with
            | nil => exact absurd rfl hne
            | cons e0 es => rw [← hxk e0 (by simp)]; exact (hkl e0 (by simp)).symm
          subst hkk'
          rcases hown with ⟨hf, _⟩ | ⟨_, rfl, _, hlim, hcs, rfl, hr⟩
          · simp at hf
          · have hfit : es.length * i.size + ys.length ≤ c.size := by
              rw [hyl, hcs, Nat.zero_add, ← Nat.add_mul]; exact Nat.mul_le_mul_right _ hroom
            have hst := run_storeCells_at P b (es.length * i.size) cty ys 0 c w hc (by simpa using hfit) hyf
            simp only [Nat.add_zero] at hst
            refine ⟨.slice (some ⟨b, 0, none⟩) (es.length + fs.length) xcap, w.setRow b (c.toList.take (es.length * i.size) ++ ys ++ c.toList.drop (es.length * i.size + ys.length)).toArray, fun x => if x = b then (es.length + fs.length) * i.size else l x, one b, ?_, ?_, ?_, fun x hxn => ?_, fun x => by simp only [one]; split <;> omega⟩
            · have hy1 := hyrun w rfl
              simp [Builtin.append_, ht, hu, run_und hk', run_und hus, run_sizeOf h1, h2, Builtin.lenOf, hroom, hy1, Addr.add_eq, hst]
            · have hbl := lt_of_block hc
              refine ⟨by simp [World.setRow], fun x hxl hx0 => ?_, fun x hxl hxn => ?_, rfl, rfl, rfl⟩
              · have : x ≠ b := by intro e; subst e; rw [hr] at hx0; simp [one] at hx0
                exact ⟨setRow_other w b x _ this, by simp [this]⟩
              · have : x = b := by rw [hr] at hxn; simp only [one] at hxn; exact Classical.byContradiction fun hn => by simp [hn] at hxn
                subst this
                refine ⟨?_, fun c' ty' fz' hc' => ?_⟩
                · simp only [if_true, hlim, Nat.zero_add]; exact Nat.mul_le_mul_right _ (by omega)
                · rw [hc] at hc'; cases hc'
                  refine ⟨_, setRow_heap w x c _ cty _ hc, by simp; omega, fun o ho => ?_⟩
                  rw [hlim] at ho
                  simp only [List.getElem?_toArray, List.append_assoc]
                  rw [List.getElem?_append_left (by simp; omega), List.getElem?_take_of_lt (by omega)]
                  simp
            · simp only [Rep]
              refine ⟨_, xcap, by rw [List.length_append], .inr ⟨by simp [hne], b, 0, i.size, _, cty, (0, 0), rfl, setRow_heap w b c _ cty _ hc, hkk, ?_, ?_, ?_, by simpa using hroom, .inr ⟨trivial, rfl, hpos, ?_, ?_, rfl, fun _ => rfl⟩⟩⟩
              · simp only [List.drop_zero]
                have htk : (c.toList.take (es.length * i.size) ++ ys ++ c.toList.drop (es.length * i.size + ys.length)).take ((es ++ fs).length * i.size) = c.toList.take (es.length * i.size) ++ ys := by
                  apply List.take_left'
                  simp [hyl, Nat.add_mul]; omega
                rw [htk]
                have hX : Ext (one b) w l (w.setRow b (c.toList.take (es.length * i.size) ++ ys ++ c.toList.drop (es.length * i.size + ys.length)).toArray) (fun x => if x = b then (es.length + fs.length) * i.size else l x) := by
                  refine ⟨by simp [World.setRow], fun x hxl hx0 => ?_, fun x hxl hxn => ?_, rfl, rfl, rfl⟩
                  · have : x ≠ b := by intro e; subst e; simp [one] at hx0
                    exact ⟨setRow_other w b x _ this, by simp [this]⟩
                  · have : x = b := by simp only [one] at hxn; exact Classical.byContradiction fun hn => by simp [hn] at hxn
                    subst this
                    refine ⟨?_, fun c' ty' fz' hc' => ?_⟩
                    · simp only [if_true, hlim, Nat.zero_add]; exact Nat.mul_le_mul_right _ (by omega)
                    · rw [hc] at hc'; cases hc'
                      refine ⟨_, setRow_heap w x c _ cty _ hc, by simp; omega, fun o ho => ?_⟩
                      rw [hlim] at ho
                      simp only [List.getElem?_toArray, List.append_assoc]
                      rw [List.getElem?_append_left (by simp; omega), List.getElem?_take_of_lt (by omega)]
                      simp
                have h1' := RepLL.mono hX es _ hL
                have h2' := RepLL.mono hX fs _ hyLL
                simp only [List.drop_zero] at h1'
                exact RepLL.append h1' h2'
              · simp [hyl, Nat.add_mul] at hfit ⊢; omega
              · simp
              · simp
              · simp [hyl] at hfit ⊢; omega
            · have : x = b := by simp only [one] at hxn; exact Classical.byContradiction fun hn => by simp [hn] at hxn
              subst this
              exact ⟨by simpa [World.setRow] using lt_of_block hc, fun _ => by rw [hr]; exact hxn⟩
      · -- a new row
        have hgt : ¬ (es.length + fs.length ≤ xcap) := hroom
        have h63 : ¬ ((9223372036854775807 : Int) < (es.length : Int) + (fs.length : Int)) := by omega
        have hfits : Builtin.nextslicecap (es.length + fs.length) xcap * info.bytes ≤ 281474976710656 := growslice_fits (by omega) (by rw [h3]; omega)
        have h48 : ¬ (281474976710656 < Builtin.nextslicecap (es.length + fs.length) xcap * info.bytes) := by omega
        have hx1 := hxrun w.drew rfl
        have hy1 := hyrun w.drew rfl
        have hge := grownCap_ge w (es.length + fs.length) xcap e
        have hrow : (w.drew.heap.push (Obj.cells (xs.toArray ++ ys.toArray ++ Builtin.zeroCells zz.cells (grownCap w (es.length + fs.length) xcap e - (es.length + fs.length))) e))[w.heap.size]? = some (Obj.cells (xs.toArray ++ ys.toArray ++ Builtin.zeroCells zz.cells (grownCap w (es.length + fs.length) xcap e - (es.length + fs.length))) e) := by
          have : w.drew.heap = w.heap := rfl
          rw [this]; simp
        have hX : Ext nil0 w l (w.drew.alloc (.cells (xs.toArray ++ ys.toArray ++ Builtin.zeroCells zz.cells (grownCap w (es.length + fs.length) xcap e - (es.length + fs.length))) e)) (fun b => if b = w.heap.size then (es.length + fs.length) * i.size else l b) := by
          have h := alloc_ext (R := nil0) w.drew l (.cells (xs.toArray ++ ys.toArray ++ Builtin.zeroCells zz.cells (grownCap w (es.length + fs.length) xcap e - (es.length + fs.length))) e) ((es.length + fs.length) * i.size)
          exact ⟨h.size, h.other, h.own, h.env⟩
        refine ⟨.slice (some ⟨w.heap.size, 0, none⟩) (es.length + fs.length) (grownCap w (es.length + fs.length) xcap e), w.drew.alloc (.cells (xs.toArray ++ ys.toArray ++ Builtin.zeroCells zz.cells (grownCap w (es.length + fs.length) xcap e - (es.length + fs.length))) e), fun b => if b = w.heap.size then (es.length + fs.length) * i.size else l b, one w.heap.size, ?_, ?_, ?_, ?_, fun x => by simp only [one]; split <;> omega⟩
        · have hz0 : (zeroValue e).run P w.drew = .ok zz w.drew := by simp [zeroValue, run_tyInfo h1, h4]
          have hq : (choose (.appendCap (es.length + fs.length) xcap e)).run P w = .ok (grownCap w (es.length + fs.length) xcap e) w.drew := by
            simp [Question.forced, grownCap]
          simp only [Builtin.append_, ht, hu]
          simp [run_und hk', run_und hus, run_sizeOf h1, h2, Builtin.lenOf, hgt, h63, run_tyInfo h1, h48, hx1, hy1, hz0, newRow, Question.forced, grownCap]
          rw [← List.append_toArray, Array.append_assoc]
        · exact ext_mono hX (fun _ _ => rfl)
        · simp only [Rep]
          refine ⟨_, _, by rw [List.length_append], ?_⟩
          by_cases hne : es ++ fs = []
          · have : es.length + fs.length = 0 := by rw [← List.length_append, hne]; rfl
            omega
          · refine .inr ⟨hne, w.heap.size, 0, i.size, _, e, (0, 0), rfl, hrow, hkk, ?_, ?_, ?_, by simpa using hge, .inr ⟨trivial, rfl, hpos, ?_, ?_, rfl, fun _ => rfl⟩⟩
            · simp only [List.drop_zero, Array.toList_append, List.toList_toArray]
              rw [List.take_left' hlen]
              exact RepLL.mono hX _ _ hLL
            · simp [size_zeroCells, hzsz]
              have := hlen
              simp at this
              omega
            · simp
            · simp
            · simp only [Array.size_append, List.size_toArray, size_zeroCells, hzsz, hxl, hyl, Nat.zero_add, ← Nat.add_mul]
              congr 1
              omega
        · intro b hb
          have : b = w.heap.size := by simp only [one] at hb; exact Classical.byContradiction fun hn => by simp [hn] at hb
          subst this
          refine ⟨?_, fun hlt => absurd hlt (Nat.lt_irrefl _)⟩
          simp

end
end Go.Vm
/- The evaluator by value: slices that are built; loads and stores. -/
namespace Go.Vm
set_option linter.unusedSectionVars false
variable [Globs]
set_option linter.unusedVariables false
set_option linter.unusedSimpArgs false
section
variable {P : Program} {E : En} {w : World} {l : Lim} {B : BM}

theorem RepLL.set : ∀ {es : List (List V)} {ys : List Value} {i k : Nat} {e : List V} {zs : List Value}, RepLL w l es ys → (∀ e ∈ es, e.length = k) → i < es.length → RepL w l e [] zs nil0 → flat zs → e.length = k →
    RepLL w l (es.set i e) (ys.take (i * k) ++ zs ++ ys.drop (i * k + k))
  | [], ys, i, k, e, zs, _, _, hi, _, _, _ => by simp at hi
  | e0 :: es, ys, 0, k, e, zs, h, hk, _, he, hf, hl => by
    simp only [RepLL] at h
    obtain ⟨y1, y2, rfl, hf1, h1, h2⟩ := h
    have hl1 : y1.length = k := by rw [h1.length]; exact hk e0 (by simp)
    simp only [List.set_cons_zero, RepLL, Nat.zero_mul, List.take_zero, List.nil_append, Nat.zero_add]
    exact ⟨zs, y2, by rw [List.drop_left' hl1], hf, he, h2⟩
  | e0 :: es, ys, i + 1, k, e, zs, h, hk, hi, he, hf, hl => by
    simp only [RepLL] at h
    obtain ⟨y1, y2, rfl, hf1, h1, h2⟩ := h
    have hl1 : y1.length = k := by rw [h1.length]; exact hk e0 (by simp)
    have ih := RepLL.set (i := i) h2 (fun e he => hk e (by simp [he])) (by simpa using hi) he hf hl
    simp only [List.set_cons_succ, RepLL]
    refine ⟨y1, _, ?_, hf1, h1, ih⟩
    have e1 : (i + 1) * k = y1.length + i * k := by rw [Nat.succ_mul, hl1]; omega
    have e2 : (i + 1) * k + k = y1.length + (i * k + k) := by omega
    rw [e2, e1, List.take_length_add_append, List.drop_length_add_append]
    simp

theorem eraseL_cells {v : V} (h : okV v = true) : eraseL v.cells = (erase v).cells := by
  cases v <;> simp [okV] at h <;> simp [V.cells, erase, eraseL]

theorem fillS_ok {k : Nat} (hk0 : 0 < k) : ∀ (vs : List V) (xs : List Value) (is : List Nat) (es es' : List (List V)) (cr : Array Value), fillS k es (is.zip vs) = some es' → Opd w l B vs xs →
    RepLL w l es cr.toList → (∀ e ∈ es, e.length = k) → is.length = vs.length →
    ∃ cr', Instr.fill (fun i => some (i * k, k)) cr (is.zip xs) = some cr' ∧ RepLL w l es' cr'.toList ∧ (∀ e ∈ es', e.length = k) ∧ es'.length = es.length
  | [], xs, is, es, es', cr, h, ho, hL, hk, hi => by
    have : is = [] := by cases is <;> simp at hi ⊢
    subst this
    simp [fillS] at h; subst h
    exact ⟨cr, by simp [Instr.fill], hL, hk, rfl⟩
  | v :: vs, xs, is, es, es', cr, h, ho, hL, hk, hi => by
    cases is with
    | nil => simp at hi
    | cons i is =>
      cases xs with
      | nil => simp [Opd] at ho
      | cons x xs =>
        simp only [Opd] at ho
        obtain ⟨⟨r, hv⟩, ho⟩ := ho
        simp only [List.zip_cons_cons, fillS] at h
        split at h <;> try (simp at h; done)
        rename_i hc
        obtain ⟨hn, hok, hilt, hnr⟩ := hc
        obtain ⟨hcL, hcf⟩ := (Rep.ofNoRef (B' := []) v x r hnr hv).cells hok
        have hcL0 := RepL.erase _ _ _ _ hcL
        have hel : (eraseL v.cells).length = k := by
          have h1 := hcL0.length
          have h2 := hcL.length
          omega
        have hsz : x.cells.size = k := by have := hcL.length; simp at this; omega
        have hcr : cr.size = es.length * k := by have := (RepLL.flat_len hk hL).2; simpa using this
        have hle : i * k + k ≤ cr.size := by
          rw [hcr, ← Nat.succ_mul]; exact Nat.mul_le_mul_right _ hilt
        have hset := RepLL.set (i := i) hL hk hilt hcL0 hcf hel
        have hfold := foldl_set0 (vs := x.cells) (cs := cr) (off := i * k) (by omega)
        have hk' : ∀ e ∈ es.set i (eraseL v.cells), e.length = k := by
          intro e he
          rcases List.mem_or_eq_of_mem_set he with h1 | h1
          · exact hk e h1
          · rw [h1]; exact hel
        rw [← hsz] at hset
        rw [hsz] at hset
        have hset' : RepLL w l (es.set i (eraseL v.cells)) (x.cells.zipIdx.foldl (fun cs (p : Value × Nat) => cs.setIfInBounds (i * k + p.2) p.1) cr).toList := by
          rw [hfold, hsz]; exact hset
        obtain ⟨cr', h1, h2, h3, h4⟩ := fillS_ok hk0 vs xs is _ es' _ h ho hset' hk' (by simpa using hi)
        refine ⟨cr', ?_, h2, h3, by rw [h4]; simp⟩
        simp only [List.zip_cons_cons, Instr.fill]
        have hcond : ¬ (x.cells.size ≠ k ∨ i * k + x.cells.size > cr.size) := by omega
        simp only [bne_iff_ne, ne_eq, Bool.or_eq_true, decide_eq_true_eq]
        rw [if_neg (by simpa using hcond)]
        exact h1

theorem RepLL.rep {z : List V} {zs : Array Value} {k : Nat} (hz : RepL w l z [] zs.toList nil0) (hf : flat zs.toList) (hk : zs.size = k) (hk0 : 0 < k) : ∀ n, RepLL w l (List.replicate n z) ((List.range (n * k)).map (fun i => zs[i % zs.size]!))
  | 0 => by simp [RepLL]
  | n + 1 => by
    have h1 := RepLL.rep hz hf hk hk0 n
    rw [List.replicate_succ', Nat.succ_mul, List.range_add, List.map_append]
    refine RepLL.append h1 ?_
    have : (List.map (fun i => zs[i % zs.size]!) (List.map (fun x => n * k + x) (List.range k))) = zs.toList := by
      apply List.ext_getElem
      · simp [hk]
      · intro i h1 h2
        simp at h1 h2
        simp only [List.getElem_map, List.getElem_range, hk, Nat.mul_add_mod_self_right, Array.getElem_toList]
        rw [Nat.mod_eq_of_lt h1]
        rw [getElem!_pos zs i (by omega)]
    rw [this]
    simp only [RepLL]
    exact ⟨zs.toList, [], by simp, hf, hz, rfl⟩

theorem Opd.length : ∀ {vs : List V} {xs : List Value}, Opd w l B vs xs → xs.length = vs.length
  | [], [], _ => rfl
  | [], _ :: _, h => by simp [Opd] at h
  | _ :: _, [], h => by simp [Opd] at h
  | v :: vs, x :: xs, h => by simp only [Opd] at h; simp [Opd.length h.2]

theorem buildSlice_ok (hE : E.ok P) {p : PO} {t : TypeId} {n : Nat} {parts : Array (Nat × Operand)} (hp : p.o.op = .buildSlice t n parts) {vs : List V} {v : V} {ρ : Operand → Value} (h : pureAct E p vs = some v) (ho : Opd w l B vs (parts.toList.map fun p => ρ p.2)) :
    ∃ z w' l' rz, (Instr.buildSlice t n (parts.map fun (i, x) => (i, ρ x))).run P w = .ok z w' ∧ Ext nil0 w l w' l' ∧ Rep w' l' v B z rz ∧ (∀ b, rz b ≠ 0 → b < w'.heap.size ∧ w.heap.size ≤ b) ∧ ∀ b, rz b ≤ 1 := by
  have hzip : ((parts.map fun (i, x) => (i, ρ x)).toList) = (parts.toList.map (·.1)).zip (parts.toList.map fun p => ρ p.2) := by
    rw [Array.toList_map, List.zip_map', List.map_inj_left]
    intro a _; rfl
  have hlen : (parts.toList.map (·.1)).length = vs.length := by have := ho.length; simpa using this
  simp only [pureAct, hp] at h
  cases hk : kd E t with
  | none => simp [hk] at h
  | some kk =>
    have hk' := hE.kd hk
    rw [hk] at h
    split at h <;> try (simp at h; done)
    rename_i e he
    cases he
    simp only [Kd.ok] at hk'
    cases hs : size E e with
    | none => simp [hs] at h
    | some k =>
      cases hz : zeroCells E e with
      | none => simp [hs, hz] at h
      | some z =>
        simp only [hs, hz] at h
        split at h <;> try (simp at h; done)
        rename_i hlim
        obtain ⟨hszr, hpos⟩ := hE.size hs w
        obtain ⟨zr, hzr, hzL, hzf, m, hm, hml⟩ := zero_ok (w := w) (l := l) (B := []) hE hz
        rw [hs] at hm; cases hm
        obtain ⟨es, hes, rfl⟩ : ∃ es, fillS k (List.replicate n (eraseL z)) ((parts.toList.map (·.1)).zip vs) = some es ∧ V.sl true es = v := by
          cases hf : fillS k (List.replicate n (eraseL z)) ((parts.toList.map (·.1)).zip vs) with
          | none => rw [hf] at h; simp at h
          | some es => rw [hf] at h; exact ⟨es, rfl, by simpa using h⟩
        have hzk : zr.cells.size = k := by have := hzL.length; simp at this; omega
        have hezl : (eraseL z).length = k := by have h1 := (RepL.erase _ _ _ _ hzL).length; have h2 := hzL.length; omega
        have hz0 := RepLL.rep (RepL.erase _ _ _ _ hzL) hzf hzk hpos n
        have hrep : ∀ e ∈ List.replicate n (eraseL z), e.length = k := fun e he => by rw [(List.mem_replicate.1 he).2]; exact hezl
        have hrun : ∀ zz : Array Value, (n * k ≠ 0 → zz = zr.cells) → ((Array.range (n * k)).map (fun i => zz[i % zz.size]!)).toList = (List.range (n * k)).map (fun i => zr.cells[i % zr.cells.size]!) := by
          intro zz hzz
          by_cases h0 : n * k = 0
          · simp [h0]
          · rw [hzz h0]; simp
        obtain ⟨cr, hcr, hcL, hck, hcl⟩ := fillS_ok (w := w) (l := l) (B := B) hpos vs _ _ _ es ((Array.range (n * k)).map (fun i => (if n * k = 0 then #[] else zr.cells)[i % (if n * k = 0 then #[] else zr.cells).size]!)) hes ho (by
          rw [hrun _ (fun h0 => by simp [h0])]; exact hz0) hrep hlen
        have hX : Ext nil0 w l (w.alloc (.cells cr e)) (fun b => if b = w.heap.size then n * k else l b) := alloc_ext w l _ _
        have hnl : es.length = n := by rw [hcl]; simp
        refine ⟨.slice (some ⟨w.heap.size, 0, none⟩) n n, w.alloc (.cells cr e), fun b => if b = w.heap.size then n * k else l b, if n = 0 then nil0 else one w.heap.size, ?_, hX, ?_, ?_, ?_⟩
        · have hlim' : ¬ (n * k > 2 ^ 24) := by omega
          simp only [Instr.buildSlice, Sem.run_bind, run_und hk', Result.andThen_ok, hszr, hlim', if_false, Sem.run_ite, Sem.run_pure]
          rw [hzip]
          by_cases h0 : n * k = 0
          · simp only [h0, if_true, Result.andThen_ok] at hcr ⊢
            simp only [hcr, newRow, Sem.run_bind, run_newObj, Result.andThen_ok, Sem.run_pure]
            rfl
          · simp only [h0, if_false, Result.andThen_ok, hzr] at hcr ⊢
            simp only [hcr, newRow, Sem.run_bind, run_newObj, Result.andThen_ok, Sem.run_pure]
            rfl
        · simp only [Rep]
          refine ⟨_, n, by rw [hnl], ?_⟩
          by_cases hn0 : n = 0
          · subst hn0
            exact .inl ⟨List.length_eq_zero_iff.1 hnl, fun _ => by simp [nil0], fun _ => rfl⟩
          · have hne : es ≠ [] := fun e => hn0 (by rw [← hnl, e]; rfl)
            have hcs : cr.size = n * k := by have := (RepLL.flat_len hck hcL).2; simpa [hnl] using this
            refine .inr ⟨hne, w.heap.size, 0, k, cr, e, (0, 0), rfl, ?_, hck, ?_, by rw [hnl]; omega, by simp [hnl], by omega, .inr ⟨trivial, rfl, hpos, by simp [hnl], by omega, rfl, fun x => by simp [hn0]⟩⟩
            · show (w.heap.push _)[w.heap.size]? = _
              simp
            · simp only [List.drop_zero, hnl]
              rw [List.take_of_length_le (by simp [hcs])]
              exact RepLL.mono hX _ _ hcL
        · intro b hb
          split at hb
          · exact absurd rfl hb
          · have : b = w.heap.size := by simp only [one] at hb; exact Classical.byContradiction fun hn => by simp [hn] at hb
            subst this
            exact ⟨by simp, Nat.le_refl _⟩
        · intro b
          split
          · simp [nil0]
          · simp only [one]; split <;> omega

end
end Go.Vm
/- The evaluator by value: loads, stores, calls. -/
namespace Go.Vm
set_option linter.unusedSectionVars false
variable [Globs]
set_option linter.unusedVariables false
set_option linter.unusedSimpArgs false
section
variable {P : Program} {E : En} {w : World} {l : Lim} {B : BM} {w0 : World} {l0 : Lim} {R0 : Res} {B0 : BM} {pend : List Nat} {st : St} {a : Act} {rs rh : Res}

theorem part_take {t : TypeId} {cs : List V} {off : Nat} {v : V} {ys : List Value} {r : Res} (h : Vm.part E t cs off = some v) (hL : RepL w l cs B ys r) (hf : flat ys) (hE : E.ok P) :
    ∃ x r1 r2, (Go.part t ys.toArray off).run P w = .ok x w ∧ Rep w l v B x r1 ∧ RepL w l (wipe cs off (partLen E t)) B ys r2 ∧ ∀ b, r b = r1 b + r2 b := by
  have h0 := h
  unfold Vm.part at h
  unfold partLen wipe
  cases hi : E.ty t with
  | none => simp [hi] at h
  | some i =>
    obtain ⟨info, z, h1, h2, h3, h4, h5, h6, h7, h8, h9⟩ := hE.ty t i hi
    simp only [hi] at h ⊢
    obtain ⟨x, rx, hx, hR, hS⟩ := part_ok hE h0 hL hf
    have agg : ∀ n, off + n ≤ cs.length → v = .agg ((cs.drop off).take n) → (∃ d, P.underlying t = some d ∧ isA d = true) → n = i.size →
        ∃ x r1 r2, (Go.part t ys.toArray off).run P w = .ok x w ∧ Rep w l v B x r1 ∧ RepL w l (cs.take off ++ eraseL ((cs.drop off).take n) ++ cs.drop (off + n)) B ys r2 ∧ ∀ b, r b = r1 b + r2 b := by
      intro n hn hv ⟨d, hd, hd'⟩ hni
      subst hv
      obtain ⟨ra, rb, ha, hb, hab⟩ := hL.take off
      obtain ⟨rc, rd, hc, hd2, hcd⟩ := hb.take n
      rw [List.drop_drop, List.drop_drop] at hd2
      refine ⟨.agg ((ys.drop off).take n).toArray, rc, fun b => ra b + rd b, ?_, ?_, ?_, fun b => by have := hab b; have := hcd b; simp only []; omega⟩
      · simp only [Go.part, Sem.run_bind, run_isAgg hd, Result.andThen_ok, hd', if_true]
        simp [run_sizeOf h1, h2, List.extract_eq_take_drop, hni]
      · simp only [Rep]; exact ⟨_, rfl, flat_sub hf _ _, hc⟩
      · have he := RepL.erase _ _ _ _ hc
        have hcat := RepL.append (RepL.append ha he (fun _ => rfl)) hd2 (r := fun b => ra b + rd b) (fun b => by simp [nil0])
        have hys : ys.take off ++ (ys.drop off).take n ++ ys.drop (off + n) = ys := by
          rw [List.append_assoc, ← List.drop_drop, List.take_append_drop, List.take_append_drop]
        rw [hys] at hcat; exact hcat
    have one : cs[off]? = some v → (∃ d, P.underlying t = some d ∧ isA d = false) → ∃ x r1 r2, (Go.part t ys.toArray off).run P w = .ok x w ∧ Rep w l v B x r1 ∧ RepL w l (cs.take off ++ eraseL ((cs.drop off).take 1) ++ cs.drop (off + 1)) B ys r2 ∧ ∀ b, r b = r1 b + r2 b := by
      intro hv ⟨d, hd, hd'⟩
      obtain ⟨y, r1, r2, hy, hR, hs, hset⟩ := hL.at hv
      have h3 := hset (erase v) y nil0 (Rep.erase _ _ _ _ hR)
      have hlt : off < cs.length := by
        rcases Nat.lt_or_ge off cs.length with h' | h'
        · exact h'
        · simp [List.getElem?_eq_none h'] at hv
      have e1 : cs.take off ++ eraseL ((cs.drop off).take 1) ++ cs.drop (off + 1) = cs.set off (erase v) := by
        rw [List.set_eq_take_append_cons_drop, if_pos hlt]
        have : (cs.drop off).take 1 = [v] := by
          rw [List.drop_eq_getElem_cons hlt]
          have : cs[off] = v := by rw [List.getElem?_eq_getElem hlt] at hv; exact Option.some.inj hv
          simp [this]
        rw [this]
        simp [eraseL]
      have e2 : ys.set off y = ys := by
        apply List.ext_getElem?
        intro j
        by_cases hj : off = j
        · subst hj; rw [List.getElem?_set_self']; simp [hy]
        · rw [List.getElem?_set_ne hj]
      refine ⟨y, r1, r2, ?_, hR, ?_, hs⟩
      · simp only [Go.part, Sem.run_bind, run_isAgg hd, Result.andThen_ok, hd', Bool.false_eq_true, if_false]
        simp [hy]
      · rw [e1, ← e2]; exact RepL.res (fun b => by simp [nil0]) h3
    cases hk : i.kd <;> rw [hk] at h9 h <;> simp only [Kd.ok] at h9 <;> simp only [hk] at h ⊢
    case struct =>
      obtain ⟨fields, hu, _⟩ := h9
      split at h <;> simp at h
      exact agg _ (by assumption) h.symm ⟨_, hu, rfl⟩ rfl
    case array =>
      split at h <;> simp at h
      exact agg _ (by assumption) h.symm ⟨_, h9, rfl⟩ rfl
    case other =>
      obtain ⟨d, hd, ha, hb⟩ := h9
      refine one (by simpa using h) ⟨d, hd, ?_⟩
      cases d <;> first | rfl | exact absurd rfl (ha _) | exact absurd rfl (hb _ _)
    all_goals exact one (by simpa using h) ⟨_, h9, rfl⟩

/-- Blocks other than one are as they were. -/
theorem setRow_ext {b : Nat} {c c' : Array Value} {ty : TypeId} {fz : Nat × Nat} {R : Res} (hc : w.heap[b]? = some (.cells c ty fz)) (hl : l b = 0) (hs : c'.size = c.size) (hR : R b ≠ 0) : Ext R w l (w.setRow b c') l where
  size := by simp [World.setRow]
  env := ⟨rfl, rfl, rfl⟩
  other x hx h0 := ⟨setRow_other w b x _ (fun e => by subst e; exact hR h0), rfl⟩
  own x hx hn := by
    refine ⟨Nat.le_refl _, fun c2 ty2 fz2 hc2 => ?_⟩
    by_cases hxb : x = b
    · subst hxb
      rw [hc] at hc2; cases hc2
      exact ⟨c', setRow_heap w x c c' ty fz hc, hs, fun o ho => by omega⟩
    · exact ⟨c2, (setRow_other w b x _ hxb).trans hc2, rfl, fun _ _ => rfl⟩

/-- A load from a block of the abstract heap. -/
theorem load_ok (hE : E.ok P) (h : RelB w0 l0 R0 B0 st a w B l rs rh) {t : TypeId} {i off : Nat} {cs : List V} {v : V} {xr : Value} {r : Res} (hi : st.h[i]? = some cs) (hp : Vm.part E t cs off = some v) (hx : Rep w l (.ptr i off) B xr r) (dst : Option Nat) (tk : Bool) :
    ∃ z rs'' rh'', (Instr.loadAt t xr).run P w = .ok z w ∧ RelB w0 l0 R0 B0 ⟨putV st.s dst (if tk then v else erase v), if tk then st.h.set i (wipe cs off (partLen E t)) else st.h⟩ (a.put dst z) w B l rs'' rh'' := by
  simp only [Rep] at hx
  obtain ⟨_, b, hb, rfl⟩ := hx
  obtain ⟨r1, r2, hs, hB1, hH2⟩ := h.heap.out hb hi
  obtain ⟨hl0, c, ty, hc, hf, rc, hrc, hL⟩ := hB1
  obtain ⟨z, rz1, rz2, hz, hR, hW, hsum⟩ := part_take (P := P) hp hL hf hE
  have hload : (Instr.loadAt t (.pointer (some ⟨b, off, none⟩))).run P w = .ok z w := by
    have := load_part (P := P) (b := b) (off := 0) (n := c.size) (o := off) (cs := cs) hE hc (by omega) (by simp; have := hL.length; simpa using this) (by rw [List.drop_zero, List.take_of_length_le (by simp)]; exact hz) hp
    simpa [Instr.loadAt, Instr.sureAddr] using this
  cases tk with
  | false =>
    obtain ⟨rs'', hrel⟩ := finish_same h (Rep.erase _ _ _ _ hR) dst
    exact ⟨z, rs'', rh, hload, hrel⟩
  | true =>
    have hB2 : RepB w l B (wipe cs off (partLen E t)) b (fun x => one b x + rz2 x) := ⟨hl0, c, ty, hc, hf, rz2, fun _ => rfl, hW⟩
    have hput := RepH.put hH2 (List.getElem?_set_self (by
      rcases Nat.lt_or_ge i B.length with h' | h'
      · exact h'
      · simp [List.getElem?_eq_none h'] at hb)) hB2
    have hback : (B.set i none).set i (some b) = B := by
      rw [List.set_set]
      apply List.ext_getElem?
      intro j
      by_cases hj : i = j
      · subst hj; rw [List.getElem?_set_self']; simp [hb]
      · rw [List.getElem?_set_ne hj]
    rw [hback] at hput
    obtain ⟨rs'', hrel⟩ := finish h h.slots hR hput (fun x => by
      have := h.once x; have := hs x; have := hrc x; have := hsum x; omega) (fun x hx' => by
      have := hs x; have := hrc x; have := hsum x
      have hm := h.mine x (by omega)
      exact ⟨hm.1, fun _ => by omega⟩) (Ext.refl _ _ _) (fun _ _ => rfl) (Nat.le_refl _) dst
    exact ⟨z, rs'', _, hload, hrel⟩

/-- A store into a block. -/
theorem store_ok (hE : E.ok P) (h : RelB w0 l0 R0 B0 st a w B l rs rh) {t : TypeId} {i off : Nat} {cs : List V} {v : V} {xr vr : Value} {r rv rs' : Res} {s' : List V} (hi : st.h[i]? = some cs) (hs : size E t = some v.cells.length) (hok : okV v = true)
    (hle : off + v.cells.length ≤ cs.length) (hx : Rep w l (.ptr i off) B xr r) (hv : Rep w l v B vr rv) (hS : RepL w l s' B a.tmps.toList rs') (hsum : ∀ b, rs b = rv b + rs' b) (dst : Option Nat) :
    ∃ w' rs'' rh'', (Instr.storeAt t xr vr).run P w = .ok () w' ∧ RelB w0 l0 R0 B0 ⟨putV s' dst (.sc undef), st.h.set i (splice cs off v.cells)⟩ (a.put dst undef) w' B l rs'' rh'' := by
  simp only [Rep] at hx
  obtain ⟨_, b, hb, rfl⟩ := hx
  obtain ⟨r1, r2, hs1, hB1, hH2⟩ := h.heap.out hb hi
  obtain ⟨hl0, c, ty, hc, hf, rc, hrc, hL⟩ := hB1
  obtain ⟨hcL, hcf⟩ := hv.cells hok
  have hvl : vr.cells.size = v.cells.length := by have := hcL.length; simpa using this
  have hcl : c.size = cs.length := by have := hL.length; simpa using this
  obtain ⟨r3, hsp, hsub⟩ := hL.splice (r1 := nil0) hcL hle
  have hrun := run_storeCells_at P b off ty vr.cells.toList 0 c w hc (by simp; omega) hcf
  simp only [Nat.add_zero, Array.length_toList] at hrun
  have hst : (Instr.storeAt t (.pointer (some ⟨b, off, none⟩)) vr).run P w = .ok () (w.setRow b (c.toList.take off ++ vr.cells.toList ++ c.toList.drop (off + vr.cells.size)).toArray) := by
    simp [Instr.storeAt, Instr.sureAddr, storeVar, (hE.size hs w).1, hvl] at hrun ⊢
    exact hrun
  have hRb : rs b + rh b ≠ 0 := by have := hs1 b; have := hrc b; simp only [one, if_true] at this; omega
  have hX : Ext (fun b => rs b + rh b) w l (w.setRow b (c.toList.take off ++ vr.cells.toList ++ c.toList.drop (off + vr.cells.size)).toArray) l :=
    setRow_ext hc hl0 (by simp; omega) hRb
  have hX1 : Ext (one b) w l (w.setRow b (c.toList.take off ++ vr.cells.toList ++ c.toList.drop (off + vr.cells.size)).toArray) l :=
    setRow_ext hc hl0 (by simp; omega) (by simp [one])
  have hfree : ∀ x, one b x = 0 ∨ x = b := fun x => by simp only [one]; split <;> simp_all
  have honce := h.once b
  have hs1b := hs1 b
  have hrcb := hrc b
  have hsumb := hsum b
  have hb1 : one b b = 1 := by simp [one]
  rw [hb1] at hrcb
  have hS1 := RepL.mono hX1 s' B _ rs' (fun x hx => by rcases hfree x with h1 | h1; exact h1; subst h1; omega) hS
  have hH1 := RepH.mono hX1 (fun x hx => by rcases hfree x with h1 | h1; exact h1; subst h1; omega) hH2
  have hsp1 := RepL.mono hX1 _ B _ _ (fun x hx => by rcases hfree x with h1 | h1; exact h1; subst h1; have := hsub x; omega) hsp
  have hB2 : RepB (w.setRow b (c.toList.take off ++ vr.cells.toList ++ c.toList.drop (off + vr.cells.size)).toArray) l B (splice cs off v.cells) b (fun x => one b x + (rv x + r3 x)) := by
    refine ⟨hl0, _, ty, setRow_heap w b c _ ty _ hc, ?_, _, fun _ => rfl, ?_⟩
    · simp only [List.toList_toArray]; exact flat_append (flat_append (flat_take hf _) hcf) (flat_drop hf _)
    · simpa using hsp1
  have hput := RepH.put hH1 (List.getElem?_set_self (by
    rcases Nat.lt_or_ge i B.length with h' | h'
    · exact h'
    · simp [List.getElem?_eq_none h'] at hb)) hB2
  have hback : (B.set i none).set i (some b) = B := by
    rw [List.set_set]
    apply List.ext_getElem?
    intro j
    by_cases hj : i = j
    · subst hj; rw [List.getElem?_set_self']; simp [hb]
    · rw [List.getElem?_set_ne hj]
  rw [hback] at hput
  obtain ⟨rs'', hrel⟩ := finish h (rv := nil0) (x := undef) (v := .sc undef) (dst := dst) hS1 Rep.of_scalar hput (fun x => by
      have := h.once x; have := hs1 x; have := hrc x; have := hsub x; have := hsum x; simp only [nil0]; omega) (fun x hx' => by
      have h1 := hs1 x; have h2 := hrc x; have h3 := hsub x; have h4 := hsum x
      simp only [nil0] at hx'
      have hm := h.mine x (by omega)
      exact ⟨by simpa [World.setRow] using hm.1, fun _ => by omega⟩) hX (fun _ _ => rfl) (Nat.le_refl _)
  exact ⟨_, rs'', _, hst, hrel⟩


/-! ### Calls -/

theorem mem_addNew {x : Nat} : ∀ (xs l : List Nat), x ∈ addNew l xs → x ∈ l ∨ x ∈ xs
  | [], l, h => .inl h
  | y :: xs, l, h => by
    simp only [addNew] at h
    split at h
    · rcases mem_addNew xs l h with h | h
      · exact .inl h
      · exact .inr (List.mem_cons_of_mem _ h)
    · rcases mem_addNew xs _ h with h | h
      · rcases List.mem_append.1 h with h | h
        · exact .inl h
        · simp at h; subst h; exact .inr (by simp)
      · exact .inr (List.mem_cons_of_mem _ h)

theorem mem_reach {h : Heap} {p : Nat → Prop} (hp : ∀ i, p i → ∀ j ∈ refsL (h.getD i []), p j) {x : Nat} : ∀ (n : Nat) (l : List Nat), (∀ i ∈ l, p i) → x ∈ reach h n l → p x
  | 0, l, hl, hx => hl x hx
  | n + 1, l, hl, hx => by
    simp only [reach] at hx
    refine mem_reach hp n _ (fun i hi => ?_) hx
    rcases mem_addNew _ _ hi with hi | hi
    · exact hl i hi
    · obtain ⟨j, hj, hij⟩ := List.mem_flatMap.1 hi
      exact hp j (hl j hj) i hij

mutual
theorem refs_live : ∀ (v : V) (x : Value) (r : Res), Rep w l v B x r → ∀ i ∈ refs v, ∃ b, B[i]? = some (some b)
  | .bad, _, _, _, i, hi => by simp [refs] at hi
  | .sc _, _, _, _, i, hi => by simp [refs] at hi
  | .agg cs, x, r, h, i, hi => by
    simp only [Rep] at h
    obtain ⟨ys, rfl, _, h⟩ := h
    exact refsL_live cs ys r h i (by simpa [refs] using hi)
  | .tup cs, x, r, h, i, hi => by
    simp only [Rep] at h
    obtain ⟨ys, rfl, h⟩ := h
    exact refsL_live cs ys r h i (by simpa [refs] using hi)
  | .sl _ _, _, _, _, i, hi => by simp [refs] at hi
  | .vp _, _, _, _, i, hi => by simp [refs] at hi
  | .ptr j off, x, r, h, i, hi => by
    simp [refs] at hi; subst hi
    simp only [Rep] at h
    obtain ⟨_, b, hb, _⟩ := h
    exact ⟨b, hb⟩
theorem refsL_live : ∀ (vs : List V) (ys : List Value) (r : Res), RepL w l vs B ys r → ∀ i ∈ refsL vs, ∃ b, B[i]? = some (some b)
  | [], _, _, _, i, hi => by simp [refsL] at hi
  | v :: vs, ys, r, h, i, hi => by
    simp only [RepL] at h
    obtain ⟨y, ys', r1, r2, rfl, _, h1, h2⟩ := h
    simp only [refsL, List.mem_append] at hi
    rcases hi with hi | hi
    · exact refs_live v y r1 h1 i hi
    · exact refsL_live vs ys' r2 h2 i hi
end

theorem heap_live {h : Heap} {r : Res} (hh : RepH w l B h B r) {i : Nat} (hi : ∃ b, B[i]? = some (some b)) : ∀ j ∈ refsL (h.getD i []), ∃ b, B[j]? = some (some b) := by
  obtain ⟨b, hb⟩ := hi
  intro j hj
  cases hc : h[i]? with
  | none =>
    have : h.getD i [] = [] := by simp [List.getD_eq_getElem?_getD, hc]
    rw [this] at hj; simp [refsL] at hj
  | some c =>
    have : h.getD i [] = c := by simp [List.getD_eq_getElem?_getD, hc]
    rw [this] at hj
    obtain ⟨r1, r2, _, hB1, _⟩ := hh.out hb hc
    obtain ⟨_, cs, ty, _, _, rc, _, hL⟩ := hB1
    exact refsL_live c _ rc hL j hj

def holes : BM → List Nat → BM
  | bs, [] => bs
  | bs, i :: is => holes (bs.set i none) is

def fills : BM → List Nat → BM → BM
  | bs, i :: is, o :: os => fills (bs.set i o) is os
  | bs, _, _ => bs

theorem holes_get : ∀ (ids : List Nat) (bs : BM) (i : Nat), i ∉ ids → (holes bs ids)[i]? = bs[i]?
  | [], bs, i, _ => rfl
  | j :: ids, bs, i, h => by
    simp only [holes]
    rw [holes_get ids _ i (fun hh => h (List.mem_cons_of_mem _ hh)), List.getElem?_set_ne (fun e => h (by simp [e]))]

theorem holes_in : ∀ (ids : List Nat) (bs : BM) (i : Nat), i ∈ ids → i < bs.length → (holes bs ids)[i]? = some none
  | [], bs, i, h, _ => by simp at h
  | j :: ids, bs, i, h, hl => by
    simp only [holes]
    by_cases hi : i ∈ ids
    · exact holes_in ids _ i hi (by simpa using hl)
    · have : i = j := by rcases List.mem_cons.1 h with h | h; exact h; exact absurd h hi
      subst this
      rw [holes_get ids _ i hi, List.getElem?_set_self (by simpa using hl)]

/-- Blocks are taken out. -/
theorem RepH.outs {h : Heap} : ∀ (ids : List Nat) (bs : BM) (r : Res), ids.Nodup → (∀ i ∈ ids, ∃ b, bs[i]? = some (some b)) → RepH w l B h bs r →
    ∃ r1 r2 : Res, (∀ x, r x = r1 x + r2 x) ∧ RepH w l B (ids.map fun i => h.getD i []) (ids.map fun i => bs.getD i none) r1 ∧ RepH w l B h (holes bs ids) r2
  | [], bs, r, _, _, hh => ⟨nil0, r, fun x => by simp [nil0], by simp [RepH, nil0], hh⟩
  | i :: ids, bs, r, hn, hl, hh => by
    obtain ⟨b, hb⟩ := hl i (by simp)
    have hlt : i < h.length := by
      have := hh.length
      rcases Nat.lt_or_ge i bs.length with h' | h'
      · omega
      · simp [List.getElem?_eq_none h'] at hb
    obtain ⟨r1, r2, hs, h1, h2⟩ := hh.out hb (List.getElem?_eq_getElem hlt)
    simp only [List.nodup_cons] at hn
    have hne : ∀ j ∈ ids, i ≠ j := fun j hj e => hn.1 (e ▸ hj)
    obtain ⟨r3, r4, hs2, h3, h4⟩ := RepH.outs ids (bs.set i none) r2 hn.2 (fun j hj => by
      rw [List.getElem?_set_ne (hne j hj)]; exact hl j (List.mem_cons_of_mem _ hj)) h2
    refine ⟨fun x => r1 x + r3 x, r4, fun x => by simp only [hs, hs2]; omega, ?_, h4⟩
    have e1 : h.getD i [] = h[i] := by simp [List.getD_eq_getElem?_getD, List.getElem?_eq_getElem hlt]
    have e2 : bs.getD i none = some b := by simp [List.getD_eq_getElem?_getD, hb]
    have e3 : (ids.map fun j => (bs.set i none).getD j none) = ids.map fun j => bs.getD j none := by
      apply List.map_congr_left
      intro j hj
      simp only [List.getD_eq_getElem?_getD]
      rw [List.getElem?_set_ne (hne j hj)]
    rw [e3] at h3
    simp only [List.map_cons, e1, e2, RepH]
    exact ⟨r1, r3, fun _ => rfl, h1, h3⟩

/-- Blocks are put back. -/
theorem RepH.puts : ∀ (ids : List Nat) (cs h : Heap) (bs os : BM) (r r1 : Res), ids.Nodup → (∀ i ∈ ids, bs[i]? = some none) → ids.length = cs.length → RepH w l B cs os r1 → RepH w l B h bs r →
    RepH w l B (setAll h ids cs) (fills bs ids os) (fun x => r1 x + r x)
  | [], cs, h, bs, os, r, r1, _, _, hl, h1, hh => by
    cases cs with
    | nil =>
      simp only [RepH] at h1
      simp only [setAll, fills]
      exact RepH.res (fun x => by rw [h1.2]; simp) hh
    | cons => simp at hl
  | i :: ids, [], h, bs, os, r, r1, _, _, hl, h1, hh => by simp at hl
  | i :: ids, c :: cs, h, bs, [], r, r1, _, _, hl, h1, hh => by simp [RepH] at h1
  | i :: ids, c :: cs, h, bs, none :: os, r, r1, hn, hb, hl, h1, hh => by
    simp only [RepH] at h1
    simp only [List.nodup_cons] at hn
    have hbi := hb i (by simp)
    simp only [setAll, fills]
    refine RepH.puts ids cs _ _ os r r1 hn.2 (fun j hj => ?_) (by simpa using hl) h1 ?_
    · rw [List.getElem?_set_ne (fun (e : i = j) => hn.1 (by rw [e]; exact hj))]; exact hb j (List.mem_cons_of_mem _ hj)
    · have : bs.set i none = bs := by
        apply List.ext_getElem?
        intro j
        by_cases hj : i = j
        · subst hj; rw [List.getElem?_set_self']; simp [hbi]
        · rw [List.getElem?_set_ne hj]
      rw [this]
      exact RepH.setPending c hh hbi
  | i :: ids, c :: cs, h, bs, some b :: os, r, r1, hn, hb, hl, h1, hh => by
    simp only [RepH] at h1
    obtain ⟨s1, s2, hs, h2, h3⟩ := h1
    simp only [List.nodup_cons] at hn
    have hbi := hb i (by simp)
    simp only [setAll, fills]
    have := RepH.puts ids cs (h.set i c) (bs.set i (some b)) os (fun x => s1 x + r x) s2 hn.2 (fun j hj => by
      rw [List.getElem?_set_ne (fun (e : i = j) => hn.1 (by rw [e]; exact hj))]; exact hb j (List.mem_cons_of_mem _ hj)) (by simpa using hl) h3 (RepH.put hh hbi h2)
    exact RepH.res (fun x => by rw [hs]; omega) this

theorem fills_holes : ∀ (ids : List Nat) (bs cur : BM), ids.Nodup → (∀ i, i ∉ ids → cur[i]? = bs[i]?) → cur.length = bs.length → (∀ i ∈ ids, i < bs.length) → fills cur ids (ids.map fun i => bs.getD i none) = bs
  | [], bs, cur, _, h, hl, _ => by
    simp only [List.map_nil, fills]
    exact List.ext_getElem? fun i => h i (by simp)
  | i :: ids, bs, cur, hn, h, hl, hlt => by
    simp only [List.nodup_cons] at hn
    simp only [List.map_cons, fills]
    refine fills_holes ids bs _ hn.2 (fun j hj => ?_) (by simpa using hl) (fun j hj => hlt j (List.mem_cons_of_mem _ hj))
    by_cases hji : i = j
    · subst hji
      have := hlt i (by simp)
      rw [List.getElem?_set_self (by omega)]
      simp [List.getD_eq_getElem?_getD, List.getElem?_eq_getElem this]
    · rw [List.getElem?_set_ne hji]
      exact h j (fun hh => by rcases List.mem_cons.1 hh with e | e; exact hji e.symm; exact hj e)

theorem holes_length : ∀ (ids : List Nat) (bs : BM), (holes bs ids).length = bs.length
  | [], _ => rfl
  | i :: ids, bs => by simp only [holes]; rw [holes_length ids]; simp

end
end Go.Vm
/- The evaluator by value: calls; one operation. -/
namespace Go.Vm
set_option linter.unusedSectionVars false
variable [Globs]
set_option linter.unusedVariables false
set_option linter.unusedSimpArgs false
section
variable {P : Program} {E : En} {K : Oracle} {w : World} {l : Lim} {B : BM} {w0 : World} {l0 : Lim} {R0 : Res} {B0 : BM} {pend : List Nat} {st : St} {a : Act} {rs rh : Res}

theorem Opd.erased : ∀ {vs : List V} {xs : List Value}, Opd w l B vs xs → RepL w l (eraseL vs) B xs nil0
  | [], [], _ => RepL.nil
  | [], _ :: _, h => by simp [Opd] at h
  | _ :: _, [], h => by simp [Opd] at h
  | v :: vs, x :: xs, h => by
    simp only [Opd] at h
    obtain ⟨⟨r, h1⟩, h2⟩ := h
    simp only [eraseL]
    exact RepL.cons (Rep.erase _ _ _ _ h1) (Opd.erased h2) (fun _ => rfl)

theorem Does.mono {f : FuncId} {xs : Array Value} {R R' : Value → World → Prop} (h : Does P f xs w R) (hr : ∀ x w', R x w' → R' x w') : Does P f xs w R' := by
  rcases h with ⟨fn, h1, h2, h3, h4⟩ | ⟨x, w', h1, h2⟩
  · exact .inl ⟨fn, h1, h2, h3, h4.mono fun e w' ⟨x, he, hx⟩ => ⟨x, he, hr x w' hx⟩⟩
  · exact .inr ⟨x, w', h1, hr x w' h2⟩

theorem setAll_get : ∀ (ids : List Nat) (cs h : Heap) (i : Nat), i ∉ ids → (setAll h ids cs)[i]? = h[i]?
  | [], cs, h, i, _ => by simp [setAll]
  | j :: ids, [], h, i, _ => by simp [setAll]
  | j :: ids, c :: cs, h, i, hi => by
    simp only [setAll]
    rw [setAll_get ids cs _ i (fun hh => hi (List.mem_cons_of_mem _ hh)), List.getElem?_set_ne (fun (e : j = i) => hi (by simp [e]))]

theorem callV_ok (hK : Sound P K) (h : RelB w0 l0 R0 B0 st a w B l rs rh) {fo : Bool} {f : FuncId} {vs : List V} {xs : List Value} {v : V} {h' : Heap} (hc : callV K fo f vs st.h = some (v, h')) (ho : Opd w l B vs xs) (dst : Option Nat) :
    (∀ i : Nat, B[i]? = some none → h'[i]? = st.h[i]?) ∧ Does P f xs.toArray w fun x w' => ∃ l' rs'' rh'', RelB w0 l0 R0 B0 ⟨putV st.s dst v, h'⟩ (a.put dst x) w' B l' rs'' rh'' := by
  have has := ho.erased
  unfold callV callW callR ask at hc
  split at hc
  · rename_i hnr
    cases hk : K f (eraseL vs) [] with
    | none => simp [hk] at hc
    | some r =>
      simp [hk] at hc
      obtain ⟨hv, hh⟩ := hc
      have hspec := hK f _ [] r.1 r.2 hk w l [] xs nil0 nil0 (RepL.ofNoRef _ _ _ hnr has) (by simp [RepH, nil0]) (fun b => by simp [nil0]) (fun b hb => by simp [nil0] at hb) h.held
      refine ⟨fun i _ => by rw [hh], hspec.mono ?_⟩
      rintro x w' ⟨l', rv, rh', hR, hH, h1, hX, hm⟩
      have hX' : Ext (fun b => rs b + rh b) w l w' l' := hX.weaken fun b hb => by simp [nil0] at hb
      have hX0 : Ext nil0 w l w' l' := hX.weaken fun b hb => by simp [nil0] at hb
      rw [hv] at hR
      obtain ⟨rs'', hrel⟩ := finish h (dst := dst) (RepL.mono hX0 _ _ _ _ (fun _ _ => rfl) h.slots) (hR.more (fun i b hb => by simp at hb)) (RepH.mono hX0 (fun _ _ => rfl) h.heap) (fun b => by
        have h2 := h.once b
        have h3 := h1 b
        have h4 := hm b
        by_cases hz : rv b = 0
        · omega
        · have h5 := h4 (by omega)
          have h6 : ¬ (rs b + rh b ≠ 0) := fun hn => by
            have := (h.mine b hn).1
            have := h5.2 this
            simp [nil0] at this
          omega) (fun b hb => by
        by_cases hz : rv b = 0
        · have := h.mine b (by omega)
          exact ⟨Nat.lt_of_lt_of_le this.1 hX.size, fun _ => by omega⟩
        · have h5 := hm b (by omega)
          exact ⟨h5.1, fun hlt => by have := h5.2 hlt; simp [nil0] at this⟩) hX' (fun _ _ => rfl) (Nat.le_refl _)
      rw [hh] at hrel
      exact ⟨l', rs'', _, hrel⟩
  · split at hc
    · simp at hc
    · split at hc <;> try (simp at hc; done)
      rename_i hnd
      generalize hids : reach st.h st.h.length (addNew [] (refsL (eraseL vs))) = ids at hc hnd
      have hlive : ∀ i ∈ ids, ∃ b, B[i]? = some (some b) := by
        intro i hi
        rw [← hids] at hi
        exact mem_reach (p := fun i => ∃ b, B[i]? = some (some b)) (fun i hp => heap_live h.heap hp) _ _ (fun j hj => by
          rcases mem_addNew _ _ hj with hj | hj
          · simp at hj
          · exact refsL_live _ _ _ has j hj) hi
      cases hk : K f (renL (fun i => ids.idxOf? i) (eraseL vs)) (ids.map fun i => renL (fun i => ids.idxOf? i) (st.h.getD i [])) with
      | none => rw [hk] at hc; simp at hc
      | some r =>
        simp only [hk, Option.map_some, Option.some.injEq, Prod.mk.injEq] at hc
        obtain ⟨hv, hh⟩ := hc
        have hnum : ∀ (i j b : Nat), ids.idxOf? i = some j → B[i]? = some (some b) → (ids.map fun i => B.getD i none)[j]? = some (some b) := by
          intro i j b hij hb
          have : ids[j]? = some i := by
            rw [List.idxOf?_eq_some_iff] at hij
            obtain ⟨hlt, he, _⟩ := hij
            rw [List.getElem?_eq_getElem hlt, he]
          simp [this, List.getD_eq_getElem?_getD, hb]
        have hback : ∀ (j i b : Nat), ids[j]? = some i → (ids.map fun i => B.getD i none)[j]? = some (some b) → B[i]? = some (some b) := by
          intro j i b hij hb
          simp [hij, List.getD_eq_getElem?_getD] at hb
          obtain ⟨o, ho1, ho2⟩ : ∃ o, B[i]? = some o ∧ o = some b := by
            cases hBi : B[i]? with
            | none => simp [hBi] at hb
            | some o => exact ⟨o, rfl, by simpa [hBi] using hb⟩
          rw [ho1, ho2]
        obtain ⟨r1, r2, hsum, hsub, hrest⟩ := RepH.outs ids B rh hnd hlive h.heap
        have hsub' := RepH.ren (f := fun i => ids.idxOf? i) (B' := ids.map fun i => B.getD i none) hnum hsub
        rw [List.map_map] at hsub'
        have hspec := hK f _ _ r.1 r.2 hk w l (ids.map fun i => B.getD i none) xs nil0 r1 (RepL.ren hnum _ _ _ has) hsub' (fun b => by have := h.once b; have := hsum b; simp only [nil0]; omega) (fun b hb => by
          simp only [nil0] at hb
          exact (h.mine b (by have := hsum b; omega)).1) h.held
        refine ⟨fun i hi => ?_, hspec.mono ?_⟩
        · rw [← hh]
          exact setAll_get ids _ _ i fun hm => by obtain ⟨b, hb⟩ := hlive i hm; rw [hi] at hb; simp at hb
        rintro x w' ⟨l', rv, rh', hR, hH, h1, hX, hm⟩
        have hX' : Ext (fun b => rs b + rh b) w l w' l' := hX.weaken fun b hb => by have := hsum b; simp only [nil0] at hb; omega
        have hdis : ∀ b, rs b + r2 b ≠ 0 → nil0 b + r1 b = 0 := fun b hb => by have := h.once b; have := hsum b; simp only [nil0]; omega
        have hS' := RepL.mono hX _ _ _ _ (fun b hb => hdis b (by omega)) h.slots
        have hrest' := RepH.mono hX (fun b hb => hdis b (by omega)) hrest
        have hR' := Rep.ren (B' := B) (f := fun j => ids[j]?) hback _ _ _ hR
        have hH' := RepH.ren (B' := B) (f := fun j => ids[j]?) hback hH
        have hBlt : ∀ i ∈ ids, i < B.length := fun i hi => by
          obtain ⟨b, hb⟩ := hlive i hi
          rcases Nat.lt_or_ge i B.length with h' | h'
          · exact h'
          · simp [List.getElem?_eq_none h'] at hb
        have hput := RepH.puts ids _ st.h (holes B ids) _ r2 rh' hnd (fun i hi => holes_in ids B i hi (hBlt i hi)) (by have := hH'.length; simpa using this) hH' hrest'
        rw [fills_holes ids B (holes B ids) hnd (fun i hi => holes_get ids B i hi) (holes_length ids B) hBlt] at hput
        rw [hv] at hR'
        obtain ⟨rs'', hrel⟩ := finish h (dst := dst) hS' hR' hput (fun b => by
          have h2 := h.once b
          have h3 := h1 b
          have h4 := hm b
          have h7 := hsum b
          simp only [nil0] at h4
          by_cases hz : rv b + rh' b = 0
          · omega
          · have h5 := h4 hz
            by_cases h6 : rs b + r2 b = 0
            · omega
            · have h8 := (h.mine b (by omega)).1
              have := h5.2 h8
              omega) (fun b hb => by
          have h7 := hsum b
          by_cases hz : rv b + rh' b = 0
          · have := h.mine b (by omega)
            exact ⟨Nat.lt_of_lt_of_le this.1 hX.size, fun _ => by omega⟩
          · have h5 := hm b hz
            exact ⟨h5.1, fun hlt => by have := h5.2 hlt; simp only [nil0] at this; omega⟩) hX' (fun _ _ => rfl) (Nat.le_refl _)
        rw [hh] at hrel
        exact ⟨l', rs'', _, hrel⟩

end
end Go.Vm
/- The evaluator by value: one operation in the program's own run. -/
namespace Go.Vm
set_option linter.unusedSectionVars false
variable [Globs]
set_option linter.unusedVariables false
set_option linter.unusedSimpArgs false
section
variable {P : Program} {E : En} {K : Oracle} {w : World} {l : Lim} {B : BM} {w0 : World} {l0 : Lim} {R0 : Res} {B0 : BM} {st : St} {a : Act} {rs rh : Res}

/-- A real state for an abstract one; some blocks are still to be made. -/
def RelP (w0 : World) (l0 : Lim) (R0 : Res) (B0 : BM) (pend : List (Nat × List V)) (st : St) (a : Act) (w : World) : Prop :=
  ∃ B l rs rh, RelB w0 l0 R0 B0 st a w B l rs rh ∧ ∀ q ∈ pend, B[q.1]? = some none ∧ st.h[q.1]? = some q.2 ∧ B0.length ≤ q.1

theorem wanted_ok {ops : Array Oper} {p : PO} {b : Bool} (hL : RepL w l st.s B a.tmps.toList rs) (hg : p.g = guardOf ops.toList p.o) (hgo : guardsOk ops.toList = true) (hm : p.o ∈ ops.toList) (h : wantedV p st.s = some b) :
    Region.wanted p.o (yielded ops a.tmps) = b := by
  unfold wantedV at h
  rw [hg] at h
  unfold guardOf at h
  have hgo' := List.all_eq_true.1 hgo p.o hm
  unfold Region.wanted
  cases hgu : p.o.guard with
  | none => simp [hgu] at h ⊢; exact h.symm ▸ rfl
  | some q =>
    obtain ⟨j, want⟩ := q
    simp only [hgu] at h hgo' ⊢
    obtain ⟨t, ht⟩ := Option.isSome_iff_exists.1 hgo'
    simp only [ht, Option.getD_some] at h
    have ht' : (ops[j]?).bind (·.dst) = some t := by simpa using ht
    split at h <;> simp at h
    · rename_i c hc
      obtain ⟨y, r1, r2, hy, hR, _⟩ := hL.at hc
      simp only [Rep] at hR
      obtain ⟨rfl, _⟩ := hR
      have hyt : a.tmps[t]? = some (.bool c) := by simpa using hy
      have : yielded ops a.tmps j = some c := by
        unfold yielded
        rw [ht']
        simp [hyt]
      rw [this, ← h]
      cases c <;> cases want <;> rfl
    · rename_i xs hc
      obtain ⟨y, r1, r2, hy, hR, _⟩ := hL.at hc
      simp only [Rep] at hR
      obtain ⟨rfl, _⟩ := hR
      have hyt : a.tmps[t]? = some (.tuple xs) := by simpa using hy
      have : yielded ops a.tmps j = none := by
        unfold yielded
        rw [ht']
        simp [hyt]
      rw [this, h]
      cases want <;> rfl

/-- A call of a function by its name. -/
theorem run_call {o : Oper} {f : FuncId} {args : Array Operand} {ts : Array TypeId} (ho : o.op = .call ⟨.value (.func f), args, ts⟩) : (execOp a.eval o).run P w = (callFunc f (args.map a.eval)).run P w := by
  simp [execOp, ho, resolve, Act.eval, Deferred.ofValue, invoke]

theorem wp_call {o : Oper} {f : FuncId} {args : Array Operand} {ts : Array TypeId} (ho : o.op = .call ⟨.value (.func f), args, ts⟩) {R : Value → World → Prop} (h : Does P f (args.map a.eval) w R) {next : Act → World → Prop} {Q : Exit → Act → World → Prop}
    (hn : ∀ x w', R x w' → next (a.put o.dst x) w') : o.wp P a w next Q := by
  unfold Oper.wp
  rw [run_call ho]
  rcases h with ⟨fn, h1, h2, h3, h4⟩ | ⟨x, w', h1, h2⟩
  · have : (callFunc f (args.map a.eval)).run P w = .ok (.enter f (args.map a.eval)) w := by
      simp only [callFunc, Sem.run_bind, run_program, Result.andThen_ok, h1, h3, Bool.false_eq_true, if_false, h2, Sem.run_pure]
    rw [this, Oper.upon_enter]
    refine h4.mono ?_
    rintro e w' ⟨x, rfl, hx⟩
    exact hn x w' hx
  · rw [h1, Oper.upon_value]
    exact hn x w' h2

/-- The last blocks to be made, without one. -/
def without (pend : List (Nat × List V)) (p : PO) : List (Nat × List V) := if isNew p.o then pend.filter (fun q => q.1 != p.id) else pend

theorem step_ok (hE : E.ok P) (hK : Sound P K) {ops : Array Oper} {i : Nat} {p : PO} (hi : ops[i]? = some p.o) (hg : p.g = guardOf ops.toList p.o) (hgo : guardsOk ops.toList = true) {fo : Bool} {st' : St} {pend : List (Nat × List V)}
    (hnew : isNew p.o = true → ∃ c, (p.id, c) ∈ pend ∧ ∀ t, p.o.op = .alloc t → zeroCells E t = some c) (hst : step E K fo p st = some st') (hrel : RelP w0 l0 R0 B0 pend st a w) {next : Act → World → Prop} {Q : Exit → Act → World → Prop}
    (hn : ∀ a' w', RelP w0 l0 R0 B0 (without pend p) st' a' w' → next a' w') : wpOp P ops Q i next a w := by
  obtain ⟨B, l, rs, rh, hR, hp⟩ := hrel
  have hm : p.o ∈ ops.toList := by simpa using Array.mem_of_getElem? hi
  have hsub : ∀ q ∈ without pend p, q ∈ pend ∧ (isNew p.o = true → q.1 ≠ p.id) := by
    intro q hq
    unfold without at hq
    split at hq
    · have := List.mem_filter.1 hq; exact ⟨this.1, fun _ => by simpa using this.2⟩
    · exact ⟨hq, fun h => absurd h (by assumption)⟩
  -- the end of a step that leaves the blocks' numbers
  have fin : ∀ {h' : Heap} {s' : List V} {x : Value} {w' : World} {l' : Lim} {rs' rh' : Res}, RelB w0 l0 R0 B0 ⟨s', h'⟩ (a.put p.o.dst x) w' B l' rs' rh' → (∀ i : Nat, B[i]? = some none → h'[i]? = st.h[i]?) → st' = ⟨s', h'⟩ → next (a.put p.o.dst x) w' := by
    intro h' s' x w' l' rs' rh' hrel' hkeep hs'
    subst hs'
    exact hn _ _ ⟨B, l', rs', rh', hrel', fun q hq => by
      have := hp q (hsub q hq).1
      exact ⟨this.1, by rw [hkeep q.1 this.1]; exact this.2.1, this.2.2⟩⟩
  unfold step at hst
  cases hw : wantedV p st.s with
  | none => simp [hw] at hst
  | some b =>
    have hwant := wanted_ok hR.slots hg hgo hm hw
    unfold wpOp
    simp only [hi, hwant]
    cases b with
    | false =>
      simp only [hw, Option.some.injEq] at hst
      simp only [Bool.false_eq_true, if_false]
      obtain ⟨rs'', h1⟩ := finish_same hR (v := .sc undef) (x := undef) Rep.of_scalar p.o.dst
      exact fin h1 (fun _ _ => rfl) hst.symm
    | true =>
      simp only [if_true]
      refine .inl ?_
      simp only [hw] at hst
      cases hev : p.o.op.operands.toList.mapM (ev st.s) with
      | none => rw [hev] at hst; simp at hst
      | some vs =>
        have hopd := evs_ok hR.held hR.slots _ _ hev
        rw [hev] at hst
        simp only at hst
        cases hact : act E K p fo vs st.h with
        | none => rw [hact] at hst; simp at hst
        | some vh =>
          obtain ⟨v, h'⟩ := vh
          rw [hact] at hst
          simp only [Option.some.injEq] at hst
          -- an operation that changes nothing
          have quiet : pureAct E p vs = some v → h' = st.h → consumed p = none → (∀ x, p.o.op = .move x → p.take = false) → (∀ x, p.o.op ≠ .assign x) → isNew p.o = false → (∀ t n ps, p.o.op ≠ .buildSlice t n ps) →
              (∀ as ts, p.o.op ≠ .call ⟨.builtin .append, as, ts⟩) → p.o.wp P a w next Q := by
            intro h1 h2 h3 h4 h5 h6 h7 h8
            obtain ⟨x, hx, hv⟩ := pure_ok (P := P) (ρ := a.eval) hE h1 h4 h5 h6 h7 h8 hopd
            unfold Oper.wp
            rw [hx, Oper.upon_value]
            obtain ⟨rs'', hrel⟩ := finish_same hR hv p.o.dst
            rw [h3] at hst
            rw [h2] at hst
            exact fin hrel (fun _ _ => rfl) hst.symm
          -- a value that is taken over
          have taken : ∀ x : Operand, (execOp a.eval p.o).run P w = .ok (.value (a.eval x)) w → p.o.op.operands.toList = [x] → vs = [v] → h' = st.h → consumed p = (match x with | .tmp t => some t | _ => none) → p.o.wp P a w next Q := by
            intro x h1 h2 h3 h4 h5
            rw [h2] at hev
            have hv : ev st.s x = some v := by
              cases hx : ev st.s x with
              | none => simp [hx] at hev
              | some u => simp [hx] at hev; rw [h3] at hev; simp at hev; rw [hev]
            unfold Oper.wp
            rw [h1, Oper.upon_value]
            cases x with
            | tmp t =>
              simp only at h5
              rw [h5, h4] at hst
              obtain ⟨rs'', hrel⟩ := finish_take hR hv p.o.dst
              exact fin hrel (fun _ _ => rfl) hst.symm
            | const c =>
              simp only at h5
              rw [h5, h4] at hst
              obtain ⟨r, hr, _, h0⟩ := ev_ok hR.held hR.slots hv
              obtain ⟨rs'', hrel⟩ := finish_same hR (Rep.sub0 hr (h0 (fun _ => nofun))) p.o.dst
              exact fin hrel (fun _ _ => rfl) hst.symm
            | func f =>
              simp only at h5
              rw [h5, h4] at hst
              simp [ev] at hv; subst hv
              obtain ⟨rs'', hrel⟩ := finish_same hR (v := .sc (.func (.func f) #[] #[])) (x := a.eval (.func f)) Rep.of_scalar p.o.dst
              exact fin hrel (fun _ _ => rfl) hst.symm
            | global g =>
              simp only at h5
              rw [h5, h4] at hst
              obtain ⟨r, hr, _, h0⟩ := ev_ok hR.held hR.slots hv
              obtain ⟨rs'', hrel⟩ := finish_same hR (Rep.sub0 hr (h0 (fun _ => nofun))) p.o.dst
              exact fin hrel (fun _ _ => rfl) hst.symm
          have hq : (act E K p fo vs st.h = withHeap (pureAct E p vs) st.h) → pureAct E p vs = some v ∧ h' = st.h := by
            intro h1
            rw [h1] at hact
            cases hpa : pureAct E p vs with
            | none => rw [hpa] at hact; simp [withHeap] at hact
            | some u => rw [hpa] at hact; simp [withHeap] at hact; exact ⟨by rw [hact.1], hact.2.symm⟩
          have hXfin : ∀ {h' : Heap} {s' : List V} {x : Value} {w' : World} {l' : Lim} {rs' rv : Res} {v : V}, RepL w' l' s' B a.tmps.toList rs' → Rep w' l' v B x rv → Ext (fun b => rs b + rh b) w l w' l' → RepH w' l' B h' B rh →
              (∀ b, rs' b + rv b + rh b ≤ 1) → (∀ b, rs' b + rv b + rh b ≠ 0 → b < w'.heap.size ∧ (b < w.heap.size → rs b + rh b ≠ 0)) → h' = st.h → st' = ⟨putV s' p.o.dst v, h'⟩ → next (a.put p.o.dst x) w' := by
            intro h' s' x w' l' rs' rv v h1 h2 h3 h4 h5 h6 h7 h8
            obtain ⟨rs'', hrel⟩ := finish hR h1 h2 h4 h5 h6 h3 (fun _ _ => rfl) (Nat.le_refl _) p.o.dst
            exact fin hrel (fun i _ => by rw [h7]) h8
          cases hop : p.o.op with
          | move x =>
            obtain ⟨h1, h2⟩ := hq (by simp [act, hop])
            cases htk : p.take with
            | false => exact quiet h1 h2 (by cases x <;> simp [consumed, hop, htk]) (fun _ _ => htk) (fun _ => by simp [hop]) (by simp [isNew, hop]) (fun _ _ _ => by simp [hop]) (fun _ _ => by simp [hop])
            | true =>
              refine taken x (by simp [execOp, hop]) (by simp [Op.operands, hop]) ?_ h2 (by cases x <;> simp [consumed, hop, htk])
              simp only [pureAct, hop] at h1
              split at h1 <;> simp [htk] at h1
              simp [h1]
          | assign x =>
            obtain ⟨h1, h2⟩ := hq (by simp [act, hop])
            refine taken x (by simp [execOp, hop]) (by simp [Op.operands, hop]) ?_ h2 (by cases x <;> simp [consumed, hop])
            simp only [pureAct, hop] at h1
            split at h1 <;> simp at h1
            simp [h1]
          | alloc t =>
            obtain ⟨h1, h2⟩ := hq (by simp [act, hop])
            obtain ⟨c, hc, hz⟩ := hnew (by simp [isNew, hop])
            have hz := hz t hop
            obtain ⟨hBi, hci, hB0⟩ := hp _ hc
            obtain ⟨zr, hzr, hzL, hzf, _⟩ := zero_ok (w := w) (l := l) (B := B) hE hz
            simp only [pureAct, hop] at h1
            split at h1 <;> simp at h1
            subst h1
            have hrun : (execOp a.eval p.o).run P w = .ok (.value (.pointer (some ⟨w.heap.size, 0, none⟩))) { w with heap := w.heap.push (.cells zr.cells t) } := by
              simp only [execOp, hop, Instr.alloc, Sem.run_bind, hzr, Result.andThen_ok, newVar, newRow, run_newObj, Sem.run_pure]
            unfold Oper.wp
            rw [hrun, Oper.upon_value]
            obtain ⟨rs'', rh'', hrel⟩ := finish_new (ty := t) hR hBi hB0 hR.slots hzL hzf (fun b => by simp [nil0]) p.o.dst
            have hcons : consumed p = none := by simp [consumed, hop]
            rw [hcons, h2] at hst
            have hset : st.h.set p.id c = st.h := by
              apply List.ext_getElem?
              intro j
              by_cases hj : p.id = j
              · subst hj; rw [List.getElem?_set_self']; simp [hci]
              · rw [List.getElem?_set_ne hj]
            rw [hset] at hrel
            rw [← hst] at hn
            refine hn _ _ ⟨_, _, rs'', rh'', hrel, fun q hq => ?_⟩
            obtain ⟨h3, h4⟩ := hsub q hq
            have h5 := hp q h3
            exact ⟨by rw [List.getElem?_set_ne (fun e => h4 (by simp [isNew, hop]) e.symm)]; exact h5.1, h5.2.1, h5.2.2⟩
          | box t x =>
            simp only [act, hop] at hact
            split at hact <;> try (simp at hact; done)
            rename_i v0
            split at hact <;> try (simp at hact; done)
            rename_i hcnd
            obtain ⟨hsz, hok, hlt⟩ := hcnd
            simp only [Option.some.injEq, Prod.mk.injEq] at hact
            obtain ⟨rfl, rfl⟩ := hact
            obtain ⟨c, hc, _⟩ := hnew (by simp [isNew, hop])
            obtain ⟨hBi, hci, hB0⟩ := hp _ hc
            have hop' : p.o.op.operands.toList = [x] := by simp [Op.operands, hop]
            rw [hop'] at hev
            have hv : ev st.s x = some v0 := by
              cases hx : ev st.s x with
              | none => simp [hx] at hev
              | some u => simp [hx] at hev; rw [hev]
            have go : ∀ (s' : List V) (rs' rv : Res), Rep w l v0 B (a.eval x) rv → RepL w l s' B a.tmps.toList rs' → (∀ b, rs b = rs' b + rv b) → st' = ⟨putV s' p.o.dst (.ptr p.id 0), st.h.set p.id v0.cells⟩ → p.o.wp P a w next Q := by
              intro s' rs' rv h1 h2 h3 h4
              obtain ⟨hcL, hcf⟩ := h1.cells hok
              obtain ⟨rs'', rh'', hrel⟩ := finish_new (ty := t) hR hBi hB0 h2 hcL hcf h3 p.o.dst
              have hrun : (execOp a.eval p.o).run P w = .ok (.value (.pointer (some ⟨w.heap.size, 0, none⟩))) { w with heap := w.heap.push (.cells (a.eval x).cells t) } := by
                simp only [execOp, hop, Instr.box, newVar, newRow, Sem.run_bind, run_newObj, Result.andThen_ok, Sem.run_pure]
              unfold Oper.wp
              rw [hrun, Oper.upon_value]
              rw [h4] at hn
              refine hn _ _ ⟨_, _, rs'', rh'', hrel, fun q hq => ?_⟩
              obtain ⟨h5, h6⟩ := hsub q hq
              have h7 := hp q h5
              have hne : p.id ≠ q.1 := fun e => h6 (by simp [isNew, hop]) e.symm
              exact ⟨by rw [List.getElem?_set_ne hne]; exact h7.1, by show (st.h.set p.id v0.cells)[q.1]? = _; rw [List.getElem?_set_ne hne]; exact h7.2.1, h7.2.2⟩
            cases x with
            | tmp t' =>
              have hcons : consumed p = some t' := by simp [consumed, hop]
              rw [hcons] at hst
              obtain ⟨r1, r2, h1, h2, h3⟩ := take_ok hR.slots hv
              exact go _ r2 r1 h1 h2 (fun b => by have := h3 b; omega) hst.symm
            | const c =>
              have hcons : consumed p = none := by simp [consumed, hop]
              rw [hcons] at hst
              obtain ⟨r, hr, _, h0⟩ := ev_ok hR.held hR.slots hv
              exact go _ rs r hr hR.slots (fun b => by have := h0 (fun _ => nofun) b; omega) hst.symm
            | func f =>
              have hcons : consumed p = none := by simp [consumed, hop]
              rw [hcons] at hst
              simp [ev] at hv; subst hv
              exact go _ rs nil0 Rep.of_scalar hR.slots (fun b => by simp [nil0]) hst.symm
            | global g =>
              have hcons : consumed p = none := by simp [consumed, hop]
              rw [hcons] at hst
              obtain ⟨r, hr, _, h0⟩ := ev_ok hR.held hR.slots hv
              exact go _ rs r hr hR.slots (fun b => by have := h0 (fun _ => nofun) b; omega) hst.symm
          | load t x =>
            simp only [act, hop] at hact
            have hcons : consumed p = none := by simp [consumed, hop]
            rw [hcons] at hst
            split at hact
            · rename_i i' off
              cases hlo : loadOk E p fo t off with
              | false => simp [hlo] at hact
              | true =>
              simp only [hlo] at hact
              cases hci : st.h[i']? with
              | none => simp [hci] at hact
              | some cs =>
                cases hpt : part E t cs off with
                | none => simp [hci, hpt] at hact
                | some u =>
                  simp only [hci, hpt, Option.some.injEq] at hact
                  simp [Op.operands, hop, Opd] at hopd
                  obtain ⟨r, hx⟩ := hopd
                  obtain ⟨z, rs'', rh'', hz, hrel⟩ := load_ok (P := P) hE hR hci hpt hx p.o.dst (!fo && p.take)
                  have hrun : (execOp a.eval p.o).run P w = .ok (.value z) w := by
                    simp [execOp, hop, hz]
                  unfold Oper.wp
                  rw [hrun, Oper.upon_value]
                  have hx' := hx
                  simp only [Rep] at hx'
                  obtain ⟨_, b, hb, _⟩ := hx'
                  refine fin hrel (fun j hj => ?_) ?_
                  · split
                    · rw [List.getElem?_set_ne (fun e => by subst e; rw [hb] at hj; simp at hj)]
                    · rfl
                  · rw [← hst]
                    cases htk : (!fo && p.take) <;> simp only [htk, if_true, Bool.false_eq_true, if_false, Prod.mk.injEq] at hact ⊢ <;> obtain ⟨rfl, rfl⟩ := hact <;> rfl
            · cases hpa : pureAct E p vs with
              | none => rw [hpa] at hact; simp [withHeap] at hact
              | some u =>
                rw [hpa] at hact
                simp [withHeap] at hact
                obtain ⟨rfl, rfl⟩ := hact
                exact quiet hpa rfl hcons (fun _ h => by rw [hop] at h; cases h) (fun _ => by simp [hop]) (by simp [isNew, hop]) (fun _ _ _ => by simp [hop]) (fun _ _ => by simp [hop])
          | store t ad x =>
            simp only [act, hop] at hact
            split at hact <;> try (simp at hact; done)
            rename_i i' off v0
            cases hso : storeOk E p fo t off with
            | false => simp [hso] at hact
            | true =>
            simp only [hso] at hact
            cases hci : st.h[i']? with
            | none => simp [hci] at hact
            | some cs =>
              simp only [hci] at hact
              split at hact <;> try (simp at hact; done)
              rename_i hcnd
              obtain ⟨hsz, hok, hle⟩ := hcnd
              simp only [Option.some.injEq, Prod.mk.injEq] at hact
              obtain ⟨rfl, rfl⟩ := hact
              have hop' : p.o.op.operands.toList = [ad, x] := by simp [Op.operands, hop]
              rw [hop'] at hev
              simp [Op.operands, hop, Opd] at hopd
              obtain ⟨⟨r, hx⟩, _⟩ := hopd
              have hv : ev st.s x = some v0 := by
                cases h1 : ev st.s ad with
                | none => simp [h1] at hev
                | some u1 => cases h2 : ev st.s x with
                  | none => simp [h1, h2] at hev
                  | some u => simp [h1, h2] at hev; rw [hev.2]
              have hx' := hx
              simp only [Rep] at hx'
              obtain ⟨_, b, hb, _⟩ := hx'
              have go : ∀ (s' : List V) (rs' rv : Res), Rep w l v0 B (a.eval x) rv → RepL w l s' B a.tmps.toList rs' → (∀ b, rs b = rv b + rs' b) → st' = ⟨putV s' p.o.dst (.sc undef), st.h.set i' (splice cs off v0.cells)⟩ → p.o.wp P a w next Q := by
                intro s' rs' rv h1 h2 h3 h4
                obtain ⟨w', rs'', rh'', hz, hrel⟩ := store_ok (P := P) hE hR hci hsz hok hle hx h1 h2 h3 p.o.dst
                have hrun : (execOp a.eval p.o).run P w = .ok .skip w' := by
                  simp [execOp, hop, hz]
                unfold Oper.wp
                rw [hrun, Oper.upon_skip]
                exact fin hrel (fun j hj => by rw [List.getElem?_set_ne (fun e => by subst e; rw [hb] at hj; simp at hj)]) h4
              cases x with
              | tmp t' =>
                have hcons : consumed p = some t' := by simp [consumed, hop]
                rw [hcons] at hst
                obtain ⟨r1, r2, h1, h2, h3⟩ := take_ok hR.slots hv
                exact go _ r2 r1 h1 h2 h3 hst.symm
              | const c =>
                have hcons : consumed p = none := by simp [consumed, hop]
                rw [hcons] at hst
                obtain ⟨r, hr, _, h0⟩ := ev_ok hR.held hR.slots hv
                exact go _ rs r hr hR.slots (fun b => by have := h0 (fun _ => nofun) b; omega) hst.symm
              | func f =>
                have hcons : consumed p = none := by simp [consumed, hop]
                rw [hcons] at hst
                simp [ev] at hv; subst hv
                exact go _ rs nil0 Rep.of_scalar hR.slots (fun b => by simp [nil0]) hst.symm
              | global g =>
                have hcons : consumed p = none := by simp [consumed, hop]
                rw [hcons] at hst
                obtain ⟨r, hr, _, h0⟩ := ev_ok hR.held hR.slots hv
                exact go _ rs r hr hR.slots (fun b => by have := h0 (fun _ => nofun) b; omega) hst.symm
          | buildSlice t n parts =>
            obtain ⟨h1, h2⟩ := hq (by simp [act, hop])
            have hcons : consumed p = none := by simp [consumed, hop]
            rw [hcons] at hst
            obtain ⟨z, w', l', rz, hz, hX, hRz, hm', h1'⟩ := buildSlice_ok (P := P) (ρ := a.eval) hE hop h1 (by simpa [Op.operands, hop, Function.comp_def] using hopd)
            have hrun : (execOp a.eval p.o).run P w = .ok (.value z) w' := by
              simp [execOp, hop, hz]
            unfold Oper.wp
            rw [hrun, Oper.upon_value]
            refine hXfin (rs' := rs) (rv := rz) (RepL.mono hX _ _ _ _ (fun _ _ => rfl) hR.slots) hRz (hX.weaken fun b hb => absurd rfl hb) (RepH.mono hX (fun _ _ => rfl) hR.heap) (fun b => ?_) (fun b hb => ?_) rfl (by rw [← hst, h2])
            · have h3 := h1' b
              have h4 := hm' b
              have h5 := hR.once b
              have h6 := hR.mine b
              by_cases hz0 : rz b = 0
              · omega
              · have := h4 hz0
                by_cases h7 : rs b + rh b = 0
                · omega
                · have := (h6 h7).1; omega
            · by_cases hz0 : rz b = 0
              · have := hR.mine b (by omega)
                exact ⟨Nat.lt_of_lt_of_le this.1 hX.size, fun _ => by omega⟩
              · have := hm' b hz0
                exact ⟨this.1, fun hlt => by omega⟩
          | call c =>
            obtain ⟨callee, args, ts⟩ := c
            cases callee with
            | invoke r m =>
              obtain ⟨h1, h2⟩ := hq (by simp [act, hop])
              simp [pureAct, hop] at h1
            | builtin b =>
              obtain ⟨h1, h2⟩ := hq (by simp [act, hop])
              by_cases hb : b = .append
              · subst hb
                simp only [pureAct, hop, builtinV] at h1
                split at h1 <;> try (simp at h1; done)
                all_goals (try contradiction)
                rename_i x y t ht
                cases hu : ts[1]? with
                | none => simp [hu] at h1
                | some u =>
                  simp only [hu] at h1
                  cases hku : kd E u with
                  | none => simp [hku] at h1
                  | some ku =>
                    have hku' := hE.kd hku
                    rw [hku] at h1
                    split at h1 <;> try (simp at h1; done)
                    rename_i e2 hee
                    cases hee
                    simp only [Kd.ok] at hku'
                    have hopl : p.o.op.operands.toList = args.toList := by simp [Op.operands, Call.operands, hop]
                    rw [hopl] at hopd hev
                    -- two operands
                    cases hal : args.toList with
                    | nil => rw [hal] at hopd; simp [Opd] at hopd
                    | cons o1 al =>
                      cases al with
                      | nil => rw [hal] at hopd; simp [Opd] at hopd
                      | cons o2 al =>
                        cases al with
                        | cons => rw [hal] at hopd; simp [Opd] at hopd
                        | nil =>
                          rw [hal] at hopd hev
                          simp [Opd] at hopd
                          obtain ⟨_, ry, hy⟩ := hopd
                          have hv : ev st.s o1 = some x := by
                            cases e1 : ev st.s o1 with
                            | none => simp [e1] at hev
                            | some u1 => cases e2' : ev st.s o2 with
                              | none => simp [e1, e2'] at hev
                              | some u2 => simp [e1, e2'] at hev; rw [hev.1]
                          have hargs : args.map a.eval = #[a.eval o1, a.eval o2] := by
                            apply Array.ext'; simp [hal]
                          have go : ∀ (s' : List V) (rs' rx : Res), Rep w l x B (a.eval o1) rx → RepL w l s' B a.tmps.toList rs' → (∀ b, rs b = rx b + rs' b) → st' = ⟨putV s' p.o.dst v, h'⟩ → p.o.wp P a w next Q := by
                            intro s' rs' rx g1 g2 g3 g4
                            obtain ⟨z, w', l', rz, hz, hX, hRz, hm', h1'⟩ := appendV_ok (P := P) (ty := p.o.type) hE h1 ht hu hku' g1 hy (fun b hb => (hR.mine b (by have := g3 b; omega)).1)
                            have hrun : (execOp a.eval p.o).run P w = .ok (.value z) w' := by
                              simp only [execOp, hop, resolve, Sem.run_bind, Sem.run_pure, Result.andThen_ok, invoke, builtin]
                              rw [hargs, hz]
                              rfl
                            unfold Oper.wp
                            rw [hrun, Oper.upon_value]
                            refine hXfin (rs' := rs') (rv := rz) (RepL.mono hX _ _ _ _ (fun b hb => by have := g3 b; have := hR.once b; omega) g2) hRz (hX.weaken fun b hb => by have := g3 b; omega) (RepH.mono hX (fun b hb => by have := g3 b; have := hR.once b; omega) hR.heap) (fun b => ?_) (fun b hb => ?_) rfl (by rw [← h2]; exact g4)
                            · have h3 := h1' b
                              have h4 := hm' b
                              have h5 := hR.once b
                              have h6 := hR.mine b
                              have h7 := g3 b
                              by_cases hz0 : rz b = 0
                              · omega
                              · have h8 := h4 hz0
                                by_cases h9 : rs' b + rh b = 0
                                · omega
                                · have h10 := (h6 (by omega)).1
                                  have := h8.2 h10
                                  omega
                            · have h7 := g3 b
                              by_cases hz0 : rz b = 0
                              · have := hR.mine b (by omega)
                                exact ⟨Nat.lt_of_lt_of_le this.1 hX.size, fun _ => by omega⟩
                              · have := hm' b hz0
                                exact ⟨this.1, fun hlt => by have := this.2 hlt; omega⟩
                          cases o1 with
                          | tmp t' =>
                            have hcons : consumed p = some t' := by simp [consumed, hop, hal]
                            rw [hcons] at hst
                            obtain ⟨r1, r2, g1, g2, g3⟩ := take_ok hR.slots hv
                            exact go _ r2 r1 g1 g2 g3 hst.symm
                          | const c =>
                            have hcons : consumed p = none := by simp [consumed, hop, hal]
                            rw [hcons] at hst
                            obtain ⟨r, hr, _, h0⟩ := ev_ok hR.held hR.slots hv
                            exact go _ rs r hr hR.slots (fun b => by have := h0 (fun _ => nofun) b; omega) hst.symm
                          | func f =>
                            have hcons : consumed p = none := by simp [consumed, hop, hal]
                            rw [hcons] at hst
                            simp [ev] at hv; subst hv
                            exact go _ rs nil0 Rep.of_scalar hR.slots (fun b => by simp [nil0]) hst.symm
                          | global g =>
                            have hcons : consumed p = none := by simp [consumed, hop, hal]
                            rw [hcons] at hst
                            obtain ⟨r, hr, _, h0⟩ := ev_ok hR.held hR.slots hv
                            exact go _ rs r hr hR.slots (fun b => by have := h0 (fun _ => nofun) b; omega) hst.symm
              · have hcons : consumed p = none := by
                  simp only [consumed, hop]
                  split <;> simp_all
                exact quiet h1 h2 hcons (fun _ h => by rw [hop] at h; cases h) (fun _ => by simp [hop]) (by simp [isNew, hop]) (fun _ _ _ => by simp [hop]) (fun _ _ => by simp [hop, hb])
            | value f =>
              have hcons : consumed p = none := by simp [consumed, hop]
              rw [hcons] at hst
              cases f with
              | func f =>
                simp only [act, hop] at hact
                have hopl : p.o.op.operands.toList = .func f :: args.toList := by simp [Op.operands, Call.operands, hop]
                rw [hopl] at hopd
                cases vs with
                | nil => simp at hact
                | cons v0 vs =>
                  simp only at hact
                  simp only [List.map_cons, Opd] at hopd
                  obtain ⟨hkeep, hdo⟩ := callV_ok hK hR hact hopd.2 p.o.dst
                  have hargs : (args.toList.map a.eval).toArray = args.map a.eval := by apply Array.ext'; simp
                  rw [hargs] at hdo
                  refine wp_call hop hdo fun x w' hx => ?_
                  obtain ⟨l', rs'', rh'', hrel⟩ := hx
                  exact fin hrel hkeep hst.symm
              | _ =>
                obtain ⟨h1, h2⟩ := hq (by simp [act, hop])
                simp [pureAct, hop] at h1
          | _ =>
            obtain ⟨h1, h2⟩ := hq (by simp [act, hop])
            exact quiet h1 h2 (by simp [consumed, hop]) (fun _ h => by rw [hop] at h; cases h) (fun _ => by simp [hop]) (by simp [isNew, hop]) (fun _ _ _ => by simp [hop]) (fun _ _ => by simp [hop])

end
end Go.Vm
/- The evaluator by value: operations that may change places. -/
namespace Go.Vm
set_option linter.unusedSectionVars false
variable [Globs]
set_option linter.unusedVariables false
set_option linter.unusedSimpArgs false
section
variable {E : En} {K : Oracle}

/-- What a step changes in the slots. -/
def upd (p : PO) (c : Bool) (v : V) (s : List V) : List V :=
  putV (match (if c then consumed p else none) with | some t => s.modify t erase | none => s) p.o.dst v

/-- What a step yields. -/
def eff (E : En) (K : Oracle) (fo : Bool) (p : PO) (s : List V) (h : Heap) : Option (Bool × V × Heap) :=
  match wantedV p s with
  | none => none
  | some false => some (false, .sc undef, h)
  | some true => match p.o.op.operands.toList.mapM (ev s) with
    | none => none
    | some vs => match act E K p fo vs h with
      | none => none
      | some (v, h') => some (true, v, h')

theorem step_eff (fo : Bool) (p : PO) (st : St) : step E K fo p st = match eff E K fo p st.s st.h with | some (c, v, h') => some ⟨upd p c v st.s, h'⟩ | none => none := by
  unfold step eff
  cases hw : wantedV p st.s with
  | none => rfl
  | some b =>
    cases b with
    | false => simp [upd]
    | true =>
      simp only
      cases p.o.op.operands.toList.mapM (ev st.s) with
      | none => rfl
      | some vs =>
        simp only
        cases act E K p fo vs st.h with
        | none => rfl
        | some vh => obtain ⟨v, h'⟩ := vh; simp [upd]; cases consumed p <;> rfl

theorem ev_congr {s1 s2 : List V} {o : Operand} (h : ∀ t, o = .tmp t → s1[t]? = s2[t]?) : ev s1 o = ev s2 o := by
  cases o with
  | tmp t => exact h t rfl
  | _ => rfl

theorem mapM_congr {s1 s2 : List V} : ∀ (os : List Operand), (∀ t, Operand.tmp t ∈ os → s1[t]? = s2[t]?) → os.mapM (ev s1) = os.mapM (ev s2)
  | [], _ => rfl
  | o :: os, h => by
    simp only [List.mapM_cons]
    rw [ev_congr (fun t ht => h t (by simp [ht])), mapM_congr os (fun t ht => h t (List.mem_cons_of_mem _ ht))]

theorem mem_temps {o : Oper} {t : Nat} (h : Operand.tmp t ∈ o.op.operands.toList) : t ∈ temps o := by
  unfold temps
  exact List.mem_filterMap.2 ⟨_, h, rfl⟩

theorem eff_congr {fo : Bool} {p : PO} {s1 s2 : List V} {h : Heap} (hs : ∀ t ∈ reads p, s1[t]? = s2[t]?) : eff E K fo p s1 h = eff E K fo p s2 h := by
  unfold eff
  have h1 : wantedV p s1 = wantedV p s2 := by
    unfold wantedV
    cases hg : p.g with
    | none => rfl
    | some q =>
      obtain ⟨t, want⟩ := q
      simp only
      rw [hs t (by simp [reads, hg])]
  rw [h1, mapM_congr _ (fun t ht => hs t (List.mem_append_left _ (mem_temps ht)))]

theorem callV_fo {f : FuncId} {vs : List V} {h h' : Heap} {v : V} (hc : callV K true f vs h = some (v, h')) : h' = h ∧ ∀ h2, callV K true f vs h2 = some (v, h2) := by
  simp only [callV, callW, ask] at hc ⊢
  split at hc
  · rename_i hn
    cases hk : K f (eraseL vs) [] with
    | none => simp [hk] at hc
    | some r => simp [hk] at hc; exact ⟨hc.2.symm, fun h2 => by simp [hn, hk, hc.1]⟩
  · simp at hc

theorem act_none {fo : Bool} {p : PO} {vs : List V} {h h' : Heap} {v : V} (hm : memOf p fo = .none) (ha : act E K p fo vs h = some (v, h')) : h' = h ∧ ∀ h2, act E K p fo vs h2 = some (v, h2) := by
  have quiet : withHeap (pureAct E p vs) h = some (v, h') → h' = h ∧ ∀ h2, withHeap (pureAct E p vs) h2 = some (v, h2) := by
    intro hw
    cases hp : pureAct E p vs with
    | none => rw [hp] at hw; simp [withHeap] at hw
    | some u => rw [hp] at hw; simp [withHeap] at hw ⊢; exact ⟨hw.2.symm, hw.1⟩
  unfold memOf at hm
  unfold act at ha ⊢
  cases hop : p.o.op with
  | load t x =>
    simp only [hop] at hm ha ⊢
    split at hm
    · rename_i hfo
      subst hfo
      split at hm
      · simp at hm
      · rename_i hps
        split at ha
        · rename_i i off
          have hlo : loadOk E p true t off = false := by
            simp only [loadOk, posOk]
            cases hp : p.pos with
            | none => rfl
            | some q => simp [hp] at hps
          simp [hlo] at ha
        · exact quiet ha
    · split at hm <;> simp at hm
  | store => simp [hop] at hm
  | box => simp [hop] at hm
  | call c =>
    simp only [hop] at hm ha ⊢
    cases hc : c.callee with
    | value f =>
      cases f with
      | func f =>
        simp only [hc] at hm ha ⊢
        split at hm
        · rename_i hfo
          subst hfo
          cases vs with
          | nil => simp at ha
          | cons v0 vs => exact callV_fo ha
        · simp at hm
      | _ => simp only [hc] at ha ⊢; exact quiet ha
    | _ => simp only [hc] at ha ⊢; exact quiet ha
  | _ => simp only [hop] at ha ⊢; exact quiet ha

theorem act_read {fo : Bool} {p : PO} {vs : List V} {h h' : Heap} {v : V} (hm : memOf p fo = .read) (ha : act E K p fo vs h = some (v, h')) : h' = h := by
  unfold memOf at hm
  unfold act at ha
  cases hop : p.o.op with
  | load t x =>
    simp only [hop] at hm ha
    have ht : (!fo && p.take) = false := by
      cases fo with
      | true => rfl
      | false => cases htk : p.take with
        | false => rfl
        | true => simp [htk] at hm
    split at ha
    · rename_i i off
      cases hlo : loadOk E p fo t off with
      | false => simp [hlo] at ha
      | true =>
      simp only [hlo] at ha
      cases hi : h[i]? with
      | none => simp [hi] at ha
      | some cs =>
        cases hp : part E t cs off with
        | none => simp [hi, hp] at ha
        | some u => simp [hi, hp, ht] at ha; exact ha.2.symm
    · cases hp : pureAct E p vs with
      | none => rw [hp] at ha; simp [withHeap] at ha
      | some u => rw [hp] at ha; simp [withHeap] at ha; exact ha.2.symm
  | call c =>
    simp only [hop] at hm
    split at hm
    · split at hm <;> simp at hm
    · simp at hm
  | _ => simp [hop] at hm

theorem eff_none {fo : Bool} {p : PO} {s : List V} {h h' : Heap} {c : Bool} {v : V} (hm : memOf p fo = .none) (ha : eff E K fo p s h = some (c, v, h')) : h' = h ∧ ∀ h2, eff E K fo p s h2 = some (c, v, h2) := by
  unfold eff at ha ⊢
  cases hw : wantedV p s with
  | none => simp [hw] at ha
  | some b =>
    cases b with
    | false => simp [hw] at ha ⊢; exact ⟨ha.2.2.symm, ha.1, ha.2.1⟩
    | true =>
      simp only [hw] at ha ⊢
      cases hv : p.o.op.operands.toList.mapM (ev s) with
      | none => simp [hv] at ha
      | some vs =>
        simp only [hv] at ha ⊢
        cases hact : act E K p fo vs h with
        | none => simp [hact] at ha
        | some vh =>
          obtain ⟨v', h1⟩ := vh
          simp [hact] at ha
          obtain ⟨rfl, rfl, rfl⟩ := ha
          obtain ⟨h2, h3⟩ := act_none hm hact
          exact ⟨h2, fun h4 => by rw [h3 h4]⟩

theorem eff_read {fo : Bool} {p : PO} {s : List V} {h h' : Heap} {c : Bool} {v : V} (hm : memOf p fo = .read) (ha : eff E K fo p s h = some (c, v, h')) : h' = h := by
  unfold eff at ha
  cases hw : wantedV p s with
  | none => simp [hw] at ha
  | some b =>
    cases b with
    | false => simp [hw] at ha; exact ha.2.2.symm
    | true =>
      simp only [hw] at ha
      cases hv : p.o.op.operands.toList.mapM (ev s) with
      | none => simp [hv] at ha
      | some vs =>
        simp only [hv] at ha
        cases hact : act E K p fo vs h with
        | none => simp [hact] at ha
        | some vh =>
          obtain ⟨v', h1⟩ := vh
          simp [hact] at ha
          obtain ⟨rfl, rfl, rfl⟩ := ha
          exact act_read hm hact

/-- What a step leaves in a slot. -/
theorem upd_get (p : PO) (c : Bool) (v : V) (s : List V) (i : Nat) :
    (upd p c v s)[i]? = if p.o.dst = some i then (if i < s.length then some v else none) else if (if c then consumed p else none) = some i then (s[i]?).map erase else s[i]? := by
  unfold upd putV
  generalize (if c then consumed p else none) = k
  have hmod : ∀ s' : List V, s' = (match k with | some t => s.modify t erase | none => s) → s'.length = s.length ∧ s'[i]? = if k = some i then (s[i]?).map erase else s[i]? := by
    intro s' hs
    cases k with
    | none => subst hs; simp
    | some t =>
      subst hs
      simp only [List.length_modify, List.getElem?_modify, Option.some.injEq, true_and]
      by_cases ht : t = i
      · simp [ht]
      · simp [ht]
  obtain ⟨h1, h2⟩ := hmod _ rfl
  cases hd : p.o.dst with
  | none => simp only [reduceCtorEq, if_false]; exact h2
  | some d =>
    simp only [Option.some.injEq]
    by_cases hdi : d = i
    · subst hdi
      rw [List.getElem?_set_self']
      simp only [if_true]
      rw [h2]
      by_cases hlt : d < s.length
      · simp only [hlt, if_true, List.getElem?_eq_getElem hlt]
        split <;> simp
      · simp only [hlt, if_false, List.getElem?_eq_none (Nat.le_of_not_lt hlt)]
        split <;> simp
    · rw [List.getElem?_set_ne hdi]
      simp only [hdi, if_false]
      exact h2

theorem upd_length (p : PO) (c : Bool) (v : V) (s : List V) : (upd p c v s).length = s.length := by
  unfold upd putV
  split <;> split <;> simp

theorem mem_writes_dst {p : PO} {i : Nat} (h : p.o.dst = some i) : i ∈ writes p := by simp [writes, h]
theorem mem_writes_con {p : PO} {i : Nat} {c : Bool} (h : (if c then consumed p else none) = some i) : i ∈ writes p := by
  cases c <;> simp at h
  simp [writes, h]

theorem upd_other {p : PO} {c : Bool} {v : V} {s : List V} {i : Nat} (h : i ∉ writes p) : (upd p c v s)[i]? = s[i]? := by
  rw [upd_get]
  rw [if_neg (fun hd => h (mem_writes_dst hd)), if_neg (fun hd => h (mem_writes_con hd))]

theorem upd_comm {x y : PO} {c1 c2 : Bool} {v1 v2 : V} {s : List V} (h : ∀ t ∈ writes x, t ∉ writes y) : upd y c2 v2 (upd x c1 v1 s) = upd x c1 v1 (upd y c2 v2 s) := by
  apply List.ext_getElem?
  intro i
  by_cases hx : i ∈ writes x
  · have hy := h i hx
    rw [upd_other hy, upd_get, upd_get x c1 v1 (upd y c2 v2 s), upd_length, upd_other hy]
  · rw [upd_other (p := x) hx, upd_get, upd_get y c2 v2 s, upd_length, upd_other hx]

theorem sorted_get {fs : List (Nat × TypeId)} : ∀ {lo : Nat}, sortedB E lo fs = true → ∀ {i : Nat} {o : Nat} {t : TypeId}, fs[i]? = some (o, t) → lo ≤ o := by
  induction fs with
  | nil => intro lo h i o t hi; simp at hi
  | cons x fs ih =>
    intro lo h i o t hi
    obtain ⟨ox, tx⟩ := x
    unfold sortedB at h
    cases hs : size E tx with
    | none => simp [hs] at h
    | some n =>
      simp only [hs, Bool.and_eq_true, decide_eq_true_eq] at h
      cases i with
      | zero => simp at hi; omega
      | succ i =>
        have := ih h.2 (by simpa using hi)
        omega

theorem sorted_apart {fs : List (Nat × TypeId)} : ∀ {lo : Nat}, sortedB E lo fs = true → ∀ {i j : Nat} {o o' n : Nat} {t t' : TypeId}, i < j → fs[i]? = some (o, t) → fs[j]? = some (o', t') → size E t = some n → o + n ≤ o' := by
  induction fs with
  | nil => intro lo h i j o o' n t t' hij hi; simp at hi
  | cons x fs ih =>
    intro lo h i j o o' n t t' hij hi hj hn
    obtain ⟨ox, tx⟩ := x
    unfold sortedB at h
    cases hs : size E tx with
    | none => simp [hs] at h
    | some m =>
      simp only [hs, Bool.and_eq_true, decide_eq_true_eq] at h
      obtain ⟨j, rfl⟩ : ∃ q, j = q + 1 := ⟨j - 1, by omega⟩
      cases i with
      | zero =>
        simp at hi
        obtain ⟨rfl, rfl⟩ := hi
        rw [hs] at hn; cases hn
        exact sorted_get h.2 (by simpa using hj)
      | succ i => exact ih h.2 (i := i) (j := j) (by omega) (by simpa using hi) (by simpa using hj) hn

/-- Places of different fields of a struct lie apart. -/
theorem pos_apart {u : TypeId} {f g : Nat} (hfg : f ≠ g) {t t' : TypeId} {off off' : Nat} (h1 : posOk E (some (u, f)) t off = true) (h2 : posOk E (some (u, g)) t' off' = true) :
    ∃ n m, size E t = some n ∧ size E t' = some m ∧ 0 < n ∧ 0 < m ∧ (off + n ≤ off' ∨ off' + m ≤ off) := by
  unfold posOk at h1 h2
  simp only at h1 h2
  split at h1
  · rename_i fs ok hk
    rw [hk] at h2
    simp only at h2
    cases hf : fs[f]? with
    | none => simp [hf] at h1
    | some x =>
      obtain ⟨o, ft⟩ := x
      cases hg : fs[g]? with
      | none => simp [hg] at h2
      | some y =>
        obtain ⟨o', gt⟩ := y
        simp only [hf] at h1
        simp only [hg] at h2
        cases a1 : size E ft with
        | none => simp [a1] at h1
        | some n =>
          cases a2 : size E t with
          | none => simp [a1, a2] at h1
          | some n' =>
            cases b1 : size E gt with
            | none => simp [b1] at h2
            | some m =>
              cases b2 : size E t' with
              | none => simp [b1, b2] at h2
              | some m' =>
                simp only [a1, a2, Bool.and_eq_true, beq_iff_eq, decide_eq_true_eq] at h1
                simp only [b1, b2, Bool.and_eq_true, beq_iff_eq, decide_eq_true_eq] at h2
                obtain ⟨⟨⟨rfl, hn⟩, rfl⟩, hs⟩ := h1
                obtain ⟨⟨⟨rfl, hm⟩, rfl⟩, _⟩ := h2
                refine ⟨n, m, rfl, rfl, hn, hm, ?_⟩
                rcases Nat.lt_or_gt_of_ne hfg with h | h
                · exact .inl (sorted_apart hs h hf hg a1)
                · exact .inr (sorted_apart hs h hg hf b1)
  · simp at h1

/-- A part of cells is not touched by what is stored beside it. -/
theorem part_splice {t : TypeId} {cs vs : List V} {off off' n : Nat} (hn : size E t = some n) (h0 : 0 < n) (hle : off' + vs.length ≤ cs.length) (hap : off + n ≤ off' ∨ off' + vs.length ≤ off) :
    Vm.part E t (splice cs off' vs) off = Vm.part E t cs off := by
  have hlen : (splice cs off' vs).length = cs.length := by simp [splice]; omega
  have hget : ∀ i, off ≤ i → i < off + n → (splice cs off' vs)[i]? = cs[i]? := by
    intro i h1 h2
    unfold splice
    rcases hap with h | h
    · rw [List.append_assoc, List.getElem?_append_left (by simp; omega), List.getElem?_take_of_lt (by omega)]
    · rw [List.getElem?_append_right (by simp; omega), List.getElem?_drop]
      congr 1
      simp
      omega
  unfold Vm.size at hn
  unfold Vm.part
  cases hi : E.ty t with
  | none => simp [hi] at hn
  | some i =>
    simp only [hi, Option.some.injEq] at hn
    subst hn
    have hsl : ((splice cs off' vs).drop off).take i.size = (cs.drop off).take i.size := by
      apply List.ext_getElem?
      intro j
      by_cases hj : j < i.size
      · rw [List.getElem?_take_of_lt hj, List.getElem?_take_of_lt hj, List.getElem?_drop, List.getElem?_drop]
        exact hget _ (by omega) (by omega)
      · rw [List.getElem?_take_eq_none (by omega), List.getElem?_take_eq_none (by omega)]
    simp only
    split
    · rw [hlen, hsl]
    · rw [hlen, hsl]
    · exact hget off (by omega) (by omega)

/-- What a load yields, before and after a store into another field. -/
theorem act_cross {x y : PO} (hc : cross true true x y = true) {vx vy : List V} {h k : Heap} {v : V} (hy : act E K y true vy h = some (v, k)) :
    ∀ u, act E K x true vx h = some (u, h) ↔ act E K x true vx k = some (u, k) := by
  unfold cross at hc
  simp only [Bool.and_eq_true, Bool.true_and] at hc
  obtain ⟨hops, hpos⟩ := hc
  split at hops
  · rename_i t ax t' ay b hx hyo
    cases hpx : x.pos with
    | none => simp [hpx] at hpos
    | some p1 =>
      cases hpy : y.pos with
      | none => simp [hpx, hpy] at hpos
      | some p2 =>
        obtain ⟨u1, f⟩ := p1
        obtain ⟨u2, g⟩ := p2
        simp only [hpx, hpy, Bool.and_eq_true, beq_iff_eq, bne_iff_ne, ne_eq] at hpos
        obtain ⟨rfl, hfg⟩ := hpos
        intro u
        simp only [act, hx]
        simp only [act, hyo] at hy
        split at hy
        · rename_i i' off' v'
          cases hso : storeOk E y true t' off' with
          | false => simp [hso] at hy
          | true =>
            simp only [hso] at hy
            cases hci : h[i']? with
            | none => simp [hci] at hy
            | some cs' =>
              simp only [hci] at hy
              split at hy
              · rename_i hcnd
                obtain ⟨hsz, _, hle⟩ := hcnd
                simp only [Option.some.injEq, Prod.mk.injEq] at hy
                obtain ⟨_, rfl⟩ := hy
                split
                · rename_i i off
                  cases hlo : loadOk E x true t off with
                  | false => simp
                  | true =>
                    simp only [Bool.not_true, Bool.false_and]
                    have h1 : posOk E (some (u1, f)) t off = true := by simpa [loadOk, hpx] using hlo
                    have h2 : posOk E (some (u1, g)) t' off' = true := by simpa [storeOk, hpy] using hso
                    obtain ⟨n, m, hn, hm, hn0, _, hap⟩ := pos_apart hfg h1 h2
                    rw [hsz] at hm
                    cases hm
                    by_cases hii : i = i'
                    · subst hii
                      have hlt : i < h.length := (List.getElem?_eq_some_iff.1 hci).1
                      rw [List.getElem?_set_self hlt, hci]
                      simp only [part_splice hn hn0 hle hap]
                      cases Vm.part E t cs' off <;> simp
                    · rw [List.getElem?_set_ne (fun e => hii e.symm)]
                      cases h[i]? with
                      | none => simp
                      | some cs => simp only []; cases Vm.part E t cs off <;> simp
                · cases pureAct E x vx <;> simp [withHeap]
              · simp at hy
        · simp at hy
  · simp at hops

theorem eff_cross {x y : PO} (hc : cross true true x y = true) {sx sy : List V} {h k : Heap} {c : Bool} {v : V} (hy : eff E K true y sy h = some (c, v, k)) (c' : Bool) (u : V) :
    eff E K true x sx h = some (c', u, h) ↔ eff E K true x sx k = some (c', u, k) := by
  unfold eff at hy ⊢
  cases hw : wantedV x sx with
  | none => simp
  | some b =>
    cases b with
    | false => simp
    | true =>
      simp only
      cases hv : x.o.op.operands.toList.mapM (ev sx) with
      | none => simp
      | some vx =>
        simp only
        have key : ∀ u, act E K x true vx h = some (u, h) ↔ act E K x true vx k = some (u, k) := by
          cases hwy : wantedV y sy with
          | none => simp [hwy] at hy
          | some by_ =>
            cases by_ with
            | false => simp [hwy] at hy; obtain ⟨_, _, rfl⟩ := hy; exact fun _ => Iff.rfl
            | true =>
              simp only [hwy] at hy
              cases hvy : y.o.op.operands.toList.mapM (ev sy) with
              | none => simp [hvy] at hy
              | some vy =>
                simp only [hvy] at hy
                cases hact : act E K y true vy h with
                | none => simp [hact] at hy
                | some q =>
                  obtain ⟨v', h1⟩ := q
                  simp [hact] at hy
                  obtain ⟨_, _, rfl⟩ := hy
                  exact act_cross hc hact
        constructor
        · intro h1
          cases ha : act E K x true vx h with
          | none => simp [ha] at h1
          | some q =>
            obtain ⟨u', h'⟩ := q
            simp only [ha, Option.some.injEq, Prod.mk.injEq] at h1
            obtain ⟨rfl, rfl, rfl⟩ := h1
            rw [(key _).1 ha]
        · intro h1
          cases ha : act E K x true vx k with
          | none => simp [ha] at h1
          | some q =>
            obtain ⟨u', h'⟩ := q
            simp only [ha, Option.some.injEq, Prod.mk.injEq] at h1
            obtain ⟨rfl, rfl, rfl⟩ := h1
            rw [(key _).2 ha]

/-- Two steps that are apart may change places. -/
theorem step_swap {fo1 fo2 : Bool} {x y : PO} (ha : apart fo1 fo2 x y = true) {st s1 s2 : St} (h1 : step E K fo1 x st = some s1) (h2 : step E K fo2 y s1 = some s2) :
    ∃ s3, step E K fo2 y st = some s3 ∧ step E K fo1 x s3 = some s2 := by
  unfold apart at ha
  simp only [Bool.and_eq_true, List.all_eq_true, Bool.not_eq_true', List.contains_eq_mem, decide_eq_false_iff_not] at ha
  obtain ⟨⟨hxy, hyx⟩, hmem⟩ := ha
  have hw : ∀ t ∈ writes x, t ∉ writes y := fun t ht => (hxy t ht).2
  rw [step_eff] at h1 h2
  cases e1 : eff E K fo1 x st.s st.h with
  | none => rw [e1] at h1; simp at h1
  | some q1 =>
    obtain ⟨c1, v1, k1⟩ := q1
    rw [e1] at h1
    simp only [Option.some.injEq] at h1
    subst h1
    cases e2 : eff E K fo2 y (upd x c1 v1 st.s) k1 with
    | none => rw [e2] at h2; simp at h2
    | some q2 =>
      obtain ⟨c2, v2, k2⟩ := q2
      rw [e2] at h2
      simp only [Option.some.injEq] at h2
      subst h2
      have e2' : eff E K fo2 y st.s k1 = some (c2, v2, k2) := by
        rw [← e2]
        exact eff_congr fun t ht => (upd_other (fun hw' => (hxy t hw').1 ht)).symm
      have e1c : ∀ h, eff E K fo1 x (upd y c2 v2 st.s) h = eff E K fo1 x st.s h := fun h => eff_congr fun t ht => upd_other (fun hw' => hyx t hw' ht)
      -- the abstract heap
      have hk : ∃ k3, eff E K fo2 y st.s st.h = some (c2, v2, k3) ∧ eff E K fo1 x st.s k3 = some (c1, v1, k2) := by
        cases hm1 : memOf x fo1 with
        | none =>
          obtain ⟨rfl, h3⟩ := eff_none hm1 e1
          exact ⟨k2, e2', h3 k2⟩
        | read =>
          have := eff_read hm1 e1
          subst this
          cases hm2 : memOf y fo2 with
          | none =>
            obtain ⟨rfl, h3⟩ := eff_none hm2 e2'
            exact ⟨_, h3 _, e1⟩
          | read =>
            have := eff_read hm2 e2'
            subst this
            exact ⟨_, e2', e1⟩
          | write =>
            simp only [hm1, hm2, Bool.or_eq_true] at hmem
            rcases hmem with hc | hc
            · obtain ⟨rfl, rfl⟩ : fo1 = true ∧ fo2 = true := by unfold cross at hc; simp only [Bool.and_eq_true] at hc; exact ⟨hc.1.1.1, hc.1.1.2⟩
              exact ⟨_, e2', (eff_cross hc e2' _ _).1 e1⟩
            · exfalso
              unfold cross at hc
              simp only [Bool.and_eq_true] at hc
              obtain ⟨⟨_, ho⟩, _⟩ := hc
              split at ho
              · rename_i h1 h2; simp [memOf, h2] at hm1
              · simp at ho
        | write =>
          cases hm2 : memOf y fo2 with
          | none =>
            obtain ⟨rfl, h3⟩ := eff_none hm2 e2'
            exact ⟨_, h3 _, e1⟩
          | read =>
            have := eff_read hm2 e2'
            subst this
            simp only [hm1, hm2, Bool.or_eq_true] at hmem
            rcases hmem with hc | hc
            · exfalso
              unfold cross at hc
              simp only [Bool.and_eq_true] at hc
              obtain ⟨⟨_, ho⟩, _⟩ := hc
              split at ho
              · rename_i h1 h2; simp [memOf, h2] at hm2
              · simp at ho
            · obtain ⟨rfl, rfl⟩ : fo2 = true ∧ fo1 = true := by unfold cross at hc; simp only [Bool.and_eq_true] at hc; exact ⟨hc.1.1.1, hc.1.1.2⟩
              exact ⟨_, (eff_cross hc e1 _ _).2 e2', e1⟩
          | write =>
            exfalso
            simp only [hm1, hm2, Bool.or_eq_true] at hmem
            rcases hmem with hc | hc <;> unfold cross at hc <;> simp only [Bool.and_eq_true] at hc <;> obtain ⟨⟨⟨hf1, hf2⟩, ho⟩, hp⟩ := hc <;> split at ho
            · rename_i h1 h2; cases hpx : x.pos <;> simp [hpx] at hp; simp [memOf, h1, hf1, hpx] at hm1
            · simp at ho
            · rename_i h1 h2; cases hpy : y.pos <;> simp [hpy] at hp; simp [memOf, h1, hf1, hpy] at hm2
            · simp at ho
      obtain ⟨k3, e3, e4⟩ := hk
      refine ⟨⟨upd y c2 v2 st.s, k3⟩, by rw [step_eff, e3], ?_⟩
      rw [step_eff]
      simp only
      rw [e1c, e4]
      simp only
      rw [upd_comm hw]

end
end Go.Vm
/- The evaluator by value: regions. -/
namespace Go.Vm
set_option linter.unusedSectionVars false
variable [Globs]
set_option linter.unusedVariables false
set_option linter.unusedSimpArgs false

/-- Steps by their numbers. -/
def runI (E : En) (K : Oracle) (l : List (Bool × PO)) : List Nat → St → Option St
  | [], st => some st
  | i :: is, st => match l[i]? with
    | none => none
    | some (fo, p) => match step E K fo p st with
      | some st' => runI E K l is st'
      | none => none

section
variable {P : Program} {E : En} {K : Oracle} {w : World} {w0 : World} {l0 : Lim} {R0 : Res} {B0 : BM}

theorem runs_runI {l : List (Bool × PO)} : ∀ (m : List (Bool × PO)) (k : Nat) (st : St), l.drop k = m → runs E K m st = runI E K l (List.range' k m.length) st
  | [], k, st, _ => by simp [runs, runI]
  | (fo, p) :: m, k, st, h => by
    have hk : l[k]? = some (fo, p) := by
      have : (l.drop k)[0]? = some (fo, p) := by rw [h]; rfl
      rw [List.getElem?_drop] at this; simpa using this
    have hd : l.drop (k + 1) = m := by
      rw [← List.drop_drop, h]; simp
    simp only [runs, List.length_cons, List.range'_succ, runI, hk]
    cases step E K fo p st with
    | none => rfl
    | some st' => exact runs_runI m (k + 1) st' hd

theorem runs_range {l : List (Bool × PO)} {st : St} : runs E K l st = runI E K l (List.range l.length) st := by
  rw [runs_runI l 0 st rfl, List.range_eq_range']

/-- The steps of a region belong to its operations; what they make has numbers of its own. -/
structure Steps' (E : En) (ops : Array Oper) (l : List (Bool × PO)) : Prop where
  len : l.length = ops.size
  op : ∀ (i : Nat) (fo : Bool) (p : PO), l[i]? = some (fo, p) → ops[i]? = some p.o ∧ p.g = guardOf ops.toList p.o
  guards : guardsOk ops.toList = true
  ids : ∀ (i j : Nat) (x y : Bool × PO), l[i]? = some x → l[j]? = some y → i ≠ j → isNew x.2.o = true → isNew y.2.o = true → x.2.id ≠ y.2.id

/-- What the steps are to make is still pending. -/
def ToMake (E : En) (l : List (Bool × PO)) (is : List Nat) (pend : List (Nat × List V)) : Prop :=
  ∀ i ∈ is, ∀ (fo : Bool) (p : PO), l[i]? = some (fo, p) → isNew p.o = true → ∃ c, (p.id, c) ∈ pend ∧ ∀ t, p.o.op = .alloc t → zeroCells E t = some c

theorem ToMake.next {ops : Array Oper} {l : List (Bool × PO)} (hS : Steps' E ops l) {i : Nat} {is : List Nat} {pend : List (Nat × List V)} {fo : Bool} {p : PO} (hi : l[i]? = some (fo, p)) (hn : i ∉ is) (h : ∀ j ∈ is, ∀ (fo : Bool) (p : PO), l[j]? = some (fo, p) → isNew p.o = true → ∃ c, (p.id, c) ∈ pend ∧ ∀ t, p.o.op = .alloc t → zeroCells E t = some c) :
    ToMake E l is (without pend p) := by
  intro j hj fo' p' hp' hnew
  obtain ⟨c, hc, hz⟩ := h j hj fo' p' hp' hnew
  refine ⟨c, ?_, hz⟩
  unfold without
  split
  · rename_i hpn
    refine List.mem_filter.2 ⟨hc, ?_⟩
    have hne : j ≠ i := fun e => hn (e ▸ hj)
    have := hS.ids j i _ _ hp' hi hne hnew hpn
    simpa using this
  · exact hc

theorem ops_text (hE : E.ok P) (hK : Sound P K) {ops : Array Oper} {l : List (Bool × PO)} (hS : Steps' E ops l) {Q : Exit → Act → World → Prop} {st' : St} (hQ : ∀ a w, RelP w0 l0 R0 B0 [] st' a w → Q .normal a w) :
    ∀ (is : List Nat) (st : St) (a : Act) (w : World) (pend : List (Nat × List V)), is.Nodup → runI E K l is st = some st' → ToMake E l is pend → RelP w0 l0 R0 B0 pend st a w → wpOps P ops Q is a w
  | [], st, a, w, pend, _, hr, _, hrel => by
    simp [runI] at hr; subst hr
    simp only [wpOps]
    obtain ⟨B, l', rs, rh, h1, h2⟩ := hrel
    exact hQ a w ⟨B, l', rs, rh, h1, fun q hq => by simp at hq⟩
  | i :: is, st, a, w, pend, hn, hr, hT, hrel => by
    simp only [List.nodup_cons] at hn
    simp only [runI] at hr
    cases hi : l[i]? with
    | none => simp [hi] at hr
    | some q =>
      obtain ⟨fo, p⟩ := q
      simp only [hi] at hr
      cases hst : step E K fo p st with
      | none => simp [hst] at hr
      | some st1 =>
        simp only [hst] at hr
        obtain ⟨hop, hg⟩ := hS.op i fo p hi
        rw [wpOps_cons]
        refine step_ok hE hK hop hg hS.guards (fun hnew => hT i (by simp) fo p hi hnew) hst hrel fun a' w' hrel' => ?_
        exact ops_text hE hK hS hQ is st1 a' w' _ hn.2 hr (ToMake.next hS hi hn.1 (fun j hj => hT j (List.mem_cons_of_mem _ hj))) hrel'

/-- A step may be taken ahead of steps that it is apart from. -/
theorem ahead {l : List (Bool × PO)} {i : Nat} {fo : Bool} {p : PO} (hi : l[i]? = some (fo, p)) {post : List Nat} : ∀ (pre : List Nat) (st st' : St), (∀ k ∈ pre, ∀ x, l[k]? = some x → apart x.1 fo x.2 p = true) → runI E K l (pre ++ i :: post) st = some st' →
    ∃ st1, step E K fo p st = some st1 ∧ runI E K l (pre ++ post) st1 = some st'
  | [], st, st', _, h => by
    simp only [List.nil_append, runI, hi] at h ⊢
    cases hst : step E K fo p st with
    | none => simp [hst] at h
    | some st1 => simp only [hst] at h; exact ⟨st1, rfl, h⟩
  | k :: pre, st, st', hap, h => by
    simp only [List.cons_append, runI] at h ⊢
    cases hk : l[k]? with
    | none => simp [hk] at h
    | some x =>
      obtain ⟨fk, pk⟩ := x
      simp only [hk] at h ⊢
      cases hst : step E K fk pk st with
      | none => simp [hst] at h
      | some st1 =>
        simp only [hst] at h
        obtain ⟨st2, h2, h3⟩ := ahead hi pre st1 st' (fun j hj => hap j (List.mem_cons_of_mem _ hj)) h
        obtain ⟨st3, h4, h5⟩ := step_swap (hap k (by simp) _ hk) hst h2
        exact ⟨st3, h4, by rw [h5]; exact h3⟩

theorem edgesBack_spec {ops : Array Oper} (h : edgesBack ops.toList = true) {i : Nat} {o : Oper} (hi : ops[i]? = some o) {e : Edge} (he : e ∈ o.after) (hb : Region.binds .any e = true) : e.on < i := by
  unfold edgesBack at h
  rw [List.all_eq_true] at h
  have := h (o, i) (by
    rw [List.mem_zipIdx_iff_getElem?]
    simpa using hi)
  simp only [List.all_eq_true] at this
  have := this e (by simpa using he)
  simpa [hb] using this

/-- What is listed is listed with all that comes before it. -/
theorem ord_listed {ops : Array Oper} {p : Nat → Prop} (hp : ∀ (j : Nat) (o : Oper), p j → ops[j]? = some o → ∀ e ∈ o.after, Region.binds .any e = true → p e.on) {i : Nat} : ∀ (n j : Nat), p j → ord ops.toList n i j = true → p i
  | 0, j, _, h => by simp [ord] at h
  | n + 1, j, hj, h => by
    simp only [ord] at h
    cases ho : ops.toList[j]? with
    | none => simp [ho] at h
    | some o =>
      simp only [ho] at h
      obtain ⟨e, he, hh⟩ := List.any_eq_true.1 h
      simp only [Bool.and_eq_true, Bool.or_eq_true, beq_iff_eq] at hh
      have h1 := hp j o hj (by simpa using ho) e (by simpa using he) hh.1
      rcases hh.2 with h2 | h2
      · exact h2 ▸ h1
      · exact ord_listed hp n e.on h1 h2

theorem drawOk_spec {ops : List Oper} {l : List (Bool × PO)} (h : drawOk ops l = true) {i j : Nat} {x y : Bool × PO} (hi : l[i]? = some x) (hj : l[j]? = some y) (hij : i < j) (ho : ord ops ops.length i j = false) : apart x.1 y.1 x.2 y.2 = true := by
  unfold drawOk at h
  rw [List.all_eq_true] at h
  have h1 := h (y, j) (by rw [List.mem_zipIdx_iff_getElem?]; simpa using hj)
  simp only [List.all_eq_true] at h1
  have h2 := h1 (x, i) (by rw [List.mem_zipIdx_iff_getElem?]; simpa using hi)
  simpa [hij, ho] using h2

set_option maxHeartbeats 2000000 in
theorem ops_any (hE : E.ok P) (hK : Sound P K) {ops : Array Oper} {l : List (Bool × PO)} (hS : Steps' E ops l) (hd : drawOk ops.toList l = true) (hb : edgesBack ops.toList = true) {Q : Exit → Act → World → Prop} {st' : St} (hQ : ∀ a w, RelP w0 l0 R0 B0 [] st' a w → Q .normal a w) :
    ∀ (fuel : Nat) (listed : Array Bool) (rem : List Nat) (st : St) (a : Act) (w : World) (pend : List (Nat × List V)), rem.length ≤ fuel → listed.size = ops.size → rem.Pairwise (· < ·) → (∀ i, i < ops.size → (listed[i]? = some true ↔ i ∉ rem)) → (∀ i ∈ rem, i < ops.size) →
      (∀ (j : Nat) (o : Oper), j ∉ rem → ops[j]? = some o → ∀ e ∈ o.after, Region.binds .any e = true → e.on ∉ rem) → runI E K l rem st = some st' → ToMake E l rem pend → RelP w0 l0 R0 B0 pend st a w → wpAny P .any ops Q fuel listed a w := by
  -- nothing is left
  have done : ∀ (st : St) (a : Act) (w : World) (pend : List (Nat × List V)), runI E K l [] st = some st' → RelP w0 l0 R0 B0 pend st a w → Q .normal a w := by
    intro st a w pend hr hrel
    simp [runI] at hr; subst hr
    obtain ⟨B, l', rs, rh, h1, h2⟩ := hrel
    exact hQ a w ⟨B, l', rs, rh, h1, fun q hq => by simp at hq⟩
  have listed_true : ∀ (listed : Array Bool) (rem : List Nat) (i : Nat), listed.size = ops.size → (∀ i, i < ops.size → (listed[i]? = some true ↔ i ∉ rem)) → i < ops.size → (listed.getD i true = true ↔ i ∉ rem) := by
    intro listed rem i hs hl hi
    have := hl i hi
    rw [← this]
    simp [Array.getD_eq_getD_getElem?]
    cases h : listed[i]? with
    | none => simp at h; omega
    | some b => simp
  have ready_rem : ∀ (listed : Array Bool) (rem : List Nat) (i : Nat), listed.size = ops.size → (∀ i, i < ops.size → (listed[i]? = some true ↔ i ∉ rem)) → i ∈ Region.ready .any ops listed → i ∈ rem ∧ ∃ o, ops[i]? = some o ∧ ∀ e ∈ o.after, Region.binds .any e = true → e.on ∉ rem := by
    intro listed rem i hs hl hi
    unfold Region.ready at hi
    simp only [List.mem_filter, List.mem_range, Bool.and_eq_true, Bool.not_eq_true'] at hi
    obtain ⟨hlt, h1, h2⟩ := hi
    have h3 := listed_true listed rem i hs hl hlt
    refine ⟨Classical.byContradiction fun hn => by rw [h3.2 hn] at h1; simp at h1, ops[i], by simp [hlt], fun e he hbd hn => ?_⟩
    simp only [Array.getElem?_eq_getElem hlt, Option.map_some, Option.getD_some, Array.all_eq_true'] at h2
    have h4 := h2 e he
    simp only [hbd, Bool.not_true, Bool.false_or] at h4
    have hel := edgesBack_spec hb (Array.getElem?_eq_getElem hlt) he hbd
    have h5 := (hl e.on (by omega)).1 (by
      simp [Array.getD_eq_getD_getElem?] at h4
      cases h6 : listed[e.on]? with
      | none => simp [h6] at h4
      | some b => simp [h6] at h4; rw [h4])
    exact h5 hn
  intro fuel
  induction fuel with
  | zero =>
    intro listed rem st a w pend hlen hs hp hl hlt hdc hr hT hrel
    have : rem = [] := List.length_eq_zero_iff.1 (by omega)
    subst this
    refine ⟨?_, done st a w pend hr hrel⟩
    apply List.eq_nil_iff_forall_not_mem.2
    intro i hi
    exact absurd (ready_rem listed [] i hs hl hi).1 (by simp)
  | succ fuel ih =>
    intro listed rem st a w pend hlen hs hp hl hlt hdc hr hT hrel
    refine ⟨fun h0 => ?_, fun i hi => ?_⟩
    · -- the first of what is left is ready
      cases rem with
      | nil => exact done st a w pend hr hrel
      | cons j rem =>
        exfalso
        have hj := hlt j (by simp)
        have : j ∈ Region.ready .any ops listed := by
          unfold Region.ready
          simp only [List.mem_filter, List.mem_range, Bool.and_eq_true, Bool.not_eq_true']
          refine ⟨hj, ?_, ?_⟩
          · have h3 := listed_true listed (j :: rem) j hs hl hj
            cases h4 : listed.getD j true with
            | false => rfl
            | true => exact absurd (List.mem_cons_self) (h3.1 h4)
          · simp only [Array.getElem?_eq_getElem hj, Option.map_some, Option.getD_some, Array.all_eq_true']
            intro e he
            cases hbd : Region.binds .any e with
            | false => simp
            | true =>
              have hel := edgesBack_spec hb (Array.getElem?_eq_getElem hj) he hbd
              have hne : e.on ∉ j :: rem := by
                intro hm
                rcases List.mem_cons.1 hm with hm | hm
                · omega
                · have := (List.pairwise_cons.1 hp).1 _ hm; omega
              have := (hl e.on (by omega)).2 hne
              simp [Array.getD_eq_getD_getElem?, this]
        rw [h0] at this; simp at this
    · obtain ⟨him, o, ho, hedge⟩ := ready_rem listed rem i hs hl hi
      obtain ⟨pre, post, rfl⟩ := List.append_of_mem him
      have hilt := hlt i him
      cases hli : l[i]? with
      | none =>
        have := hS.len
        rw [List.getElem?_eq_none_iff] at hli
        omega
      | some q =>
        obtain ⟨fo, p⟩ := q
        obtain ⟨hop, hg⟩ := hS.op i fo p hli
        have hpre : ∀ k ∈ pre, k < i := fun k hk => (List.pairwise_append.1 hp).2.2 k hk i (by simp)
        have hap : ∀ k ∈ pre, ∀ x, l[k]? = some x → apart x.1 fo x.2 p = true := by
          intro k hk x hx
          refine drawOk_spec hd hx hli (hpre k hk) ?_
          cases hord : ord ops.toList ops.toList.length k i with
          | false => rfl
          | true =>
            exfalso
            -- i's predecessors are listed, and so is k
            cases hn : ops.toList.length with
            | zero => rw [hn] at hord; simp [ord] at hord
            | succ n =>
              rw [hn] at hord
              simp only [ord] at hord
              have hoi : ops.toList[i]? = some o := by simpa using ho
              simp only [hoi] at hord
              obtain ⟨e, he, hh⟩ := List.any_eq_true.1 hord
              simp only [Bool.and_eq_true, Bool.or_eq_true, beq_iff_eq] at hh
              have h1 := hedge e (by simpa using he) hh.1
              have hkr : k ∈ pre ++ i :: post := List.mem_append_left _ hk
              rcases hh.2 with h2 | h2
              · exact h1 (h2 ▸ hkr)
              · exact (ord_listed (p := fun j => j ∉ pre ++ i :: post) hdc n e.on h1 h2) hkr
        obtain ⟨st1, h1, h2⟩ := ahead hli pre st st' hap hr
        refine step_ok hE hK hop hg hS.guards (fun hnew => hT i him fo p hli hnew) h1 hrel fun a' w' hrel' => ?_
        have hnd : (pre ++ i :: post).Nodup := hp.imp (fun h => Nat.ne_of_lt h)
        have hnot : i ∉ pre ++ post := by
          have := List.nodup_append.1 hnd
          intro hm
          rcases List.mem_append.1 hm with hm | hm
          · exact this.2.2 i hm i (by simp) rfl
          · exact (List.nodup_cons.1 this.2.1).1 hm
        have hsub : ∀ k ∈ pre ++ post, k ∈ pre ++ i :: post := fun k hk => by
          rcases List.mem_append.1 hk with hk | hk
          · exact List.mem_append_left _ hk
          · exact List.mem_append_right _ (List.mem_cons_of_mem _ hk)
        have hiff : ∀ k, k ∈ pre ++ post ↔ k ∈ pre ++ i :: post ∧ k ≠ i := fun k => by
          constructor
          · intro hk; exact ⟨hsub k hk, fun e => hnot (e ▸ hk)⟩
          · rintro ⟨hk, hne⟩
            rcases List.mem_append.1 hk with hk | hk
            · exact List.mem_append_left _ hk
            · rcases List.mem_cons.1 hk with hk | hk
              · exact absurd hk hne
              · exact List.mem_append_right _ hk
        refine ih (listed.setIfInBounds i true) (pre ++ post) st1 a' w' _ ?_ (by simpa using hs) ?_ ?_ (fun k hk => hlt k (hsub k hk)) ?_ h2 ?_ hrel'
        · simp at hlen ⊢; omega
        · exact hp.sublist (by simp)
        · intro k hk
          by_cases hki : k = i
          · subst hki
            simp only [hnot, not_false_eq_true, iff_true]
            rw [Array.getElem?_setIfInBounds_self]
            simp; omega
          · rw [Array.getElem?_setIfInBounds_ne (Ne.symm hki), hl k hk, hiff k]
            simp [hki]
        · intro j oj hj hoj e he hbd
          by_cases hji : j = i
          · subst hji
            rw [ho] at hoj; cases hoj
            intro hm; exact hedge e he hbd (hsub _ hm)
          · have : j ∉ pre ++ i :: post := fun hm => hj ((hiff j).2 ⟨hm, hji⟩)
            intro hm; exact hdc j oj this hoj e he hbd (hsub _ hm)
        · exact ToMake.next hS hli hnot (fun j hj => hT j (hsub j hj))

end
end Go.Vm
/- The evaluator by value: whole regions, code, functions. -/
namespace Go.Vm
set_option linter.unusedSectionVars false
variable [Globs]
set_option linter.unusedVariables false
set_option linter.unusedSimpArgs false
section
variable {P : Program} {E : En} {K : Oracle} {w : World} {w0 : World} {l0 : Lim} {R0 : Res} {B0 : BM}

/-- How many blocks operations make. -/
def cnt (os : List Oper) : Nat := (os.filter isNew).length

theorem prepFrom_get {ops : List Oper} : ∀ (os : List Oper) (n i : Nat) (p : PO), (prepFrom ops os n)[i]? = some p → os[i]? = some p.o ∧ p.g = guardOf ops p.o ∧ p.id = n + cnt (os.take i)
  | [], n, i, p, h => by simp [prepFrom] at h
  | o :: os, n, 0, p, h => by
    simp [prepFrom] at h; subst h
    simp [cnt]
  | o :: os, n, i + 1, p, h => by
    simp only [prepFrom, List.getElem?_cons_succ] at h
    obtain ⟨h1, h2, h3⟩ := prepFrom_get os _ i p h
    refine ⟨by simpa using h1, h2, ?_⟩
    rw [h3]
    cases ho : isNew o <;> simp [cnt, ho]
    omega

theorem prepFrom_length {ops : List Oper} : ∀ (os : List Oper) (n : Nat), (prepFrom ops os n).length = os.length
  | [], n => rfl
  | o :: os, n => by simp [prepFrom, prepFrom_length os]

theorem flags_get {draw : Bool} {ops : List Oper} {l : List PO} {i : Nat} {x : Bool × PO} (h : (flags draw ops l)[i]? = some x) : l[i]? = some x.2 := by
  unfold flags at h
  rw [List.getElem?_map] at h
  cases hz : l.zipIdx[i]? with
  | none => simp [hz] at h
  | some q =>
    obtain ⟨p, j⟩ := q
    simp [hz] at h
    rw [List.getElem?_zipIdx] at hz
    cases hl : l[i]? with
    | none => simp [hl] at hz
    | some p' => simp [hl] at hz; rw [← h, hz.1]

theorem flags_length {draw : Bool} {ops : List Oper} {l : List PO} : (flags draw ops l).length = l.length := by simp [flags]

theorem newBlocks_get : ∀ (os : List Oper) (nb : Heap) (i : Nat) (o : Oper), newBlocks E os = some nb → os[i]? = some o → isNew o = true → ∃ c, nb[cnt (os.take i)]? = some c ∧ ∀ t, o.op = .alloc t → zeroCells E t = some c
  | [], nb, i, o, _, hi, _ => by simp at hi
  | o' :: os, nb, i, o, h, hi, hn => by
    have tail : ∀ (nb' : Heap), newBlocks E os = some nb' → ∀ j, i = j + 1 → ∃ c, nb'[cnt (os.take j)]? = some c ∧ ∀ t, o.op = .alloc t → zeroCells E t = some c := by
      intro nb' h' j hj
      subst hj
      exact newBlocks_get os nb' j o h' (by simpa using hi) hn
    unfold newBlocks at h
    cases hop : o'.op with
    | alloc t =>
      simp only [hop] at h
      cases hz : zeroCells E t with
      | none => simp [hz] at h
      | some z =>
        cases hr : newBlocks E os with
        | none => simp [hz, hr] at h
        | some r =>
          simp [hz, hr] at h; subst h
          cases i with
          | zero => simp at hi; subst hi; exact ⟨z, by simp [cnt], fun t' ht' => by rw [hop] at ht'; cases ht'; exact hz⟩
          | succ j =>
            obtain ⟨c, h1, h2⟩ := tail r hr j rfl
            refine ⟨c, ?_, h2⟩
            have : cnt ((o' :: os).take (j + 1)) = cnt (os.take j) + 1 := by simp [cnt, isNew, hop]
            rw [this]; simpa using h1
    | box t x =>
      simp only [hop] at h
      cases hr : newBlocks E os with
      | none => simp [hr] at h
      | some r =>
        simp [hr] at h; subst h
        cases i with
        | zero => simp at hi; subst hi; exact ⟨[], by simp [cnt], fun t' ht' => by rw [hop] at ht'; cases ht'⟩
        | succ j =>
          obtain ⟨c, h1, h2⟩ := tail r hr j rfl
          refine ⟨c, ?_, h2⟩
          have : cnt ((o' :: os).take (j + 1)) = cnt (os.take j) + 1 := by simp [cnt, isNew, hop]
          rw [this]; simpa using h1
    | _ =>
      simp only [hop] at h
      have hno : isNew o' = false := by simp [isNew, hop]
      cases i with
      | zero => simp at hi; subst hi; rw [hno] at hn; simp at hn
      | succ j =>
        obtain ⟨c, h1, h2⟩ := tail nb h j rfl
        refine ⟨c, ?_, h2⟩
        have : cnt ((o' :: os).take (j + 1)) = cnt (os.take j) := by simp [cnt, hno]
        rw [this]; exact h1

theorem cnt_lt {os : List Oper} {i j : Nat} {o : Oper} (hij : i < j) (hi : os[i]? = some o) (hn : isNew o = true) : cnt (os.take i) < cnt (os.take j) := by
  have h1 : i < os.length := by
    rcases Nat.lt_or_ge i os.length with h | h
    · exact h
    · simp [List.getElem?_eq_none h] at hi
  have h2 : os.take j = os.take i ++ ((os.take j).drop i) := by
    have := List.take_append_drop i (os.take j)
    rw [List.take_take, Nat.min_eq_left (by omega)] at this
    exact this.symm
  have h3 : ((os.take j).drop i)[0]? = some o := by
    rw [List.getElem?_drop, List.getElem?_take_of_lt (by omega)]
    simpa using hi
  rw [h2]
  unfold cnt
  rw [List.filter_append, List.length_append]
  cases hd : (os.take j).drop i with
  | nil => rw [hd] at h3; simp at h3
  | cons x xs =>
    rw [hd] at h3; simp at h3; subst h3
    simp [hn]

theorem steps_ok {ops : Array Oper} {draw : Bool} {n : Nat} (hg : guardsOk ops.toList = true) : Steps' E ops (flags draw ops.toList (prepFrom ops.toList ops.toList n)) where
  len := by rw [flags_length, prepFrom_length]; simp
  op i fo p h := by
    obtain ⟨h1, h2, _⟩ := prepFrom_get _ _ _ _ (flags_get h)
    exact ⟨by simpa using h1, h2⟩
  guards := hg
  ids i j x y hx hy hij hnx hny := by
    obtain ⟨h1, _, h3⟩ := prepFrom_get _ _ _ _ (flags_get hx)
    obtain ⟨h4, _, h6⟩ := prepFrom_get _ _ _ _ (flags_get hy)
    rw [h3, h6]
    rcases Nat.lt_or_ge i j with h | h
    · have := cnt_lt h h1 hnx; omega
    · have := cnt_lt (Nat.lt_of_le_of_ne h (Ne.symm hij)) h4 hny; omega

/-- A world with the same memory. -/
theorem RelB.heap_eq {st : St} {a : Act} {B : BM} {l : Lim} {rs rh : Res} (h : RelB w0 l0 R0 B0 st a w B l rs rh) {w' : World} (hw : w'.heap = w.heap) (hv : w'.os = w.os ∧ w'.tape = w.tape ∧ w'.output = w.output) : RelB w0 l0 R0 B0 st a w' B l rs rh := by
  have hX : Ext nil0 w l w' l := ⟨by rw [hw]; exact Nat.le_refl _, fun b _ _ => ⟨by rw [hw], rfl⟩, fun b _ hb => absurd rfl hb, hv⟩
  exact ⟨h.defers, RepL.mono hX _ _ _ _ (fun _ _ => rfl) h.slots, RepH.mono hX (fun _ _ => rfl) h.heap, h.once, fun b hb => by rw [hw]; exact h.mine b hb, h.ext.trans hX (fun b _ hn => absurd rfl hn), h.base, h.more, h.glob⟩

theorem region_ok (hE : E.ok P) (hK : Sound P K) (hmix : P.follows .mixedOrders = true) {id : Nat} {ops : Array Oper} {draw : Bool} {st st' : St} {a : Act} (hr : evRegion E K ops.toList draw st = some st') (hrel : RelP w0 l0 R0 B0 [] st a w) {Q : Exit → Act → World → Prop}
    (hQ : ∀ a w, RelP w0 l0 R0 B0 [] st' a w → Q .normal a w) : (Code.region id ops draw).wp P Q a w := by
  unfold evRegion at hr
  cases hnb : newBlocks E ops.toList with
  | none => simp [hnb] at hr
  | some nb =>
    simp only [hnb] at hr
    split at hr <;> try (simp at hr; done)
    rename_i hcond
    simp only [Bool.and_eq_true, Bool.or_eq_true, Bool.not_eq_true'] at hcond
    obtain ⟨hg, hd⟩ := hcond
    obtain ⟨B, l, rs, rh, hR, _⟩ := hrel
    have hBl : B.length = st.h.length := hR.heap.length
    -- the region's blocks are pending
    have hmore : ∀ (i b : Nat), B[i]? = some (some b) → (B ++ List.replicate nb.length none)[i]? = some (some b) := by
      intro i b hb
      rw [List.getElem?_append_left]
      · exact hb
      · rcases Nat.lt_or_ge i B.length with h | h
        · exact h
        · simp [List.getElem?_eq_none h] at hb
    have hR1 : RelB w0 l0 R0 B0 ⟨st.s, st.h ++ nb⟩ a w (B ++ List.replicate nb.length none) l rs rh :=
      ⟨hR.defers, hR.slots.more hmore, (RepH.pend nb hR.heap).more hmore, hR.once, hR.mine, hR.ext, fun i hi => by
        rw [List.getElem?_append_left (by have := hR.more; omega)]; exact hR.base i hi, by have := hR.more; simp; omega, hR.glob⟩
    have hpend : ∀ w' : World, w'.heap = w.heap → (w'.os = w.os ∧ w'.tape = w.tape ∧ w'.output = w.output) → RelP w0 l0 R0 B0 (nb.zipIdx.map fun (c, k) => (st.h.length + k, c)) ⟨st.s, st.h ++ nb⟩ a w' := by
      intro w' hw' hv'
      refine ⟨_, l, rs, rh, hR1.heap_eq hw' hv', fun q hq => ?_⟩
      obtain ⟨⟨c, k⟩, hck, rfl⟩ := List.mem_map.1 hq
      rw [List.mem_zipIdx_iff_getElem?] at hck
      simp only at hck ⊢
      have hk : k < nb.length := by
        rcases Nat.lt_or_ge k nb.length with h | h
        · exact h
        · simp [List.getElem?_eq_none h] at hck
      refine ⟨?_, ?_, by have := hR.more; omega⟩
      · rw [List.getElem?_append_right (by omega), hBl, Nat.add_sub_cancel_left]
        simp [hk]
      · rw [List.getElem?_append_right (by omega), Nat.add_sub_cancel_left]; exact hck
    have hT : ∀ is : List Nat, ToMake E (flags draw ops.toList (prepFrom ops.toList ops.toList st.h.length)) is (nb.zipIdx.map fun (c, k) => (st.h.length + k, c)) := by
      intro is i _ fo p hp hnew
      obtain ⟨h1, _, h3⟩ := prepFrom_get _ _ _ _ (flags_get hp)
      obtain ⟨c, hc, hz⟩ := newBlocks_get _ _ _ _ hnb h1 hnew
      refine ⟨c, ?_, hz⟩
      refine List.mem_map.2 ⟨(c, cnt (ops.toList.take i)), ?_, by simp only; rw [h3]⟩
      rw [List.mem_zipIdx_iff_getElem?]; exact hc
    have hS := steps_ok (E := E) (draw := draw) (n := st.h.length) hg
    rw [runs_range] at hr
    rw [hS.len] at hr
    cases draw with
    | false =>
      refine wp_region ?_
      exact ops_text hE hK hS hQ (List.range ops.size) _ a w _ List.nodup_range hr (hT _) (hpend w rfl ⟨rfl, rfl, rfl⟩)
    | true =>
      simp only [Bool.true_eq_false, false_or] at hd
      refine wp_region_any hmix ?_
      refine ops_any hE hK hS hd.2 hd.1 hQ ops.size _ (List.range ops.size) _ a _ _ (by simp) (by simp) List.pairwise_lt_range (fun i hi => ?_) (fun i hi => by simpa using hi) (fun j o hj ho => ?_) hr (hT _) (hpend _ rfl ⟨rfl, rfl, rfl⟩)
      · simp [hi]
      · exfalso
        apply hj
        simp
        rcases Nat.lt_or_ge j ops.size with h | h
        · exact h
        · simp [Array.getElem?_eq_none h] at ho

def exOf : Ex → Exit
  | .nrm => .normal
  | .ret => .ret
  | .exit id => .exit id

theorem RepL.mask {l : Lim} {B : BM} {kp : List Nat} : ∀ (i : Nat) (vs : List V) (ys : List Value) (r : Res), RepL w l vs B ys r → ∃ r', RepL w l (maskL kp i vs) B ys r' ∧ Sub r' r
  | i, [], ys, r, h => ⟨r, by simpa [maskL] using h, fun _ => Nat.le_refl _⟩
  | i, v :: vs, ys, r, h => by
    simp only [RepL] at h
    obtain ⟨y, ys', r1, r2, rfl, hs, h1, h2⟩ := h
    obtain ⟨r3, h3, h4⟩ := RepL.mask (i + 1) vs ys' r2 h2
    simp only [maskL]
    split
    · exact ⟨fun b => r1 b + r3 b, RepL.cons h1 h3 (fun _ => rfl), fun b => by have := h4 b; have := hs b; simp only []; omega⟩
    · refine ⟨r3, RepL.cons (r1 := nil0) (by simp only [Rep]; exact fun _ => rfl) h3 (fun b => by simp [nil0]), fun b => by have := h4 b; have := hs b; omega⟩

theorem RelP.mask {kp : List Nat} {st : St} {a : Act} (h : RelP w0 l0 R0 B0 [] st a w) : RelP w0 l0 R0 B0 [] ⟨maskL kp 0 st.s, st.h⟩ a w := by
  obtain ⟨B, l, rs, rh, hR, _⟩ := h
  obtain ⟨r', h1, h2⟩ := RepL.mask (kp := kp) 0 _ _ _ hR.slots
  exact ⟨B, l, r', rh, ⟨hR.defers, h1, hR.heap, fun b => by have := hR.once b; have := h2 b; omega, fun b hb => hR.mine b (by have := h2 b; omega), hR.ext, hR.base, hR.more, hR.glob⟩, fun q hq => by simp at hq⟩

/-- Blocks of a round are forgotten. -/
theorem RelP.clean {n0 : Nat} {st : St} {a : Act} (h : RelP w0 l0 R0 B0 [] st a w) (hn : B0.length ≤ n0) : RelP w0 l0 R0 B0 [] ⟨cleanL n0 st.s, (st.h.take n0).map (cleanL n0)⟩ a w := by
  obtain ⟨B, l, rs, rh, hR, _⟩ := h
  have hf : ∀ (i j b : Nat), keep n0 i = some j → B[i]? = some (some b) → (B.take n0)[j]? = some (some b) := by
    intro i j b hij hb
    unfold keep at hij
    split at hij <;> simp at hij
    subst hij
    rw [List.getElem?_take_of_lt (by assumption)]; exact hb
  obtain ⟨r1, r2, hs, hH⟩ := hR.heap.take n0
  refine ⟨B.take n0, l, rs, r1, ⟨hR.defers, RepL.ren hf _ _ _ hR.slots, RepH.ren hf hH, fun b => by have := hR.once b; have := hs b; omega, fun b hb => hR.mine b (by have := hs b; omega), hR.ext, fun i hi => ?_, ?_, hR.glob⟩, fun q hq => by simp at hq⟩
  · rw [List.getElem?_take_of_lt (by omega)]; exact hR.base i hi
  · have := hR.more; simp; omega

theorem RelP.len {st : St} {a : Act} (h : RelP w0 l0 R0 B0 [] st a w) : B0.length ≤ st.h.length := by
  obtain ⟨B, l, rs, rh, hR, _⟩ := h
  have := hR.heap.length
  have := hR.more
  omega

def forget (p : PO) : PO := { p with id := 0 }
def forget2 (x : Bool × PO) : Bool × PO := (x.1, forget x.2)

theorem prep_forget {ops : List Oper} : ∀ (l : List Oper) (n m : Nat), (prepFrom ops l n).map forget = (prepFrom ops l m).map forget
  | [], _, _ => rfl
  | o :: l, n, m => by simp only [prepFrom, List.map_cons]; rw [prep_forget l _ (if isNew o then m + 1 else m)]; rfl

theorem flags_forget {draw : Bool} {ops : List Oper} (l : List PO) : (flags draw ops l).map forget2 = flags draw ops (l.map forget) := by
  simp only [flags, List.zipIdx_map, List.map_map, List.any_map]
  rfl

theorem drawOk_forget {ops : List Oper} (l : List (Bool × PO)) : drawOk ops (l.map forget2) = drawOk ops l := by
  simp only [drawOk, List.zipIdx_map, List.all_map]
  rfl

theorem drawOk_prep {draw : Bool} {ops : List Oper} (n m : Nat) : drawOk ops (flags draw ops (prepFrom ops ops n)) = drawOk ops (flags draw ops (prepFrom ops ops m)) := by
  rw [← drawOk_forget, flags_forget, prep_forget ops n m, ← flags_forget, drawOk_forget]

theorem runsH_eq (F : PO → Nat → Bool) (hF : ∀ p j, F (forget p) j = F p j) {ops : List Oper} : ∀ (l : List Oper) (m n j : Nat) (st : St), runsH E K (((prepFrom ops l m).zipIdx j).map fun x => (F x.1 x.2, x.1.g, x.1.take, x.1.pos)) l n st = runs E K (((prepFrom ops l n).zipIdx j).map fun x => (F x.1 x.2, x.1)) st
  | [], _, _, _, _ => rfl
  | o :: l, m, n, j, st => by
    simp only [prepFrom, List.zipIdx_cons, List.map_cons, runsH, runs]
    have h1 : F ⟨o, m, guardOf ops o, appends ops o.dst, posOf ops o⟩ j = F ⟨o, n, guardOf ops o, appends ops o.dst, posOf ops o⟩ j := by rw [← hF, ← hF ⟨o, n, _, _, _⟩]; rfl
    rw [h1]
    cases step E K (F ⟨o, n, guardOf ops o, appends ops o.dst, posOf ops o⟩ j) ⟨o, n, guardOf ops o, appends ops o.dst, posOf ops o⟩ st with
    | none => rfl
    | some st' =>
      simp only
      rw [runsH_eq F hF l _ _ (j + 1) st']
      cases isNew o <;> rfl

def flagF (draw : Bool) (ops : List Oper) (p : PO) (j : Nat) : Bool :=
  draw && ((prepFrom ops ops 0).map forget).zipIdx.any fun (q, i) => i != j && heeds p q && !ord ops ops.length i j && !ord ops ops.length j i

theorem runsH_flags {draw : Bool} {ops : List Oper} (n : Nat) (st : St) : runsH E K (hintsOf draw ops) ops n st = runs E K (flags draw ops (prepFrom ops ops n)) st := by
  have hF : ∀ m p j, (draw && (prepFrom ops ops m).zipIdx.any fun (q, i) => i != j && heeds p q && !ord ops ops.length i j && !ord ops ops.length j i) = flagF draw ops p j := by
    intro m p j
    unfold flagF
    rw [prep_forget ops 0 m]
    simp only [List.zipIdx_map, List.any_map]
    rfl
  simp only [hintsOf, flags, List.map_map, hF]
  exact runsH_eq (flagF draw ops) (fun p j => rfl) ops 0 n 0 st

theorem evRegionH_ok {H : Hints} {id : Nat} {draw : Bool} {ops : Array Oper} {st st' : St} (h : evRegionH E K (H.r id) ops.toList st = some st') (hc : codeOk H (.region id ops draw) = true) : evRegion E K ops.toList draw st = some st' := by
  simp only [codeOk, Bool.and_eq_true, beq_iff_eq] at hc
  obtain ⟨⟨h1, h2⟩, h3⟩ := hc
  unfold evRegionH at h
  unfold evRegion
  cases hn : newBlocks E ops.toList with
  | none => simp [hn] at h
  | some nb =>
    simp only [hn] at h ⊢
    rw [h1, runsH_flags] at h
    rw [drawOk_prep st.h.length 0, h2, h3]
    exact h

theorem code_ok (hE : E.ok P) (hK : Sound P K) (hmix : P.follows .mixedOrders = true) {L : Nat} {H : Hints} : ∀ (c : Code) (hc : codeOk H c = true) (st st' : St) (ex : Ex) (a : Act) (w : World) (Q : Exit → Act → World → Prop), evC E K L H c st = some (ex, st') → RelP w0 l0 R0 B0 [] st a w →
    (∀ a w, RelP w0 l0 R0 B0 [] st' a w → Q (exOf ex) a w) → c.wp P Q a w
  | .skip, hc, st, st', ex, a, w, Q, h, hr, hQ => by
    simp [evC] at h
    obtain ⟨rfl, rfl⟩ := h
    exact wp_skip (hQ a w hr)
  | .label _, hc, st, st', ex, a, w, Q, h, hr, hQ => by
    simp [evC] at h
    obtain ⟨rfl, rfl⟩ := h
    exact wp_label (hQ a w hr)
  | .exit id, hc, st, st', ex, a, w, Q, h, hr, hQ => by
    simp [evC] at h
    obtain ⟨rfl, rfl⟩ := h
    exact wp_exit (hQ a w hr)
  | .ret, hc, st, st', ex, a, w, Q, h, hr, hQ => by
    simp [evC] at h
    obtain ⟨rfl, rfl⟩ := h
    exact wp_ret (hQ a w hr)
  | .region id ops draw, hc, st, st', ex, a, w, Q, h, hr, hQ => by
    simp only [evC] at h
    cases hrg : evRegionH E K (H.r id) ops.toList st with
    | none => simp [hrg] at h
    | some s1 =>
      simp [hrg] at h
      obtain ⟨rfl, rfl⟩ := h
      exact region_ok hE hK hmix (evRegionH_ok hrg hc) hr hQ
  | .seq x y, hc, st, st', ex, a, w, Q, h, hr, hQ => by
    simp only [codeOk, Bool.and_eq_true] at hc
    simp only [evC] at h
    cases hx : evC E K L H x st with
    | none => simp [hx] at h
    | some q =>
      obtain ⟨e1, s1⟩ := q
      rw [hx] at h
      cases e1 with
      | nrm =>
        simp only at h
        exact wp_seq (code_ok hE hK hmix x hc.1 st s1 .nrm a w _ hx hr fun a' w' hr' => code_ok hE hK hmix y hc.2 s1 st' ex a' w' Q h hr' hQ)
      | ret =>
        simp only [Option.some.injEq, Prod.mk.injEq] at h
        obtain ⟨rfl, rfl⟩ := h
        exact wp_seq (code_ok hE hK hmix x hc.1 st _ .ret a w _ hx hr fun a' w' hr' => hQ a' w' hr')
      | exit id =>
        simp only [Option.some.injEq, Prod.mk.injEq] at h
        obtain ⟨rfl, rfl⟩ := h
        exact wp_seq (code_ok hE hK hmix x hc.1 st _ (.exit id) a w _ hx hr fun a' w' hr' => hQ a' w' hr')
  | .cond c x y, hk, st, st', ex, a, w, Q, h, hr, hQ => by
    simp only [codeOk, Bool.and_eq_true] at hk
    simp only [evC] at h
    split at h <;> try (simp at h; done)
    rename_i t hc
    obtain ⟨B, l, rs, rh, hR, hp⟩ := hr
    obtain ⟨r, hv, _⟩ := ev_ok hR.held hR.slots hc
    simp only [Rep] at hv
    refine wp_cond hv.1 ?_
    cases t with
    | true => simp only [if_true] at h ⊢; exact code_ok hE hK hmix x hk.1 st st' ex a w Q h ⟨B, l, rs, rh, hR, hp⟩ hQ
    | false => simp only [Bool.false_eq_true, if_false] at h ⊢; exact code_ok hE hK hmix y hk.2 st st' ex a w Q h ⟨B, l, rs, rh, hR, hp⟩ hQ
  | .block id c, hk, st, st', ex, a, w, Q, h, hr, hQ => by
    simp only [evC] at h
    cases hx : evC E K L H c st with
    | none => simp [hx] at h
    | some q =>
      obtain ⟨e1, s1⟩ := q
      rw [hx] at h
      cases e1 with
      | nrm =>
        simp only [Option.some.injEq, Prod.mk.injEq] at h
        obtain ⟨rfl, rfl⟩ := h
        exact wp_block (code_ok hE hK hmix c hk st _ .nrm a w _ hx hr fun a' w' hr' => hQ a' w' hr')
      | ret =>
        simp only [Option.some.injEq, Prod.mk.injEq] at h
        obtain ⟨rfl, rfl⟩ := h
        exact wp_block (code_ok hE hK hmix c hk st _ .ret a w _ hx hr fun a' w' hr' => hQ a' w' hr')
      | exit j =>
        simp only at h
        refine wp_block (code_ok hE hK hmix c hk st s1 (.exit j) a w _ hx hr fun a' w' hr' => ?_)
        show Exit.inBlock id Q (.exit j) a' w'
        unfold Exit.inBlock
        split at h
        · rename_i hj
          simp only [Option.some.injEq, Prod.mk.injEq] at h
          obtain ⟨rfl, rfl⟩ := h
          simp only [hj, if_true]
          exact hQ a' w' hr'
        · rename_i hj
          simp only [Option.some.injEq, Prod.mk.injEq] at h
          obtain ⟨rfl, rfl⟩ := h
          simp only [hj, if_false]
          exact hQ a' w' hr'
  | .loop c, hk, st, st', ex, a, w, Q, h, hr, hQ => by
    simp only [evC] at h
    rw [hE.lp] at h
    have hlen := hr.len
    generalize st.h.length = n0 at h hlen
    generalize H.k ((firstR c).getD 0) = kq at h
    have key : ∀ (n : Nat) (st : St) (a : Act) (w : World), rounds (evC E K L H c) n0 kq n st = some (ex, st') → RelP w0 l0 R0 B0 [] st a w → Code.rounds P c Q n a w := by
      intro n
      induction n with
      | zero => intro st a w h; simp [rounds] at h
      | succ n ih =>
        intro st a w h hr
        simp only [rounds] at h
        rw [rounds_succ]
        cases hx : evC E K L H c st with
        | none => simp [hx] at h
        | some q =>
          obtain ⟨e1, s1⟩ := q
          rw [hx] at h
          cases e1 with
          | nrm =>
            simp only at h
            exact code_ok hE hK hmix c hk st s1 .nrm a w _ hx hr fun a' w' hr' => ih _ a' w' h (hr'.clean hlen).mask
          | ret =>
            simp only [Option.some.injEq, Prod.mk.injEq] at h
            obtain ⟨rfl, rfl⟩ := h
            exact code_ok hE hK hmix c hk st _ .ret a w _ hx hr fun a' w' hr' => hQ a' w' hr'
          | exit j =>
            simp only [Option.some.injEq, Prod.mk.injEq] at h
            obtain ⟨rfl, rfl⟩ := h
            exact code_ok hE hK hmix c hk st _ (.exit j) a w _ hx hr fun a' w' hr' => hQ a' w' hr'
    exact wp_loop_rounds L (key L _ a w h hr.mask)
  | .rangeFunc .., hc, st, st', ex, a, w, Q, h, hr, hQ => by simp [evC] at h
  | .scope _, hc, st, st', ex, a, w, Q, h, hr, hQ => by simp [evC] at h
  | .goto _, hc, st, st', ex, a, w, Q, h, hr, hQ => by simp [evC] at h
  | .refuse _, hc, st, st', ex, a, w, Q, h, hr, hQ => by simp [evC] at h

end
end Go.Vm
/- The evaluator by value: functions. -/
namespace Go.Vm
set_option linter.unusedSectionVars false
variable [Globs]
set_option linter.unusedVariables false
set_option linter.unusedSimpArgs false
/-- A result, read where it is. -/
def resR (tmps : Array Value) : ResultVar → Sem Value
  | .tmp t => pure (tmps.getD t undef)
  | .cell b t => do loadVar t (← asAddr (tmps.getD b undef))

section
variable {P : Program} {E : En} {K : Oracle} {w : World} {w0 : World} {l0 : Lim} {R0 : Res} {B0 : BM}

/-- One result. -/
theorem result_ok (hE : E.ok P) {n : Nat} {st : St} {a : Act} {B : BM} {l : Lim} {rs rh : Res} (hR : RelB w0 l0 R0 B0 st a w B l rs rh) {x : ResultVar} {v : V} (h : resultV E n st x = some v) :
    ∃ (z : Value) (rz r1 r2 : Res), (resR a.tmps x).run P w = .ok z w ∧ Rep w l v B z rz ∧
      RepH w l B (st.h.take n) (B.take n) r1 ∧ (∀ b, rs b + rh b = r1 b + r2 b) ∧ Sub rz r2 := by
  obtain ⟨t1, t2, ht, hT⟩ := hR.heap.take n
  cases x with
  | tmp t =>
    simp only [resultV] at h
    obtain ⟨y, s1, s2, hy, hv, hs, _⟩ := hR.slots.at h
    have hyt : a.tmps[t]? = some y := by simpa using hy
    refine ⟨y, s1, t1, fun b => rs b + t2 b, ?_, hv, hT, fun b => by have := ht b; simp only []; omega, fun b => by have := hs b; simp only []; omega⟩
    simp [resR, Array.getD_eq_getD_getElem?, hyt]
  | cell b t =>
    simp only [resultV] at h
    cases hsb : st.s[b]? with
    | none => simp [hsb] at h
    | some u =>
      rw [hsb] at h
      split at h <;> try (simp at h; done)
      rename_i i off he
      cases he
      obtain ⟨y, s1, s2, hy, hv, hs, _⟩ := hR.slots.at hsb
      have hyt : a.tmps[b]? = some y := by simpa using hy
      cases hci : st.h[i]? with
      | none => simp [hci] at h
      | some cs =>
        cases hp : part E t cs off with
        | none => simp [hci, hp] at h
        | some u =>
          simp only [hci, hp, Option.some.injEq] at h
          simp only [Rep] at hv
          obtain ⟨_, rb, hb, rfl⟩ := hv
          obtain ⟨r1, r2, hsum, hB1, hH2⟩ := hR.heap.out hb hci
          obtain ⟨hl0, c, ty, hc, hf, rc, hrc, hL⟩ := hB1
          obtain ⟨z, rz, hz, hRz, hsub⟩ := part_ok (P := P) hE hp hL hf
          have hrun : (loadVar t ⟨rb, off, none⟩).run P w = .ok z w := by
            have := load_part (P := P) (b := rb) (off := 0) (n := c.size) (o := off) (cs := cs) hE hc (by omega) (by simp; have := hL.length; simpa using this) (by rw [List.drop_zero, List.take_of_length_le (by simp)]; exact hz) hp
            simpa using this
          have hrun' : (resR a.tmps (.cell b t)).run P w = .ok z w := by
            simp [resR, Array.getD_eq_getD_getElem?, hyt, asAddr, hrun]
          by_cases hni : n ≤ i
          · simp only [hni, if_true] at h
            subst h
            obtain ⟨q1, q2, hq, hQ⟩ := hH2.take n
            have htk : (B.set i none).take n = B.take n := by
              apply List.ext_getElem?
              intro j
              by_cases hj : j < n
              · rw [List.getElem?_take_of_lt hj, List.getElem?_take_of_lt hj, List.getElem?_set_ne (by omega)]
              · rw [List.getElem?_take_eq_none (by omega), List.getElem?_take_eq_none (by omega)]
            rw [htk] at hQ
            exact ⟨z, rz, q1, fun b => rs b + r1 b + q2 b, hrun', hRz, hQ, fun b => by have := hsum b; have := hq b; simp only []; omega, fun b => by have := hsub b; have := hrc b; simp only []; omega⟩
          · simp only [hni, if_false] at h
            subst h
            exact ⟨z, nil0, t1, fun b => rs b + t2 b, hrun', Rep.erase _ _ _ _ hRz, hT, fun b => by have := ht b; simp only []; omega, fun b => Nat.zero_le _⟩

theorem results_ok (hE : E.ok P) {n : Nat} {st : St} {a : Act} {B : BM} {l : Lim} {rs rh : Res} (hR : RelB w0 l0 R0 B0 st a w B l rs rh) : ∀ (xs : List ResultVar) (vs : List V), xs.mapM (resultV E n st) = some vs →
    ∃ zs : List Value, (xs.mapM (resR a.tmps)).run P w = .ok zs w ∧ RepL w l (eraseL vs) B zs nil0
  | [], vs, h => by simp at h; subst h; exact ⟨[], by simp, RepL.nil⟩
  | x :: xs, vs, h => by
    simp only [List.mapM_cons, Option.bind_eq_bind, Option.bind_eq_some_iff, Option.pure_def] at h
    obtain ⟨v, hv, us, hus, he⟩ := h
    cases he
    obtain ⟨z, rz, r1, r2, hz, hRz, _⟩ := result_ok (P := P) hE hR hv
    obtain ⟨zs, hzs, hL⟩ := results_ok hE hR xs us hus
    refine ⟨z :: zs, ?_, by simp only [eraseL]; exact RepL.cons (Rep.erase _ _ _ _ hRz) hL (fun _ => rfl)⟩
    simp only [List.mapM_cons, Sem.run_bind]
    rw [hz]
    simp [hzs]

theorem end_ok (hE : E.ok P) {fn : Func} {n : Nat} {st : St} {a : Act} {B : BM} {l : Lim} {rs rh : Res} (hR : RelB w0 l0 R0 B0 st a w B l rs rh) (hn : B0.length = n) {v : V} {h' : Heap} (h : evEnd E n fn st = some (v, h')) :
    ∃ (z : Value) (rz r1 : Res), (results fn a.tmps).run P w = .ok z w ∧ Rep w l v B0 z rz ∧ RepH w l B0 h' B0 r1 ∧ ∀ b, rz b + r1 b ≤ rs b + rh b := by
  have hBt : B.take n = B0 := by
    apply List.ext_getElem?
    intro i
    by_cases hi : i < n
    · rw [List.getElem?_take_of_lt hi]; exact hR.base i (by omega)
    · rw [List.getElem?_take_eq_none (by omega), List.getElem?_eq_none (by omega)]
  have hf : ∀ (i j b : Nat), keep n i = some j → B[i]? = some (some b) → B0[j]? = some (some b) := by
    intro i j b hij hb
    unfold keep at hij
    split at hij <;> simp at hij
    subst hij
    rw [← hR.base i (by omega)]; exact hb
  have hrun : ∀ zs : List Value, (fn.results.toList.mapM (resR a.tmps)).run P w = .ok zs w →
      (results fn a.tmps).run P w = .ok (if h : zs.toArray.size = 1 then zs.toArray[0] else .tuple zs.toArray) w := by
    intro zs hzs
    have hres : results fn a.tmps = (do let vs ← fn.results.mapM (resR a.tmps); pure (if h : vs.size = 1 then vs[0] else .tuple vs) : Sem Value) := by
      unfold results
      congr
    rw [hres]
    have he : (fn.results.mapM (resR a.tmps)).run P w = .ok zs.toArray w := by
      have : fn.results = fn.results.toList.toArray := rfl
      rw [this, List.mapM_toArray]
      simp only [Functor.map, Sem.run_bind', hzs, Result.andThen_ok]
      rfl
    simp only [Sem.run_bind, he, Result.andThen_ok, Sem.run_pure]
  unfold evEnd at h
  cases hm : fn.results.toList.mapM (resultV E n st) with
  | none => simp [hm] at h
  | some vs =>
    rw [hm] at h
    obtain ⟨zs, hzs, hL⟩ := results_ok (P := P) hE hR _ _ hm
    have hr := hrun zs hzs
    obtain ⟨t1, t2, ht, hT⟩ := hR.heap.take n
    rw [hBt] at hT
    have many : v = .tup (cleanL n (eraseL vs)) → h' = (st.h.take n).map (cleanL n) → zs.length ≠ 1 → ∃ (z : Value) (rz r1 : Res), (results fn a.tmps).run P w = .ok z w ∧ Rep w l v B0 z rz ∧ RepH w l B0 h' B0 r1 ∧ ∀ b, rz b + r1 b ≤ rs b + rh b := by
      intro hv hh hl
      subst hv; subst hh
      have : ¬ (zs.toArray.size = 1) := by simpa using hl
      rw [dif_neg this] at hr
      refine ⟨_, nil0, t1, hr, ?_, RepH.ren hf hT, fun b => by have := ht b; simp only [nil0]; omega⟩
      simp only [Rep]
      exact ⟨zs, rfl, RepL.ren hf _ _ _ hL⟩
    have hlz := hL.length
    have hel : (eraseL vs).length = vs.length := by
      have : ∀ us : List V, (eraseL us).length = us.length := by
        intro us; induction us with
        | nil => rfl
        | cons u us ih => simp [eraseL, ih]
      exact this vs
    cases vs with
    | nil =>
      simp only [Option.some.injEq, Prod.mk.injEq] at h
      exact many h.1.symm h.2.symm (by simp at hlz hel ⊢; rw [hlz]; simp [eraseL])
    | cons u us =>
      cases us with
      | cons u2 us =>
        simp only [Option.some.injEq, Prod.mk.injEq] at h
        exact many h.1.symm h.2.symm (by simp at hel; omega)
      | nil =>
        simp only [Option.some.injEq, Prod.mk.injEq] at h
        obtain ⟨hv, hh⟩ := h
        -- one result keeps what it owns
        cases hrl : fn.results.toList with
        | nil => rw [hrl] at hm; simp at hm
        | cons x xs =>
          cases xs with
          | cons => 
            rw [hrl] at hm
            simp only [List.mapM_cons, Option.bind_eq_bind, Option.bind_eq_some_iff, Option.pure_def] at hm
            obtain ⟨v1, _, us1, ⟨v2, _, us2, _, h3⟩, h4⟩ := hm
            cases h3; cases h4
          | nil =>
            rw [hrl] at hm
            have hx : resultV E n st x = some u := by
              cases hx : resultV E n st x with
              | none => simp [hx] at hm
              | some u' => simp [hx] at hm; rw [hm]
            obtain ⟨z, rz, r1, r2, hz, hRz, hH, hsum, hsub⟩ := result_ok (P := P) hE hR hx
            rw [hBt] at hH
            have hr1 := hrun [z] (by
              rw [hrl]
              simp only [List.mapM_cons, List.mapM_nil, Sem.run_bind]
              rw [hz]; simp)
            refine ⟨z, rz, r1, by simpa using hr1, ?_, ?_, fun b => by have := hsum b; have := hsub b; omega⟩
            · rw [← hv]; exact Rep.ren hf _ _ _ hRz
            · rw [← hh]; exact RepH.ren hf hH

/-- A function's body, evaluated, says what its calls do. -/
theorem fn_calls (hE : E.ok P) (hK : Sound P K) (hmix : P.follows .mixedOrders = true) {f : FuncId} {fn : Func} (hf : P.funcs[f]? = some fn) (hname : (fn.name == "runtime.NumGoroutine") = false) {L : Nat} {args : List V} {h h' : Heap} {v : V} {H : Hints} (hHt : fnOk H fn = true) (he : evFn E L K H fn args h = some (v, h'))  :
    ∀ (w : World) (l : Lim) (B : BM) (xs : List Value) (ra rh : Res), RepL w l args B xs ra → RepH w l B h B rh → (∀ b, ra b + rh b ≤ 1) → (∀ b, ra b + rh b ≠ 0 → b < w.heap.size) → Held w l →
    (∃ fn, P.funcs[f]? = some fn ∧ fn.body.isNone = false ∧ (fn.name == "runtime.NumGoroutine") = false) ∧ Calls P f xs.toArray w fun e w' => ∃ x, e = .returned x ∧ ∃ (l' : Lim) (rv rh' : Res), Rep w' l' v B x rv ∧ RepH w' l' B h' B rh' ∧ (∀ b, rv b + rh' b ≤ 1) ∧
      Ext (fun b => ra b + rh b) w l w' l' ∧ (∀ b, rv b + rh' b ≠ 0 → b < w'.heap.size ∧ (b < w.heap.size → ra b + rh b ≠ 0)) := by
  intro w l B xs ra rh hA hH h1 hm hG
  unfold evFn at he
  cases hb : fn.body with
  | none => simp [hb] at he
  | some c =>
    simp only [hb] at he
    refine ⟨⟨fn, hf, by simp [hb], hname⟩, ?_⟩
    have hBl : B.length = h.length := hH.length
    have hxl : xs.length = args.length := hA.length
    have hrep : ∀ k : Nat, RepL w l (List.replicate k (.sc undef)) B (List.replicate k undef) nil0 := by
      intro k
      induction k with
      | zero => exact RepL.nil
      | succ k ih => rw [List.replicate_succ, List.replicate_succ]; exact RepL.cons Rep.of_scalar ih (fun _ => rfl)
    have hrel : RelP w l (fun b => ra b + rh b) B [] ⟨args ++ List.replicate (fn.ntmps - args.length) (.sc undef), h⟩ { tmps := xs.toArray ++ Array.replicate (fn.ntmps - xs.toArray.size) undef, defers := [] } w := by
      refine ⟨B, l, ra, rh, ⟨rfl, ?_, hH, h1, fun b hb => ⟨hm b hb, fun _ => hb⟩, Ext.refl _ _ _, fun _ _ => rfl, Nat.le_refl _, hG⟩, fun q hq => by simp at hq⟩
      have := RepL.append hA (hrep (fn.ntmps - args.length)) (r := ra) (fun b => by simp [nil0])
      simpa [hxl] using this
    have fin : ∀ (st : St), evEnd E h.length fn st = some (v, h') → ∀ (a : Act) (w' : World), RelP w l (fun b => ra b + rh b) B [] st a w' →
        a.defers = [] ∧ ∃ z, (results fn a.tmps).run P w' = .ok z w' ∧ ∃ x, Ending.returned z = .returned x ∧ ∃ (l' : Lim) (rv rh' : Res), Rep w' l' v B x rv ∧ RepH w' l' B h' B rh' ∧ (∀ b, rv b + rh' b ≤ 1) ∧
          Ext (fun b => ra b + rh b) w l w' l' ∧ (∀ b, rv b + rh' b ≠ 0 → b < w'.heap.size ∧ (b < w.heap.size → ra b + rh b ≠ 0)) := by
      intro st hend a w' ⟨B', l', rs, rh', hR, _⟩
      obtain ⟨z, rz, r1, hz, hRz, hRH, hle⟩ := end_ok (P := P) hE hR hBl hend
      exact ⟨hR.defers, z, hz, z, rfl, l', rz, r1, hRz, hRH, fun b => by have := hR.once b; have := hle b; omega, hR.ext, fun b hb => hR.mine b (by have := hle b; omega)⟩
    cases hc : evC E K L H c ⟨args ++ List.replicate (fn.ntmps - args.length) (.sc undef), h⟩ with
    | none => simp [hc] at he
    | some q =>
      obtain ⟨ex, st⟩ := q
      rw [hc] at he
      refine calls_of_wp hf hb ?_
      cases ex with
      | nrm => exact code_ok hE hK hmix c (by simpa [fnOk, hb] using hHt) _ st .nrm _ w _ hc hrel fun a' w' hr' => fin st he a' w' hr'
      | ret => exact code_ok hE hK hmix c (by simpa [fnOk, hb] using hHt) _ st .ret _ w _ hc hrel fun a' w' hr' => fin st he a' w' hr'
      | exit id => simp at he


theorem fn_ok (hE : E.ok P) (hK : Sound P K) (hmix : P.follows .mixedOrders = true) {f : FuncId} {fn : Func} (hf : P.funcs[f]? = some fn) (hname : (fn.name == "runtime.NumGoroutine") = false) {L : Nat} {args : List V} {h h' : Heap} {v : V} {H : Hints} (hHt : fnOk H fn = true) (he : evFn E L K H fn args h = some (v, h')) :
    Spec P f args h v h' := fun w l B xs ra rh hA hH h1 hm hG =>
  have ⟨⟨fn, a, b, c⟩, d⟩ := fn_calls hE hK hmix hf hname hHt he w l B xs ra rh hA hH h1 hm hG
  .inl ⟨fn, a, b, c, d⟩

end
end Go.Vm
/- A law's arguments, laid open as values of the evaluator. -/
namespace Go.Vm
set_option linter.unusedSectionVars false
variable [Globs]
open Go.ChangeShapes Go.WideShapes Go.RowKit
set_option linter.unusedVariables false
set_option linter.unusedSimpArgs false

/-- Of every block all cells may be read. -/
def limOf (w : World) : Lim := fun b => match w.heap[b]? with | some (.cells c _ _) => c.size | _ => 0

section
variable {H : Type} (enc : TypeId × Value → H) (P : Program) (w : World) (base : Nat) (spare : Nat → Bool) (held : Bool)
/-- Whatever reads at type t stands for a value of n cells that meets W. -/
def Opens (t : TypeId) {α : Type} (n : Nat) (e : α → List V) (W : α → Prop) : Prop :=
  0 < n ∧ (∀ x, (e x).length = n) ∧ ∀ (fuel : Nat) (cs : List Value) (y : DataW H × List MemPlace), DataW.trod enc P w base spare held fuel t cs = some y → (∀ m ∈ y.1.weights P t, m ≤ reachBytes) →
    flat cs ∧ ∃ x, RepL w (limOf w) (e x) [] cs nil0 ∧ W x
/-- The same for fields (type, offset) from an offset on. -/
def OpensFs (fs : List (TypeId × Nat)) (o : Nat) {α : Type} (n : Nat) (e : α → List V) (W : α → Prop) : Prop :=
  0 < n ∧ (∀ x, (e x).length = n) ∧ ∀ (m : Nat) (cs : List Value), cs.length = o + n → (∀ f ∈ fs, ∃ y, DataW.trod enc P w base spare held m f.1 ((cs.drop f.2).take (P.cellsOf f.1)) = some y ∧ ∀ m ∈ y.1.weights P f.1, m ≤ reachBytes) →
    flat (cs.drop o) ∧ ∃ x, RepL w (limOf w) (e x) [] (cs.drop o) nil0 ∧ W x
end

section
variable {H : Type} {enc : TypeId × Value → H} {P : Program} {w : World} {base : Nat} {spare : Nat → Bool} {held : Bool} {t : TypeId}
theorem repl_one {w : World} {l : Lim} {v : Value} : RepL w l [.sc v] [] [v] nil0 := RepL.cons Rep.of_scalar RepL.nil (fun _ => rfl)
theorem flat_one {v : Value} (h : Value.oneCell' v = true) : flat [v] := fun y hy => by simp at hy; subst hy; exact h
theorem opens_int {k : IntKind} (ht : P.underlying t = some (.int k)) : Opens enc P w base spare held t 1 (fun x => [.sc (.int k x)]) (fun x => (Lit.int k x).wf = true) := by
  refine ⟨by omega, fun _ => rfl, fun fuel cs y h _ => ?_⟩
  obtain ⟨n, rfl, _, hw⟩ := DataW.trod_int ht h
  exact ⟨flat_one rfl, n, repl_one, hw⟩
theorem opens_bool (ht : P.underlying t = some .bool) : Opens enc P w base spare held t 1 (fun x => [.sc (.bool x)]) (fun _ => True) := by
  refine ⟨by omega, fun _ => rfl, fun fuel cs y h _ => ?_⟩
  obtain ⟨b, rfl, _⟩ := DataW.trod_bool ht h
  exact ⟨flat_one rfl, b, repl_one, trivial⟩
theorem opens_string (ht : P.underlying t = some .string) : Opens enc P w base spare held t 1 (fun x => [.sc (.string x)]) (fun s => s.size ≤ 140737488351232) := by
  refine ⟨by omega, fun _ => rfl, fun fuel cs y h hz => ?_⟩
  obtain ⟨s, rfl, rfl, hs⟩ := DataW.trod_string ht h
  have := hz s.data.toList.length (by simp [DataW.weights])
  exact ⟨flat_one rfl, s, repl_one, by simpa [reachBytes] using this⟩
theorem add_add (a : Addr) (i j : Nat) : (a.add i).add j = a.add (i + j) := by
  unfold Addr.add
  by_cases hi : i = 0 <;> by_cases hj : j = 0 <;> simp [hi, hj, Nat.add_assoc]
theorem weights_all {e : TypeId} : ∀ {l : List (DataW H)} {x : DataW H}, x ∈ l → ∀ n ∈ x.weights P e, n ∈ DataW.weightsAll P e l
  | a :: l, x, h, n, hn => by
    simp only [DataW.weightsAll, List.mem_append]
    rcases List.mem_cons.1 h with rfl | h
    · exact .inl hn
    · exact .inr (weights_all h n hn)
theorem rows_of {α : Type} {d : α → List V} {W : α → Prop} {n : Nat} {l : List Value} {lim : Lim} : ∀ (len o : Nat),
    (∀ i, i < len → ∃ x cs', W x ∧ flat cs' ∧ RepL w lim (d x) [] cs' nil0 ∧ cs'.length = n ∧ ∀ j, j < n → l[o + (i * n + j)]? = cs'[j]?) →
    ∃ xs : List α, xs.length = len ∧ (∀ x ∈ xs, W x) ∧ RepLL w lim (xs.map d) ((l.drop o).take (len * n))
  | 0, o, _ => ⟨[], rfl, by simp, by simp [RepLL]⟩
  | len + 1, o, h => by
    obtain ⟨x, cs, hW, hf, hR, hl, hc⟩ := h 0 (by omega)
    obtain ⟨xs, h1, h2, h3⟩ := rows_of (lim := lim) len (o + n) (fun i hi => by
      obtain ⟨x, cs, hW, hf, hR, hl, hc⟩ := h (i + 1) (by omega)
      refine ⟨x, cs, hW, hf, hR, hl, fun j hj => ?_⟩
      have := hc j hj
      rw [Nat.add_mul, Nat.one_mul] at this
      rw [← this]
      congr 1
      omega)
    refine ⟨x :: xs, by simp [h1], fun y hy => ?_, ?_⟩
    · rcases List.mem_cons.1 hy with rfl | hy
      · exact hW
      · exact h2 y hy
    · simp only [List.map_cons, RepLL]
      refine ⟨cs, _, ?_, hf, hR, h3⟩
      rw [Nat.add_mul, Nat.one_mul, Nat.add_comm (len * n) n, List.take_add, List.drop_drop]
      congr 1
      apply List.ext_getElem?
      intro j
      by_cases hj : j < n
      · rw [List.getElem?_take_of_lt hj, List.getElem?_drop]
        simpa using hc j hj
      · rw [List.getElem?_take_eq_none (by omega), List.getElem?_eq_none (by omega)]
theorem opens_slice {e : TypeId} {α : Type} {n : Nat} {d : α → List V} {W : α → Prop} {B : Nat} (ht : P.underlying t = some (.slice e)) (hsz : P.cellsOf e = n) (hB : P.bytesOf e = B) (he : Opens enc P w base spare held e n d W) :
    Opens enc P w base spare held t 1 (fun xs : List α => [.sl false (xs.map d)]) (fun xs => xs.length * B ≤ 140737488351232 ∧ ∀ x ∈ xs, W x) := by
  obtain ⟨hn, hlen, he⟩ := he
  refine ⟨by omega, fun _ => rfl, fun fuel cs y h hz => ?_⟩
  rcases Go.Deep.open_slice ht h with ⟨rfl, _⟩ | ⟨a, len, cap, m, n', D, Pl, rfl, hb, hl, hm, hmm, hx, hel⟩
  · refine ⟨flat_one rfl, [], RepL.cons (r1 := nil0) ?_ RepL.nil (fun _ => rfl), by simp, by simp⟩
    simp only [Rep]
    exact ⟨none, 0, rfl, .inl ⟨rfl, fun _ => rfl, fun h => by cases h⟩⟩
  · have hlm : len ≤ m := by rw [hmm]; split <;> omega
    have key : ∀ i, i < len → ∃ x cs', W x ∧ flat cs' ∧ RepL w (limOf w) (d x) [] cs' nil0 ∧ cs'.length = n ∧ ∀ j, j < n → w.cell? (a.add (i * n + j)) = cs'[j]? := by
      intro i hi
      obtain ⟨cs', hc, ht'⟩ := hel i (by omega)
      obtain ⟨hf, x, hR, hW⟩ := he _ _ _ ht' (fun n hn => hz n (by
        rw [hx]
        simp only [DataW.weights, ht, List.mem_cons, List.mem_append]
        exact .inr (.inl (weights_all (List.mem_map_of_mem (List.mem_range.2 hi)) n hn))))
      rw [hsz] at hc
      obtain ⟨_, h1, h2⟩ := World.cells?_some hc
      refine ⟨x, cs', hW, hf, hR, h1, fun j hj => ?_⟩
      have := h2 j hj
      rwa [add_add] at this
    refine ⟨flat_one rfl, ?_⟩
    have hbound : ∀ xs : List α, xs.length = len → xs.length * B ≤ 140737488351232 := by
      intro xs hxl
      have := hz _ (by rw [hx]; simp only [DataW.weights, ht, List.mem_cons]; exact .inl rfl)
      rw [hB] at this
      simp only [List.length_map, List.length_range, reachBytes] at this
      rw [hxl]
      exact Nat.le_trans (Nat.mul_le_mul_right _ (Nat.le_add_right _ _)) this
    by_cases h0 : len = 0
    · subst h0
      refine ⟨[], RepL.cons (r1 := nil0) ?_ RepL.nil (fun _ => rfl), by simp, by simp⟩
      simp only [Rep]
      exact ⟨some a, cap, rfl, .inl ⟨rfl, fun _ => rfl, fun h => by cases h⟩⟩
    · have hblk : ∃ c ty fz, w.heap[a.block]? = some (.cells c ty fz) ∧ a.spot = none := by
        obtain ⟨x, cs', _, _, _, h1, h2⟩ := key 0 (by omega)
        have := h2 0 hn
        rw [List.getElem?_eq_getElem (by omega)] at this
        simp only [Nat.zero_mul, Nat.add_zero, Addr.add, if_true, World.cell?] at this
        split at this
        · rename_i c ty fz hc
          refine ⟨c, ty, fz, hc, ?_⟩
          cases hs : a.spot with
          | none => rfl
          | some q => simp [hs] at this
        · cases this
      obtain ⟨c, ty, fz, hc, hs⟩ := hblk
      obtain ⟨b, off, spot⟩ := a
      simp only at hs hc
      subst hs
      have hcell : ∀ i, w.cell? (Addr.add ⟨b, off, none⟩ i) = c.toList[off + i]? := by
        intro i
        unfold Addr.add
        by_cases hi : i = 0
        · subst hi; simp [World.cell?, hc]
        · simp [World.cell?, hc, hi]
      have key2 : ∀ i, i < len → ∃ x cs', W x ∧ flat cs' ∧ RepL w (limOf w) (d x) [] cs' nil0 ∧ cs'.length = n ∧ ∀ j, j < n → c.toList[off + (i * n + j)]? = cs'[j]? := by
        intro i hi
        obtain ⟨x, cs', k1, k2, k3, k4, k5⟩ := key i hi
        exact ⟨x, cs', k1, k2, k3, k4, fun j hj => by rw [← hcell]; exact k5 j hj⟩
      obtain ⟨xs, hxl, hxW, hxR⟩ := rows_of len off key2
      have hsize : off + len * n ≤ c.size := by
        obtain ⟨x, cs', _, _, _, k4, k5⟩ := key2 (len - 1) (by omega)
        have h5 := k5 (n - 1) (by omega)
        rw [List.getElem?_eq_getElem (show n - 1 < cs'.length by omega)] at h5
        have := (List.getElem?_eq_some_iff.1 h5).1
        obtain ⟨q, rfl⟩ : ∃ q, len = q + 1 := ⟨len - 1, by omega⟩
        rw [Nat.add_mul, Nat.one_mul]
        simp only [Nat.add_sub_cancel, Array.length_toList] at this
        omega
      refine ⟨xs, RepL.cons (r1 := nil0) ?_ RepL.nil (fun _ => rfl), hbound xs hxl, hxW⟩
      simp only [Rep]
      refine ⟨_, cap, by rw [List.length_map, hxl], .inr ⟨?_, b, off, n, c, ty, fz, rfl, hc, ?_, ?_, ?_, ?_, ?_, .inl ⟨trivial, fun _ => rfl⟩⟩⟩
      · intro h; apply h0; rw [← hxl]; simpa using congrArg List.length h
      · intro e he; obtain ⟨x, _, rfl⟩ := List.mem_map.1 he; exact hlen x
      · rw [List.length_map, hxl]; exact hxR
      · rw [List.length_map, hxl]; exact hsize
      · rw [List.length_map, hxl]; simp [limOf, hc]; exact hsize
      · rw [List.length_map, hxl]; exact hl
theorem opens_iso {α β : Type} {n : Nat} {d : α → List V} {W : α → Prop} (f : β → α) (g : α → β) (hg : ∀ a, f (g a) = a) (h : Opens enc P w base spare held t n d W) : Opens enc P w base spare held t n (fun x => d (f x)) (fun x => W (f x)) := by
  obtain ⟨hn, hl, h⟩ := h
  refine ⟨hn, fun x => hl _, fun fuel cs y hy hz => ?_⟩
  obtain ⟨hf, x, hK, hW⟩ := h fuel cs y hy hz
  exact ⟨hf, g x, by simp only [hg]; exact hK, by simp only [hg]; exact hW⟩
theorem opensFs_one {u : TypeId} {o : Nat} {α : Type} {n : Nat} {d : α → List V} {W : α → Prop} (hc : P.cellsOf u = n) (h : Opens enc P w base spare held u n d W) : OpensFs enc P w base spare held [(u, o)] o n d W := by
  obtain ⟨hn, hlen, h⟩ := h
  refine ⟨hn, hlen, fun m cs hl hf => ?_⟩
  obtain ⟨y, hy, hz⟩ := hf (u, o) (by simp)
  have e : (cs.drop o).take (P.cellsOf u) = cs.drop o := List.take_of_length_le (by rw [List.length_drop]; omega)
  have := h _ _ _ hy hz
  simpa [e] using this
theorem opensFs_cons {u : TypeId} {o o' : Nat} {fs : List (TypeId × Nat)} {α β : Type} {n m : Nat} {a : α → List V} {b : β → List V} {W : α → Prop} {X : β → Prop} (hc : P.cellsOf u = n) (ho : o' = o + n) (h : Opens enc P w base spare held u n a W) (hr : OpensFs enc P w base spare held fs o' m b X) :
    OpensFs enc P w base spare held ((u, o) :: fs) o (n + m) (fun x : α × β => a x.1 ++ b x.2) (fun x => W x.1 ∧ X x.2) := by
  obtain ⟨hn, hlen, h⟩ := h
  obtain ⟨hm, hlen2, hr⟩ := hr
  refine ⟨by omega, fun x => by simp [hlen, hlen2], fun q cs hl hf => ?_⟩
  obtain ⟨y, hy, hz⟩ := hf (u, o) (by simp)
  obtain ⟨f1, x, hK, hW⟩ := h _ _ _ hy hz
  obtain ⟨f2, z, hK2, hV⟩ := hr q cs (by omega) (fun f hf' => hf f (by simp [hf']))
  have e : cs.drop o = (cs.drop o).take n ++ cs.drop o' := by rw [ho, ← List.drop_drop]; exact (List.take_append_drop _ _).symm
  rw [hc] at f1 hK
  refine ⟨?_, (x, z), ?_, hW, hV⟩
  · rw [e]; intro y hy; rcases List.mem_append.1 hy with hy | hy
    · exact f1 y hy
    · exact f2 y hy
  · rw [e]; exact RepL.append hK hK2 (fun _ => rfl)
theorem opens_struct {fs : Array Field} {l : List (TypeId × Nat)} {α : Type} {n : Nat} {d : α → List V} {W : α → Prop} (ht : P.underlying t = some (.struct fs)) (hl : l = fs.toList.map (fun f => (f.type, f.offset))) (hsz : P.cellsOf t = n) (h : OpensFs enc P w base spare held l 0 n d W) :
    Opens enc P w base spare held t n d W := by
  obtain ⟨hn, hlen, h⟩ := h
  refine ⟨hn, hlen, fun fuel cs y hy hz => ?_⟩
  obtain ⟨xs, q, _, rfl, hcl, hxl, hf⟩ := DataW.trod_struct ht hy
  have := h q cs (by omega) (fun f hf' => by
    rw [hl] at hf'
    obtain ⟨g, hg, rfl⟩ := List.mem_map.1 hf'
    obtain ⟨i, hi, hgi⟩ := List.getElem_of_mem hg
    have hi' : i < fs.size := by simpa using hi
    have h1 : fs[i]? = some g := by rw [Array.getElem?_eq_getElem hi']; simpa using hgi
    have := hf i g h1
    rw [List.getElem?_eq_getElem (show i < xs.length by omega)] at this
    refine ⟨_, this, fun n hn => hz n ?_⟩
    simp only [DataW.weights, ht]
    exact DataW.weights_mem_each (j := i) (by rw [List.getElem?_map, List.getElem?_eq_getElem hi, hgi]; rfl) (by rw [List.getElem?_map, List.getElem?_eq_getElem (show i < xs.length by omega)]; rfl) n hn)
  simpa using this
/-- A parameter of a struct's type, laid open. -/
theorem open_agg {r : Reach} {b0 : Nat} {v : Value} {dd : DataW H} {ps : List MemPlace} {α : Type} {n : Nat} {d : α → List V} {W : α → Prop} (ht : (∃ fs, P.underlying t = some (.struct fs)) ∨ ∃ k e, P.underlying t = some (.array k e)) (hval : Value.okWide P w r b0 t v)
    (h : DataW.Trod enc P w base spare held t v dd ps) {ts : List TypeId} {ds : List (DataW H)} {j : Nat} (hsz : (DataW.weightsEach P ts ds).all (· ≤ reachBytes) = true) (hj : ts[j]? = some t) (hd : ds[j]? = some dd) (ho : Opens enc P w base spare held t n d W) : ∃ x, Rep w (limOf w) (.agg (d x)) [] v nil0 ∧ W x := by
  obtain ⟨fuel, hf⟩ := h
  have hv : ∃ cs, v = .agg cs := by
    rcases ht with ⟨fs, ht⟩ | ⟨k, e, ht⟩
    · obtain ⟨cs, h1, _⟩ := okWide_struct ht hval
      exact ⟨cs, h1⟩
    · simp only [Value.okWide, ht] at hval
      obtain ⟨cs, h1, _⟩ := hval
      exact ⟨cs, h1⟩
  obtain ⟨⟨cs⟩, rfl⟩ := hv
  obtain ⟨hfl, x, hK, hW⟩ := ho.2.2 _ _ _ hf (fun n hn => by simpa using List.all_eq_true.1 hsz _ (DataW.weights_mem_each hj hd n hn))
  simp only [Value.cells] at hfl hK
  exact ⟨x, by simp only [Rep]; exact ⟨cs, rfl, hfl, hK⟩, hW⟩
/-- A parameter of a slice's type, laid open. -/
theorem open_row {e : TypeId} {r : Reach} {b0 : Nat} {v : Value} {dd : DataW H} {ps : List MemPlace} {α : Type} {d : List α → V} {W : List α → Prop} (ht : P.underlying t = some (.slice e)) (hval : Value.okWide P w r b0 t v)
    (h : DataW.Trod enc P w base spare held t v dd ps) {ts : List TypeId} {ds : List (DataW H)} {j : Nat} (hsz : (DataW.weightsEach P ts ds).all (· ≤ reachBytes) = true) (hj : ts[j]? = some t) (hd : ds[j]? = some dd) (ho : Opens enc P w base spare held t 1 (fun x => [d x]) W) : ∃ x, Rep w (limOf w) (d x) [] v nil0 ∧ W x := by
  obtain ⟨fuel, hf⟩ := h
  obtain ⟨a, len, cap, rfl⟩ := okWide_slice ht hval
  obtain ⟨hfl, x, hK, hW⟩ := ho.2.2 _ _ _ hf (fun n hn => by simpa using List.all_eq_true.1 hsz _ (DataW.weights_mem_each hj hd n hn))
  simp only [Value.cells] at hK
  simp only [RepL] at hK
  obtain ⟨y, ys, r1, r2, h1, h2, h3, h4, h5⟩ := hK
  simp at h1
  obtain ⟨rfl, rfl⟩ := h1
  exact ⟨x, h3.res (fun b => by have := h2 b; simp only [nil0] at *; omega), hW⟩
end

theorem opens_array {H : Type} {enc : TypeId × Value → H} {P : Program} {w : World} {base : Nat} {spare : Nat → Bool} {held : Bool} {t : TypeId} {k : Nat} {e : TypeId} {l : List (TypeId × Nat)} {α : Type} {n : Nat} {d : α → List V} {W : α → Prop} (ht : P.underlying t = some (.array k e)) (hl : l = (List.range k).map (fun i => (e, i * P.cellsOf e))) (hsz : P.cellsOf t = n) (h : OpensFs enc P w base spare held l 0 n d W) :
    Opens enc P w base spare held t n d W := by
  obtain ⟨hn, hlen, h⟩ := h
  refine ⟨hn, hlen, fun fuel cs y hy hz => ?_⟩
  obtain ⟨xs, q, _, rfl, hcl, hxl, hf⟩ := DataW.trod_array ht hy
  have := h q cs (by omega) (fun f hf' => by
    rw [hl] at hf'
    obtain ⟨i, hi, rfl⟩ := List.mem_map.1 hf'
    have hi' : i < k := by simpa using hi
    have := hf i hi'
    rw [List.getElem?_eq_getElem (show i < xs.length by omega)] at this
    refine ⟨_, this, fun n hn => hz n ?_⟩
    simp only [DataW.weights, ht]
    exact weights_all (List.mem_map_of_mem (List.getElem_mem (show i < xs.length by omega))) n hn)
  simpa using this

/-- What a law's function says of its caller's world. -/
theorem law_below {w w' : World} {l' : Lim} (h : Ext (fun b => nil0 b + nil0 b) w (limOf w) w' l') : Below w.heap.size w w' :=
  ⟨h.env.1, h.env.2.1, h.env.2.2, h.size, fun k hk => (h.other k hk rfl).1⟩
end Go.Vm
