import Derived.Test.YtbiohdgeclokmaaVWords
import Derived.OpenShut
import Derived.ChangeSlices
import Derived.Deep.Slices
import Derived.SizedLaws
namespace Go.Proofs.Ytbiohdgeclokmaa.Opens
set_option linter.unusedVariables false
set_option linter.unusedSimpArgs false
set_option linter.unusedSectionVars false
open Go.ChangeShapes Go.WideShapes Go.RowKit Go.Proofs.YtbiohdgeclokmaaW.PrintWords

section
variable {H : Type} (enc : TypeId × Value → H) (P : Program) (w : World) (base : Nat) (spare : Nat → Bool) (held : Bool)
/-- Whatever reads at type t has cells of the kind d, of a value that meets W. -/
def Opens (t : TypeId) {α : Type} (d : Kd α) (W : α → Prop) : Prop :=
  ∀ (fuel : Nat) (cs : List Value) (y : DataW H × List MemPlace), DataW.trod enc P w base spare held fuel t cs = some y → (∀ n ∈ y.1.weights P t, n ≤ reachBytes) → ∃ x, d.K w x cs ∧ W x
/-- The same for fields (type, offset) from an offset on. -/
def OpensFs (fs : List (TypeId × Nat)) (o : Nat) {α : Type} (d : Kd α) (W : α → Prop) : Prop :=
  ∀ (n : Nat) (cs : List Value), cs.length = o + d.sz → (∀ f ∈ fs, ∃ y, DataW.trod enc P w base spare held n f.1 ((cs.drop f.2).take (P.cellsOf f.1)) = some y ∧ ∀ n ∈ y.1.weights P f.1, n ≤ reachBytes) → ∃ x, d.K w x (cs.drop o) ∧ W x
end

section
variable {H : Type} {enc : TypeId × Value → H} {P : Program} {w : World} {base : Nat} {spare : Nat → Bool} {held : Bool} {t : TypeId}
theorem opens_int {k : IntKind} (ht : P.underlying t = some (.int k)) : Opens enc P w base spare held t (Kd.int k) (fun x => (Lit.int k x).wf = true) := by
  intro fuel cs y h _
  obtain ⟨n, rfl, _, hw⟩ := DataW.trod_int ht h
  exact ⟨n, rfl, hw⟩
theorem opens_bool (ht : P.underlying t = some .bool) : Opens enc P w base spare held t Kd.bool (fun _ => True) := by
  intro fuel cs y h _
  obtain ⟨b, rfl, _⟩ := DataW.trod_bool ht h
  exact ⟨b, rfl, trivial⟩
theorem opens_string (ht : P.underlying t = some .string) : Opens enc P w base spare held t Kd.string (fun s => s.size ≤ 140737488351232) := by
  intro fuel cs y h hz
  obtain ⟨s, rfl, rfl, hs⟩ := DataW.trod_string ht h
  have := hz s.data.toList.length (by simp [DataW.weights])
  exact ⟨s, rfl, by simpa [reachBytes] using this⟩
theorem cells_at {a : Addr} {n : Nat} {cs : List Value} (h : w.cells? base a n = some cs) : cs.length = n ∧ ∀ i u, cs[i]? = some u → w.cell? (a.add i) = some u := by
  have hb : base ≤ a.block := by
    unfold World.cells? at h
    split at h
    · assumption
    · cases h
  have hg : (List.range n).mapM (fun i => w.cell? (a.add i)) = some cs := by
    unfold World.cells? at h
    rw [if_pos hb] at h
    exact h
  have key : ∀ (l : List Nat) (cs : List Value), l.mapM (fun i => w.cell? (a.add i)) = some cs → cs.length = l.length ∧ ∀ (i : Nat) (u : Value), cs[i]? = some u → ∃ j, l[i]? = some j ∧ w.cell? (a.add j) = some u := by
    intro l
    induction l with
    | nil => intro cs h; simp at h; subst h; simp
    | cons j l ih =>
      intro cs h
      rw [List.mapM_cons] at h
      cases hj : w.cell? (a.add j) with
      | none => simp [hj] at h
      | some v =>
        cases hr : l.mapM (fun i => w.cell? (a.add i)) with
        | none => simp [hj, hr] at h
        | some r =>
          simp [hj, hr] at h
          subst h
          obtain ⟨h1, h2⟩ := ih r hr
          refine ⟨by simp [h1], fun i u hi => ?_⟩
          cases i with
          | zero => simp at hi; subst hi; exact ⟨j, rfl, hj⟩
          | succ i => simp at hi; simpa using h2 i u hi
  obtain ⟨h1, h2⟩ := key _ _ hg
  refine ⟨by simpa using h1, fun i u hi => ?_⟩
  obtain ⟨j, hj, hu⟩ := h2 i u hi
  have : j = i := by
    have hlt : i < n := by
      have := (List.getElem?_eq_some_iff.1 hj).1
      simpa using this
    simp [List.getElem?_range hlt] at hj
    exact hj.symm
  subst this
  exact hu
theorem add_add (a : Addr) (i j : Nat) : (a.add i).add j = a.add (i + j) := by
  unfold Addr.add
  by_cases hi : i = 0 <;> by_cases hj : j = 0 <;> simp [hi, hj, Nat.add_assoc]
theorem build_list {α : Type} {R : Nat → α → Prop} : ∀ n, (∀ i, i < n → ∃ x, R i x) → ∃ xs : List α, xs.length = n ∧ ∀ i x, xs[i]? = some x → R i x := by
  intro n
  induction n with
  | zero => intro _; exact ⟨[], rfl, by simp⟩
  | succ n ih =>
    intro h
    obtain ⟨xs, hl, hx⟩ := ih (fun i hi => h i (by omega))
    obtain ⟨x, hn⟩ := h n (by omega)
    refine ⟨xs ++ [x], by simp [hl], fun i y hy => ?_⟩
    rcases Nat.lt_or_ge i n with hi | hi
    · rw [List.getElem?_append_left (by omega)] at hy
      exact hx i y hy
    · rw [List.getElem?_append_right (by omega)] at hy
      have : i = n := by
        have := (List.getElem?_eq_some_iff.1 hy).1
        simp at this
        omega
      subst this
      simp [hl] at hy
      subst hy
      exact hn
theorem weights_all {e : TypeId} : ∀ {l : List (DataW H)} {x : DataW H}, x ∈ l → ∀ n ∈ x.weights P e, n ∈ DataW.weightsAll P e l
  | a :: l, x, h, n, hn => by
    simp only [DataW.weightsAll, List.mem_append]
    rcases List.mem_cons.1 h with rfl | h
    · exact .inl hn
    · exact .inr (weights_all h n hn)
theorem opens_slice {e : TypeId} {α : Type} {d : Kd α} {W : α → Prop} {B : Nat} (ht : P.underlying t = some (.slice e)) (hsz : P.cellsOf e = d.sz) (hB : P.bytesOf e = B) (he : Opens enc P w base spare held e d W) :
    Opens enc P w base spare held t (Kd.slice e d) (fun xs => xs.length * B ≤ 140737488351232 ∧ ∀ x ∈ xs, W x) := by
  intro fuel cs y h hz
  rcases Go.Deep.open_slice ht h with ⟨rfl, _⟩ | ⟨a, len, cap, m, n, D, Pl, rfl, hb, hl, hm, hmm, hx, hel⟩
  · exact ⟨[], ⟨none, 0, rfl, Nat.le_refl _, ⟨rfl, by simp, fun h => absurd h (by simp)⟩⟩, by simp, by simp⟩
  · have hlm : len ≤ m := by rw [hmm]; split <;> omega
    obtain ⟨xs, hxl, hxs⟩ := build_list (R := fun i x => W x ∧ ∃ c, c.length = d.sz ∧ d.K w x c ∧ ∀ j u, c[j]? = some u → w.cell? (a.add (i * d.sz + j)) = some u) len (fun i hi => by
      obtain ⟨cs', hc, ht'⟩ := hel i (by omega)
      obtain ⟨x, hK, hW⟩ := he _ _ _ ht' (fun n hn => hz n (by
        rw [hx]
        simp only [DataW.weights, ht, List.mem_cons, List.mem_append]
        exact .inr (.inl (weights_all (List.mem_map_of_mem (List.mem_range.2 hi)) n hn))))
      obtain ⟨h1, h2⟩ := cells_at hc
      refine ⟨x, hW, cs', by rw [h1, hsz], hK, fun j u hj => ?_⟩
      have := h2 j u hj
      rw [hsz] at this
      have e1 := add_add a (i * d.sz) j
      rwa [e1] at this)
    refine ⟨xs, ⟨some a, cap, by rw [hxl], by omega, ?_⟩, ?_, fun x hx => ?_⟩
    · refine ⟨rfl, by rw [hxl]; unfold maxLen at hm; omega, fun _ => ⟨a, rfl, fun j p hp => ?_⟩⟩
      exact (hxs j p hp).2
    · have := hz _ (by rw [hx]; simp only [DataW.weights, ht, List.mem_cons]; exact .inl rfl)
      rw [hB] at this
      simp only [List.length_map, List.length_range, reachBytes] at this
      rw [hxl]
      exact Nat.le_trans (Nat.mul_le_mul_right _ (Nat.le_add_right _ _)) this
    · obtain ⟨i, hi, rfl⟩ := List.getElem_of_mem hx
      exact (hxs i _ (List.getElem?_eq_getElem hi)).1
theorem opens_iso {α β : Type} {d : Kd α} {W : α → Prop} (f : β → α) (g : α → β) (hg : ∀ a, f (g a) = a) (h : Opens enc P w base spare held t d W) : Opens enc P w base spare held t (Kd.iso d f) (fun x => W (f x)) := by
  intro fuel cs y hy hz
  obtain ⟨x, hK, hW⟩ := h fuel cs y hy hz
  exact ⟨g x, by show d.K w (f (g x)) cs; rw [hg]; exact hK, by show W (f (g x)); rw [hg]; exact hW⟩
theorem opensFs_one {u : TypeId} {o : Nat} {α : Type} {d : Kd α} {W : α → Prop} (hc : P.cellsOf u = d.sz) (h : Opens enc P w base spare held u d W) : OpensFs enc P w base spare held [(u, o)] o d W := by
  intro n cs hl hf
  obtain ⟨y, hy, hz⟩ := hf (u, o) (by simp)
  obtain ⟨x, hK, hW⟩ := h _ _ _ hy hz
  refine ⟨x, ?_, hW⟩
  have e : (cs.drop o).take (P.cellsOf u) = cs.drop o := List.take_of_length_le (by rw [List.length_drop]; omega)
  simpa [e] using hK
theorem opensFs_cons {u : TypeId} {o o' : Nat} {fs : List (TypeId × Nat)} {α β : Type} {a : Kd α} {b : Kd β} {W : α → Prop} {V : β → Prop} (hc : P.cellsOf u = a.sz) (ho : o' = o + a.sz) (h : Opens enc P w base spare held u a W) (hr : OpensFs enc P w base spare held fs o' b V) :
    OpensFs enc P w base spare held ((u, o) :: fs) o (Kd.pair a b) (fun x => W x.1 ∧ V x.2) := by
  intro n cs hl hf
  obtain ⟨y, hy, hz⟩ := hf (u, o) (by simp)
  obtain ⟨x, hK, hW⟩ := h _ _ _ hy hz
  have hl' : cs.length = o + (a.sz + b.sz) := hl
  obtain ⟨z, hK2, hV⟩ := hr n cs (by omega) (fun f hf' => hf f (by simp [hf']))
  refine ⟨(x, z), ⟨_, _, ?_, hK, hK2⟩, hW, hV⟩
  rw [ho, hc, ← List.drop_drop]
  exact (List.take_append_drop _ _).symm
theorem opens_struct {fs : Array Field} {l : List (TypeId × Nat)} {α : Type} {d : Kd α} {W : α → Prop} (ht : P.underlying t = some (.struct fs)) (hl : l = fs.toList.map (fun f => (f.type, f.offset))) (hsz : P.cellsOf t = d.sz) (h : OpensFs enc P w base spare held l 0 d W) :
    Opens enc P w base spare held t d W := by
  intro fuel cs y hy hz
  obtain ⟨xs, n, _, rfl, hcl, hxl, hf⟩ := DataW.trod_struct ht hy
  obtain ⟨x, hK, hW⟩ := h n cs (by omega) (fun f hf' => by
    rw [hl] at hf'
    obtain ⟨g, hg, rfl⟩ := List.mem_map.1 hf'
    obtain ⟨i, hi, hgi⟩ := List.getElem_of_mem hg
    have hi' : i < fs.size := by simpa using hi
    have h1 : fs[i]? = some g := by rw [Array.getElem?_eq_getElem hi']; simpa using hgi
    have := hf i g h1
    rw [List.getElem?_eq_getElem (show i < xs.length by omega)] at this
    refine ⟨_, this, fun n hn => hz n ?_⟩
    simp only [DataW.weights, ht]
    exact DataW.weights_mem_each (j := i) (by rw [List.getElem?_map, List.getElem?_eq_getElem hi, hgi]; rfl) (by rw [List.getElem?_map, List.getElem?_eq_getElem (show i < xs.length by omega)]; rfl) n hn)
  exact ⟨x, by simpa using hK, hW⟩
theorem opens_array {k : Nat} {e : TypeId} {l : List (TypeId × Nat)} {α : Type} {d : Kd α} {W : α → Prop} (ht : P.underlying t = some (.array k e)) (hl : l = (List.range k).map (fun i => (e, i * P.cellsOf e))) (hsz : P.cellsOf t = d.sz) (h : OpensFs enc P w base spare held l 0 d W) :
    Opens enc P w base spare held t d W := by
  intro fuel cs y hy hz
  obtain ⟨xs, n, _, rfl, hcl, hxl, hf⟩ := DataW.trod_array ht hy
  obtain ⟨x, hK, hW⟩ := h n cs (by omega) (fun f hf' => by
    rw [hl] at hf'
    obtain ⟨i, hi, rfl⟩ := List.mem_map.1 hf'
    have hi' : i < k := by simpa using hi
    have := hf i hi'
    rw [List.getElem?_eq_getElem (show i < xs.length by omega)] at this
    refine ⟨_, this, fun n hn => hz n ?_⟩
    simp only [DataW.weights, ht]
    exact weights_all (List.mem_map_of_mem (List.getElem_mem (show i < xs.length by omega))) n hn)
  exact ⟨x, by simpa using hK, hW⟩
/-- A parameter of a struct's or an array's type, laid open. -/
theorem open_agg {r : Reach} {b0 : Nat} {v : Value} {dd : DataW H} {ps : List MemPlace} {α : Type} {d : Kd α} {W : α → Prop} (ht : (∃ fs, P.underlying t = some (.struct fs)) ∨ ∃ k e, P.underlying t = some (.array k e)) (hval : Value.okWide P w r b0 t v)
    (h : DataW.Trod enc P w base spare held t v dd ps) {ts : List TypeId} {ds : List (DataW H)} {j : Nat} (hsz : (DataW.weightsEach P ts ds).all (· ≤ reachBytes) = true) (hj : ts[j]? = some t) (hd : ds[j]? = some dd) (ho : Opens enc P w base spare held t d W) : ∃ x cs, v = .agg ⟨cs⟩ ∧ d.K w x cs ∧ W x := by
  obtain ⟨fuel, hf⟩ := h
  have hv : ∃ cs, v = .agg cs := by
    rcases ht with ⟨fs, ht⟩ | ⟨k, e, ht⟩
    · obtain ⟨cs, h1, _⟩ := okWide_struct ht hval
      exact ⟨cs, h1⟩
    · simp only [Value.okWide, ht] at hval
      obtain ⟨cs, h1, _⟩ := hval
      exact ⟨cs, h1⟩
  obtain ⟨⟨cs⟩, rfl⟩ := hv
  obtain ⟨x, hK, hW⟩ := ho _ _ _ hf (fun n hn => by simpa using List.all_eq_true.1 hsz _ (DataW.weights_mem_each hj hd n hn))
  exact ⟨x, cs, rfl, by simpa [Value.cells] using hK, hW⟩
/-- A parameter of a slice's type, laid open. -/
theorem open_row {e : TypeId} {r : Reach} {b0 : Nat} {v : Value} {dd : DataW H} {ps : List MemPlace} {α : Type} {d : Kd (List α)} {W : List α → Prop} (ht : P.underlying t = some (.slice e)) (hval : Value.okWide P w r b0 t v)
    (h : DataW.Trod enc P w base spare held t v dd ps) {ts : List TypeId} {ds : List (DataW H)} {j : Nat} (hsz : (DataW.weightsEach P ts ds).all (· ≤ reachBytes) = true) (hj : ts[j]? = some t) (hd : ds[j]? = some dd) (ho : Opens enc P w base spare held t d W) : ∃ x, d.K w x [v] ∧ W x := by
  obtain ⟨fuel, hf⟩ := h
  obtain ⟨a, len, cap, rfl⟩ := okWide_slice ht hval
  obtain ⟨x, hK, hW⟩ := ho _ _ _ hf (fun n hn => by simpa using List.all_eq_true.1 hsz _ (DataW.weights_mem_each hj hd n hn))
  exact ⟨x, by simpa [Value.cells] using hK, hW⟩
end
end Go.Proofs.Ytbiohdgeclokmaa.Opens
