import Derived.Test.YtoddafkffchnjaaV1
import Derived.Test.YtoddafkffchnjaaDf
namespace Go.Vm
open Go.Proofs Go.Proofs.Ytoddafkffchnjaa Go.Proofs.Ytoddafkffchnjaa.P Go.RowKit Go.Proofs.YtoddafkffchnjaaW.PrintWords Go.Proofs.YtoddafkffchnjaaW.PrintLast Go.Proofs.YtoddafkffchnjaaW.PrintMore
section
variable (a b : Int) (k : IntKind)
theorem rl_add64 : real.op .add .i64 a b = wrap64 (a + b) := i64_w _
theorem rl_sub64 : real.op .sub .i64 a b = wrap64 (a - b) := i64_w _
theorem rl_mul64 : real.op .mul .i64 a b = wrap64 (a * b) := i64_w _
theorem rl_addu : real.op .add .u64 a b = IntKind.u64.wrap (a + b) := rfl
theorem rl_subu : real.op .sub .u64 a b = IntKind.u64.wrap (a - b) := rfl
theorem rl_mulu : real.op .mul .u64 a b = IntKind.u64.wrap (a * b) := rfl
theorem rl_shl : real.op .shl k a b = shl k a b := rfl
theorem rl_shr : real.op .shr k a b = shr k a b := by
  show a.fdiv _ = a / _
  exact Int.fdiv_eq_ediv_of_nonneg _ (by
    have : (0 : Int) ≤ 2 ^ (min b.toNat k.bits) := Int.le_of_lt (Int.pow_pos (by omega))
    exact this)
theorem rl_and : real.op .and k a b = bits .and k a b := rfl
theorem rl_or : real.op .or k a b = bits .or k a b := rfl
theorem rl_xor : real.op .xor k a b = bits .xor k a b := rfl
theorem rl_andNot : real.op .andNot k a b = bits .andNot k a b := rfl
theorem rl_quo64 : real.op .quo .i64 a b = wrap64 (a.tdiv b) := i64_w _
theorem rl_rem64 : real.op .rem .i64 a b = a.tmod b := rfl
theorem rl_quou : real.op .quo .u64 a b = IntKind.u64.wrap (a.tdiv b) := rfl
theorem rl_remu : real.op .rem .u64 a b = a.tmod b := rfl
theorem rl_neg64 : real.neg .i64 a = wrap64 (-a) := by rw [← Int.zero_sub]; exact i64_w _
theorem rl_negu : real.neg .u64 a = IntKind.u64.wrap (-a) := by rw [← Int.zero_sub]; rfl
theorem rl_wrapu8 : real.wrap .u8 a = a % 256 := rfl
theorem shr_8 : shr .u64 a 8 = a / 256 := rfl
theorem shr_16 : shr .u64 a 16 = a / 65536 := rfl
theorem shr_32 : shr .u64 a 32 = a / 4294967296 := rfl
theorem beq_dec : (a == b) = decide (a = b) := rfl
theorem bne_dec : (a != b) = !decide (a = b) := rfl
theorem rl_eql : real.cmp .eql a b = decide (a = b) := rfl
theorem rl_neq : real.cmp .neq a b = !decide (a = b) := rfl
theorem rl_lss : real.cmp .lss a b = decide (a < b) := rfl
theorem rl_leq : real.cmp .leq a b = decide (a ≤ b) := rfl
theorem rl_gtr : real.cmp .gtr a b = decide (b < a) := rfl
theorem rl_geq : real.cmp .geq a b = decide (b ≤ a) := rfl
theorem rl_okshl : real.ok .shl b = decide (0 ≤ b) := rfl
theorem rl_okshr : real.ok .shr b = decide (0 ≤ b) := rfl
theorem rl_okquo : real.ok .quo b = !decide (b = 0) := rfl
theorem rl_okrem : real.ok .rem b = !decide (b = 0) := rfl
theorem rl_wrap64 : real.wrap .i64 a = wrap64 a := i64_w _
theorem rl_wrapu : real.wrap .u64 a = IntKind.u64.wrap a := rfl
theorem rl_min : real.min a b = mn a b := rfl
theorem rl_max : real.max a b = mx a b := rfl
end
theorem natCast_eq (n : Nat) : @NatCast.natCast Int instNatCastInt n = @Nat.cast Int instNatCastInt n := rfl
theorem rc : (∀ a b, real.cmp .eql a b = decide (a = b)) ∧ (∀ a b, real.cmp .neq a b = !decide (a = b)) ∧ (∀ a b, real.cmp .lss a b = decide (a < b)) ∧ (∀ a b, real.cmp .leq a b = decide (a ≤ b)) ∧ (∀ a b, real.cmp .gtr a b = decide (b < a)) ∧ (∀ a b, real.cmp .geq a b = decide (b ≤ a)) ∧
    (∀ (p : Prop) [Decidable p], (decide p = true) = p) ∧ (∀ (p : Prop) [Decidable p], (decide p = false) = ¬ p) ∧ (∀ b : Bool, ((!b) = true) = (b = false)) ∧ (∀ b : Bool, ((!b) = false) = (b = true)) :=
  ⟨rl_eql, rl_neq, rl_lss, rl_leq, rl_gtr, rl_geq, fun _ _ => decide_eq_true_eq, fun p _ => by simp, fun b => by simp, fun b => by simp⟩
theorem rl : (∀ a b, real.op .add .i64 a b = wrap64 (a + b)) ∧ (∀ a b, real.op .sub .i64 a b = wrap64 (a - b)) ∧ (∀ a b, real.op .mul .i64 a b = wrap64 (a * b)) ∧ (∀ a b, real.op .add .u64 a b = IntKind.u64.wrap (a + b)) ∧ (∀ a b, real.op .sub .u64 a b = IntKind.u64.wrap (a - b)) ∧
    (∀ a b, real.op .mul .u64 a b = IntKind.u64.wrap (a * b)) ∧ (∀ a b k, real.op .shl k a b = shl k a b) ∧ (∀ a b k, real.op .shr k a b = shr k a b) ∧ (∀ a b k, real.op .and k a b = bits .and k a b) ∧ (∀ a b k, real.op .or k a b = bits .or k a b) ∧ (∀ a b k, real.op .xor k a b = bits .xor k a b) ∧
    (∀ a b k, real.op .andNot k a b = bits .andNot k a b) ∧ (∀ a b, real.op .quo .i64 a b = wrap64 (a.tdiv b)) ∧ (∀ a b, real.op .rem .i64 a b = a.tmod b) ∧ (∀ a b, real.op .quo .u64 a b = IntKind.u64.wrap (a.tdiv b)) ∧ (∀ a b, real.op .rem .u64 a b = a.tmod b) ∧
    (∀ a, real.neg .i64 a = wrap64 (-a)) ∧ (∀ a, real.neg .u64 a = IntKind.u64.wrap (-a)) ∧ (∀ b, real.ok .shl b = decide (0 ≤ b)) ∧ (∀ b, real.ok .shr b = decide (0 ≤ b)) ∧ (∀ b, real.ok .quo b = !decide (b = 0)) ∧ (∀ b, real.ok .rem b = !decide (b = 0)) ∧
    (∀ a, real.wrap .i64 a = wrap64 a) ∧ (∀ a, real.wrap .u64 a = IntKind.u64.wrap a) ∧ (∀ a, real.wrap .u8 a = a % 256) ∧ (∀ a b, real.min a b = mn a b) ∧ (∀ a b, real.max a b = mx a b) ∧ (∀ a, shr .u64 a 8 = a / 256) ∧ (∀ a, shr .u64 a 16 = a / 65536) ∧ (∀ a, shr .u64 a 32 = a / 4294967296) ∧
    (∀ a b, real.cmp .eql a b = decide (a = b)) ∧ (∀ a b, real.cmp .neq a b = !decide (a = b)) ∧ (∀ a b, real.cmp .lss a b = decide (a < b)) ∧ (∀ a b, real.cmp .leq a b = decide (a ≤ b)) ∧ (∀ a b, real.cmp .gtr a b = decide (b < a)) ∧ (∀ a b, real.cmp .geq a b = decide (b ≤ a)) ∧
    (∀ (p : Prop) [Decidable p], (decide p = true) = p) ∧ (∀ (p : Prop) [Decidable p], (decide p = false) = ¬ p) ∧ (∀ b : Bool, ((!b) = true) = (b = false)) ∧ (∀ b : Bool, ((!b) = false) = (b = true)) ∧ (∀ (α : Type) (f : α → List V) (l : List α), real.len (l.map f) = (l.length : Int)) ∧ (∀ n : Nat, @NatCast.natCast Int instNatCastInt n = @Nat.cast Int instNatCastInt n) :=
  ⟨rl_add64, rl_sub64, rl_mul64, rl_addu, rl_subu, rl_mulu, fun a b k => rl_shl a b k, fun a b k => rl_shr a b k, fun a b k => rl_and a b k, fun a b k => rl_or a b k, fun a b k => rl_xor a b k, fun a b k => rl_andNot a b k, rl_quo64, rl_rem64, rl_quou, rl_remu, rl_neg64, rl_negu, rl_okshl, rl_okshr, rl_okquo, rl_okrem, rl_wrap64, rl_wrapu, rl_wrapu8, rl_min, rl_max, shr_8, shr_16, shr_32,
    rl_eql, rl_neq, rl_lss, rl_leq, rl_gtr, rl_geq, fun _ _ => decide_eq_true_eq, fun p _ => by simp, fun b => by simp, fun b => by simp, fun α f l => by simp [real], natCast_eq⟩
end Go.Vm
/- What the by-value proofs of the functions share. -/
namespace Go.Vm
open Go.Proofs Go.Proofs.Ytoddafkffchnjaa Go.Proofs.Ytoddafkffchnjaa.P Go.RowKit Go.Proofs.YtoddafkffchnjaaW.PrintWords Go.Proofs.YtoddafkffchnjaaW.PrintLast Go.Proofs.YtoddafkffchnjaaW.PrintMore
set_option linter.unusedVariables false
open Classical in
/-- The value that a function with fuel comes to. -/
noncomputable def lim {α : Type} (g : Nat → Option α) : Option α := if h : ∃ k r, g k = some r then g (Classical.choose h) else none

theorem lim_ex {α : Type} {g : Nat → Option α} {r : α} (h : lim g = some r) : ∃ k, g k = some r := by
  unfold lim at h
  split at h
  · exact ⟨_, h⟩
  · simp at h

theorem le_of_le {α : Type} {g : Nat → Option α} (hm : ∀ k, LeO (g k) (g (k + 1))) {k n : Nat} (h : k ≤ n) : LeO (g k) (g n) := by
  induction h with
  | refl => exact LeO.refl _
  | step _ ih => exact ih.trans (hm _)

theorem lim_of {α : Type} {g : Nat → Option α} (hm : ∀ k, LeO (g k) (g (k + 1))) {k : Nat} : LeO (g k) (lim g) := by
  intro r h
  have hex : ∃ k r, g k = some r := ⟨k, r, h⟩
  unfold lim
  rw [dif_pos hex]
  obtain ⟨r', hr'⟩ := Classical.choose_spec hex
  have h1 := le_of_le hm (Nat.le_max_left k (Classical.choose hex)) _ h
  have h2 := le_of_le hm (Nat.le_max_right k (Classical.choose hex)) _ hr'
  rw [h1] at h2
  rw [hr', h2]

theorem le_bind {α β : Type} {a b : Option α} {F : α → Option β} {r : β} (h : LeO a b) (H : a.bind F = some r) : b.bind F = some r := by
  cases a with
  | none => simp at H
  | some x => rw [h x rfl]; exact H

theorem le_ap {α : Type} {a b : Option α} {r : α} (h : LeO a b) (H : a = some r) : b = some r := h r H

theorem up8 {α : Type} {g : Nat → Option α} (hm : ∀ k, LeO (g k) (g (k + 1))) (k : Nat) : LeO (g k) (g (k + 8)) := le_of_le hm (by omega)

/-- An oracle out of a list. -/
def orcs : List (Nat × (List V → Heap → Option (V × Heap))) → Oracle
  | [] => fun _ _ _ => none
  | (n, o) :: l => fun f args h => if f = n then o args h else orcs l f args h

theorem Sound.nil {P : Program} : Sound P (orcs []) := fun f args h v h' hk => by simp [orcs] at hk
theorem Sound.cons {P : Program} {n : Nat} {o} {l} (h1 : ∀ args h v h', o args h = some (v, h') → Spec P n args h v h') (h2 : Sound P (orcs l)) : Sound P (orcs ((n, o) :: l)) := fun f args h v h' hk => by
  simp only [orcs] at hk
  split at hk
  · rename_i hf; subst hf; exact h1 _ _ _ _ hk
  · exact h2 _ _ _ _ _ hk

/-- One round of a loop; nx runs those that follow. -/
def roundN (body nx : St → Option (Ex × St)) (n0 : Nat) (kp : List Nat) (st : St) : Option (Ex × St) :=
  match body st with
  | some (.nrm, st') => nx ⟨maskL kp 0 (cleanL n0 st'.s), (st'.h.take n0).map (cleanL n0)⟩
  | r => r

theorem loop_rule {lp2 : (St → Option (Ex × St)) → Nat → List Nat → Nat → St → Option (Ex × St)} (hlp : lp2 = rounds) {α : Type} {P : Option (Ex × St) → Prop} {body : St → Option (Ex × St)} {n0 L : Nat} {kp : List Nat} {st : St}
    (upd : α → St → St) (Q : Nat → α → Prop) {n : Nat} {x : α} (hst : upd x st = st) (hz : ∀ y, ¬ Q 0 y) (hq : Q n x) (hn : n ≤ L)
    (hs : ∀ m (nx : St → Option (Ex × St)) y, (∀ z, Q m z → P (nx (upd z st))) → Q (m + 1) y → P (roundN body nx n0 kp (upd y st))) : ∀ o, lp2 body n0 kp L st = o → P o := by
  rintro o rfl
  subst hlp
  have key : ∀ n L y, n ≤ L → Q n y → P (rounds body n0 kp L (upd y st)) := by
    intro n
    induction n with
    | zero => intro L y _ h; exact absurd h (hz y)
    | succ n ih =>
      intro L y hL h
      obtain ⟨L, rfl⟩ : ∃ m, L = m + 1 := ⟨L - 1, by omega⟩
      exact hs n (rounds body n0 kp L) y (fun z hz' => ih L z (by omega) hz') h
  rw [← hst]
  exact key n L x hn hq

def enI (k : IntKind) (x : Int) : List V := [.sc (.int k x)]
def unI (k : IntKind) : List (List V) → Option (List Int)
  | [] => some []
  | [.sc (.int k' x)] :: c => if k' = k then (unI k c).map (x :: ·) else none
  | _ :: _ => none
theorem unI_map (k : IntKind) : ∀ l : List Int, unI k (l.map fun x => [.sc (.int k x)]) = some l
  | [] => rfl
  | x :: l => by simp [unI, unI_map k l]
theorem unI_inv {k : IntKind} : ∀ {c : List (List V)} {l : List Int}, unI k c = some l → c = l.map fun x => [.sc (.int k x)]
  | [], l, h => by simp [unI] at h; subst h; rfl
  | c :: cs, l, h => by
    unfold unI at h
    split at h
    · rename_i h0; cases h0
    · rename_i h0
      cases h0
      split at h
      · rename_i hk
        obtain ⟨l', h1, h2⟩ := Option.map_eq_some_iff.mp h
        subst hk h2
        rw [unI_inv h1]; rfl
      · cases h
    · cases h

section
variable (k : IntKind) (x y z u v : Int)
theorem unI_0 : unI k [] = some [] := rfl
theorem unI_1 : unI k [[.sc (.int k x)]] = some [x] := by simp [unI]
theorem unI_2 : unI k [[.sc (.int k x)], [.sc (.int k y)]] = some [x, y] := by simp [unI]
theorem unI_3 : unI k [[.sc (.int k x)], [.sc (.int k y)], [.sc (.int k z)]] = some [x, y, z] := by simp [unI]
theorem unI_4 : unI k [[.sc (.int k x)], [.sc (.int k y)], [.sc (.int k z)], [.sc (.int k u)]] = some [x, y, z, u] := by simp [unI]
theorem unI_5 : unI k [[.sc (.int k x)], [.sc (.int k y)], [.sc (.int k z)], [.sc (.int k u)], [.sc (.int k v)]] = some [x, y, z, u, v] := by simp [unI]
end

theorem app_map {α : Type} (f : α → List V) (n b : Nat) (l : List α) (x : α) {e : List V} (he : e = f x) (hf : ∀ y, (f y).length = n) (hb : 0 < b) : real.app n b (l.map f) [e] = if decide (l.length < most / b) then some ((l ++ [x]).map f) else none := by
  subst he
  have h1 : ((l.map f).head?.map (·.length)).getD n = n := by cases l <;> simp [hf]
  have h2 : (([f x] : List (List V)).head?.map (·.length)).getD n = n := by simp [hf]
  have h3 : (l.length + 1) * b ≤ most ↔ l.length < most / b := by rw [← Nat.le_div_iff_mul_le hb]; exact Iff.rfl
  by_cases h : l.length < most / b
  · have h4 := h3.mpr h
    have h5 : l.length + 1 ≤ most := Nat.le_trans (Nat.le_mul_of_pos_right _ hb) h4
    simp only [real, h1, h2, List.length_map, List.length_singleton]
    simp [h, h4, h5]
  · have h4 : ¬ (l.length + 1) * b ≤ most := fun h' => h (h3.mp h')
    simp only [real, h1, h2, List.length_map, List.length_singleton]
    simp [h, h4]
theorem byte_bt (s : ByteArray) (i : Int) : real.byte s i = if decide (0 ≤ i ∧ i < s.size) then some (bt s i) else none := by
  simp only [real, bt]
  by_cases h0 : 0 ≤ i
  · by_cases h1 : i < s.size
    · have h2 : i.toNat < s.size := by omega
      simp [h0, h1, h2]
    · have h2 : ¬ i.toNat < s.size := by omega
      simp [h0, h1, h2]
  · simp [h0]
theorem rl_len {α : Type} (f : α → List V) (l : List α) : real.len (l.map f) = (l.length : Int) := by simp [real]
theorem get_map {α : Type} (f : α → List V) (d : α) (l : List α) (i : Int) : real.get (l.map f) i = if decide (0 ≤ i ∧ i < l.length) then some (f (l.getD i.toNat d)) else none := by
  simp only [real, realIdx]
  by_cases h0 : 0 ≤ i
  · simp only [h0, if_true, true_and, List.getElem?_map]
    by_cases h1 : i < l.length
    · have : i.toNat < l.length := by omega
      simp [h1, List.getD, this]
    · have : l.length ≤ i.toNat := by omega
      simp [h1, List.getElem?_eq_none this]
  · simp [h0]
theorem get_int (k : IntKind) (l : List Int) (i : Int) : real.get (l.map fun x => [V.sc (.int k x)]) i = if decide (0 ≤ i ∧ i < l.length) then some [.sc (.int k (rd l i))] else none := get_map _ 0 l i
theorem li_int (k : IntKind) {g : List (List V) → Int → Option (List V)} (hg : g = real.get) (l : List Int) : ∃ (c : List (List V)) (b : Int → Bool) (p0 : Int → Int), c = (l.map fun x : Int => [V.sc (.int k x)]) ∧ b = (fun i => decide (0 ≤ i ∧ i < (l.length : Int))) ∧ p0 = (fun i => rd l i) ∧
    (∀ i, g c i = if b i then some [V.sc (.int k (p0 i))] else none) ∧ unI k c = some l := ⟨_, _, _, rfl, rfl, rfl, by rw [hg]; exact get_int k l, unI_map k l⟩
section
variable {tys : Types} {op : BinOp → IntKind → Int → Int → Int} {ok : BinOp → Int → Bool} {cmp : BinOp → Int → Int → Bool} {neg not wrap : IntKind → Int → Int} {mn' mx' : Int → Int → Int} {idx : Int → Option Nat}
  {len : List (List V) → Int} {get : List (List V) → Int → Option (List V)} {cut : Nat → List (List V) → Option V → Option V → Option (List (List V))} {app : Nat → Nat → List (List V) → List (List V) → Option (List (List V))} {byte : ByteArray → Int → Option Int}
  {lp : (St → Option (Ex × St)) → Nat → List Nat → Nat → St → Option (Ex × St)} {c2 : BinOp → Int → Int → Bool} {ok2 : BinOp → Int → Bool}
variable (hA : (⟨tys, ⟨op, ok, cmp, neg, not, wrap, mn', mx', idx, len, get, cut, app, byte⟩, lp⟩ : En) = ⟨tys, real, rounds⟩)
include hA
theorem eqsA : op = real.op ∧ ok = real.ok ∧ cmp = real.cmp ∧ neg = real.neg ∧ not = real.not ∧ wrap = real.wrap ∧ mn' = real.min ∧ mx' = real.max ∧ idx = real.idx ∧ len = real.len := by
  have h : (⟨op, ok, cmp, neg, not, wrap, mn', mx', idx, len, get, cut, app, byte⟩ : Ar) = real := congrArg En.ar hA
  rw [← h]; exact ⟨rfl, rfl, rfl, rfl, rfl, rfl, rfl, rfl, rfl, rfl⟩
theorem get_eq : get = real.get := congrArg (fun e : En => e.ar.get) hA
theorem app_eq : app = real.app := congrArg (fun e : En => e.ar.app) hA
theorem byte_eq : byte = real.byte := congrArg (fun e : En => e.ar.byte) hA
theorem lp_eq : lp = rounds := congrArg En.lp hA
theorem rcm (h : ∀ o a b, cmp o a b = c2 o a b) : ∀ o a b, c2 o a b = real.cmp o a b := fun o a b => by rw [← h, (eqsA hA).2.2.1]
theorem rok (h : ∀ o a, ok o a = ok2 o a) : ∀ o a, ok2 o a = real.ok o a := fun o a => by rw [← h, (eqsA hA).2.1]
omit hA
theorem c2_eq (h : ∀ o a b, c2 o a b = real.cmp o a b) : c2 = real.cmp := funext fun _ => funext fun _ => funext fun _ => h _ _ _
theorem ok2_eq (h : ∀ o a, ok2 o a = real.ok o a) : ok2 = real.ok := funext fun _ => funext fun _ => h _ _
end
end Go.Vm
