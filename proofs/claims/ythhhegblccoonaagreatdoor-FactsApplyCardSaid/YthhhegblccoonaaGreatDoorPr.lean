import Derived.Test.YthhhegblccoonaaGreatDoorV1
import Derived.Test.YthhhegblccoonaaGreatDoorDg
namespace Go.Vm
set_option linter.unusedSectionVars false
variable [Globs]
open Go.Proofs Go.Proofs.YthhhegblccoonaaGreatDoor Go.Proofs.YthhhegblccoonaaGreatDoor.P Go.RowKit Go.Proofs.YthhhegblccoonaaGreatDoorW.PrintWords Go.Proofs.YthhhegblccoonaaGreatDoorW.PrintLast Go.Proofs.YthhhegblccoonaaGreatDoorW.PrintMore
section
variable (a b : Int) (k : IntKind)
theorem rl_add64 : real.op .add .i64 a b = wrap64 (a + b) := i64_w _
theorem rl_sub64 : real.op .sub .i64 a b = wrap64 (a - b) := i64_w _
theorem rl_mul64 : real.op .mul .i64 a b = wrap64 (a * b) := i64_w _
theorem rl_addu : real.op .add .u64 a b = IntKind.u64.wrap (a + b) := rfl
theorem rl_subu : real.op .sub .u64 a b = IntKind.u64.wrap (a - b) := rfl
theorem rl_mulu : real.op .mul .u64 a b = IntKind.u64.wrap (a * b) := rfl
theorem rl_shl : real.op .shl k a b = shl k a b := rfl
theorem rl_shr : real.op .shr k a b = shr k a b := by
  show a.fdiv _ = a / _
  exact Int.fdiv_eq_ediv_of_nonneg _ (by
    have : (0 : Int) ≤ 2 ^ (min b.toNat k.bits) := Int.le_of_lt (Int.pow_pos (by omega))
    exact this)
theorem rl_and : real.op .and k a b = bits .and k a b := rfl
theorem rl_or : real.op .or k a b = bits .or k a b := rfl
theorem rl_xor : real.op .xor k a b = bits .xor k a b := rfl
theorem rl_andNot : real.op .andNot k a b = bits .andNot k a b := rfl
theorem rl_quo64 : real.op .quo .i64 a b = wrap64 (a.tdiv b) := i64_w _
theorem rl_rem64 : real.op .rem .i64 a b = a.tmod b := rfl
theorem rl_quou : real.op .quo .u64 a b = IntKind.u64.wrap (a.tdiv b) := rfl
theorem rl_remu : real.op .rem .u64 a b = a.tmod b := rfl
theorem rl_neg64 : real.neg .i64 a = wrap64 (-a) := by rw [← Int.zero_sub]; exact i64_w _
theorem rl_negu : real.neg .u64 a = IntKind.u64.wrap (-a) := by rw [← Int.zero_sub]; rfl
theorem rl_wrapu8 : real.wrap .u8 a = a % 256 := rfl
theorem rl_notu : real.not .u64 a = bits .xor .u64 18446744073709551615 a := rfl
theorem mx_0 : ((0 : Int) ≤ mx a 0) = True := by unfold mx; split <;> simp <;> omega
theorem shr_1 : shr .u64 a 1 = a / 2 := rfl
theorem shr_2 : shr .u64 a 2 = a / 4 := rfl
theorem shr_4 : shr .u64 a 4 = a / 16 := rfl
theorem shr_8 : shr .u64 a 8 = a / 256 := rfl
theorem shr_16 : shr .u64 a 16 = a / 65536 := rfl
theorem shr_32 : shr .u64 a 32 = a / 4294967296 := rfl
theorem beq_dec : (a == b) = decide (a = b) := rfl
theorem bne_dec : (a != b) = !decide (a = b) := rfl
theorem rl_eql : real.cmp .eql a b = decide (a = b) := rfl
theorem rl_neq : real.cmp .neq a b = !decide (a = b) := rfl
theorem rl_lss : real.cmp .lss a b = decide (a < b) := rfl
theorem rl_leq : real.cmp .leq a b = decide (a ≤ b) := rfl
theorem rl_gtr : real.cmp .gtr a b = decide (b < a) := rfl
theorem rl_geq : real.cmp .geq a b = decide (b ≤ a) := rfl
theorem rl_okshl : real.ok .shl b = decide (0 ≤ b) := rfl
theorem rl_okshr : real.ok .shr b = decide (0 ≤ b) := rfl
theorem rl_okquo : real.ok .quo b = !decide (b = 0) := rfl
theorem rl_okrem : real.ok .rem b = !decide (b = 0) := rfl
theorem rl_wrap64 : real.wrap .i64 a = wrap64 a := i64_w _
theorem rl_wrapu : real.wrap .u64 a = IntKind.u64.wrap a := rfl
theorem rl_min : real.min a b = mn a b := rfl
theorem rl_max : real.max a b = mx a b := rfl
end
theorem natCast_eq (n : Nat) : @NatCast.natCast Int instNatCastInt n = @Nat.cast Int instNatCastInt n := rfl
theorem rc : (∀ a b, real.cmp .eql a b = decide (a = b)) ∧ (∀ a b, real.cmp .neq a b = !decide (a = b)) ∧ (∀ a b, real.cmp .lss a b = decide (a < b)) ∧ (∀ a b, real.cmp .leq a b = decide (a ≤ b)) ∧ (∀ a b, real.cmp .gtr a b = decide (b < a)) ∧ (∀ a b, real.cmp .geq a b = decide (b ≤ a)) ∧
    (∀ (p : Prop) [Decidable p], (decide p = true) = p) ∧ (∀ (p : Prop) [Decidable p], (decide p = false) = ¬ p) ∧ (∀ b : Bool, ((!b) = true) = (b = false)) ∧ (∀ b : Bool, ((!b) = false) = (b = true)) :=
  ⟨rl_eql, rl_neq, rl_lss, rl_leq, rl_gtr, rl_geq, fun _ _ => decide_eq_true_eq, fun p _ => by simp, fun b => by simp, fun b => by simp⟩
theorem rl : (∀ a b, real.op .add .i64 a b = wrap64 (a + b)) ∧ (∀ a b, real.op .sub .i64 a b = wrap64 (a - b)) ∧ (∀ a b, real.op .mul .i64 a b = wrap64 (a * b)) ∧ (∀ a b, real.op .add .u64 a b = IntKind.u64.wrap (a + b)) ∧ (∀ a b, real.op .sub .u64 a b = IntKind.u64.wrap (a - b)) ∧
    (∀ a b, real.op .mul .u64 a b = IntKind.u64.wrap (a * b)) ∧ (∀ a b k, real.op .shl k a b = shl k a b) ∧ (∀ a b k, real.op .shr k a b = shr k a b) ∧ (∀ a b k, real.op .and k a b = bits .and k a b) ∧ (∀ a b k, real.op .or k a b = bits .or k a b) ∧ (∀ a b k, real.op .xor k a b = bits .xor k a b) ∧
    (∀ a b k, real.op .andNot k a b = bits .andNot k a b) ∧ (∀ a b, real.op .quo .i64 a b = wrap64 (a.tdiv b)) ∧ (∀ a b, real.op .rem .i64 a b = a.tmod b) ∧ (∀ a b, real.op .quo .u64 a b = IntKind.u64.wrap (a.tdiv b)) ∧ (∀ a b, real.op .rem .u64 a b = a.tmod b) ∧
    (∀ a, real.neg .i64 a = wrap64 (-a)) ∧ (∀ a, real.neg .u64 a = IntKind.u64.wrap (-a)) ∧ (∀ b, real.ok .shl b = decide (0 ≤ b)) ∧ (∀ b, real.ok .shr b = decide (0 ≤ b)) ∧ (∀ b, real.ok .quo b = !decide (b = 0)) ∧ (∀ b, real.ok .rem b = !decide (b = 0)) ∧
    (∀ a, real.wrap .i64 a = wrap64 a) ∧ (∀ a, real.wrap .u64 a = IntKind.u64.wrap a) ∧ (∀ a, real.wrap .u8 a = a % 256) ∧ (∀ a b, real.min a b = mn a b) ∧ (∀ a b, real.max a b = mx a b) ∧ (∀ a, shr .u64 a 8 = a / 256) ∧ (∀ a, shr .u64 a 16 = a / 65536) ∧ (∀ a, shr .u64 a 32 = a / 4294967296) ∧
    (∀ a b, real.cmp .eql a b = decide (a = b)) ∧ (∀ a b, real.cmp .neq a b = !decide (a = b)) ∧ (∀ a b, real.cmp .lss a b = decide (a < b)) ∧ (∀ a b, real.cmp .leq a b = decide (a ≤ b)) ∧ (∀ a b, real.cmp .gtr a b = decide (b < a)) ∧ (∀ a b, real.cmp .geq a b = decide (b ≤ a)) ∧
    (∀ (p : Prop) [Decidable p], (decide p = true) = p) ∧ (∀ (p : Prop) [Decidable p], (decide p = false) = ¬ p) ∧ (∀ b : Bool, ((!b) = true) = (b = false)) ∧ (∀ b : Bool, ((!b) = false) = (b = true)) ∧ (∀ (α : Type) (f : α → List V) (l : List α), real.len (l.map f) = (l.length : Int)) ∧ (∀ n : Nat, @NatCast.natCast Int instNatCastInt n = @Nat.cast Int instNatCastInt n) ∧ (∀ a, real.not .u64 a = bits .xor .u64 18446744073709551615 a) ∧ (∀ a, ((0 : Int) ≤ mx a 0) = True) ∧ (∀ a, shr .u64 a 1 = a / 2) ∧ (∀ a, shr .u64 a 2 = a / 4) ∧ (∀ a, shr .u64 a 4 = a / 16) :=
  ⟨rl_add64, rl_sub64, rl_mul64, rl_addu, rl_subu, rl_mulu, fun a b k => rl_shl a b k, fun a b k => rl_shr a b k, fun a b k => rl_and a b k, fun a b k => rl_or a b k, fun a b k => rl_xor a b k, fun a b k => rl_andNot a b k, rl_quo64, rl_rem64, rl_quou, rl_remu, rl_neg64, rl_negu, rl_okshl, rl_okshr, rl_okquo, rl_okrem, rl_wrap64, rl_wrapu, rl_wrapu8, rl_min, rl_max, shr_8, shr_16, shr_32,
    rl_eql, rl_neq, rl_lss, rl_leq, rl_gtr, rl_geq, fun _ _ => decide_eq_true_eq, fun p _ => by simp, fun b => by simp, fun b => by simp, fun α f l => by simp [real], natCast_eq, rl_notu, mx_0, shr_1, shr_2, shr_4⟩
end Go.Vm
/- How the functions' evaluations are told and proved, in general. -/
namespace Go.Vm
set_option linter.unusedSectionVars false
variable [Globs]
open Go.Proofs Go.Proofs.YthhhegblccoonaaGreatDoor Go.Proofs.YthhhegblccoonaaGreatDoor.P Go.RowKit Go.Proofs.YthhhegblccoonaaGreatDoorW.PrintWords Go.Proofs.YthhhegblccoonaaGreatDoorW.PrintLast Go.Proofs.YthhhegblccoonaaGreatDoorW.PrintMore
set_option linter.unusedVariables false
set_option linter.unusedSimpArgs false

theorem app_map {α : Type} (f : α → List V) (n b : Nat) (l : List α) (x : α) {e : List V} (he : e = f x) (hf : ∀ y, (f y).length = n) (hb : 0 < b) : real.app n b (l.map f) [e] = if decide (l.length < most / b) then some ((l ++ [x]).map f) else none := by
  subst he
  have h1 : ((l.map f).head?.map (·.length)).getD n = n := by cases l <;> simp [hf]
  have h2 : (([f x] : List (List V)).head?.map (·.length)).getD n = n := by simp [hf]
  have h3 : (l.length + 1) * b ≤ most ↔ l.length < most / b := by rw [← Nat.le_div_iff_mul_le hb]; exact Iff.rfl
  by_cases h : l.length < most / b
  · have h4 := h3.mpr h
    have h5 : l.length + 1 ≤ most := Nat.le_trans (Nat.le_mul_of_pos_right _ hb) h4
    simp only [real, h1, h2, List.length_map, List.length_singleton]
    simp [h, h4, h5]
  · have h4 : ¬ (l.length + 1) * b ≤ most := fun h' => h (h3.mp h')
    simp only [real, h1, h2, List.length_map, List.length_singleton]
    simp [h, h4]
theorem byte_bt (s : ByteArray) (i : Int) : real.byte s i = if decide (0 ≤ i ∧ i < s.size) then some (bt s i) else none := by
  simp only [real, bt]
  by_cases h0 : 0 ≤ i
  · by_cases h1 : i < s.size
    · have h2 : i.toNat < s.size := by omega
      simp [h0, h1, h2]
    · have h2 : ¬ i.toNat < s.size := by omega
      simp [h0, h1, h2]
  · simp [h0]
theorem get_map {α : Type} (f : α → List V) (d : α) (l : List α) (i : Int) : real.get (l.map f) i = if decide (0 ≤ i ∧ i < l.length) then some (f (l.getD i.toNat d)) else none := by
  simp only [real, realIdx]
  by_cases h0 : 0 ≤ i
  · simp only [h0, if_true, true_and, List.getElem?_map]
    by_cases h1 : i < l.length
    · have : i.toNat < l.length := by omega
      simp [h1, List.getD, this]
    · have : l.length ≤ i.toNat := by omega
      simp [h1, List.getElem?_eq_none this]
  · simp [h0]
theorem shr58 (y : Int) : ∃ t : Nat, t < 64 ∧ shr .u64 (IntKind.u64.wrap y) 58 = t := by
  refine ⟨(y % 18446744073709551616 / 288230376151711744).toNat, by omega, ?_⟩
  have e : IntKind.u64.wrap y = y % 18446744073709551616 := by simp [IntKind.wrap, IntKind.bits, IntKind.signed]
  rw [e]
  show y % 18446744073709551616 / 288230376151711744 = _
  omega

/-! ## Lists -/

/-- How an element of a list is written as cells. -/
structure Cd (α : Type) where
  enc : α → List V
  dec : List V → Option α
  z : α
  n : Nat
class CdOk {α : Type} (cd : Cd α) : Prop where
  de : ∀ x, cd.dec (cd.enc x) = some x
  inv : ∀ c x, cd.dec c = some x → c = cd.enc x
  len : ∀ x, (cd.enc x).length = cd.n
section
variable {α : Type} (cd : Cd α)
def Cd.un : List (List V) → Option (List α)
  | [] => some []
  | c :: cs => match cd.dec c, Cd.un cs with
    | some x, some l => some (x :: l)
    | _, _ => none
def Cd.m (l : List α) : List (List V) := l.map cd.enc
def Cd.rd (l : List α) (i : Int) : α := l.getD i.toNat cd.z
variable [CdOk cd]
theorem un_m : ∀ l : List α, cd.un (cd.m l) = some l
  | [] => rfl
  | x :: l => by
    have := un_m l
    unfold Cd.m at this ⊢
    rw [List.map_cons]
    simp only [Cd.un, CdOk.de, this]
omit [CdOk cd] in
variable {cd} in
theorem un_inv [CdOk cd] : ∀ {c : List (List V)} {l : List α}, cd.un c = some l → c = cd.m l
  | [], l, h => by simp [Cd.un] at h; subst h; rfl
  | c :: cs, l, h => by
    unfold Cd.un at h
    split at h
    · rename_i x l' h1 h2
      cases h
      rw [CdOk.inv _ _ h1, un_inv h2]; rfl
    · cases h
end
def cI (k : IntKind) : Cd Int := ⟨fun x => [.sc (.int k x)], fun c => match c with | [.sc (.int k' x)] => (if k' = k then some x else none) | _ => none, 0, 1⟩
instance (k : IntKind) : CdOk (cI k) := ⟨fun x => by simp [cI], fun c x h => (by
  simp only [cI] at h ⊢
  split at h
  · split at h
    · rename_i hk; cases h; rw [hk]
    · cases h
  · cases h), fun _ => rfl⟩
theorem rd_I (k : IntKind) (l : List Int) (i : Int) : (cI k).rd l i = rd l i := rfl

/-! ## What a function yields -/

/-- What a proof leaves unopened: what calls yield, and the lists behind cells. -/
abbrev CT := (α : Type) → Option α → (α → V × Heap) → Option (V × Heap)
abbrev UT := (α : Type) → Cd α → List (List V) → Option (List α)
def cm {α β : Type} (x : Option α) (f : α → β) : Option β := x.map f
def realC : CT := fun _ x f => cm x f
def realU : UT := fun _ cd c => cd.un c

abbrev Ps := List V → Heap → Option (V × Heap)
def V.i (x : Int) : V := .sc (.int .i64 x)
def V.u (x : Int) : V := .sc (.int .u64 x)
def V.y (x : Int) : V := .sc (.int .u8 x)
def V.b (x : Bool) : V := .sc (.bool x)
section
variable (C : CT) (U : UT) {α : Type}
def pI (k : IntKind) (f : Int → Ps) : Ps
  | .sc (.int k' x) :: l, h => if k' = k then f x l h else none
  | _, _ => none
abbrev pi := pI .i64
abbrev pu := pI .u64
abbrev py := pI .u8
def pb (f : Bool → Ps) : Ps
  | .sc (.bool true) :: l, h => f true l h
  | .sc (.bool false) :: l, h => f false l h
  | _, _ => none
def ps (f : ByteArray → Ps) : Ps
  | .sc (.string x) :: l, h => f x l h
  | _, _ => none
def pl (cd : Cd α) (f : List α → Ps) : Ps
  | .sl false c :: l, h => match U _ cd c with | some x => f x l h | none => none
  | _, _ => none
/-- A struct or an array of n cells. -/
def pa (n : Nat) (f : Ps) : Ps
  | .agg cs :: l, h => if cs.length = n then f (cs ++ l) h else none
  | _, _ => none
def pp (f : Ps) : Ps
  | .ptr 0 0 :: l, h => f l h
  | _, _ => none
/-- The block that was handed in. -/
def ph (f : Ps) : Ps
  | [], [cs] => f cs []
  | _, _ => none
def pr (x : Option α) (e : α → V × Heap) : Ps
  | [], [] => C _ x e
  | _, _ => none

/-- Whatever comes out meets T. -/
def On (o : Ps) (T : List V → Heap → Option (V × Heap) → Prop) : Prop := ∀ args h v h', o args h = some (v, h') → T args h (some (v, h'))
variable {C} {U} {T : List V → Heap → Option (V × Heap) → Prop}
theorem On.I {k : IntKind} {f : Int → Ps} (H : ∀ x, On (f x) fun l => T (.sc (.int k x) :: l)) : On (pI k f) T := by
  intro args h v h' e
  unfold pI at e
  split at e
  · split at e
    · rename_i hk; subst hk; exact H _ _ _ _ _ e
    · cases e
  · cases e
theorem On.b {f : Bool → Ps} (H1 : On (f true) fun l => T (.sc (.bool true) :: l)) (H2 : On (f false) fun l => T (.sc (.bool false) :: l)) : On (pb f) T := by
  intro args h v h' e
  unfold pb at e
  split at e
  · exact H1 _ _ _ _ e
  · exact H2 _ _ _ _ e
  · cases e
theorem On.s {f : ByteArray → Ps} (H : ∀ x, On (f x) fun l => T (.sc (.string x) :: l)) : On (ps f) T := by
  intro args h v h' e
  unfold ps at e
  split at e
  · exact H _ _ _ _ _ e
  · cases e
theorem On.l {cd : Cd α} {f : List α → Ps} (H : ∀ x c, U _ cd c = some x → On (f x) fun l => T (.sl false c :: l)) : On (pl U cd f) T := by
  intro args h v h' e
  unfold pl at e
  split at e
  · split at e
    · rename_i hx; exact H _ _ hx _ _ _ _ e
    · cases e
  · cases e
theorem On.a {n : Nat} {f : Ps} (H : On f fun l => T (.agg (l.take n) :: l.drop n)) : On (pa n f) T := by
  intro args h v h' e
  unfold pa at e
  split at e
  · split at e
    · rename_i hn
      have := H _ _ _ _ e
      subst hn
      simpa using this
    · cases e
  · cases e
theorem On.p {f : Ps} (H : On f fun l => T (.ptr 0 0 :: l)) : On (pp f) T := by
  intro args h v h' e
  unfold pp at e
  split at e
  · exact H _ _ _ _ e
  · cases e
theorem On.h {f : Ps} (H : On f fun cs h => T [] [cs]) : On (ph f) T := by
  intro args h v h' e
  unfold ph at e
  split at e
  · exact H _ _ _ _ e
  · cases e
theorem On.r (hC : C = realC) {x : Option α} {e : α → V × Heap} (H : ∀ r R, x = some r → some (e r) = R → T [] [] R) : On (pr C x e) T := by
  intro args h v h' he
  subst hC
  unfold pr at he
  split at he
  · obtain ⟨r, hr, hv⟩ := Option.map_eq_some_iff.mp he
    exact H r _ hr (by rw [hv])
  · cases he
end

theorem arE {op ok cmp neg not wrap mn' mx' idx len get cut app byte} (h : (⟨op, ok, cmp, neg, not, wrap, mn', mx', idx, len, get, cut, app, byte⟩ : Ar) = real) :
    op = real.op ∧ ok = real.ok ∧ cmp = real.cmp ∧ neg = real.neg ∧ not = real.not ∧ wrap = real.wrap ∧ mn' = real.min ∧ mx' = real.max ∧ idx = real.idx ∧ len = real.len ∧ get = real.get ∧ cut = real.cut ∧ app = real.app ∧ byte = real.byte := by
  rw [← h]; exact ⟨rfl, rfl, rfl, rfl, rfl, rfl, rfl, rfl, rfl, rfl, rfl, rfl, rfl, rfl⟩

/-! ## Stuck places -/

section
variable {α β : Type} {x : Option α} {f : α → β} {o : Option β} {A : Ar}
theorem mK (h : cm x f = o) {r : α} (hx : x = some r) : o = some (f r) := by rw [← h, hx]; rfl
theorem mR (h : cm x f = o) : (x = none ∧ o = none) ∨ ∃ r, x = some r ∧ o = some (f r) := by
  subst h; cases x with
  | none => exact .inl ⟨rfl, rfl⟩
  | some r => exact .inr ⟨r, rfl, rfl⟩
theorem mB {x : Option Bool} {f : Bool → β} (h : cm x f = o) : (x = none ∧ o = none) ∨ (x = some true ∧ o = some (f true)) ∨ (x = some false ∧ o = some (f false)) := by
  rcases mR h with h | ⟨_ | _, h⟩
  · exact .inl h
  · exact .inr (.inr h)
  · exact .inr (.inl h)
theorem mI {x : Option Int} {f : Int → β} (h : cm x f = o) : (x = none ∧ o = none) ∨ ∃ r, x = some r ∧ o = some (f r) := mR h
/-- Which of a pair's ends are told apart. -/
theorem mP {γ δ : Type} {x : Option (γ × δ)} {f : γ × δ → β} (h : cm x f = o) : (x = none ∧ o = none) ∨ ∃ a b, x = some (a, b) ∧ o = some (f (a, b)) := by
  rcases mR h with h | ⟨⟨_, _⟩, h⟩
  · exact .inl h
  · exact .inr ⟨_, _, h⟩
theorem mX {γ δ : Type} {p : γ × δ → Prop} (h : ∃ r, p r) : ∃ a b, p (a, b) := by obtain ⟨⟨a, b⟩, h⟩ := h; exact ⟨a, b, h⟩
theorem bP {δ : Type} {p : Bool × δ → Prop} (h : ∃ r, p r) : (∃ b, p (true, b)) ∨ ∃ b, p (false, b) := by
  obtain ⟨⟨_ | _, b⟩, h⟩ := h
  · exact .inr ⟨b, h⟩
  · exact .inl ⟨b, h⟩
theorem bX {p : Bool → Prop} (h : ∃ r, p r) : p true ∨ p false := by
  obtain ⟨_ | _, h⟩ := h
  · exact .inr h
  · exact .inl h
variable {U : UT} (hU : U = realU)
include hU
def uu {α : Type} (cd : Cd α) (c : List (List V)) : Option (List α) := cd.un c
theorem uE {α : Type} {cd : Cd α} {c : List (List V)} {o : Option (List α)} {l : List α} (hq : uu cd c = o) (h : U _ cd c = some l) : o = some l := by subst hU; rw [← hq, ← h]; rfl
theorem unU {α : Type} {cd : Cd α} [CdOk cd] {c : List (List V)} {l : List α} (h : U _ cd c = some l) : c = cd.m l := by subst hU; exact un_inv h
theorem U_m {α : Type} (cd : Cd α) [CdOk cd] (l : List α) : U _ cd (cd.m l) = some l := by subst hU; exact un_m cd l
theorem U_nil {α : Type} {cd : Cd α} : U _ cd [] = some [] := by subst hU; rfl
theorem U_cons {α : Type} {cd : Cd α} {c : List V} {cs : List (List V)} {x : α} {l : List α} (hx : cd.dec c = some x) (h : U _ cd cs = some l) : U _ cd (c :: cs) = some (x :: l) := by
  subst hU
  show Cd.un cd _ = _
  have h : cd.un cs = some l := h
  simp only [Cd.un, hx, h]
theorem getE {α : Type} {cd : Cd α} [CdOk cd] {c : List (List V)} {l : List α} {i : Int} {o : Option (List V)} (h : real.get c i = o) (hu : U _ cd c = some l) :
    ((0 ≤ i ∧ i < (l.length : Int)) ∧ ∃ x, cd.rd l i = x ∧ o = some (cd.enc x)) ∨ (¬ (0 ≤ i ∧ i < (l.length : Int)) ∧ o = none) := by
  have := unU hU hu
  subst this h
  show _ ∨ (_ ∧ real.get (l.map cd.enc) i = none)
  have hg : real.get (cd.m l) i = if decide (0 ≤ i ∧ i < l.length) then some (cd.enc (l.getD i.toNat cd.z)) else none := get_map _ _ l i
  by_cases hb : 0 ≤ i ∧ i < (l.length : Int)
  · exact .inl ⟨hb, _, rfl, by rw [hg]; simp [hb, Cd.rd]⟩
  · exact .inr ⟨hb, by rw [show l.map cd.enc = cd.m l from rfl, hg]; simp [hb]⟩
theorem appE {α : Type} {cd : Cd α} [CdOk cd] {c : List (List V)} {l : List α} {n b : Nat} {y : List V} {x : α} {o : Option (List (List V))} (h : real.app n b c [y] = o) (hu : U _ cd c = some l) (hy : cd.dec y = some x) (hn : cd.n = n) (hb : 0 < b) :
    ((l.length < most / b) ∧ ∃ c', U _ cd c' = some (l ++ [x]) ∧ o = some c') ∨ (¬ (l.length < most / b) ∧ o = none) := by
  have := unU hU hu
  subst this h hn
  have ha : real.app cd.n b (cd.m l) [y] = if decide (l.length < most / b) then some (cd.m (l ++ [x])) else none := app_map cd.enc cd.n b l x (CdOk.inv _ _ hy) CdOk.len hb
  by_cases h : l.length < most / b
  · exact .inl ⟨h, cd.m (l ++ [x]), U_m hU cd _, by rw [ha]; simp [h]⟩
  · exact .inr ⟨h, by rw [ha]; simp [h]⟩
end
theorem len_m {α : Type} (cd : Cd α) (l : List α) : real.len (cd.m l) = (l.length : Int) := by simp [real, Cd.m]
theorem byteE {s : ByteArray} {i : Int} {o : Option Int} (h : real.byte s i = o) : ((0 ≤ i ∧ i < s.size) ∧ ∃ x, bt s i = x ∧ o = some x) ∨ (¬ (0 ≤ i ∧ i < s.size) ∧ o = none) := by
  rw [byte_bt] at h
  by_cases hb : 0 ≤ i ∧ i < s.size
  · exact .inl ⟨hb, _, rfl, by rw [← h]; simp [hb]⟩
  · exact .inr ⟨hb, by rw [← h]; simp [hb]⟩

/-! ## Loops -/

/-- The list behind cells meets p. -/
def Wi (U : UT) {α : Type} (cd : Cd α) (c : List (List V)) (p : List α → Prop) : Prop := ∃ l, U _ cd c = some l ∧ p l
theorem wiE {U : UT} {α : Type} {cd : Cd α} {c : List (List V)} {p : List α → Prop} (h : Wi U cd c p) : ∃ l, U _ cd c = some l ∧ p l := h
theorem wiI {U : UT} {α : Type} {cd : Cd α} {c : List (List V)} {p : List α → Prop} {l : List α} (h : U _ cd c = some l) (hp : p l) : Wi U cd c p := ⟨l, h, hp⟩
theorem wiM {α : Type} {cd : Cd α} [CdOk cd] {p : List α → Prop} {l : List α} (hp : p l) : Wi realU cd (cd.m l) p := ⟨l, un_m cd l, hp⟩
theorem wiN {α : Type} {cd : Cd α} {p : List α → Prop} (hp : p []) : Wi realU cd [] p := ⟨[], rfl, hp⟩
/-- A loop that has still rounds to go, at most n. -/
def Go (n : Nat) (p : Nat → Prop) : Prop := ∃ q, q ≤ n ∧ p q
theorem goE {n : Nat} {p : Nat → Prop} (h : Go n p) : ∃ q, q ≤ n ∧ p q := h
theorem goI {n q : Nat} {p : Nat → Prop} (hp : p q) (h : q ≤ n) : Go n p := ⟨q, h, hp⟩

/-- One round of a loop; nx runs those that follow. -/
def roundN (body nx : St → Option (Ex × St)) (n0 : Nat) (kp : List Nat) (st : St) : Option (Ex × St) :=
  match body st with
  | some (.nrm, st') => nx ⟨maskL kp 0 (cleanL n0 st'.s), (st'.h.take n0).map (cleanL n0)⟩
  | r => r
/-- (No hypothesis that a tactic would turn.) -/
structure Box (p : Prop) : Type where
  out : p
structure Hid (p : Prop) : Prop where
  out : p
theorem loop_rule {α : Type} {P : Option (Ex × St) → Prop} {body : St → Option (Ex × St)} {n0 L : Nat} {kp : List Nat} {st : St}
    (upd : α → St → St) (inv : Nat → α → Prop) {n : Nat} {x : α} (hst : upd x st = st) (hq : inv n x) (hn : n ≤ L) (hz : ∀ y, ¬ inv 0 y)
    (hs : ∀ m, m < n → ∀ (y : α) (nx : St → Option (Ex × St)), Hid (∀ z, inv m z → P (nx (upd z st))) → inv (m + 1) y → P (roundN body nx n0 kp (upd y st))) : ∀ o, rounds body n0 kp L st = o → P o := by
  rintro o rfl
  have key : ∀ q L y, q ≤ L → q ≤ n → inv q y → P (rounds body n0 kp L (upd y st)) := by
    intro q
    induction q with
    | zero => intro L y _ _ h; exact absurd h (hz y)
    | succ q ih =>
      intro L y hL hqn h
      obtain ⟨L, rfl⟩ : ∃ m, L = m + 1 := ⟨L - 1, by omega⟩
      exact hs q (by omega) y (rounds body n0 kp L) ⟨fun z hz' => ih L z (by omega) (by omega) hz'⟩ h
  rw [← hst]
  exact key n L x hn (Nat.le_refl _) hq
theorem an {A B : Prop} (a : A) (b : B) : A ∧ B := ⟨a, b⟩
theorem pf {α β : Type} {p : α × β → Prop} (h : ∀ a b, p (a, b)) : ∀ y, p y := fun ⟨a, b⟩ => h a b
end Go.Vm
