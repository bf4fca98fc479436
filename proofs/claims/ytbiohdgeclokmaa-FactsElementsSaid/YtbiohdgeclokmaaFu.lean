import Derived.Test.YtbiohdgeclokmaaFt
import Derived.Test.YtbiohdgeclokmaaPx4
import Derived.Test.YtbiohdgeclokmaaPx6
import Derived.Test.YtbiohdgeclokmaaPx2
import Derived.Test.YtbiohdgeclokmaaPx5
/- facts.Tighten, joined with the program's functions. -/
namespace Go.Proofs.Ytbiohdgeclokmaa.Ft
set_option linter.unusedVariables false
set_option linter.unusedSimpArgs false
set_option linter.unusedSectionVars false
open Go.RowKit Go.Proofs.Ytbiohdgeclokmaa.P Go.Proofs.YtbiohdgeclokmaaW.PrintWords Wd Im Iv Tg

theorem kgood_eq (w : Int) : knownbits_good.f w = some (decide (1 ≤ w ∧ w ≤ 64)) := by
  unfold knownbits_good.f
  by_cases h : w ≥ 1
  · rw [if_pos h]; congr 1; simp; omega
  · rw [if_neg h]; congr 1; simp; omega
theorem kmask_eq {w : Int} (h : 1 ≤ w ∧ w ≤ 64) : knownbits_mask.f w = some ((2 ^ nn w - 1 : Nat) : Int) := by
  have hn := nn_of (w := w) (by omega) h.2
  unfold knownbits_mask.f
  by_cases c : w ≥ 64
  · rw [if_pos c, show nn w = 64 by omega]; rfl
  · have e : mx w 0 = (nn w : Int) := by unfold mx; rw [if_neg (by omega)]; omega
    have := pow_le63 (n := nn w) (by omega)
    have := Nat.two_pow_pos (nn w)
    have := pnat (nn w)
    rw [if_neg c, e, shl_one (by omega), wrap_u64]
    exact congrArg some (by omega)
theorem or_lt_iff {a b n : Nat} : a ||| b < 2 ^ n ↔ a < 2 ^ n ∧ b < 2 ^ n :=
  ⟨fun h => ⟨Nat.lt_of_le_of_lt Nat.left_le_or h, Nat.lt_of_le_of_lt Nat.right_le_or h⟩, fun h => or_lt h.1 h.2⟩
def KV (w : Int) (z o : Nat) : Prop := (1 ≤ w ∧ w ≤ 64) ∧ z < 2 ^ nn w ∧ o < 2 ^ nn w ∧ z &&& o = 0
instance (w : Int) (z o : Nat) : Decidable (KV w z o) := by unfold KV; infer_instance
def FV (w : Int) (z o : Nat) (lo hi l m : Int) : Prop := KV w z o ∧ Valid w lo hi l m
instance (w : Int) (z o : Nat) (lo hi l m : Int) : Decidable (FV w z o lo hi l m) := by unfold FV; infer_instance
def FC (w : Int) (z o : Nat) (lo hi l m : Int) (x : Nat) : Prop := x &&& z = 0 ∧ x &&& o = o ∧ Contains w lo hi l m x
instance (w : Int) (z o : Nat) (lo hi l m : Int) (x : Nat) : Decidable (FC w z o lo hi l m x) := by unfold FC; infer_instance
theorem fmask_lt (w : Int) : 2 ^ nn w - 1 < 18446744073709551616 := up (nn_le w) (by have := Nat.two_pow_pos (nn w); omega)
theorem izero {n : Nat} : ((n : Int) = 0) ↔ n = 0 := by omega
theorem topI {z : Nat} (hz : z < 18446744073709551616) (w : Int) : Go.bits .andNot .u64 ((2 ^ nn w - 1 : Nat) : Int) (z : Int) = ((top (nn w) z : Nat) : Int) := nandn (fmask_lt w) hz
section
variable {z o : Nat} (hz : z < 18446744073709551616) (ho : o < 18446744073709551616)
include hz ho
theorem kv_core {w : Int} (h : 1 ≤ w ∧ w ≤ 64) : (if Go.bits .andNot .u64 (Go.bits .or .u64 (z : Int) o) ((2 ^ nn w - 1 : Nat) : Int) = 0 then some (Go.bits .and .u64 (z : Int) o == 0) else some false) = some (decide (KV w z o)) := by
  have hzo : z ||| o < 18446744073709551616 := or_lt (n := 64) hz ho
  rw [nor hz ho, nandn hzo (fmask_lt w), nand hz ho]
  by_cases c : z < 2 ^ nn w ∧ o < 2 ^ nn w
  · rw [if_pos (izero.2 (within.2 (or_lt_iff.2 c)))]
    congr 1
    by_cases d : z &&& o = 0
    · rw [decide_eq_true (show KV w z o from ⟨h, c.1, c.2, d⟩), d]; rfl
    · rw [decide_eq_false (fun h' : KV w z o => d h'.2.2.2)]
      simpa using d
  · rw [if_neg (fun h' => c (or_lt_iff.1 (within.1 (izero.1 h')))), decide_eq_false (fun h' : KV w z o => c ⟨h'.2.1, h'.2.2.1⟩)]
theorem kvalid_eq (w : Int) : knownbits_Valid.f w z o = some (decide (KV w z o)) := by
  unfold knownbits_Valid.f
  rw [kgood_eq, Option.bind_some]
  by_cases h : 1 ≤ w ∧ w ≤ 64
  · rw [if_pos (decide_eq_true h), kmask_eq h, Option.bind_some]
    exact kv_core hz ho h
  · rw [if_neg (by simpa using h), decide_eq_false (fun h' : KV w z o => h h'.1)]
theorem rkvalid_eq (w : Int) {k : Nat} (hk : 64 < k) : jacquardref12_Valid.f k w z o = some (decide (KV w z o)) := by
  unfold jacquardref12_Valid.f
  by_cases h1 : w ≥ 1
  · rw [if_pos h1]
    by_cases h2 : w ≤ 64
    · rw [if_pos h2, rmask_eq (by omega) hk, Option.bind_some, mnat]
      exact kv_core hz ho ⟨h1, h2⟩
    · rw [if_neg h2, decide_eq_false (fun h' : KV w z o => h2 h'.1.2)]
  · rw [if_neg h1, decide_eq_false (fun h' : KV w z o => h1 h'.1.1)]
theorem fvalid_eq (w lo hi l m : Int) : facts_Valid.f w z o lo hi l m = some (decide (FV w z o lo hi l m)) := by
  unfold facts_Valid.f
  simp only [facts_known.f, facts_span.f, Option.bind_some, kvalid_eq hz ho, valid_eq]
  by_cases h : KV w z o
  · rw [if_pos (decide_eq_true h)]
    by_cases h2 : Valid w lo hi l m <;> simp [FV, h, h2]
  · rw [if_neg (by simpa using h), decide_eq_false (fun h' : FV w z o lo hi l m => h h'.1)]
theorem rfvalid_eq (w lo hi l m : Int) {k : Nat} (hk : 64 < k) : jacquardref14_Valid.f k w z o lo hi l m = some (decide (FV w z o lo hi l m)) := by
  unfold jacquardref14_Valid.f
  simp only [jacquardref14_bits.f, jacquardref14_span.f, Option.bind_some, rkvalid_eq hz ho w hk, rvalid_eq w lo hi l m hk]
  by_cases h : KV w z o
  · rw [if_pos (decide_eq_true h)]
    by_cases h2 : Valid w lo hi l m <;> simp [FV, h, h2]
  · rw [if_neg (by simpa using h), decide_eq_false (fun h' : FV w z o lo hi l m => h h'.1)]
theorem fcontains_eq (w lo hi l m : Int) {x : Nat} (hx : x < 18446744073709551616) : facts_Contains.f w z o lo hi l m x = some (decide (FC w z o lo hi l m x)) := by
  unfold facts_Contains.f
  simp only [facts_known.f, facts_span.f, Option.bind_some, contains_eq w lo hi l m (show 0 ≤ (x : Int) ∧ (x : Int) < 18446744073709551616 by omega), knownbits_Contains.f, nand hx hz, nand hx ho]
  by_cases h1 : x &&& z = 0
  · rw [if_pos (izero.2 h1)]
    by_cases h2 : x &&& o = o
    · rw [Option.bind_some, if_pos (by rw [h2]; simp)]
      by_cases h3 : Contains w lo hi l m x <;> simp [FC, h1, h2, h3]
    · rw [Option.bind_some, if_neg (by simp; omega), decide_eq_false (fun h' : FC w z o lo hi l m x => h2 h'.2.1)]
  · rw [if_neg (fun h => h1 (izero.1 h)), Option.bind_some, if_neg (by decide), decide_eq_false (fun h' : FC w z o lo hi l m x => h1 h'.1)]
/-! ### Tighten -/
theorem impl_pre {w lo hi l m : Int} (hv : FV w z o lo hi l m) (k : Nat) :
    facts_Tighten.f (k + 2) w z o lo hi l m = facts_Tighten.j2 k w ((2 ^ nn w - 1 : Nat) : Int) (decide (mx lo o > mn hi (top (nn w) z) ∨ mx l (sg (nn w) (lowS (nn w) z o)) > mn m (sg (nn w) (highS (nn w) z o)))) z o (mx lo o) (mn hi (top (nn w) z)) (mx l (sg (nn w) (lowS (nn w) z o))) (mn m (sg (nn w) (highS (nn w) z o))) := by
  have hk := hv.1
  have hn := nn_of (w := w) (by have := hk.1; omega) hk.1.2
  have hn1 : 1 ≤ nn w := by have := hk.1; omega
  have hn64 := nn_le w
  have hS := up hn64 (pow_lt hn1)
  have hT := up hn64 (top_lt (nn w) z)
  have e : wrap64 (w - 1) = ((nn w - 1 : Nat) : Int) := by rw [wrap64_id (by have := hk.1; omega) (by have := hk.1; omega)]; omega
  have J1 : ∀ (lw hg : Nat), lw < 2 ^ nn w → hg < 2 ^ nn w → facts_Tighten.j1 (k + 1) w ((2 ^ nn w - 1 : Nat) : Int) lw hg z o (mx lo o) (mn hi (top (nn w) z)) l m = facts_Tighten.j2 k w ((2 ^ nn w - 1 : Nat) : Int) (decide (mx lo o > mn hi (top (nn w) z) ∨ mx l (sg (nn w) lw) > mn m (sg (nn w) hg))) z o (mx lo o) (mn hi (top (nn w) z)) (mx l (sg (nn w) lw)) (mn m (sg (nn w) hg)) := by
    intro lw hg h1 h2
    have := up hn64 h1
    have := up hn64 h2
    rw [facts_Tighten.j1, signed_eq w (by omega), Option.bind_some, signed_eq w (by omega), Option.bind_some]
    by_cases c : mx lo o > mn hi (top (nn w) z)
    · rw [if_pos c, decide_eq_true (Or.inl c)]
    · rw [if_neg c]
      congr 1
      rw [Bool.eq_iff_iff]; simp [c]
  unfold facts_Tighten.f
  rw [fvalid_eq hz ho, Option.bind_some, if_pos (decide_eq_true hv), mask_eq, Option.bind_some, mnat, e, if_pos (by omega), shl_one (by omega), nand hz hS, nor ho hS, topI hz w]
  have J0 : ∀ lw : Nat, lw < 2 ^ nn w → facts_Tighten.j0 (k + 2) w ((2 ^ nn w - 1 : Nat) : Int) ((2 ^ (nn w - 1) : Nat) : Int) lw (top (nn w) z : Nat) z o (mx lo o) (mn hi (top (nn w) z : Nat)) l m = facts_Tighten.j1 (k + 1) w ((2 ^ nn w - 1 : Nat) : Int) lw (highS (nn w) z o : Nat) z o (mx lo o) (mn hi (top (nn w) z : Nat)) l m := by
    intro lw h1
    rw [facts_Tighten.j0, nand ho hS, nandn hT hS]
    unfold highS
    by_cases c : o &&& 2 ^ (nn w - 1) = 0
    · rw [if_pos (izero.2 c), if_pos c]
    · rw [if_neg (fun h => c (izero.1 h)), if_neg c]
  by_cases c : z &&& 2 ^ (nn w - 1) = 0
  · have e2 : lowS (nn w) z o = o ||| 2 ^ (nn w - 1) := by unfold lowS; rw [if_pos c]
    have := or_lt hk.2.2.1 (pow_lt hn1)
    rw [if_pos (izero.2 c), J0 _ this, J1 _ _ this highS_lt, e2]
  · have e2 : lowS (nn w) z o = o := by unfold lowS; rw [if_neg c]
    rw [if_neg (fun h => c (izero.1 h)), J0 _ hk.2.2.1, J1 _ _ hk.2.2.1 highS_lt, e2]
end
theorem bitI (a i : Nat) : (a : Int) / 2 ^ i % 2 = if a.testBit i = true then 1 else 0 := by
  rw [pnat]
  have e : ((a : Int) / ((2 ^ i : Nat) : Int)) % 2 = ((a / 2 ^ i % 2 : Nat) : Int) := by norm_cast
  rw [e, Nat.testBit_eq_decide_div_mod_eq]
  by_cases c : a / 2 ^ i % 2 = 1
  · rw [c]; simp
  · rw [show a / 2 ^ i % 2 = 0 by omega]; simp
theorem nbit {a i : Nat} (ha : a < 18446744073709551616) (hi : i ≤ 64) : jacquardref12_Bit.f (a : Int) (i : Int) = some (if a.testBit i = true then 1 else 0) := by
  rw [bit_eq (by omega) (by omega), Int.toNat_natCast, bitI]
section
variable {z o : Nat} (hz : z < 18446744073709551616) (ho : o < 18446744073709551616)
include hz ho
theorem rsl_eq {w : Int} (hv : KV w z o) {k : Nat} (hk : 64 < k) : jacquardref12_SignedLimits.f k w z o = some (sg (nn w) (lowS (nn w) z o), sg (nn w) (highS (nn w) z o)) := by
  have hw := hv.1
  have hn := nn_of (w := w) (by omega) hw.2
  have hn1 : 1 ≤ nn w := by omega
  have hn64 := nn_le w
  have hS := up hn64 (pow_lt hn1)
  have hT := up hn64 (top_lt (nn w) z)
  have e : wrap64 (w - 1) = ((nn w - 1 : Nat) : Int) := by rw [wrap64_id (by omega) (by omega)]; omega
  have R : ∀ y : Nat, y < 2 ^ nn w → jacquardref12_Signed.f k w (y : Int) = some (sg (nn w) y) := fun y hy => rsg_eq hw (by omega) (by rw [pnat]; omega) hk
  unfold jacquardref12_SignedLimits.f jacquardref12_Known.f
  rw [rmask_eq (by omega) hk, Option.bind_some, mnat, e, nbit ho (by omega), Option.bind_some, nbit hz (by omega)]
  have dz := (disj.1 hv.2.2.2) (nn w - 1)
  by_cases c1 : o.testBit (nn w - 1) = true
  · have cz : z.testBit (nn w - 1) = false := by simpa [c1] using dz
    have eA : lowS (nn w) z o = o := by
      unfold lowS; rw [if_pos ((sbit _ _).2 cz)]
      apply Nat.eq_of_testBit_eq; intro i
      rw [Nat.testBit_or, Nat.testBit_two_pow]
      by_cases ei : nn w - 1 = i
      · subst ei; simp [c1]
      · simp [ei]
    have eB : highS (nn w) z o = top (nn w) z := by unfold highS; rw [if_neg (by rw [sbit, c1]; decide)]
    rw [if_pos c1, if_pos rfl, Option.bind_some, if_neg (by decide), R o hv.2.2.1, Option.bind_some, topI hz w, R _ (top_lt (nn w) z), Option.bind_some, eA, eB]
  · have c1' : o.testBit (nn w - 1) = false := by simpa using c1
    rw [if_neg c1, if_neg (by decide)]
    by_cases c2 : z.testBit (nn w - 1) = true
    · have eA : lowS (nn w) z o = o := by unfold lowS; rw [if_neg (by rw [sbit, c2]; decide)]
      have eB : highS (nn w) z o = top (nn w) z := by
        unfold highS; rw [if_pos ((sbit _ _).2 c1')]
        apply Nat.eq_of_testBit_eq; intro i
        rw [tb_ndiff, Nat.testBit_two_pow]
        by_cases ei : nn w - 1 = i
        · subst ei; unfold top; rw [tb_ndiff, c2]; simp
        · simp [ei]
      rw [if_pos c2]
      simp only [Option.bind_some, if_true]
      rw [if_neg (by decide), R o hv.2.2.1, Option.bind_some, topI hz w, R _ (top_lt (nn w) z), Option.bind_some, eA, eB]
    · have c2' : z.testBit (nn w - 1) = false := by simpa using c2
      have eA : lowS (nn w) z o = o ||| 2 ^ (nn w - 1) := by unfold lowS; rw [if_pos ((sbit _ _).2 c2')]
      have eB : highS (nn w) z o = ndiff (top (nn w) z) (2 ^ (nn w - 1)) := by unfold highS; rw [if_pos ((sbit _ _).2 c1')]
      rw [if_neg c2, Option.bind_some, if_neg (by decide), Option.bind_some, if_pos (by decide), if_pos (by omega), shl_one (by omega), nor ho hS, topI hz w, R _ (or_lt hv.2.2.1 (pow_lt hn1)), Option.bind_some]
      rw [nandn hT hS, R _ (ndiff_lt (top_lt (nn w) z)), Option.bind_some, eA, eB]
theorem ref_pre {w lo hi l m : Int} (hv : FV w z o lo hi l m) {k : Nat} (hk : 64 < k) :
    jacquardref14_Tighten.f k w z o lo hi l m = (jacquardref13_Tighten.f k w (mx o lo) (mn (top (nn w) z) hi) (mx (sg (nn w) (lowS (nn w) z o)) l) (mn (sg (nn w) (highS (nn w) z o)) m)).bind fun t => (if t.2.2.2.2 = true then (jacquardref14_Tighten.l0 k ((nn w - 1 : Nat) : Int) 0 0 0 0 0 0 t.1 t.2.1 t.2.2.1 t.2.2.2.1 z o) else (some (0, 0, 0, 0, 0, 0, false))) := by
  have hw := hv.1.1
  have hn := nn_of (w := w) (by omega) hw.2
  have e : wrap64 (w - 1) = ((nn w - 1 : Nat) : Int) := by rw [wrap64_id (by omega) (by omega)]; omega
  unfold jacquardref14_Tighten.f
  rw [rfvalid_eq hz ho w lo hi l m hk, Option.bind_some, if_pos (decide_eq_true hv), jacquardref14_bits.f, Option.bind_some, rsl_eq hz ho hv.1 hk, jacquardref12_Limits.f, rmask_eq (by omega) hk, Option.bind_some, Option.bind_some, Option.bind_some, mnat, topI hz w, e]
end
def fin (z o : Nat) (a b c d : Int) : Int × Int × Int × Int × Int × Int × Bool := if z &&& o = 0 then ((z : Int), (o : Int), a, b, c, d, true) else (0, 0, 0, 0, 0, 0, false)
theorem impl_post {w : Int} {z o a b : Nat} {l1 m1 : Int} (hz : z < 2 ^ nn w) (ho : o < 2 ^ nn w) (L1 H1 : Int) {c d : Int} {k : Nat} (ha : a < 18446744073709551616) (hb : b < 18446744073709551616)
    (ht : interval_Tighten.f (k + 1) w L1 H1 l1 m1 = some ((a : Int), (b : Int), c, d, true)) {L : Nat} (hL : bits_Len64.f (k + 1) ((a ^^^ b : Nat) : Int) = some (L : Int)) (hL64 : L ≤ 64) :
    facts_Tighten.j2 (k + 2) w ((2 ^ nn w - 1 : Nat) : Int) false z o L1 H1 l1 m1 = some (fin (zf (nn w) L z a) (of (nn w) L o a) a b c d) := by
  have hn64 := nn_le w
  have hz' := up hn64 hz
  have ho' := up hn64 ho
  have hnL : nn (L : Int) = L := by have := nn_of (w := (L : Int)) (by omega) (by omega); omega
  have eZ : Go.bits .or .u64 (z : Int) (Go.bits .and .u64 (Go.bits .xor .u64 18446744073709551615 (a : Int)) (Go.bits .andNot .u64 ((2 ^ nn w - 1 : Nat) : Int) ((2 ^ L - 1 : Nat) : Int))) = ((zf (nn w) L z a : Nat) : Int) := by
    have h1 : 18446744073709551615 ^^^ a < 18446744073709551616 := Nat.xor_lt_two_pow (n := 64) (by omega) ha
    have h2 := up hn64 (free_lt (nn w) L)
    have h3 : (2 ^ L - 1) < 18446744073709551616 := up hL64 (by have := Nat.two_pow_pos L; omega)
    have e1 := nxor (a := 18446744073709551615) (b := a) (by omega) ha
    have e2 : Go.bits .andNot .u64 ((2 ^ nn w - 1 : Nat) : Int) ((2 ^ L - 1 : Nat) : Int) = ((free (nn w) L : Nat) : Int) := nandn (fmask_lt w) h3
    rw [show (18446744073709551615 : Int) = ((18446744073709551615 : Nat) : Int) from rfl, e1, e2, nand h1 h2, nor hz' (Nat.lt_of_le_of_lt Nat.and_le_right h2)]
    congr 1
    apply Nat.eq_of_testBit_eq
    intro j
    rw [tb_zf, Nat.testBit_or, Nat.testBit_and, Nat.testBit_xor, tb_free, show (18446744073709551615 : Nat) = 2 ^ 64 - 1 from rfl, tb_F]
    by_cases h4 : j < nn w
    · rw [decide_eq_true (show j < 64 by omega)]
      cases z.testBit j <;> cases a.testBit j <;> simp [h4]
    · simp [h4]
  have eO : Go.bits .or .u64 (o : Int) (Go.bits .and .u64 (a : Int) (Go.bits .andNot .u64 ((2 ^ nn w - 1 : Nat) : Int) ((2 ^ L - 1 : Nat) : Int))) = ((of (nn w) L o a : Nat) : Int) := by
    have h2 := up hn64 (free_lt (nn w) L)
    have h3 : (2 ^ L - 1) < 18446744073709551616 := up hL64 (by have := Nat.two_pow_pos L; omega)
    have e2 : Go.bits .andNot .u64 ((2 ^ nn w - 1 : Nat) : Int) ((2 ^ L - 1 : Nat) : Int) = ((free (nn w) L : Nat) : Int) := nandn (fmask_lt w) h3
    rw [e2, nand ha h2, nor ho' (Nat.lt_of_le_of_lt Nat.and_le_right h2)]; rfl
  have hZ := up hn64 (zf_lt (L := L) (lo := a) hz)
  have hO := up hn64 (of_lt (L := L) (lo := a) ho)
  rw [facts_Tighten.j2, if_neg (by decide), facts_span.f, Option.bind_some, ht, Option.bind_some]
  dsimp only
  rw [if_pos rfl, nxor ha hb, hL, Option.bind_some, mask_eq, hnL, mnat, Option.bind_some, eZ, eO, nand hZ hO]
  unfold fin
  by_cases c : zf (nn w) L z a &&& of (nn w) L o a = 0
  · rw [if_pos (izero.2 c), if_pos c]; rfl
  · rw [if_neg (fun h => c (izero.1 h)), if_neg c]
theorem ref_loop {n : Nat} (hn : n ≤ 64) {a b L : Nat} (ha : a < 2 ^ n) (hb : b < 2 ^ n) (hx : a ^^^ b < 2 ^ L) (hx2 : L = 0 ∨ 1 ≤ L ∧ 2 ^ (L - 1) ≤ a ^^^ b) (Z O : Nat) (c d : Int) :
    ∀ (e i z o : Nat), i = L + e → i ≤ n → z < 2 ^ n → o < 2 ^ n → (∀ j, z.testBit j = (Z.testBit j || (decide (i ≤ j) && decide (j < n) && !a.testBit j))) → (∀ j, o.testBit j = (O.testBit j || (decide (i ≤ j) && decide (j < n) && a.testBit j))) →
    ∀ k, jacquardref14_Tighten.l0 (k + 2 * e + 2) ((i : Int) - 1) 0 0 0 0 0 0 a b c d z o = some (fin (zf n L Z a) (of n L O a) a b c d) := by
  have ha64 := up hn ha
  have hb64 := up hn hb
  have xb : ∀ j, (a ^^^ b).testBit j = (a.testBit j ^^ b.testBit j) := fun j => Nat.testBit_xor ..
  intro e
  induction e with
  | zero =>
    intro i z o hi hin hz ho hzj hoj k
    have hiL : i = L := by omega
    subst hiL
    have ez : z = zf n i Z a := Nat.eq_of_testBit_eq fun j => by rw [hzj, tb_zf]
    have eo : o = of n i O a := Nat.eq_of_testBit_eq fun j => by rw [hoj, tb_of]
    have fj : jacquardref14_Tighten.j1 (k + 1) ((i : Int) - 1) false 0 0 0 0 0 0 a b c d z o = some (fin z o a b c d) := by
      rw [jacquardref14_Tighten.j1, if_neg (by decide), nand (up hn hz) (up hn ho)]
      unfold fin
      by_cases h : z &&& o = 0
      · rw [if_pos (izero.2 h), if_pos h]; rfl
      · rw [if_neg (fun h' => h (izero.1 h')), if_neg h]
    rw [← ez, ← eo, ← fj, show k + 2 * 0 + 2 = (k + 1) + 1 by omega, jacquardref14_Tighten.l0]
    rcases hx2 with h0 | ⟨h0, h1⟩
    · rw [if_neg (by omega)]
    · rw [if_pos (by omega), show (i : Int) - 1 = ((i - 1 : Nat) : Int) by omega, nbit ha64 (by omega), Option.bind_some, nbit hb64 (by omega), Option.bind_some]
      have ht := (tb_top h0 hx).2 h1
      rw [xb] at ht
      have hne : ((if a.testBit (i - 1) = true then (1 : Int) else 0) == (if b.testBit (i - 1) = true then (1 : Int) else 0)) = false := by
        revert ht
        cases a.testBit (i - 1) <;> cases b.testBit (i - 1) <;> simp
      rw [hne]
  | succ e ih =>
    intro i z o hi hin hz ho hzj hoj k
    have hs : shl .u64 1 ((i - 1 : Nat) : Int) = ((2 ^ (i - 1) : Nat) : Int) := shl_one (by omega)
    have hp : 2 ^ (i - 1) < 2 ^ n := Nat.pow_lt_pow_right (by decide) (by omega)
    have same : a.testBit (i - 1) = b.testBit (i - 1) := by
      have := tb_big (i := i - 1) hx (by omega)
      rw [xb] at this
      cases p : a.testBit (i - 1) <;> cases q : b.testBit (i - 1) <;> simp_all
    have ih' := fun z o h1 h2 h3 h4 => ih (i - 1) z o (by omega) (by omega) h1 h2 h3 h4 k
    rw [show k + 2 * (e + 1) + 2 = ((k + 2 * e + 2) + 1) + 1 by omega, jacquardref14_Tighten.l0, if_pos (by omega), show (i : Int) - 1 = ((i - 1 : Nat) : Int) by omega, nbit ha64 (by omega), Option.bind_some, nbit hb64 (by omega), Option.bind_some, same, beq_self_eq_true, jacquardref14_Tighten.j1, if_pos rfl, nbit ha64 (by omega), Option.bind_some, same, wrap64_id (by omega) (by omega), hs, nor (up hn ho) (up hn hp), nor (up hn hz) (up hn hp)]
    cases q : b.testBit (i - 1) with
    | true =>
      rw [if_pos rfl, if_pos rfl, if_pos (by omega)]
      apply ih' _ _ hz (or_lt ho hp)
      · intro j
        rw [hzj]
        by_cases e1 : j = i - 1
        · subst e1; rw [same, q]; simp
        · by_cases h1 : i ≤ j
          · simp [h1, show i - 1 ≤ j by omega]
          · simp [h1, show ¬ i - 1 ≤ j by omega]
      · intro j
        rw [Nat.testBit_or, hoj, Nat.testBit_two_pow]
        by_cases e1 : i - 1 = j
        · subst e1; rw [same, q]; simp; right; omega
        · by_cases h1 : i ≤ j
          · simp [h1, e1, show i - 1 ≤ j by omega]
          · simp [h1, e1, show ¬ i - 1 ≤ j by omega]
    | false =>
      rw [if_neg (show ¬ (false = true) by decide), if_neg (show ¬ ((0 : Int) = 1) by decide), if_pos (show (0 : Int) ≤ ((i - 1 : Nat) : Int) by omega)]
      apply ih' _ _ (or_lt hz hp) ho
      · intro j
        rw [Nat.testBit_or, hzj, Nat.testBit_two_pow]
        by_cases e1 : i - 1 = j
        · subst e1; rw [same, q]; simp; right; omega
        · by_cases h1 : i ≤ j
          · simp [h1, e1, show i - 1 ≤ j by omega]
          · simp [h1, e1, show ¬ i - 1 ≤ j by omega]
      · intro j
        rw [hoj]
        by_cases e1 : j = i - 1
        · subst e1; rw [same, q]; simp
        · by_cases h1 : i ≤ j
          · simp [h1, show i - 1 ≤ j by omega]
          · simp [h1, show ¬ i - 1 ≤ j by omega]
/-- What is known of a result of Tighten. -/
def Post (w : Int) (z o : Nat) (lo hi l m : Int) (r : Int × Int × Int × Int × Int × Int × Bool) : Prop :=
  (¬ FV w z o lo hi l m → r = (0, 0, 0, 0, 0, 0, false)) ∧
  (FV w z o lo hi l m → (r = (0, 0, 0, 0, 0, 0, false) ∧ ∀ x : Nat, x < 18446744073709551616 → ¬ FC w z o lo hi l m x) ∨
    ∃ (z' o' : Nat) (a b c d : Int), r = ((z' : Int), (o' : Int), a, b, c, d, true) ∧ z' < 2 ^ nn w ∧ o' < 2 ^ nn w ∧ ndiff z z' = 0 ∧ ndiff o o' = 0 ∧ lo ≤ a ∧ b ≤ hi ∧ l ≤ c ∧ d ≤ m ∧
      ∀ x : Nat, x < 18446744073709551616 → (FC w z' o' a b c d x ↔ FC w z o lo hi l m x))
theorem fc_iff {w : Int} {z o x : Nat} {lo hi l m : Int} (hw : 1 ≤ w ∧ w ≤ 64) : FC w z o lo hi l m x ↔ x < 2 ^ nn w ∧ x &&& z = 0 ∧ x &&& o = o ∧ In (nn w) lo hi l m x := by
  have hp := pnat (nn w)
  have := Nat.two_pow_pos (nn w)
  unfold FC Contains In
  constructor
  · rintro ⟨h1, h2, _, h4, h5⟩; exact ⟨by omega, h1, h2, h5⟩
  · rintro ⟨h1, h2, h3, h4⟩; exact ⟨h2, h3, hw, by omega, h4⟩
theorem mx_comm (a b : Int) : mx a b = mx b a := by unfold mx; split <;> split <;> omega
theorem mn_comm (a b : Int) : mn a b = mn b a := by unfold mn; split <;> split <;> omega
/-- A fact whose limits were drawn in by its bits contains the same words. -/
theorem drawn {w : Int} {z o : Nat} {lo hi l m : Int} (hv : FV w z o lo hi l m) {x : Nat} : FC w z o lo hi l m x ↔ FC w z o (mx lo o) (mn hi (top (nn w) z)) (mx l (sg (nn w) (lowS (nn w) z o))) (mn m (sg (nn w) (highS (nn w) z o))) x := by
  have hw := hv.1.1
  have hn := nn_of (w := w) (by omega) hw.2
  rw [fc_iff hw, fc_iff hw]
  have f1 := mx_facts lo o
  have f2 := mn_facts hi (top (nn w) z)
  have f3 := mx_facts l (sg (nn w) (lowS (nn w) z o))
  have f4 := mn_facts m (sg (nn w) (highS (nn w) z o))
  unfold In
  constructor
  · rintro ⟨h1, h2, h3, h4, h5, h6, h7⟩
    have := lims (n := nn w) (by omega) hv.1.2.1 hv.1.2.2.1 h1 h2 h3
    exact ⟨h1, h2, h3, by omega, by omega, by omega, by omega⟩
  · rintro ⟨h1, h2, h3, h4, h5, h6, h7⟩
    exact ⟨h1, h2, h3, by omega, by omega, by omega, by omega⟩
theorem tighten_main (w : Int) {z o : Nat} {lo hi l m : Int} (hz : z < 18446744073709551616) (ho : o < 18446744073709551616) (hlo : 0 ≤ lo) (k : Nat) :
    ∃ r, facts_Tighten.f (k + 300) w z o lo hi l m = some r ∧ jacquardref14_Tighten.f (k + 300) w z o lo hi l m = some r ∧ Post w z o lo hi l m r := by
  by_cases hv : FV w z o lo hi l m
  · have hw := hv.1.1
    have hn := nn_of (w := w) (by omega) hw.2
    have hn1 : 1 ≤ nn w := by omega
    have hn64 := nn_le w
    have hz' := hv.1.2.1
    have ho' := hv.1.2.2.1
    have hp := pnat (nn w)
    have hp1 := pnat (nn w - 1)
    have hpl := pow_lt hn1
    have hps := pow_succ' hn1
    obtain ⟨_, v1, v2, v3, v4, v5⟩ := hv.2
    have e1 := impl_pre hz ho hv (k + 298)
    have e2 := ref_pre hz ho hv (k := k + 300) (by omega)
    rw [mx_comm o lo, mn_comm _ hi, mx_comm _ l, mn_comm _ m] at e2
    have hd : ∀ x : Nat, _ := fun x => drawn hv (x := x)
    have f1 := mx_facts lo o
    have f2 := mn_facts hi (top (nn w) z)
    have f3 := mx_facts l (sg (nn w) (lowS (nn w) z o))
    have f4 := mn_facts m (sg (nn w) (highS (nn w) z o))
    have g1 := sg_range hn1 (lowS (nn w) z o)
    have g2 := sg_range hn1 (highS (nn w) z o)
    have g3 := top_lt (nn w) z
    have g4 := pow_le63 (n := nn w - 1) (by omega)
    generalize mx lo o = L1 at *
    generalize mn hi (top (nn w) z) = H1 at *
    generalize mx l (sg (nn w) (lowS (nn w) z o)) = l1 at *
    generalize mn m (sg (nn w) (highS (nn w) z o)) = m1 at *
    rw [rtighten_eq w L1 H1 l1 m1 (by omega) ⟨by omega, by omega⟩ (by omega), Option.bind_some] at e2
    have e3 := tighten_eq w L1 H1 l1 m1 (by omega) ⟨by omega, by omega⟩ (k + 294)
    by_cases c : L1 > H1 ∨ l1 > m1
    · refine ⟨(0, 0, 0, 0, 0, 0, false), ?_, ?_, fun h => absurd hv h, fun _ => .inl ⟨rfl, fun x _ hx => ?_⟩⟩
      · rw [e1, decide_eq_true c, facts_Tighten.j2, if_pos rfl]
      · rw [e2, if_neg (fun h : Valid w L1 H1 l1 m1 => by have a := h.2.1; have b := h.2.2.2.2.1; omega)]; rfl
      · rw [hd, fc_iff hw] at hx
        obtain ⟨_, _, _, h4, h5, h6, h7⟩ := hx
        omega
    · have hV : Valid w L1 H1 l1 m1 := ⟨hw, by omega, by omega, by omega, by omega, by omega⟩
      rw [if_pos hV] at e2 e3
      rw [decide_eq_false c] at e1
      rcases tight_form hn1 (show 0 ≤ L1 by omega) (Bd.of hV) with ⟨h1, h2⟩ | ⟨a, b, c, d, h1, h2, h3, h4, h5, h6, h7, h8, h9⟩
      · rw [h1] at e2 e3
        refine ⟨(0, 0, 0, 0, 0, 0, false), ?_, ?_, fun h => absurd hv h, fun _ => .inl ⟨rfl, fun x _ hx => ?_⟩⟩
        · rw [e1, facts_Tighten.j2, if_neg (by decide), facts_span.f, Option.bind_some, e3, Option.bind_some]; rfl
        · rw [e2]; rfl
        · rw [hd, fc_iff hw] at hx
          obtain ⟨q1, _, _, q4⟩ := hx
          exact h2 x (by omega) (by omega) q4
      · obtain ⟨b1, b2, b3, b4, b5⟩ := h2
        obtain ⟨A, rfl⟩ := Int.eq_ofNat_of_zero_le h3
        obtain ⟨B, rfl⟩ := Int.eq_ofNat_of_zero_le (show 0 ≤ b by omega)
        rw [h1] at e2 e3
        have hA : A < 2 ^ nn w := by omega
        have hB : B < 2 ^ nn w := by omega
        have hA64 := up hn64 hA
        have hB64 := up hn64 hB
        have hX : A ^^^ B < 2 ^ nn w := Nat.xor_lt_two_pow hA hB
        have hX64 := up hn64 hX
        obtain ⟨L, l1', l2, l3, l4⟩ := len_eq (k + 296) (x := ((A ^^^ B : Nat) : Int)) (by omega) (by omega)
        have hLp := pnat L
        have hxL : A ^^^ B < 2 ^ L := by omega
        have hxL2 : L = 0 ∨ 1 ≤ L ∧ 2 ^ (L - 1) ≤ A ^^^ B := by
          have := pnat (L - 1)
          rcases l4 with ⟨h, _⟩ | ⟨h, h'⟩
          · exact .inl h
          · exact .inr ⟨h, by omega⟩
        have hLn : L ≤ nn w := by
          rcases hxL2 with h | ⟨h, h'⟩
          · omega
          · have : 2 ^ (L - 1) < 2 ^ nn w := by omega
            have := (Nat.pow_lt_pow_iff_right (a := 2) (by decide)).1 this
            omega
        have p1 := impl_post (k := k + 296) hz' ho' L1 H1 (l1 := l1) (m1 := m1) hA64 hB64 e3 l2 l1'
        obtain ⟨E, hE⟩ : ∃ E, nn w = L + E := ⟨nn w - L, by omega⟩
        have p2 := ref_loop hn64 hA hB hxL hxL2 z o c d E (nn w) z o hE (Nat.le_refl _) hz' ho' (fun j => by simp; omega) (fun j => by simp; omega) (k + 298 - 2 * E)
        rw [show k + 298 - 2 * E + 2 * E + 2 = k + 300 by omega] at p2
        refine ⟨fin (zf (nn w) L z A) (of (nn w) L o A) A B c d, ?_, ?_, fun h => absurd hv h, fun _ => ?_⟩
        · rw [e1]; exact p1
        · rw [e2, if_pos rfl, show ((nn w - 1 : Nat) : Int) = (nn w : Int) - 1 by omega]; exact p2
        · have hK : ∀ x : Nat, x < 18446744073709551616 → (FC w (zf (nn w) L z A) (of (nn w) L o A) A B c d x ↔ FC w z o lo hi l m x) := by
            intro x hx
            rw [hd, fc_iff hw, fc_iff hw]
            have h9' := fun hx : x < 2 ^ nn w => h9 x (by omega) (by omega)
            constructor
            · rintro ⟨q1, q2, q3, q4⟩
              have kk := keep (n := nn w) (z := z) (o := o) hxL (show A ≤ x by have := q4.1; omega) (show x ≤ B by have := q4.2.1; omega)
              exact ⟨q1, kk.1.1 q2, kk.2.1 q3, (h9' q1).1 q4⟩
            · rintro ⟨q1, q2, q3, q4⟩
              have q5 := (h9' q1).2 q4
              have kk := keep (n := nn w) (z := z) (o := o) hxL (show A ≤ x by have := q5.1; omega) (show x ≤ B by have := q5.2.1; omega)
              exact ⟨q1, kk.1.2 q2, kk.2.2 q3, q5⟩
          unfold fin
          by_cases cz : zf (nn w) L z A &&& of (nn w) L o A = 0
          · rw [if_pos cz]
            right
            exact ⟨_, _, _, _, _, _, rfl, zf_lt hz', of_lt ho', diff0.2 fun i hi => by rw [tb_zf, hi]; rfl, diff0.2 fun i hi => by rw [tb_of, hi]; rfl, by omega, by omega, by omega, by omega, hK⟩
          · rw [if_neg cz]
            left
            refine ⟨rfl, fun x hx hc => ?_⟩
            rw [← hK x hx, fc_iff hw] at hc
            obtain ⟨_, q2, q3, _⟩ := hc
            apply cz
            rw [disj]
            rintro i ⟨i1, i2⟩
            exact (disj.1 q2) i ⟨(subs.1 q3) i i2, i1⟩
  · refine ⟨(0, 0, 0, 0, 0, 0, false), ?_, ?_, fun _ => rfl, fun h => absurd h hv⟩
    · unfold facts_Tighten.f
      rw [fvalid_eq hz ho, Option.bind_some, if_neg (by simpa using hv)]
    · unfold jacquardref14_Tighten.f
      rw [rfvalid_eq hz ho w lo hi l m (by omega), Option.bind_some, if_neg (by simpa using hv)]
theorem tleq_eq (a b c d a' b' c' d' : Int) : interval_Leq.f a b c d a' b' c' d' = some (decide (a ≥ a' ∧ b ≤ b' ∧ c ≥ c' ∧ d ≤ d')) := by
  unfold interval_Leq.f
  by_cases h1 : a ≥ a' <;> by_cases h2 : b ≤ b' <;> by_cases h3 : c ≥ c' <;> by_cases h4 : d ≤ d' <;> simp [h1, h2, h3, h4]
theorem fleq_true {z o z' o' : Nat} (hz : z < 18446744073709551616) (ho : o < 18446744073709551616) (hz' : z' < 18446744073709551616) (ho' : o' < 18446744073709551616) {a b c d lo hi l m : Int} (h1 : ndiff z z' = 0) (h2 : ndiff o o' = 0) (h3 : lo ≤ a ∧ b ≤ hi ∧ l ≤ c ∧ d ≤ m) : facts_Leq.f z' o' a b c d z o lo hi l m = some true := by
  unfold facts_Leq.f knownbits_Leq.f
  simp only [facts_known.f, facts_span.f, Option.bind_some, nandn hz hz', nandn ho ho', h1, h2, tleq_eq]
  rw [if_pos (by rfl), Option.bind_some, if_pos (by rfl), decide_eq_true (by omega)]
end Go.Proofs.Ytbiohdgeclokmaa.Ft
