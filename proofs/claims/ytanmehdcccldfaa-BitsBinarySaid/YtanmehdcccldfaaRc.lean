import Derived.Test.YtanmehdcccldfaaRb
import Derived.Test.YtanmehdcccldfaaPx19
import Derived.Test.YtanmehdcccldfaaPx20
import Derived.Test.YtanmehdcccldfaaPx21
/- The reference's Binary. -/
namespace Go.Proofs.Ytanmehdcccldfaa.Rc
set_option linter.unusedVariables false
set_option linter.unusedSimpArgs false
set_option linter.unusedSectionVars false
open Go.RowKit Go.Proofs.Ytanmehdcccldfaa.P Go.Proofs.YtanmehdcccldfaaW.PrintWords Wd Bl Re Im Rb

theorem amount_eq (w b : Int) (hb : 0 ≤ b ∧ b < 18446744073709551616) : jacquardref01_amount.f w b = some (if (nn w : Int) ≤ b then (nn w : Int) else b) := by
  have hn := nn_le w
  have e : IntKind.u64.wrap (nn w : Int) = nn w := by rw [wrap_u64]; omega
  unfold jacquardref01_amount.f
  rw [width_eq, Option.bind_some, e]
  by_cases h : (nn w : Int) ≤ b
  · rw [if_pos h, if_pos h]
  · rw [if_neg h, if_neg h, wrap64_id (by omega) (by omega)]
theorem rbit_eq (b : Bool) : jacquardref01_bit.f b = some (if b then 1 else 0) := by unfold jacquardref01_bit.f; cases b <;> rfl
section
variable {w : Int} (hw : 1 ≤ nn w) {a b : Int} (ha0 : 0 ≤ a) (ha : a < 2 ^ nn w) (hb0 : 0 ≤ b) (hb : b < 2 ^ nn w)
include hw ha0 ha hb0 hb
theorem mag_eq {k : Nat} (hk : 64 < k) : jacquardref01_magnitude.f k w a = some ((sg (nn w) a).natAbs : Int) := by
  have hp := pow_le (nn_le w)
  have hs := pow_succ' hw
  unfold jacquardref01_magnitude.f
  rw [rneg_eq w a ⟨ha0, by omega⟩ hk, Option.bind_some, mod_small ha0 ha]
  unfold sg
  rw [mod_small ha0 ha]
  by_cases h : 1 ≤ nn w ∧ 2 ^ (nn w - 1) ≤ a
  · rw [if_pos (decide_eq_true h), minus_eq w a ⟨ha0, by omega⟩ hk, Option.bind_some, neg_mod_of (by rw [mod_small ha0 ha]; have := pow_pos (nn w - 1); omega), mod_small ha0 ha, if_neg (by omega)]
    congr 1; omega
  · rw [if_neg (by simpa using h), rfit_eq w a ⟨ha0, by omega⟩ hk, Option.bind_some, mod_small ha0 ha, if_pos (by omega)]
    congr 1; omega
theorem sgn_neg : decide (1 ≤ nn w ∧ 2 ^ (nn w - 1) ≤ a % 2 ^ nn w) = decide (sg (nn w) a < 0) := by
  have hs := pow_succ' hw
  have hpp := pow_pos (nn w - 1)
  unfold sg
  rw [mod_small ha0 ha]
  by_cases h : 2 ^ (nn w - 1) ≤ a
  · rw [decide_eq_true ⟨hw, h⟩, if_neg (by omega), decide_eq_true (by omega)]
  · rw [decide_eq_false (fun h' => h h'.2), if_pos (by omega), decide_eq_false (by omega)]
end
/-- Quotient and remainder out of magnitudes. -/
theorem quo_abs (s t : Int) : Int.tdiv s t = if (decide (s < 0) != decide (t < 0)) then -((s.natAbs : Int) / (t.natAbs : Int)) else (s.natAbs : Int) / (t.natAbs : Int) := by
  by_cases h1 : s < 0 <;> by_cases h2 : t < 0
  · rw [decide_eq_true h1, decide_eq_true h2]
    simp only [bne_self_eq_false, Bool.false_eq_true, if_false]
    rw [show (s.natAbs : Int) = -s by omega, show (t.natAbs : Int) = -t by omega, ← Int.tdiv_eq_ediv_of_nonneg (by omega), Int.neg_tdiv, Int.tdiv_neg, Int.neg_neg]
  · rw [decide_eq_true h1, decide_eq_false h2]
    simp only [bne_iff_ne, ne_eq, Bool.true_eq_false, not_false_eq_true, if_true]
    rw [show (s.natAbs : Int) = -s by omega, show (t.natAbs : Int) = t by omega, ← Int.tdiv_eq_ediv_of_nonneg (by omega), Int.neg_tdiv, Int.neg_neg]
  · rw [decide_eq_false h1, decide_eq_true h2]
    simp only [bne_iff_ne, ne_eq, Bool.false_eq_true, not_false_eq_true, if_true]
    rw [show (s.natAbs : Int) = s by omega, show (t.natAbs : Int) = -t by omega, ← Int.tdiv_eq_ediv_of_nonneg (by omega), Int.tdiv_neg, Int.neg_neg]
  · rw [decide_eq_false h1, decide_eq_false h2]
    simp only [bne_self_eq_false, Bool.false_eq_true, if_false]
    rw [show (s.natAbs : Int) = s by omega, show (t.natAbs : Int) = t by omega, Int.tdiv_eq_ediv_of_nonneg (by omega)]
theorem rem_abs (s t : Int) : Int.tmod s t = if s < 0 then -((s.natAbs : Int) % (t.natAbs : Int)) else (s.natAbs : Int) % (t.natAbs : Int) := by
  have ht : ∀ u : Int, 0 ≤ u → Int.tmod u t = u % (t.natAbs : Int) := by
    intro u hu
    rw [Int.tmod_eq_emod_of_nonneg hu]
    by_cases h2 : t < 0
    · rw [show (t.natAbs : Int) = -t by omega, Int.emod_neg]
    · rw [show (t.natAbs : Int) = t by omega]
  by_cases h1 : s < 0
  · rw [if_pos h1, show (s.natAbs : Int) = -s by omega, ← ht (-s) (by omega), Int.neg_tmod, Int.neg_neg]
  · rw [if_neg h1, show (s.natAbs : Int) = s by omega, ht s (by omega)]
theorem rdivide_eq {w : Int} (hw : 1 ≤ nn w) {a b : Int} (ha0 : 0 ≤ a) (ha : a < 2 ^ nn w) (hb0 : 0 ≤ b) (hb : b < 2 ^ nn w) {k : Nat} (hk : 66 < k) : jacquardref01_divide.f k w a b = some (bin 7 (nn w) a b, bin 8 (nn w) a b) := by
  have hn := nn_le w
  have hp := pow_le hn
  have hs := pow_succ' hw
  have ra := sg_range hw a
  have rb := sg_range hw b
  have hsb : sg (nn w) b = 0 ↔ b = 0 := by
    unfold sg; rw [mod_small hb0 hb]; split <;> omega
  unfold jacquardref01_divide.f
  by_cases h : b = 0
  · rw [if_pos h, ones_eq w (by omega)]; simp [bin, h]
  have hb1 : sg (nn w) b ≠ 0 := fun h' => h (hsb.1 h')
  rw [if_neg h, mag_eq hw ha0 ha hb0 hb (by omega), Option.bind_some, mag_eq hw hb0 hb ha0 ha (by omega), Option.bind_some, if_neg (by omega)]
  rw [rneg_eq w a ⟨ha0, by omega⟩ (by omega), Option.bind_some, rneg_eq w b ⟨hb0, by omega⟩ (by omega), Option.bind_some, sgn_neg hw ha0 ha hb0 hb, sgn_neg hw hb0 hb ha0 ha]
  have q7 : bin 7 (nn w) a b = Int.tdiv (sg (nn w) a) (sg (nn w) b) % 2 ^ nn w := by simp [bin, h]
  have q8 : bin 8 (nn w) a b = Int.tmod (sg (nn w) a) (sg (nn w) b) % 2 ^ nn w := by simp [bin, h]
  rw [quo_abs] at q7
  rw [rem_abs] at q8
  rw [q7, q8]
  clear q7 q8
  have hna : ((sg (nn w) a).natAbs : Int) ≤ 2 ^ (nn w - 1) := by omega
  generalize hM : ((sg (nn w) a).natAbs : Int) = M at *
  generalize hT : ((sg (nn w) b).natAbs : Int) = T at *
  have hM0 : 0 ≤ M := by omega
  have hT0 : 0 < T := by omega
  have hq0 := Int.ediv_nonneg hM0 (Int.le_of_lt hT0)
  have hq1 := Int.ediv_le_self T hM0
  have hme := Int.mul_ediv_add_emod M T
  have hr0 := Int.emod_nonneg M (b := T) (by omega)
  have hr1 := Int.emod_lt_of_pos M hT0
  have hpp := pow_pos (nn w - 1)
  have e1 : IntKind.u64.wrap (Int.tdiv M T) = M / T := by rw [Int.tdiv_eq_ediv_of_nonneg hM0, wrap_u64]; omega
  have e2 : IntKind.u64.wrap (M - IntKind.u64.wrap (M / T * T)) = M % T := by
    have h1 : 0 ≤ M / T * T := Int.mul_nonneg hq0 (by omega)
    have h2 : M / T * T = T * (M / T) := Int.mul_comm _ _
    have h3 : IntKind.u64.wrap (M / T * T) = M / T * T := by
      rw [wrap_u64]
      have : M % T ≤ M := by omega
      omega
    rw [h3, wrap_u64]
    have : M - M / T * T = M % T := by omega
    rw [this]
    have : M % T ≤ M := by omega
    omega
  rw [e1, e2]
  have hr2 : M % T ≤ M := by
    have : 0 ≤ T * (M / T) := Int.mul_nonneg (by omega) hq0
    omega
  have J : ∀ q, 0 ≤ q ∧ q < 18446744073709551616 → jacquardref01_divide.j0 k w a q (M % T) = some (q % 2 ^ nn w, (if sg (nn w) a < 0 then -(M % T) else M % T) % 2 ^ nn w) := by
    intro q hq
    obtain ⟨k, rfl⟩ : ∃ m, k = m + 1 := ⟨k - 1, by omega⟩
    rw [jacquardref01_divide.j0, rneg_eq w a ⟨ha0, by omega⟩ (by omega), Option.bind_some, sgn_neg hw ha0 ha hb0 hb]
    by_cases c : sg (nn w) a < 0
    · rw [if_pos (decide_eq_true c), minus_eq w (M % T) (by omega) (by omega), Option.bind_some, rfit_eq w q hq (by omega), Option.bind_some, rfit_eq w _ (mod_U hn _) (by omega), Option.bind_some, if_pos c, Int.emod_emod_of_dvd _ (Int.dvd_refl _)]
    · rw [if_neg (by simpa using c), rfit_eq w q hq (by omega), Option.bind_some, rfit_eq w (M % T) (by omega) (by omega), Option.bind_some, if_neg c]
  by_cases c : (decide (sg (nn w) a < 0) != decide (sg (nn w) b < 0)) = true
  · rw [if_pos c, if_pos c, minus_eq w (M / T) (by omega) (by omega), Option.bind_some, J _ (mod_U hn _), Int.emod_emod_of_dvd _ (Int.dvd_refl _)]
  · rw [if_neg c, if_neg c, J _ (by omega)]

/-- The three loops over bits. -/
def opb (op : Int) (x y : Int) : Int := if op = 9 then x * y else if op = 10 then mx x y else Int.tmod (x + y) 2
theorem natbit_op (f : Nat → Nat → Nat) (g : Bool → Bool → Bool) (h : ∀ x y i, (f x y).testBit i = g (x.testBit i) (y.testBit i)) (op : Int) (hop : ∀ p q : Bool, opb op (if p then 1 else 0) (if q then 1 else 0) = if g p q then 1 else 0) (a b : Int) (ha : 0 ≤ a) (hb : 0 ≤ b) (i : Nat) :
    opb op (a / 2 ^ i % 2) (b / 2 ^ i % 2) = ((f a.toNat b.toNat : Nat) : Int) / 2 ^ i % 2 := by
  have key : ∀ x : Nat, ((x : Nat) : Int) / 2 ^ i % 2 = if x.testBit i then 1 else 0 := by
    intro x
    rw [Nat.testBit_eq_decide_div_mod_eq]
    have e : ((x : Nat) : Int) / 2 ^ i % 2 = ((x / 2 ^ i % 2 : Nat) : Int) := by
      rw [Int.natCast_emod, Int.natCast_ediv, Int.natCast_pow]; rfl
    rw [e]
    have : x / 2 ^ i % 2 < 2 := Nat.mod_lt _ (by decide)
    by_cases h : x / 2 ^ i % 2 = 1
    · rw [h]; simp
    · rw [show x / 2 ^ i % 2 = 0 by omega]; simp
  obtain ⟨x, rfl⟩ := Int.eq_ofNat_of_zero_le ha
  obtain ⟨y, rfl⟩ := Int.eq_ofNat_of_zero_le hb
  rw [key, key, key, hop, Int.toNat_natCast, Int.toNat_natCast, h]
theorem bin_loop {op w a b : Int} (r : Int) (hr : ∀ i : Nat, opb op (a / 2 ^ i % 2) (b / 2 ^ i % 2) = r / 2 ^ i % 2) (ho : op = 9 ∨ op = 10 ∨ op = 11) (res : Nat → Option Int) (X Y : Int) (d : Nat) :
    ∀ (k i : Nat), i + d = nn w → d + 70 < k → ∃ k', 69 < k' ∧ jacquardref01_Binary.l0 k op w X Y (bitsL (nn w) a) (bitsL (nn w) b) (bitsL i r) i = jacquardref01_Binary.l0 k' op w X Y (bitsL (nn w) a) (bitsL (nn w) b) (bitsL (nn w) r) (nn w) := by
  have hn := nn_le w
  induction d with
  | zero =>
    intro k i hi hk
    have : i = nn w := by omega
    subst this
    exact ⟨k, by omega, rfl⟩
  | succ d ih =>
    intro k i hi hk
    obtain ⟨k, rfl⟩ : ∃ m, k = m + 1 := ⟨k - 1, by omega⟩
    obtain ⟨k', h1, h2⟩ := ih k (i + 1) (by omega) (by omega)
    refine ⟨k', h1, ?_⟩
    rw [bitsL_succ, ← hr i] at h2
    rw [jacquardref01_Binary.l0, bitsL_length, bitsL_length, bitsL_length, if_pos (by omega), rd_bitsL (by omega) (by omega), rd_bitsL (by omega) (by omega), Int.toNat_natCast, wrap64_id (n := (i : Int) + 1) (by omega) (by omega)]
    have b1 : a / 2 ^ i % 2 = 0 ∨ a / 2 ^ i % 2 = 1 := by omega
    have b2 : b / 2 ^ i % 2 = 0 ∨ b / 2 ^ i % 2 = 1 := by omega
    generalize a / 2 ^ i % 2 = u at *
    generalize b / 2 ^ i % 2 = v at *
    have hm : wrap64 (u * v) = u * v := by rcases b1 with rfl | rfl <;> rcases b2 with rfl | rfl <;> exact wrap64_id (by decide) (by decide)
    have ha : wrap64 (u + v) = u + v := wrap64_id (by omega) (by omega)
    rcases ho with rfl | rfl | rfl
    · rw [if_pos rfl, if_pos (by omega), if_pos (by omega), if_pos (by omega), hm]
      simpa [opb] using h2
    · rw [if_neg (by decide), if_pos rfl, if_pos (by omega), if_pos (by omega), if_pos (by omega)]
      simpa [opb] using h2
    · rw [if_neg (by decide), if_neg (by decide), if_pos rfl, if_pos (by omega), if_pos (by omega), if_pos (by omega), ha]
      simpa [opb] using h2
theorem skip_loop {op w : Int} (ho : ¬ (op = 9 ∨ op = 10 ∨ op = 11)) (X Y : Int) (A B L : List Int) (hA : A.length = nn w) (d : Nat) :
    ∀ (k i : Nat), i + d = nn w → d + 267 < k → ∃ k', 266 < k' ∧ jacquardref01_Binary.l0 k op w X Y A B L i = jacquardref01_Binary.l0 k' op w X Y A B L (nn w) := by
  have hn := nn_le w
  induction d with
  | zero =>
    intro k i hi hk
    have : i = nn w := by omega
    subst this
    exact ⟨k, by omega, rfl⟩
  | succ d ih =>
    intro k i hi hk
    obtain ⟨k, rfl⟩ : ∃ m, k = m + 1 := ⟨k - 1, by omega⟩
    obtain ⟨k', h1, h2⟩ := ih k (i + 1) (by omega) (by omega)
    refine ⟨k', h1, ?_⟩
    rw [jacquardref01_Binary.l0, if_pos (by omega), if_neg (fun h => ho (.inl h)), if_neg (fun h => ho (.inr (.inl h))), if_neg (fun h => ho (.inr (.inr h))), wrap64_id (n := (i : Int) + 1) (by omega) (by omega)]
    simpa using h2
end Go.Proofs.Ytanmehdcccldfaa.Rc
