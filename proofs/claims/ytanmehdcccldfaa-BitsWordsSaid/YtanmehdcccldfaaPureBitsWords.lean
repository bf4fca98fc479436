import Derived.Test.YtanmehdcccldfaaLw
import Derived.Test.YtanmehdcccldfaaRe
import Derived.Test.YtanmehdcccldfaaPx32
import Derived.Test.YtanmehdcccldfaaPx31
/- Mask, Fit, Signed, From and Length are as specified for all widths, and From undoes Signed. -/
namespace Go.Proofs.Ytanmehdcccldfaa.Pure
set_option linter.unusedVariables false
set_option linter.unusedSimpArgs false
set_option linter.unusedSectionVars false
open Go.RowKit Go.Proofs.Ytanmehdcccldfaa.P Go.Proofs.YtanmehdcccldfaaW.PrintWords Wd Im Lw Bl Re

/-- The number of bits up to the highest 1. -/
def blen (x : Nat) : Nat := if x = 0 then 0 else blen (x / 2) + 1
decreasing_by exact Nat.div_lt_self (by omega) (by decide)
theorem blen_zero : blen 0 = 0 := by rw [blen]; simp
theorem blen_div (x : Nat) (h : 1 ≤ x) : blen x = blen (x / 2) + 1 := by rw [blen, if_neg (by omega)]
theorem blen_shift (i : Nat) : ∀ x : Nat, 1 ≤ x / 2 ^ i → blen x = blen (x / 2 ^ i) + i := by
  induction i with
  | zero => intro x _; simp
  | succ i ih =>
    intro x h
    have h1 : x / 2 ^ (i + 1) = x / 2 / 2 ^ i := by rw [Nat.pow_succ, Nat.mul_comm, ← Nat.div_div_eq_div_mul]
    have h2 : 1 ≤ x / 2 := by
      rcases Nat.eq_zero_or_pos (x / 2) with h0 | h0
      · rw [h1, h0] at h; simp at h
      · exact h0
    rw [blen_div x (by omega), h1, ih (x / 2) (by rw [← h1]; exact h)]; omega
def tab8 : ByteArray := (⟨#[0, 1, 2, 2, 3, 3, 3, 3, 4, 4, 4, 4, 4, 4, 4, 4, 5, 5, 5, 5, 5, 5, 5, 5, 5, 5, 5, 5, 5, 5, 5, 5, 6, 6, 6, 6, 6, 6, 6, 6, 6, 6, 6, 6, 6, 6, 6, 6, 6, 6, 6, 6, 6, 6, 6, 6, 6, 6, 6, 6, 6, 6, 6, 6, 7, 7, 7, 7, 7, 7, 7, 7, 7, 7, 7, 7, 7, 7, 7, 7, 7, 7, 7, 7, 7, 7, 7, 7, 7, 7, 7, 7, 7, 7, 7, 7, 7, 7, 7, 7, 7, 7, 7, 7, 7, 7, 7, 7, 7, 7, 7, 7, 7, 7, 7, 7, 7, 7, 7, 7, 7, 7, 7, 7, 7, 7, 7, 7, 8, 8, 8, 8, 8, 8, 8, 8, 8, 8, 8, 8, 8, 8, 8, 8, 8, 8, 8, 8, 8, 8, 8, 8, 8, 8, 8, 8, 8, 8, 8, 8, 8, 8, 8, 8, 8, 8, 8, 8, 8, 8, 8, 8, 8, 8, 8, 8, 8, 8, 8, 8, 8, 8, 8, 8, 8, 8, 8, 8, 8, 8, 8, 8, 8, 8, 8, 8, 8, 8, 8, 8, 8, 8, 8, 8, 8, 8, 8, 8, 8, 8, 8, 8, 8, 8, 8, 8, 8, 8, 8, 8, 8, 8, 8, 8, 8, 8, 8, 8, 8, 8, 8, 8, 8, 8, 8, 8, 8, 8, 8, 8, 8, 8, 8, 8, 8, 8, 8, 8, 8, 8, 8, 8, 8, 8, 8, 8]⟩ : ByteArray)
theorem tab_lit : (⟨#[0, 1, 2, 2, 3, 3, 3, 3, 4, 4, 4, 4, 4, 4, 4, 4, 5, 5, 5, 5, 5, 5, 5, 5, 5, 5, 5, 5, 5, 5, 5, 5, 6, 6, 6, 6, 6, 6, 6, 6, 6, 6, 6, 6, 6, 6, 6, 6, 6, 6, 6, 6, 6, 6, 6, 6, 6, 6, 6, 6, 6, 6, 6, 6, 7, 7, 7, 7, 7, 7, 7, 7, 7, 7, 7, 7, 7, 7, 7, 7, 7, 7, 7, 7, 7, 7, 7, 7, 7, 7, 7, 7, 7, 7, 7, 7, 7, 7, 7, 7, 7, 7, 7, 7, 7, 7, 7, 7, 7, 7, 7, 7, 7, 7, 7, 7, 7, 7, 7, 7, 7, 7, 7, 7, 7, 7, 7, 7, 8, 8, 8, 8, 8, 8, 8, 8, 8, 8, 8, 8, 8, 8, 8, 8, 8, 8, 8, 8, 8, 8, 8, 8, 8, 8, 8, 8, 8, 8, 8, 8, 8, 8, 8, 8, 8, 8, 8, 8, 8, 8, 8, 8, 8, 8, 8, 8, 8, 8, 8, 8, 8, 8, 8, 8, 8, 8, 8, 8, 8, 8, 8, 8, 8, 8, 8, 8, 8, 8, 8, 8, 8, 8, 8, 8, 8, 8, 8, 8, 8, 8, 8, 8, 8, 8, 8, 8, 8, 8, 8, 8, 8, 8, 8, 8, 8, 8, 8, 8, 8, 8, 8, 8, 8, 8, 8, 8, 8, 8, 8, 8, 8, 8, 8, 8, 8, 8, 8, 8, 8, 8, 8, 8, 8, 8, 8, 8]⟩ : ByteArray) = tab8 := rfl
theorem tab_eq : ∀ i : Fin 256, bt tab8 (i.1 : Int) = (blen i.1 : Int) := by
  have h : ∀ i : Fin 256, (bt tab8 (i.1 : Int)) = ((Nat.log2 i.1 : Nat) : Int) + (if i.1 = 0 then 0 else 1) := by decide +kernel
  have g : ∀ n : Nat, n < 256 → (blen n : Int) = ((Nat.log2 n : Nat) : Int) + (if n = 0 then 0 else 1) := by
    intro n
    induction n using Nat.strongRecOn with
    | _ n ih =>
      intro hn
      rcases Nat.eq_zero_or_pos n with h0 | h0
      · subst h0; rw [blen_zero]; decide
      · rw [blen_div n h0, if_neg (by omega)]
        rcases Nat.lt_or_ge n 2 with h2 | h2
        · obtain rfl : n = 1 := by omega
          rw [show 1 / 2 = 0 from rfl, blen_zero]; decide
        · have := ih (n / 2) (by omega) (by omega)
          rw [if_neg (by omega)] at this
          rw [Nat.log2_def, if_pos h2]
          omega
  intro i
  rw [h i, g i.1 i.2]
theorem tab_at {x : Nat} (h : x < 256) : bt tab8 (x : Int) = (blen x : Int) := tab_eq ⟨x, h⟩
theorem blen_le : ∀ (i x : Nat), x < 2 ^ i → blen x ≤ i := by
  intro i
  induction i with
  | zero =>
    intro x h
    obtain rfl : x = 0 := by omega
    rw [blen_zero]; omega
  | succ i ih =>
    intro x h
    rcases Nat.eq_zero_or_pos x with h0 | h0
    · subst h0; rw [blen_zero]; omega
    · rw [blen_div x h0]
      have := ih (x / 2) (by rw [Nat.pow_succ] at h; omega)
      omega
set_option maxRecDepth 100000 in
theorem len_eq (k : Nat) (x : Int) (hx : 0 ≤ x ∧ x < 18446744073709551616) : bits_Len64.f (k + 1) x = some (blen x.toNat : Int) := by
  obtain ⟨x, rfl⟩ := Int.eq_ofNat_of_zero_le hx.1
  have J : ∀ (y : Nat) (n : Nat), y < 4294967296 → n ≤ 32 → bits_Len64.j0 (k + 1) (y : Int) (n : Int) = some ((blen y + n : Nat) : Int) := by
    intro y n hy hn
    have B : ∀ z : Nat, z < 256 → blen z ≤ 8 := fun z h => blen_le 8 z (by omega)
    rw [bits_Len64.j0]
    simp only [tab_lit]
    by_cases c1 : (y : Int) ≥ 65536
    · rw [if_pos c1]
      have e1 : (y : Int) / 65536 = ((y / 65536 : Nat) : Int) := by omega
      by_cases c2 : (y : Int) / 65536 ≥ 256
      · rw [if_pos c2, if_pos (by omega), if_pos (by omega)]
        have e2 : (y : Int) / 65536 / 256 % 256 = ((y / 16777216 : Nat) : Int) := by omega
        have h8 : y / 16777216 < 256 := by omega
        rw [e2, tab_at h8]
        have := blen_shift 24 y (by omega)
        have h9 := B _ h8
        rw [show y / 2 ^ 24 = y / 16777216 by rfl] at this
        rw [wrap64_id (n := (n : Int) + 16) (by omega) (by omega), wrap64_id (n := (n : Int) + 16 + 8) (by omega) (by omega), wrap64_id (n := (blen (y / 16777216) : Int)) (by omega) (by omega), wrap64_id (by omega) (by omega)]
        congr 1; omega
      · rw [if_neg c2, if_pos (by omega), if_pos (by omega)]
        have e2 : (y : Int) / 65536 % 256 = ((y / 65536 : Nat) : Int) := by omega
        have h8 : y / 65536 < 256 := by omega
        rw [e2, tab_at h8]
        have := blen_shift 16 y (by omega)
        have h9 := B _ h8
        rw [show y / 2 ^ 16 = y / 65536 by rfl] at this
        rw [wrap64_id (n := (n : Int) + 16) (by omega) (by omega), wrap64_id (n := (blen (y / 65536) : Int)) (by omega) (by omega), wrap64_id (by omega) (by omega)]
        congr 1; omega
    · rw [if_neg c1]
      by_cases c2 : (y : Int) ≥ 256
      · rw [if_pos c2, if_pos (by omega), if_pos (by omega)]
        have e2 : (y : Int) / 256 % 256 = ((y / 256 : Nat) : Int) := by omega
        have h8 : y / 256 < 256 := by omega
        rw [e2, tab_at h8]
        have := blen_shift 8 y (by omega)
        have h9 := B _ h8
        rw [show y / 2 ^ 8 = y / 256 by rfl] at this
        rw [wrap64_id (n := (n : Int) + 8) (by omega) (by omega), wrap64_id (n := (blen (y / 256) : Int)) (by omega) (by omega), wrap64_id (by omega) (by omega)]
        congr 1; omega
      · rw [if_neg c2, if_pos (by omega), if_pos (by omega)]
        have e2 : (y : Int) % 256 = (y : Int) := by omega
        have h8 : y < 256 := by omega
        rw [e2, tab_at h8]
        have h9 := B _ h8
        rw [wrap64_id (n := (blen y : Int)) (by omega) (by omega), wrap64_id (by omega) (by omega)]
        congr 1; omega
  unfold bits_Len64.f
  rw [Int.toNat_natCast]
  by_cases c : (x : Int) ≥ 4294967296
  · rw [if_pos c]
    have e1 : (x : Int) / 4294967296 = ((x / 4294967296 : Nat) : Int) := by omega
    have := J (x / 4294967296) 32 (by omega) (by omega)
    rw [e1, show (32 : Int) = ((32 : Nat) : Int) from rfl, this]
    have h2 := blen_shift 32 x (by omega)
    rw [show x / 2 ^ 32 = x / 4294967296 by rfl] at h2
    rw [h2]
  · rw [if_neg c]
    have := J x 0 (by omega) (by omega)
    simpa using this
theorem count_loop (x0 : Int) (hx : 0 ≤ x0 ∧ x0 < 18446744073709551616) (d : Nat) : ∀ (k : Nat) (y : Nat) (c : Nat), blen y = d → c + d = blen x0.toNat → y < 18446744073709551616 → d + 1 < k → jacquardlaw01_BitsWords.l0 k x0 c y = some true := by
  have hl := blen_le 64 x0.toNat (by omega)
  induction d with
  | zero =>
    intro k y c hb hc hy hk
    obtain ⟨k, rfl⟩ : ∃ m, k = m + 2 := ⟨k - 2, by omega⟩
    have hy0 : y = 0 := by
      rcases Nat.eq_zero_or_pos y with h | h
      · exact h
      · rw [blen_div y h] at hb; omega
    subst hy0
    rw [jacquardlaw01_BitsWords.l0, if_neg (by omega)]
    unfold bits_Length.f
    rw [len_eq k x0 hx, Option.bind_some, Option.bind_some]
    congr 1
    rw [beq_iff_eq]; omega
  | succ d ih =>
    intro k y c hb hc hy hk
    obtain ⟨k, rfl⟩ : ∃ m, k = m + 1 := ⟨k - 1, by omega⟩
    have hy0 : 1 ≤ y := by
      rcases Nat.eq_zero_or_pos y with h | h
      · subst h; rw [blen_zero] at hb; omega
      · exact h
    rw [blen_div y hy0] at hb
    have e : IntKind.u64.wrap (Int.tdiv (y : Int) 2) = ((y / 2 : Nat) : Int) := by rw [Int.tdiv_eq_ediv_of_nonneg (by omega), wrap_u64]; omega
    rw [jacquardlaw01_BitsWords.l0, if_pos (by omega), e, wrap64_id (by omega) (by omega)]
    have := ih k (y / 2) (c + 1) (by omega) (by omega) (by omega) (by omega)
    simpa using this
theorem BitsWords : jacquardlaw01_BitsWords.Pure := by
  intro w x n _ hx hn
  rw [wf_u64] at hx
  refine ⟨0 + 100, ?_⟩
  generalize 0 = k
  have hm := mod_U (nn_le w) x
  unfold jacquardlaw01_BitsWords.f
  rw [show k + 100 = (k + 97) + 3 by omega, awake_eq (k + 97), Option.bind_some, if_pos rfl, fit_eq w hx, Option.bind_some, mask_eq, Option.bind_some, ones_eq w (by omega), Option.bind_some, if_pos rfl, rfit_eq w x hx (by omega), Option.bind_some, if_pos rfl]
  rw [signed_eq w hx, Option.bind_some, rsigned_eq w x hx (by omega), Option.bind_some, if_pos rfl, from_eq, Option.bind_some, if_pos (sg_mod x), from_eq, Option.bind_some, fit_eq w (by rw [wrap_u64]; omega), Option.bind_some, wrap_mod (nn_le w)]
  rw [show (n % 2 ^ nn w != n % 2 ^ nn w) = false by simp, show k + 97 + 3 = (k + 99) + 1 by omega, jacquardlaw01_BitsWords.j0, if_neg (by decide)]
  have hl := blen_le 64 x.toNat (by omega)
  have := count_loop x hx (blen x.toNat) (k + 99) x.toNat 0 rfl (by omega) (by omega) (by omega)
  rw [show ((x.toNat : Nat) : Int) = x by omega] at this
  exact this
end Go.Proofs.Ytanmehdcccldfaa.Pure
