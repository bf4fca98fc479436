import Derived.Test.YtoddafkffchnjaaIm
/- The values of binary operators are words. -/
namespace Go.Proofs.Ytoddafkffchnjaa.Lw0
set_option linter.unusedVariables false
set_option linter.unusedSimpArgs false
set_option linter.unusedSectionVars false
open Go.RowKit Go.Proofs.YtoddafkffchnjaaW.PrintWords Wd Im
theorem ite_rng {P : Int → Prop} {c : Prop} [Decidable c] {x y : Int} (h1 : c → P x) (h2 : ¬ c → P y) : P (if c then x else y) := by
  split
  · exact h1 ‹_›
  · exact h2 ‹_›
theorem bin_range {op : Int} {n : Nat} (hn : 1 ≤ n) {a b : Int} (ha0 : 0 ≤ a) (ha : a < 2 ^ n) (hb0 : 0 ≤ b) (hb : b < 2 ^ n) : 0 ≤ bin op n a b ∧ bin op n a b < 2 ^ n := by
  have hp := pow_pos n
  have hp1 := pow_succ' hn
  have hp2 := pow_pos (n - 1)
  have m := mod_lt n
  have nat : ∀ f : Nat → Nat → Nat, (∀ x y, x < 2 ^ n → y < 2 ^ n → f x y < 2 ^ n) → 0 ≤ ((f a.toNat b.toNat : Nat) : Int) ∧ ((f a.toNat b.toNat : Nat) : Int) < 2 ^ n := by
    intro f hf
    have h1 := pow_toNat n
    have := hf a.toNat b.toNat (by omega) (by omega)
    omega
  show (fun r : Int => 0 ≤ r ∧ r < 2 ^ n) (bin op n a b)
  unfold bin
  generalize hP : (fun r : Int => 0 ≤ r ∧ r < 2 ^ n) = P
  repeat' (refine ite_rng (fun _ => ?_) (fun _ => ?_))
  all_goals subst hP
  · exact m _
  · exact m _
  · exact m _
  · show 0 ≤ _ ∧ _; omega
  · have h1 := Int.ediv_nonneg ha0 hb0
    have h2 := Int.ediv_le_self b ha0
    show 0 ≤ _ ∧ _
    omega
  · show 0 ≤ _ ∧ _; omega
  · rename_i hb1
    have h1 := Int.emod_nonneg a (b := b) hb1
    have h2 := Int.emod_lt_of_pos a (b := b) (by omega)
    show 0 ≤ _ ∧ _
    omega
  · show 0 ≤ _ ∧ _; omega
  · exact m _
  · show 0 ≤ _ ∧ _; omega
  · exact m _
  · exact nat (· &&& ·) (fun x y hx hy => Nat.and_lt_two_pow x hy)
  · exact nat (· ||| ·) (fun x y hx hy => Nat.or_lt_two_pow hx hy)
  · exact nat (· ^^^ ·) (fun x y hx hy => Nat.xor_lt_two_pow hx hy)
  · show 0 ≤ _ ∧ _; omega
  · exact m _
  · show 0 ≤ _ ∧ _; omega
  · have h2 : (0 : Int) ≤ 2 ^ b.toNat := by have := pow_pos b.toNat; omega
    have h3 := Int.ediv_nonneg ha0 h2
    have h4 := Int.ediv_le_self (2 ^ b.toNat) ha0
    show 0 ≤ _ ∧ _
    omega
  · show 0 ≤ _ ∧ _; omega
  · show 0 ≤ _ ∧ _; omega
  · exact m _
  all_goals (show 0 ≤ _ ∧ _; omega)
end Go.Proofs.Ytoddafkffchnjaa.Lw0
