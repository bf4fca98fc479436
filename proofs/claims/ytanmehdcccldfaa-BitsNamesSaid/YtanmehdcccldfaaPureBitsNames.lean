import Derived.Test.YtanmehdcccldfaaIm
import Derived.Test.YtanmehdcccldfaaPx20
import Derived.Test.YtanmehdcccldfaaPx19
/- Name and Find are inverse to each other, and IsBinary and IsCompare name the specified operators. -/
namespace Go.Proofs.Ytanmehdcccldfaa.Pure
set_option linter.unusedVariables false
set_option linter.unusedSimpArgs false
set_option linter.unusedSectionVars false
open Go.RowKit Go.Proofs.Ytanmehdcccldfaa.P Go.Proofs.YtanmehdcccldfaaW.PrintWords Wd Im

theorem nawake_eq (k : Nat) : jacquardlaw01_awake.f (k + 3) = some true := by
  unfold jacquardlaw01_awake.f
  rw [binary_eq k 2 4 9 8 (by decide) (by decide), Option.bind_some]
  decide
def tbl : List ByteArray := (bits_names.f).getD []
theorem names_eq : bits_names.f = some tbl := rfl
theorem rnames_eq : jacquardref01_Names.f = some tbl := rfl
theorem tbl_len : tbl.length = 29 := by decide +kernel
/-- The name in place j. -/
def nm (j : Int) : List UInt8 := (rdOf ByteArray.empty tbl j).toList
theorem nm_inj_fin : ∀ i j : Fin 29, nm (i.1 : Int) = nm (j.1 : Int) → i = j := by decide +kernel
theorem nm_inj {i j : Int} (hi : 0 ≤ i ∧ i < 29) (hj : 0 ≤ j ∧ j < 29) (h : nm i = nm j) : i = j := by
  have := nm_inj_fin ⟨i.toNat, by omega⟩ ⟨j.toNat, by omega⟩ (by
    simp only []
    rw [show ((i.toNat : Nat) : Int) = i by omega, show ((j.toNat : Nat) : Int) = j by omega]
    exact h)
  have := congrArg (fun x : Fin 29 => (x.1 : Int)) this
  simp only [] at this
  omega
theorem find_loop (x : ByteArray) (d : Nat) : ∀ (k : Nat) (i : Int), 0 ≤ i → i + d = 29 → d < k →
    ∃ r, bits_Find.l0 k x tbl 29 i = some r ∧ (((∀ j, i ≤ j → j < 29 → nm j ≠ x.toList) ∧ r = 0) ∨ (i ≤ r ∧ r < 29 ∧ nm r = x.toList)) := by
  have hl := tbl_len
  induction d with
  | zero =>
    intro k i hi h hk
    obtain ⟨k, rfl⟩ : ∃ m, k = m + 1 := ⟨k - 1, by omega⟩
    exact ⟨0, by rw [bits_Find.l0, if_neg (by omega)], .inl ⟨fun j h1 h2 => by omega, rfl⟩⟩
  | succ d ih =>
    intro k i hi h hk
    obtain ⟨k, rfl⟩ : ∃ m, k = m + 1 := ⟨k - 1, by omega⟩
    rw [bits_Find.l0, if_pos (by omega), if_pos (by omega), if_pos (by rw [hl]; omega)]
    by_cases c : nm i = x.toList
    · exact ⟨i, by rw [if_pos (show (rdOf ByteArray.empty tbl i).toList = x.toList from c)], .inr ⟨by omega, by omega, c⟩⟩
    · obtain ⟨r, h1, h2⟩ := ih k (i + 1) (by omega) (by omega) (by omega)
      refine ⟨r, by rw [if_neg (show ¬ (rdOf ByteArray.empty tbl i).toList = x.toList from c), wrap64_id (by omega) (by omega)]; exact h1, ?_⟩
      rcases h2 with ⟨h2, h3⟩ | ⟨h2, h3⟩
      · refine .inl ⟨fun j h4 h5 => ?_, h3⟩
        by_cases e : j = i
        · rw [e]; exact c
        · exact h2 j (by omega) h5
      · exact .inr ⟨by omega, h3⟩
theorem find_eq (x : ByteArray) {k : Nat} (hk : 30 < k) : ∃ r, bits_Find.f k x = some r ∧ (((∀ j, 0 ≤ j → j < 29 → nm j ≠ x.toList) ∧ r = 0) ∨ (0 ≤ r ∧ r < 29 ∧ nm r = x.toList)) := by
  obtain ⟨r, h1, h2⟩ := find_loop x 29 k 0 (by omega) (by omega) (by omega)
  refine ⟨r, ?_, h2⟩
  unfold bits_Find.f
  rw [names_eq, Option.bind_some, tbl_len]
  exact h1
theorem at_loop (op : Int) (x y : ByteArray) (d : Nat) : ∀ (k : Nat) (i v : Int), 0 ≤ i → i + d = 29 → d + 40 < k →
    ∃ k' v', 40 < k' ∧ jacquardlaw01_BitsNames.l0 k op x tbl y v i = jacquardlaw01_BitsNames.l0 k' op x tbl y v' 29 ∧ (((∀ j, i ≤ j → j < 29 → nm j ≠ x.toList) ∧ v' = v) ∨ (i ≤ v' ∧ v' < 29 ∧ nm v' = x.toList)) := by
  have hl := tbl_len
  induction d with
  | zero =>
    intro k i v hi h hk
    obtain rfl : i = 29 := by omega
    exact ⟨k, v, by omega, rfl, .inl ⟨fun j h1 h2 => by omega, rfl⟩⟩
  | succ d ih =>
    intro k i v hi h hk
    obtain ⟨k, rfl⟩ : ∃ m, k = m + 1 := ⟨k - 1, by omega⟩
    rw [jacquardlaw01_BitsNames.l0, if_pos (by rw [hl]; omega), if_pos (by omega), wrap64_id (by omega) (by omega)]
    by_cases c : nm i = x.toList
    · obtain ⟨k', v', h1, h2, h3⟩ := ih k (i + 1) i (by omega) (by omega) (by omega)
      refine ⟨k', v', h1, by rw [if_pos (show (rdOf ByteArray.empty tbl i).toList = x.toList from c)]; exact h2, .inr ?_⟩
      rcases h3 with ⟨_, h4⟩ | ⟨h4, h5⟩
      · subst h4; exact ⟨by omega, by omega, c⟩
      · exact ⟨by omega, h5⟩
    · obtain ⟨k', v', h1, h2, h3⟩ := ih k (i + 1) v (by omega) (by omega) (by omega)
      refine ⟨k', v', h1, by rw [if_neg (show ¬ (rdOf ByteArray.empty tbl i).toList = x.toList from c)]; exact h2, ?_⟩
      rcases h3 with ⟨h4, h5⟩ | ⟨h4, h5⟩
      · refine .inl ⟨fun j h6 h7 => ?_, h5⟩
        by_cases e : j = i
        · rw [e]; exact c
        · exact h4 j (by omega) h7
      · exact .inr ⟨by omega, h5⟩
theorem name_eq (op : Int) : bits_Name.f op = some (if 1 ≤ op ∧ op < 29 then rdOf ByteArray.empty tbl op else (⟨#[]⟩ : ByteArray)) := by
  unfold bits_Name.f
  rw [names_eq, Option.bind_some, tbl_len]
  by_cases h1 : op > 0
  · rw [if_pos h1]
    by_cases h2 : op < 29
    · rw [if_pos (by omega), if_pos (by omega), if_pos (by omega)]
    · rw [if_neg (by omega), if_neg (by omega)]
  · rw [if_neg h1, if_neg (by omega)]
theorem isB_same (op : Int) : jacquardref01_IsBinary.f op = bits_IsBinary.f op := rfl
theorem isC_some (op : Int) : ∃ b, bits_IsCompare.f op = some b := by unfold bits_IsCompare.f; split <;> exact ⟨_, rfl⟩
theorem isC_same (op : Int) : jacquardref01_IsCompare.f op = bits_IsCompare.f op := rfl
theorem BitsNames : jacquardlaw01_BitsNames.Pure := by
  intro op x _ _
  refine ⟨0 + 200, ?_⟩
  generalize 0 = k
  have hl := tbl_len
  unfold jacquardlaw01_BitsNames.f
  rw [show k + 200 = (k + 197) + 3 by omega, nawake_eq (k + 197), Option.bind_some, if_pos rfl, rnames_eq, Option.bind_some, show k + 197 + 3 = (k + 198) + 2 by omega]
  have main : ∀ y, y = (if 1 ≤ op ∧ op < 29 then rdOf ByteArray.empty tbl op else (⟨#[]⟩ : ByteArray)) → jacquardlaw01_BitsNames.l0 (k + 198) op x tbl y 0 1 = some true := by
    intro y hy
    obtain ⟨k', v, h1, h2, h3⟩ := at_loop op x y 28 (k + 198) 1 0 (by omega) (by omega) (by omega)
    obtain ⟨k', rfl⟩ : ∃ m, k' = m + 1 := ⟨k' - 1, by omega⟩
    obtain ⟨r, f1, f2⟩ := find_eq x (k := k') (by omega)
    obtain ⟨r2, g1, g2⟩ := find_eq y (k := k') (by omega)
    obtain ⟨c, hc⟩ := isC_some op
    rw [h2, jacquardlaw01_BitsNames.l0, if_neg (by rw [hl]; omega), name_eq, ← hy, Option.bind_some, if_pos rfl, f1, Option.bind_some]
    have e1 : r = v := by
      rcases f2 with ⟨a, b⟩ | ⟨a, b, c⟩
      · rcases h3 with ⟨_, d⟩ | ⟨d, e, f⟩
        · omega
        · exact absurd f (a v (by omega) e)
      · rcases h3 with ⟨d, e⟩ | ⟨d, e, f⟩
        · by_cases h0 : 1 ≤ r
          · exact absurd c (d r h0 b)
          · omega
        · exact nm_inj ⟨a, b⟩ ⟨by omega, e⟩ (by rw [c, f])
    rw [if_pos e1, isB_same, isC_same, isBinary_eq, hc]
    simp only [Option.bind_some, beq_self_eq_true, if_true]
    by_cases hy0 : y.toList = ([] : List UInt8)
    · rw [if_pos hy0]
    · rw [if_neg hy0, g1, Option.bind_some, if_pos]
      by_cases ho : 1 ≤ op ∧ op < 29
      · rw [if_pos ho] at hy
        have hn : nm op = y.toList := by rw [hy]; rfl
        rcases g2 with ⟨a, b⟩ | ⟨a, b, c⟩
        · exact absurd hn (a op (by omega) ho.2)
        · exact nm_inj ⟨a, b⟩ ⟨by omega, ho.2⟩ (by rw [c, hn])
      · rw [if_neg ho] at hy
        exact absurd (by rw [hy]; decide +kernel) hy0
  have j1 : ∀ y, y = (if 1 ≤ op ∧ op < 29 then rdOf ByteArray.empty tbl op else (⟨#[]⟩ : ByteArray)) → jacquardlaw01_BitsNames.j1 (k + 199) op x tbl y = some true := by
    intro y hy
    rw [jacquardlaw01_BitsNames.j1]; exact main y hy
  by_cases h1 : op ≥ 1
  · rw [if_pos h1, jacquardlaw01_BitsNames.j0]
    by_cases h2 : op < 29
    · rw [if_pos (by rw [hl]; simpa using h2), if_pos (by omega), if_pos (by rw [hl]; omega)]
      exact j1 _ (by rw [if_pos ⟨h1, h2⟩])
    · rw [if_neg (by rw [hl]; simpa using h2)]
      exact j1 _ (by rw [if_neg (fun h => h2 h.2)])
  · rw [if_neg h1, jacquardlaw01_BitsNames.j0, if_neg (by decide)]
    exact j1 _ (by rw [if_neg (fun h => h1 h.1)])
end Go.Proofs.Ytanmehdcccldfaa.Pure
