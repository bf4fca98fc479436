import Derived.Test.YtoddafkffchnjaaAw
import Derived.Test.YtoddafkffchnjaaDf
/- What Apply comes to for ranges of one word each. -/
namespace Go.Proofs.Ytoddafkffchnjaa.Sg
set_option linter.unusedVariables false
set_option linter.unusedSimpArgs false
set_option linter.unusedSectionVars false
open Go.RowKit Go.Proofs.Ytoddafkffchnjaa.P Go.Proofs.YtoddafkffchnjaaW.PrintWords Wd Im Iv Tg Lw0 Ap Cm Cn Ev Rf Aq Ar As At Au Av Aw

/-- The range of one word. -/
def o1 (v n : Int) : S30 := ⟨n % 2 ^ nn v, n % 2 ^ nn v, sg (nn v) n, sg (nn v) n⟩
theorem q_o1 (v n : Int) : q (o1 v n) = one (nn v) n := rfl
section
variable {v n : Int} (hv : 1 ≤ v ∧ v ≤ 64)
include hv
theorem nn1 : 1 ≤ nn v := by have := nn_of (w := v) (by omega) hv.2; omega
theorem hd_o1 : Hd v (o1 v n) (n % 2 ^ nn v) := by
  have hm := mod_lt (nn v) n
  refine ⟨hm, ?_⟩
  have h := in_one (nn1 hv) hm
  have e : one (nn v) (n % 2 ^ nn v) = one (nn v) n := by unfold one; rw [sg_fit, Int.emod_emod_of_dvd _ (Int.dvd_refl _)]
  rw [e] at h
  exact h
theorem wf_o1 : Wf (o1 v n) := by
  have hm := mod_lt (nn v) n
  have h64 := pow_le (nn_le v)
  have hb := bd_i64 (nn_le v) (bd_one (nn1 hv) n).1
  exact ⟨⟨hm.1, by show n % 2 ^ nn v < _; omega⟩, hb⟩
theorem tg_o1 : (tg v (q (o1 v n))).2.2.2.2 = true ∧ ((tg v (q (o1 v n))).1 == (tg v (q (o1 v n))).2.1) = true := by
  have hm := mod_lt (nn v) n
  have hb := (bd_one (nn1 hv) n).1
  have hin := (hd_o1 (n := n) hv).2
  have hV : Valid v (q (o1 v n)).1 (q (o1 v n)).2.1 (q (o1 v n)).2.2.1 (q (o1 v n)).2.2.2 := ⟨hv, hb.h1, hb.h2, hb.h3, hb.h4, hb.h5⟩
  unfold tg
  rw [if_pos hV]
  rcases tight_form (nn1 hv) (lo := (q (o1 v n)).1) (hi := (q (o1 v n)).2.1) (l := (q (o1 v n)).2.2.1) (m := (q (o1 v n)).2.2.2) hm.1 hb with ⟨_, h⟩ | ⟨a, b, c, d, ht, _, _, h1, h2, _, _, _, h3⟩
  · exact absurd hin (h _ hm.1 hm.2)
  · rw [ht]
    have h4 := (h3 _ hm.1 hm.2).2 hin
    refine ⟨rfl, ?_⟩
    have h1 : n % 2 ^ nn v ≤ a := h1
    have h2 : b ≤ n % 2 ^ nn v := h2
    have h5 := h4.1
    have h6 := h4.2.1
    rw [beq_iff_eq]
    show a = b
    omega
end
theorem hds_o1 : ∀ {ws ns : List Int}, ns.length = ws.length → (∀ v ∈ ws, 1 ≤ v ∧ v ≤ 64) → Hds ws (List.zipWith o1 ws ns) (List.zipWith (fun v n => n % 2 ^ nn v) ws ns)
  | [], [], _, _ => trivial
  | [], _ :: _, h, _ => by simp at h
  | _ :: _, [], h, _ => by simp at h
  | v :: ws, n :: ns, h, hv => ⟨hd_o1 (hv v (by simp)), hds_o1 (by simpa using h) (fun x hx => hv x (by simp [hx]))⟩
theorem wf_all : ∀ {ws ns : List Int}, (∀ v ∈ ws, 1 ≤ v ∧ v ≤ 64) → ∀ a ∈ List.zipWith o1 ws ns, Wf a
  | [], _, _, a, h => by simp at h
  | _ :: _, [], _, a, h => by simp at h
  | v :: ws, n :: ns, hv, a, h => by
    rw [List.zipWith_cons_cons] at h
    rcases List.mem_cons.1 h with rfl | h
    · exact wf_o1 (hv v (by simp))
    · exact wf_all (fun x hx => hv x (by simp [hx])) a h
theorem ap_o1 {op w num : Int} : ∀ {ws ns : List Int}, ns.length = ws.length → (∀ v ∈ ws, 1 ≤ v ∧ v ≤ 64) → ∃ X, ap op w ws (List.zipWith o1 ws ns) num = one (nn w) X
  | [], [], _, _ => ⟨_, rfl⟩
  | [], _ :: _, h, _ => by simp at h
  | _ :: _, [], h, _ => by simp at h
  | [v], [n], _, hv => by
    obtain ⟨h1, h2⟩ := tg_o1 (n := n) (hv v (by simp))
    simp only [List.zipWith_cons_cons, List.zipWith_nil_left]
    unfold ap g1
    simp only []
    rw [if_pos h1, h2]
    exact ⟨_, rfl⟩
  | [v, u], [n, m], _, hv => by
    obtain ⟨h1, h2⟩ := tg_o1 (n := n) (hv v (by simp))
    obtain ⟨h3, h4⟩ := tg_o1 (n := m) (hv u (by simp))
    simp only [List.zipWith_cons_cons, List.zipWith_nil_left]
    unfold ap g2
    simp only []
    rw [if_pos h1, if_pos h3, h2, h4]
    exact ⟨_, rfl⟩
  | [v, u, x], [n, m, y], _, hv => by
    obtain ⟨h1, h2⟩ := tg_o1 (n := n) (hv v (by simp))
    obtain ⟨h3, h4⟩ := tg_o1 (n := m) (hv u (by simp))
    obtain ⟨h5, h6⟩ := tg_o1 (n := y) (hv x (by simp))
    simp only [List.zipWith_cons_cons, List.zipWith_nil_left]
    unfold ap g3
    simp only []
    rw [if_pos h1, if_pos h3, if_pos h5, h2, h4, h6]
    exact ⟨_, rfl⟩
  | _ :: _ :: _ :: _ :: _, [_], h, _ => by simp at h
  | _ :: _ :: _ :: _ :: _, [_, _], h, _ => by simp at h
  | _ :: _ :: _ :: _ :: _, [_, _, _], h, _ => by simp at h
  | _ :: _ :: _ :: _ :: _, _ :: _ :: _ :: _ :: _, _, _ => ⟨_, rfl⟩
/-- The result is the value's range. -/
theorem single {op w num : Int} {ws ns : List Int} (h8 : ws.length ≤ 8) (hl : ns.length = ws.length) (hnum : 0 ≤ num ∧ num < 18446744073709551616) (hs : shb op w ws = true) :
    (1 ≤ w ∧ w ≤ 64) ∧ (∀ v ∈ ws, 1 ≤ v ∧ v ≤ 64) ∧ ∃ e, (0 ≤ e ∧ e < 18446744073709551616) ∧ jacquardref12_Eval.f 200 op w ws (List.zipWith (fun v n => n % 2 ^ nn v) ws ns) num = some e ∧ interval_Apply.f 200 op w ws (List.zipWith o1 ws ns) num = some (one (nn w) e) := by
  have hS := sh_of hs
  obtain ⟨hw, hws, _⟩ := hS
  refine ⟨hw, hws, ?_⟩
  have hn1 := nn1 hw
  obtain ⟨e, he, hr, _, hin⟩ := sound_ap (sh_of hs) (wf_all (ns := ns) hws) hnum (hds_o1 hl hws) (k := 200) (by decide)
  obtain ⟨X, hX⟩ := ap_o1 (op := op) (w := w) (num := num) hl hws
  rw [hX] at hin
  have hX2 := mod_lt (nn w) X
  have e1 : e = X % 2 ^ nn w := by
    obtain ⟨h1, h2, _⟩ := hin
    have h1 : X % 2 ^ nn w ≤ e := h1
    have h2 : e ≤ X % 2 ^ nn w := h2
    omega
  have e2 : one (nn w) X = one (nn w) e := by rw [e1]; unfold one; rw [sg_fit, Int.emod_emod_of_dvd _ (Int.dvd_refl _)]
  refine ⟨e, ⟨hr.1, by have := pow_le (nn_le w); omega⟩, he, ?_⟩
  have hlen : (List.zipWith o1 ws ns).length = ws.length := by simp [hl]
  unfold interval_Apply.f
  rw [shaped_eq op w ws h8 (by decide), Option.bind_some, if_pos hs]
  have hb : (((List.zipWith o1 ws ns).length : Int) != (ws.length : Int)) = false := by rw [hlen]; simp
  rw [hb, ap_i (sh_of hs) hlen (wf_all hws) hnum (k := 195) (by decide), hX, e2]
end Go.Proofs.Ytoddafkffchnjaa.Sg
