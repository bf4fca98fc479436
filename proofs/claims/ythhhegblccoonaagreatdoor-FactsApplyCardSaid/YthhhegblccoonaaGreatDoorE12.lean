/- What the evaluator makes of the functions' code (by the script without lemmas of its own). -/
import Derived.Test.YthhhegblccoonaaGreatDoorO
namespace Go.Vm
open Go.Proofs Go.Proofs.YthhhegblccoonaaGreatDoor Go.Proofs.YthhhegblccoonaaGreatDoor.P Go.RowKit Go.Proofs.YthhhegblccoonaaGreatDoorW.PrintWords Go.Proofs.YthhhegblccoonaaGreatDoorW.PrintLast Go.Proofs.YthhhegblccoonaaGreatDoorW.PrintMore
set_option linter.unusedVariables false
set_option linter.unusedSimpArgs false
set_option maxRecDepth 100000
set_option maxHeartbeats 40000000
theorem run0 {P E J : Prop} (e : E) (j : J) (h : Box E → Box J → P := by
  intro e j G C U K op ok cmp neg not wrap mn' mx' idx len get cut app byte lp k q hG hC hU hK hA hlp hQ hk
  have hcall : ∀ α x f, C α x f = cm x f := fun _ _ _ => by rw [hC]; rfl
  have hor : ∀ n a h, K n a h = orc G C U n a h := fun _ _ _ => by rw [hK]
  have hUu : ∀ α cd c, U α cd c = uu cd c := fun _ _ _ => by rw [hU]; rfl
  have hbyte : ∀ c i, byte c i = real.byte c i := fun _ _ => by rw [← hA]
  have hcmp : ∀ o a b, cmp o a b = real.cmp o a b := fun _ _ _ => by rw [← hA]
  have hok : ∀ o a, ok o a = real.ok o a := fun _ _ => by rw [← hA]
  have hget : ∀ c i, get c i = real.get c i := fun _ _ => by rw [← hA]
  have happ : ∀ n b c y, app n b c y = real.app n b c y := fun _ _ _ _ => by rw [← hA]
  have hlp' : ∀ b n0 kp L st, lp b n0 kp L st = rounds b n0 kp L st := fun _ _ _ _ _ => by rw [hlp]
  delta orc
  repeat' (first | refine On.I fun _ => ?_ | refine On.b ?_ ?_ | refine On.l fun _ _ _ => ?_ | refine On.a ?_ | refine On.p ?_ | refine On.h ?_ | refine On.s fun _ => ?_ | fail)
  all_goals
    refine On.r hC fun r R H hR => ?_
    try simp only [V.i, V.u, V.b, V.y] at hR
    cbv
  all_goals repeat' (first
    | (rewrite [hor]; cbv)
    | (rewrite [hUu]; generalize hq : uu _ _ = o; replace hq := uE hU hq (by first | assumption | exact (U_nil hU) | exact (U_cons hU rfl (U_nil hU)) | exact (U_cons hU rfl (U_cons hU rfl (U_nil hU))) | exact (U_cons hU rfl (U_cons hU rfl (U_cons hU rfl (U_nil hU)))) | exact (U_cons hU rfl (U_cons hU rfl (U_cons hU rfl (U_cons hU rfl (U_nil hU))))) | exact (U_cons hU rfl (U_cons hU rfl (U_cons hU rfl (U_cons hU rfl (U_cons hU rfl (U_nil hU))))))); subst hq; cbv)
    | (rewrite [hcall]; generalize hq : cm _ _ = o; first
        | (replace hq := mK hq (by assumption); subst hq; cbv)
        | (replace hq := mR hq
           rcases hq with ⟨hr, rfl⟩ | h1
           rotate_left
           repeat' (first | (replace h1 := bP h1; rcases h1 with h1 | h1) | (replace h1 := mX h1; obtain ⟨_, h1⟩ := h1) | fail)
           all_goals first | (replace h1 := bX h1; rcases h1 with ⟨hr, ho⟩ | ⟨hr, ho⟩ <;> (try dsimp only at ho) <;> subst ho <;> cbv) | (obtain ⟨_, hr, ho⟩ := h1; (try dsimp only at ho); subst ho; cbv) | cbv | fail))
    | (rewrite [hget]; generalize hq : real.get _ _ = o; replace hq := getE hU hq (by assumption); rcases hq with ⟨hb, x, hx, rfl⟩ | ⟨hb, rfl⟩ <;> first | (exact absurd (by assumption) hb) | cbv | fail)
    | (rewrite [hbyte]; generalize hq : real.byte _ _ = o; replace hq := byteE hq; rcases hq with ⟨hb, x, hx, rfl⟩ | ⟨hb, rfl⟩ <;> cbv)
    | (rewrite [hok]; generalize hq : real.ok _ _ = o; cases o <;> cbv)
    | (rewrite [hcmp]; generalize hq : real.cmp _ _ _ = o; cases o <;> simp only [rc] at hq <;> first | (exfalso; omega) | cbv | fail)
    | fail)
  all_goals
    clear hcall hor hUu hbyte hcmp hok hget happ hlp'
    repeat (rename U _ _ _ = some _ => hu; obtain rfl := unU hU hu; clear hu)
    obtain ⟨rfl, rfl, rfl, rfl, rfl, rfl, rfl, rfl, rfl, rfl, rfl, rfl, rfl, rfl⟩ := arE hA
    clear hA hK
    subst hlp hR hG hC hU
    try simp only [realF, rl, rds, len_m, most] at *
    all_goals
      rewrite [e.out] at H
      try subst_vars
      try simp only [beq_dec, bne_dec] at H
    all_goals
      repeat (first
        | (simp [j.out, beq_dec, bne_dec, *] at H; done)
        | (simp [j.out, beq_dec, bne_dec, *] at H)
        | (rw [if_pos (by omega)] at H)
        | (rw [if_neg (by omega)] at H)
        | (have hc := And.left H; replace H := And.right H; try (exfalso; clear H; omega)))
    all_goals first
      | (subst H; have hx := shr58 (bits BinOp.and IntKind.u64 ‹Int› (IntKind.u64.wrap (-‹Int›)) * 285870213051353865); obtain ⟨t, ht, hx⟩ := hx; rw [hx]; clear hx; (iterate 64 (rcases t with _ | t; · as_aux_lemma => rfl)); omega)
      | (subst H; rfl)
      | (subst H; simp; done)
      | (cases H; rfl)
      | (exfalso; clear H; omega)
      | (exfalso; clear H; simp [ByteArray.size] at hb; omega)
      | (subst H; simp [beq_dec, bne_dec, *]; done)
      | (simp_all [beq_dec, bne_dec]; done)
      | (simp_all [beq_dec, bne_dec]; subst H; first | rfl | (simp; done) | (simp [*]; done))
      | (simp only [hq] at *; simp [*] at H; done)
      | (simp only [hq] at *; simp [*] at H; subst H; first | rfl | (simp; done))
      | (simp only [hq] at hb; exfalso; first | omega | exact hb ⟨by assumption, by assumption⟩)) : P := h ⟨e⟩ ⟨j⟩
theorem e130 : Ev 130 h130 Tryz.f130 := run0 jacquardref13_decided.f.eq_1 trivial
theorem e88 : Ev 88 h88 Tryz.f88 := run0 jacquardref13_compare.f.eq_1 jacquardref13_compare.j0.eq_1
end Go.Vm
