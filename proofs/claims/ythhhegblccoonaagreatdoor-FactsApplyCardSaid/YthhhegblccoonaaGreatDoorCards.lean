/-
  DERIVED. GIVEN WITH THE SEED: THE CARDS: each row of YthhhegblccoonaaGreatDoorRows.lean that lists a variable, with what it lists TIED to the program's text (the seventh form; the later family's looks); each row that meets fmt, with fmt's text TOLD by the authors' own Lean function (tested against real Go, not proved from fmt's source: count such statements apart). THE CARD IS WHAT COUNTS. Prove the row's statement (the work); the ties are given (YthhhegblccoonaaGreatDoorTie.lean); close each card by the builder's one call (the guide's Derived/Test/ToyasCard.lean, 'card_holds'). Laid BY PROGRAM, IN A SANDBOX (cutbox-door.mjs). By AI agents, Wed Nov 11 2026. No macro, syntax, notation, axiom, sorry.
-/
import Derived.Test.YthhhegblccoonaaGreatDoorRows
import GoSem.ClaimSeven
namespace Go.Proofs.YthhhegblccoonaaGreatDoor
namespace Rows

/-- THE TIED CARD OF 'jacquardlaw14.FactsApply'. -/
def factsApplyCard : Claim7 := { stood := { row := factsApplyRow, standIns := [], harness := (true, "f1625153256e0936521a1f0c51dbd613520899ec59b5f4be6431ae7f3e6186ea"), looks := false }, kinds := [], alts := [], laidByText := true, laidKinds := [.data], laidTests := true, laidLooks := .later }
def FactsApplyCardSaid : Prop := Claim7.holds Tryz.pinned (.plain (OpenSpec.ofChange factsApplySpec)) factsApplyCard

/-- THE TIED CARD OF 'jacquardlaw14.FactsSound'. -/
def factsSoundCard : Claim7 := { stood := { row := factsSoundRow, standIns := [], harness := (true, "f1625153256e0936521a1f0c51dbd613520899ec59b5f4be6431ae7f3e6186ea"), looks := false }, kinds := [], alts := [], laidByText := true, laidKinds := [.data], laidTests := true, laidLooks := .later }
def FactsSoundCardSaid : Prop := Claim7.holds Tryz.pinned (.plain (OpenSpec.ofChange factsSoundSpec)) factsSoundCard

/-- THE SECOND FORM's CARD OF 'jacquardlaw14.FactsApply'. -/
def factsApplyUptoCard : Claim7 := { stood := { row := factsApplyUptoRow, standIns := [], harness := (true, "f1625153256e0936521a1f0c51dbd613520899ec59b5f4be6431ae7f3e6186ea"), looks := false }, kinds := [], alts := [], laidByText := true, laidKinds := [.data], laidTests := true, laidLooks := .later }
def FactsApplyUptoCardSaid : Prop := Claim7.holds Tryz.pinned (.plain (OpenSpec.upto factsApplySpec)) factsApplyUptoCard

/-- THE SECOND FORM's CARD OF 'jacquardlaw14.FactsSound'. -/
def factsSoundUptoCard : Claim7 := { stood := { row := factsSoundUptoRow, standIns := [], harness := (true, "f1625153256e0936521a1f0c51dbd613520899ec59b5f4be6431ae7f3e6186ea"), looks := false }, kinds := [], alts := [], laidByText := true, laidKinds := [.data], laidTests := true, laidLooks := .later }
def FactsSoundUptoCardSaid : Prop := Claim7.holds Tryz.pinned (.plain (OpenSpec.upto factsSoundSpec)) factsSoundUptoCard
end Rows
end Go.Proofs.YthhhegblccoonaaGreatDoor
