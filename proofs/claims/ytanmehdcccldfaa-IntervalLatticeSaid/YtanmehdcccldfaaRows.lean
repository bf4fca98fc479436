/-
  No cell of these rows narrows 'for every input' (looked for: loops, veiled, ifaces, maps, wideKeys, modest, calm, conditions, laid).
  DERIVED. THE GIVEN ROWS OF THIS SEAT. 12 by the template 'for every input the law returns true; each argument reads behind the call as it read before'; 0 by the template 'total and deterministic' (their statements: YtanmehdcccldfaaTotals.lean).
  GIVEN WITH THE SEED: the statements are not yours to turn. If you find one false, say at which input.
  Laid BY PROGRAM, IN A SANDBOX (cutbox-rows.mjs): the forced cells as the released guide's own fill.sh prints them over the translation 2b8cfad374450a3b… (all of the seat's roots in one cut). By AI agents, Wed Nov 11 2026. No macro, syntax, notation, axiom, sorry.
-/
import Derived.Test.YtanmehdcccldfaaChecked
import GoSem.Claim
import GoSem.ClaimJoined
import GoSem.ClaimMapViews
import Derived.JoinedTies
import Derived.KernelRfl
namespace Go.Proofs.Ytanmehdcccldfaa
/- THE CELL 'sum', in the pinned program and in every row, IS THE sha256 OF THE DUMP (.gsa) THAT YtanmehdcccldfaaProg.lean LOADS. Nothing in Lean hashes anything: it is a label: what it is worth is what the hold of that sum in a sandbox is worth. -/
noncomputable def Try.pinned : Pinned := { name := "ytanmehdcccldfaa", sum := "2b8cfad374450a3bc6eb0371e9a4d09b2a89ae1ab92c2726944e4061e829e60b", checked := Try.checked }
namespace Rows
def none {H : Type} : Left H := { results := [], args := [] }

/-- 'jacquardlaw13.IntervalElements': WHATEVER THE INPUT: true; the input reads as it did. -/
def intervalElementsSpec : ChangeSpec := { name := "intervalElements", fn := fun _ => fun
  | [d1, d2, d3] => { results := [.lit (.bool true)], args := [d1, d2, d3] }
  | _ => none }
def intervalElementsRow : OpenClaim := { program := "ytanmehdcccldfaa", sum := "2b8cfad374450a3bc6eb0371e9a4d09b2a89ae1ab92c2726944e4061e829e60b", func := "jacquard/jacquardlaw13.IntervalElements", spec := "intervalElements", apart := false }
def IntervalElementsSaid : Prop := intervalElementsRow.holds Try.pinned (OpenSpec.ofChange intervalElementsSpec)

/-- ITS FALSE NEIGHBOUR: 'it returns false'. Refute it at one input. -/
def intervalElementsWrong : ChangeSpec := { name := "intervalElements", fn := fun _ => fun
  | [d1, d2, d3] => { results := [.lit (.bool false)], args := [d1, d2, d3] }
  | _ => none }
def IntervalElementsWrongFalsely : Prop := intervalElementsRow.holds Try.pinned (OpenSpec.ofChange intervalElementsWrong)

/-- 'jacquardlaw13.IntervalLattice': WHATEVER THE INPUT: true; the input reads as it did. -/
def intervalLatticeSpec : ChangeSpec := { name := "intervalLattice", fn := fun _ => fun
  | [d1, d2, d3] => { results := [.lit (.bool true)], args := [d1, d2, d3] }
  | _ => none }
def intervalLatticeRow : OpenClaim := { program := "ytanmehdcccldfaa", sum := "2b8cfad374450a3bc6eb0371e9a4d09b2a89ae1ab92c2726944e4061e829e60b", func := "jacquard/jacquardlaw13.IntervalLattice", spec := "intervalLattice", apart := false }
def IntervalLatticeSaid : Prop := intervalLatticeRow.holds Try.pinned (OpenSpec.ofChange intervalLatticeSpec)

/-- ITS FALSE NEIGHBOUR: 'it returns false'. Refute it at one input. -/
def intervalLatticeWrong : ChangeSpec := { name := "intervalLattice", fn := fun _ => fun
  | [d1, d2, d3] => { results := [.lit (.bool false)], args := [d1, d2, d3] }
  | _ => none }
def IntervalLatticeWrongFalsely : Prop := intervalLatticeRow.holds Try.pinned (OpenSpec.ofChange intervalLatticeWrong)

/-- 'jacquardlaw26.BankPlaces': WHATEVER THE INPUT: true; the input reads as it did. -/
def bankPlacesSpec : ChangeSpec := { name := "bankPlaces", fn := fun _ => fun
  | [d1, d2, d3] => { results := [.lit (.bool true)], args := [d1, d2, d3] }
  | _ => none }
def bankPlacesRow : OpenClaim := { program := "ytanmehdcccldfaa", sum := "2b8cfad374450a3bc6eb0371e9a4d09b2a89ae1ab92c2726944e4061e829e60b", func := "jacquard/jacquardlaw26.BankPlaces", spec := "bankPlaces", unfollowed := true, recurses := true, apart := false }
def BankPlacesSaid : Prop := bankPlacesRow.holds Try.pinned (OpenSpec.ofChange bankPlacesSpec)

/-- ITS FALSE NEIGHBOUR: 'it returns false'. Refute it at one input. -/
def bankPlacesWrong : ChangeSpec := { name := "bankPlaces", fn := fun _ => fun
  | [d1, d2, d3] => { results := [.lit (.bool false)], args := [d1, d2, d3] }
  | _ => none }
def BankPlacesWrongFalsely : Prop := bankPlacesRow.holds Try.pinned (OpenSpec.ofChange bankPlacesWrong)

/-- 'jacquardlaw13.IntervalTightens': WHATEVER THE INPUT: true; the input reads as it did. -/
def intervalTightensSpec : ChangeSpec := { name := "intervalTightens", fn := fun _ => fun
  | [d1, d2, d3] => { results := [.lit (.bool true)], args := [d1, d2, d3] }
  | _ => none }
def intervalTightensRow : OpenClaim := { program := "ytanmehdcccldfaa", sum := "2b8cfad374450a3bc6eb0371e9a4d09b2a89ae1ab92c2726944e4061e829e60b", func := "jacquard/jacquardlaw13.IntervalTightens", spec := "intervalTightens", apart := false }
def IntervalTightensSaid : Prop := intervalTightensRow.holds Try.pinned (OpenSpec.ofChange intervalTightensSpec)

/-- ITS FALSE NEIGHBOUR: 'it returns false'. Refute it at one input. -/
def intervalTightensWrong : ChangeSpec := { name := "intervalTightens", fn := fun _ => fun
  | [d1, d2, d3] => { results := [.lit (.bool false)], args := [d1, d2, d3] }
  | _ => none }
def IntervalTightensWrongFalsely : Prop := intervalTightensRow.holds Try.pinned (OpenSpec.ofChange intervalTightensWrong)

/-- 'jacquardlaw01.BitsBinary': WHATEVER THE INPUT: true; the input reads as it did. -/
def bitsBinarySpec : ChangeSpec := { name := "bitsBinary", fn := fun _ => fun
  | [d1, d2, d3] => { results := [.lit (.bool true)], args := [d1, d2, d3] }
  | _ => none }
def bitsBinaryRow : OpenClaim := { program := "ytanmehdcccldfaa", sum := "2b8cfad374450a3bc6eb0371e9a4d09b2a89ae1ab92c2726944e4061e829e60b", func := "jacquard/jacquardlaw01.BitsBinary", spec := "bitsBinary", apart := false }
def BitsBinarySaid : Prop := bitsBinaryRow.holds Try.pinned (OpenSpec.ofChange bitsBinarySpec)

/-- ITS FALSE NEIGHBOUR: 'it returns false'. Refute it at one input. -/
def bitsBinaryWrong : ChangeSpec := { name := "bitsBinary", fn := fun _ => fun
  | [d1, d2, d3] => { results := [.lit (.bool false)], args := [d1, d2, d3] }
  | _ => none }
def BitsBinaryWrongFalsely : Prop := bitsBinaryRow.holds Try.pinned (OpenSpec.ofChange bitsBinaryWrong)

/-- 'jacquardlaw01.BitsDivision': WHATEVER THE INPUT: true; the input reads as it did. -/
def bitsDivisionSpec : ChangeSpec := { name := "bitsDivision", fn := fun _ => fun
  | [d1, d2, d3] => { results := [.lit (.bool true)], args := [d1, d2, d3] }
  | _ => none }
def bitsDivisionRow : OpenClaim := { program := "ytanmehdcccldfaa", sum := "2b8cfad374450a3bc6eb0371e9a4d09b2a89ae1ab92c2726944e4061e829e60b", func := "jacquard/jacquardlaw01.BitsDivision", spec := "bitsDivision", apart := false }
def BitsDivisionSaid : Prop := bitsDivisionRow.holds Try.pinned (OpenSpec.ofChange bitsDivisionSpec)

/-- ITS FALSE NEIGHBOUR: 'it returns false'. Refute it at one input. -/
def bitsDivisionWrong : ChangeSpec := { name := "bitsDivision", fn := fun _ => fun
  | [d1, d2, d3] => { results := [.lit (.bool false)], args := [d1, d2, d3] }
  | _ => none }
def BitsDivisionWrongFalsely : Prop := bitsDivisionRow.holds Try.pinned (OpenSpec.ofChange bitsDivisionWrong)

/-- 'jacquardlaw01.BitsOrder': WHATEVER THE INPUT: true; the input reads as it did. -/
def bitsOrderSpec : ChangeSpec := { name := "bitsOrder", fn := fun _ => fun
  | [d1, d2] => { results := [.lit (.bool true)], args := [d1, d2] }
  | _ => none }
def bitsOrderRow : OpenClaim := { program := "ytanmehdcccldfaa", sum := "2b8cfad374450a3bc6eb0371e9a4d09b2a89ae1ab92c2726944e4061e829e60b", func := "jacquard/jacquardlaw01.BitsOrder", spec := "bitsOrder", apart := false }
def BitsOrderSaid : Prop := bitsOrderRow.holds Try.pinned (OpenSpec.ofChange bitsOrderSpec)

/-- ITS FALSE NEIGHBOUR: 'it returns false'. Refute it at one input. -/
def bitsOrderWrong : ChangeSpec := { name := "bitsOrder", fn := fun _ => fun
  | [d1, d2] => { results := [.lit (.bool false)], args := [d1, d2] }
  | _ => none }
def BitsOrderWrongFalsely : Prop := bitsOrderRow.holds Try.pinned (OpenSpec.ofChange bitsOrderWrong)

/-- 'jacquardlaw01.BitsExtend': WHATEVER THE INPUT: true; the input reads as it did. -/
def bitsExtendSpec : ChangeSpec := { name := "bitsExtend", fn := fun _ => fun
  | [d1, d2, d3] => { results := [.lit (.bool true)], args := [d1, d2, d3] }
  | _ => none }
def bitsExtendRow : OpenClaim := { program := "ytanmehdcccldfaa", sum := "2b8cfad374450a3bc6eb0371e9a4d09b2a89ae1ab92c2726944e4061e829e60b", func := "jacquard/jacquardlaw01.BitsExtend", spec := "bitsExtend", apart := false }
def BitsExtendSaid : Prop := bitsExtendRow.holds Try.pinned (OpenSpec.ofChange bitsExtendSpec)

/-- ITS FALSE NEIGHBOUR: 'it returns false'. Refute it at one input. -/
def bitsExtendWrong : ChangeSpec := { name := "bitsExtend", fn := fun _ => fun
  | [d1, d2, d3] => { results := [.lit (.bool false)], args := [d1, d2, d3] }
  | _ => none }
def BitsExtendWrongFalsely : Prop := bitsExtendRow.holds Try.pinned (OpenSpec.ofChange bitsExtendWrong)

/-- 'jacquardlaw01.BitsCommute': WHATEVER THE INPUT: true; the input reads as it did. -/
def bitsCommuteSpec : ChangeSpec := { name := "bitsCommute", fn := fun _ => fun
  | [d1, d2, d3] => { results := [.lit (.bool true)], args := [d1, d2, d3] }
  | _ => none }
def bitsCommuteRow : OpenClaim := { program := "ytanmehdcccldfaa", sum := "2b8cfad374450a3bc6eb0371e9a4d09b2a89ae1ab92c2726944e4061e829e60b", func := "jacquard/jacquardlaw01.BitsCommute", spec := "bitsCommute", apart := false }
def BitsCommuteSaid : Prop := bitsCommuteRow.holds Try.pinned (OpenSpec.ofChange bitsCommuteSpec)

/-- ITS FALSE NEIGHBOUR: 'it returns false'. Refute it at one input. -/
def bitsCommuteWrong : ChangeSpec := { name := "bitsCommute", fn := fun _ => fun
  | [d1, d2, d3] => { results := [.lit (.bool false)], args := [d1, d2, d3] }
  | _ => none }
def BitsCommuteWrongFalsely : Prop := bitsCommuteRow.holds Try.pinned (OpenSpec.ofChange bitsCommuteWrong)

/-- 'jacquardlaw01.BitsIdentity': WHATEVER THE INPUT: true; the input reads as it did. -/
def bitsIdentitySpec : ChangeSpec := { name := "bitsIdentity", fn := fun _ => fun
  | [d1, d2, d3] => { results := [.lit (.bool true)], args := [d1, d2, d3] }
  | _ => none }
def bitsIdentityRow : OpenClaim := { program := "ytanmehdcccldfaa", sum := "2b8cfad374450a3bc6eb0371e9a4d09b2a89ae1ab92c2726944e4061e829e60b", func := "jacquard/jacquardlaw01.BitsIdentity", spec := "bitsIdentity", apart := false }
def BitsIdentitySaid : Prop := bitsIdentityRow.holds Try.pinned (OpenSpec.ofChange bitsIdentitySpec)

/-- ITS FALSE NEIGHBOUR: 'it returns false'. Refute it at one input. -/
def bitsIdentityWrong : ChangeSpec := { name := "bitsIdentity", fn := fun _ => fun
  | [d1, d2, d3] => { results := [.lit (.bool false)], args := [d1, d2, d3] }
  | _ => none }
def BitsIdentityWrongFalsely : Prop := bitsIdentityRow.holds Try.pinned (OpenSpec.ofChange bitsIdentityWrong)

/-- 'jacquardlaw01.BitsWords': WHATEVER THE INPUT: true; the input reads as it did. -/
def bitsWordsSpec : ChangeSpec := { name := "bitsWords", fn := fun _ => fun
  | [d1, d2, d3] => { results := [.lit (.bool true)], args := [d1, d2, d3] }
  | _ => none }
def bitsWordsRow : OpenClaim := { program := "ytanmehdcccldfaa", sum := "2b8cfad374450a3bc6eb0371e9a4d09b2a89ae1ab92c2726944e4061e829e60b", func := "jacquard/jacquardlaw01.BitsWords", spec := "bitsWords", apart := false }
def BitsWordsSaid : Prop := bitsWordsRow.holds Try.pinned (OpenSpec.ofChange bitsWordsSpec)

/-- ITS FALSE NEIGHBOUR: 'it returns false'. Refute it at one input. -/
def bitsWordsWrong : ChangeSpec := { name := "bitsWords", fn := fun _ => fun
  | [d1, d2, d3] => { results := [.lit (.bool false)], args := [d1, d2, d3] }
  | _ => none }
def BitsWordsWrongFalsely : Prop := bitsWordsRow.holds Try.pinned (OpenSpec.ofChange bitsWordsWrong)

/-- 'jacquardlaw01.BitsNames': WHATEVER THE INPUT: true; the input reads as it did. -/
def bitsNamesSpec : ChangeSpec := { name := "bitsNames", fn := fun _ => fun
  | [d1, d2] => { results := [.lit (.bool true)], args := [d1, d2] }
  | _ => none }
def bitsNamesRow : OpenClaim := { program := "ytanmehdcccldfaa", sum := "2b8cfad374450a3bc6eb0371e9a4d09b2a89ae1ab92c2726944e4061e829e60b", func := "jacquard/jacquardlaw01.BitsNames", spec := "bitsNames", apart := false }
def BitsNamesSaid : Prop := bitsNamesRow.holds Try.pinned (OpenSpec.ofChange bitsNamesSpec)

/-- ITS FALSE NEIGHBOUR: 'it returns false'. Refute it at one input. -/
def bitsNamesWrong : ChangeSpec := { name := "bitsNames", fn := fun _ => fun
  | [d1, d2] => { results := [.lit (.bool false)], args := [d1, d2] }
  | _ => none }
def BitsNamesWrongFalsely : Prop := bitsNamesRow.holds Try.pinned (OpenSpec.ofChange bitsNamesWrong)

/- THE SECOND FORM. 'bulk': how many values and letters a reading holds, each counted each time it is reached (what is shared counts as often as it is met; a slice's spare places count too). A statement '..UptoSaid' is the law's where the arguments, and the package variables that the reading takes, are together of bulk at most 1048576: NARROWER than '..Said'. Prove '..Said' where nothing that the law and all that it calls make is longer than what came in: it says more and counts as full. Else prove '..UptoSaid'. A law counts once. -/
mutual
def uptoBulk {H : Type} : DataW H → Nat
  | .lit (.string bytes) => bytes.length + 1
  | .lit _ => 1
  | .nil => 1
  | .ptr d => uptoBulk d + 1
  | .slice elems spare => uptoBulkAll elems + uptoBulkAll spare + 1
  | .agg parts => uptoBulkAll parts + 1
  | .iface _ d => uptoBulk d + 1
  | .map entries => uptoBulkEntries entries + 1
  | .held _ => 1
def uptoBulkAll {H : Type} : List (DataW H) → Nat
  | [] => 0
  | d :: r => uptoBulk d + uptoBulkAll r
def uptoBulkEntries {H : Type} : List (Lit × DataW H) → Nat
  | [] => 0
  | x :: r => uptoBulkEntry x + uptoBulkEntries r
def uptoBulkEntry {H : Type} : Lit × DataW H → Nat
  | (.string bytes, d) => bytes.length + uptoBulk d + 1
  | (_, d) => uptoBulk d + 1
 end
def uptoSmall : (H : Type) → List (DataW H) → Bool := fun _ ds => decide (uptoBulkAll ds ≤ 1048576)
def OpenSpec.upto (s : _root_.Go.ChangeSpec) : _root_.Go.OpenSpec := { _root_.Go.OpenSpec.ofChange s with cond := some uptoSmall }

/-- 'jacquardlaw13.IntervalElements', WHERE WHAT IT READS IS OF BULK AT MOST 1048576: true; the input reads as it did. -/
def intervalElementsUptoRow : OpenClaim := { program := "ytanmehdcccldfaa", sum := "2b8cfad374450a3bc6eb0371e9a4d09b2a89ae1ab92c2726944e4061e829e60b", func := "jacquard/jacquardlaw13.IntervalElements", spec := "intervalElements", apart := false, narrowed := true }
def IntervalElementsUptoSaid : Prop := intervalElementsUptoRow.holds Try.pinned (OpenSpec.upto intervalElementsSpec)

/-- 'jacquardlaw13.IntervalLattice', WHERE WHAT IT READS IS OF BULK AT MOST 1048576: true; the input reads as it did. -/
def intervalLatticeUptoRow : OpenClaim := { program := "ytanmehdcccldfaa", sum := "2b8cfad374450a3bc6eb0371e9a4d09b2a89ae1ab92c2726944e4061e829e60b", func := "jacquard/jacquardlaw13.IntervalLattice", spec := "intervalLattice", apart := false, narrowed := true }
def IntervalLatticeUptoSaid : Prop := intervalLatticeUptoRow.holds Try.pinned (OpenSpec.upto intervalLatticeSpec)

/-- 'jacquardlaw26.BankPlaces', WHERE WHAT IT READS IS OF BULK AT MOST 1048576: true; the input reads as it did. -/
def bankPlacesUptoRow : OpenClaim := { program := "ytanmehdcccldfaa", sum := "2b8cfad374450a3bc6eb0371e9a4d09b2a89ae1ab92c2726944e4061e829e60b", func := "jacquard/jacquardlaw26.BankPlaces", spec := "bankPlaces", unfollowed := true, recurses := true, apart := false, narrowed := true }
def BankPlacesUptoSaid : Prop := bankPlacesUptoRow.holds Try.pinned (OpenSpec.upto bankPlacesSpec)

/-- 'jacquardlaw13.IntervalTightens', WHERE WHAT IT READS IS OF BULK AT MOST 1048576: true; the input reads as it did. -/
def intervalTightensUptoRow : OpenClaim := { program := "ytanmehdcccldfaa", sum := "2b8cfad374450a3bc6eb0371e9a4d09b2a89ae1ab92c2726944e4061e829e60b", func := "jacquard/jacquardlaw13.IntervalTightens", spec := "intervalTightens", apart := false, narrowed := true }
def IntervalTightensUptoSaid : Prop := intervalTightensUptoRow.holds Try.pinned (OpenSpec.upto intervalTightensSpec)

/-- 'jacquardlaw01.BitsBinary', WHERE WHAT IT READS IS OF BULK AT MOST 1048576: true; the input reads as it did. -/
def bitsBinaryUptoRow : OpenClaim := { program := "ytanmehdcccldfaa", sum := "2b8cfad374450a3bc6eb0371e9a4d09b2a89ae1ab92c2726944e4061e829e60b", func := "jacquard/jacquardlaw01.BitsBinary", spec := "bitsBinary", apart := false, narrowed := true }
def BitsBinaryUptoSaid : Prop := bitsBinaryUptoRow.holds Try.pinned (OpenSpec.upto bitsBinarySpec)

/-- 'jacquardlaw01.BitsDivision', WHERE WHAT IT READS IS OF BULK AT MOST 1048576: true; the input reads as it did. -/
def bitsDivisionUptoRow : OpenClaim := { program := "ytanmehdcccldfaa", sum := "2b8cfad374450a3bc6eb0371e9a4d09b2a89ae1ab92c2726944e4061e829e60b", func := "jacquard/jacquardlaw01.BitsDivision", spec := "bitsDivision", apart := false, narrowed := true }
def BitsDivisionUptoSaid : Prop := bitsDivisionUptoRow.holds Try.pinned (OpenSpec.upto bitsDivisionSpec)

/-- 'jacquardlaw01.BitsOrder', WHERE WHAT IT READS IS OF BULK AT MOST 1048576: true; the input reads as it did. -/
def bitsOrderUptoRow : OpenClaim := { program := "ytanmehdcccldfaa", sum := "2b8cfad374450a3bc6eb0371e9a4d09b2a89ae1ab92c2726944e4061e829e60b", func := "jacquard/jacquardlaw01.BitsOrder", spec := "bitsOrder", apart := false, narrowed := true }
def BitsOrderUptoSaid : Prop := bitsOrderUptoRow.holds Try.pinned (OpenSpec.upto bitsOrderSpec)

/-- 'jacquardlaw01.BitsExtend', WHERE WHAT IT READS IS OF BULK AT MOST 1048576: true; the input reads as it did. -/
def bitsExtendUptoRow : OpenClaim := { program := "ytanmehdcccldfaa", sum := "2b8cfad374450a3bc6eb0371e9a4d09b2a89ae1ab92c2726944e4061e829e60b", func := "jacquard/jacquardlaw01.BitsExtend", spec := "bitsExtend", apart := false, narrowed := true }
def BitsExtendUptoSaid : Prop := bitsExtendUptoRow.holds Try.pinned (OpenSpec.upto bitsExtendSpec)

/-- 'jacquardlaw01.BitsCommute', WHERE WHAT IT READS IS OF BULK AT MOST 1048576: true; the input reads as it did. -/
def bitsCommuteUptoRow : OpenClaim := { program := "ytanmehdcccldfaa", sum := "2b8cfad374450a3bc6eb0371e9a4d09b2a89ae1ab92c2726944e4061e829e60b", func := "jacquard/jacquardlaw01.BitsCommute", spec := "bitsCommute", apart := false, narrowed := true }
def BitsCommuteUptoSaid : Prop := bitsCommuteUptoRow.holds Try.pinned (OpenSpec.upto bitsCommuteSpec)

/-- 'jacquardlaw01.BitsIdentity', WHERE WHAT IT READS IS OF BULK AT MOST 1048576: true; the input reads as it did. -/
def bitsIdentityUptoRow : OpenClaim := { program := "ytanmehdcccldfaa", sum := "2b8cfad374450a3bc6eb0371e9a4d09b2a89ae1ab92c2726944e4061e829e60b", func := "jacquard/jacquardlaw01.BitsIdentity", spec := "bitsIdentity", apart := false, narrowed := true }
def BitsIdentityUptoSaid : Prop := bitsIdentityUptoRow.holds Try.pinned (OpenSpec.upto bitsIdentitySpec)

/-- 'jacquardlaw01.BitsWords', WHERE WHAT IT READS IS OF BULK AT MOST 1048576: true; the input reads as it did. -/
def bitsWordsUptoRow : OpenClaim := { program := "ytanmehdcccldfaa", sum := "2b8cfad374450a3bc6eb0371e9a4d09b2a89ae1ab92c2726944e4061e829e60b", func := "jacquard/jacquardlaw01.BitsWords", spec := "bitsWords", apart := false, narrowed := true }
def BitsWordsUptoSaid : Prop := bitsWordsUptoRow.holds Try.pinned (OpenSpec.upto bitsWordsSpec)

/-- 'jacquardlaw01.BitsNames', WHERE WHAT IT READS IS OF BULK AT MOST 1048576: true; the input reads as it did. -/
def bitsNamesUptoRow : OpenClaim := { program := "ytanmehdcccldfaa", sum := "2b8cfad374450a3bc6eb0371e9a4d09b2a89ae1ab92c2726944e4061e829e60b", func := "jacquard/jacquardlaw01.BitsNames", spec := "bitsNames", apart := false, narrowed := true }
def BitsNamesUptoSaid : Prop := bitsNamesUptoRow.holds Try.pinned (OpenSpec.upto bitsNamesSpec)

end Rows
end Go.Proofs.Ytanmehdcccldfaa
