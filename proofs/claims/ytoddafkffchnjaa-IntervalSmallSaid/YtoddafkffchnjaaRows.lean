/-
  No cell of these rows narrows 'for every input' (looked for: loops, veiled, ifaces, maps, wideKeys, modest, calm, conditions, laid).
  DERIVED. THE GIVEN ROWS OF THIS SEAT. 5 by the template 'for every input the law returns true; each argument reads behind the call as it read before'; 0 by the template 'total and deterministic' (their statements: YtoddafkffchnjaaTotals.lean).
  GIVEN WITH THE SEED: the statements are not yours to turn. If you find one false, say at which input.
  Laid BY PROGRAM, IN A SANDBOX (cutbox-rows.mjs): the forced cells as the released guide's own fill.sh prints them over the translation db2205da40798793… (all of the seat's roots in one cut). By AI agents, Wed Nov 11 2026. No macro, syntax, notation, axiom, sorry.
-/
import Derived.Test.YtoddafkffchnjaaChecked
import GoSem.Claim
import GoSem.ClaimJoined
import GoSem.ClaimMapViews
import Derived.JoinedTies
import Derived.KernelRfl
namespace Go.Proofs.Ytoddafkffchnjaa
/- THE CELL 'sum', in the pinned program and in every row, IS THE sha256 OF THE DUMP (.gsa) THAT YtoddafkffchnjaaProg.lean LOADS. Nothing in Lean hashes anything: it is a label: what it is worth is what the hold of that sum in a sandbox is worth. -/
noncomputable def Try.pinned : Pinned := { name := "ytoddafkffchnjaa", sum := "db2205da407987932afd59eca00938e7cddd8ea1ef3001bb7bda0ea39a9fb8fb", checked := Try.checked }
namespace Rows
def none {H : Type} : Left H := { results := [], args := [] }

/-- 'jacquardlaw13.IntervalApply': WHATEVER THE INPUT: true; the input reads as it did. -/
def intervalApplySpec : ChangeSpec := { name := "intervalApply", fn := fun _ => fun
  | [d] => { results := [.lit (.bool true)], args := [d] }
  | _ => none }
def intervalApplyRow : OpenClaim := { program := "ytoddafkffchnjaa", sum := "db2205da407987932afd59eca00938e7cddd8ea1ef3001bb7bda0ea39a9fb8fb", func := "jacquard/jacquardlaw13.IntervalApply", spec := "intervalApply", inPlace := ["math/bits.Add64"], apart := false }
def IntervalApplySaid : Prop := intervalApplyRow.holds Try.pinned (OpenSpec.ofChange intervalApplySpec)

/-- ITS FALSE NEIGHBOUR: 'it returns false'. Refute it at one input. -/
def intervalApplyWrong : ChangeSpec := { name := "intervalApply", fn := fun _ => fun
  | [d] => { results := [.lit (.bool false)], args := [d] }
  | _ => none }
def IntervalApplyWrongFalsely : Prop := intervalApplyRow.holds Try.pinned (OpenSpec.ofChange intervalApplyWrong)

/-- 'jacquardlaw13.IntervalSingles': WHATEVER THE INPUT: true; the input reads as it did. -/
def intervalSinglesSpec : ChangeSpec := { name := "intervalSingles", fn := fun _ => fun
  | [d1, d2, d3] => { results := [.lit (.bool true)], args := [d1, d2, d3] }
  | _ => none }
def intervalSinglesRow : OpenClaim := { program := "ytoddafkffchnjaa", sum := "db2205da407987932afd59eca00938e7cddd8ea1ef3001bb7bda0ea39a9fb8fb", func := "jacquard/jacquardlaw13.IntervalSingles", spec := "intervalSingles", inPlace := ["math/bits.Add64"], apart := false }
def IntervalSinglesSaid : Prop := intervalSinglesRow.holds Try.pinned (OpenSpec.ofChange intervalSinglesSpec)

/-- ITS FALSE NEIGHBOUR: 'it returns false'. Refute it at one input. -/
def intervalSinglesWrong : ChangeSpec := { name := "intervalSingles", fn := fun _ => fun
  | [d1, d2, d3] => { results := [.lit (.bool false)], args := [d1, d2, d3] }
  | _ => none }
def IntervalSinglesWrongFalsely : Prop := intervalSinglesRow.holds Try.pinned (OpenSpec.ofChange intervalSinglesWrong)

/-- 'jacquardlaw13.IntervalAgrees': WHATEVER THE INPUT: true; the input reads as it did. -/
def intervalAgreesSpec : ChangeSpec := { name := "intervalAgrees", fn := fun _ => fun
  | [d1, d2, d3] => { results := [.lit (.bool true)], args := [d1, d2, d3] }
  | _ => none }
def intervalAgreesRow : OpenClaim := { program := "ytoddafkffchnjaa", sum := "db2205da407987932afd59eca00938e7cddd8ea1ef3001bb7bda0ea39a9fb8fb", func := "jacquard/jacquardlaw13.IntervalAgrees", spec := "intervalAgrees", inPlace := ["math/bits.Add64"], apart := false }
def IntervalAgreesSaid : Prop := intervalAgreesRow.holds Try.pinned (OpenSpec.ofChange intervalAgreesSpec)

/-- ITS FALSE NEIGHBOUR: 'it returns false'. Refute it at one input. -/
def intervalAgreesWrong : ChangeSpec := { name := "intervalAgrees", fn := fun _ => fun
  | [d1, d2, d3] => { results := [.lit (.bool false)], args := [d1, d2, d3] }
  | _ => none }
def IntervalAgreesWrongFalsely : Prop := intervalAgreesRow.holds Try.pinned (OpenSpec.ofChange intervalAgreesWrong)

/-- 'jacquardlaw13.IntervalSound': WHATEVER THE INPUT: true; the input reads as it did. -/
def intervalSoundSpec : ChangeSpec := { name := "intervalSound", fn := fun _ => fun
  | [d1, d2] => { results := [.lit (.bool true)], args := [d1, d2] }
  | _ => none }
def intervalSoundRow : OpenClaim := { program := "ytoddafkffchnjaa", sum := "db2205da407987932afd59eca00938e7cddd8ea1ef3001bb7bda0ea39a9fb8fb", func := "jacquard/jacquardlaw13.IntervalSound", spec := "intervalSound", inPlace := ["math/bits.Add64"], apart := false }
def IntervalSoundSaid : Prop := intervalSoundRow.holds Try.pinned (OpenSpec.ofChange intervalSoundSpec)

/-- ITS FALSE NEIGHBOUR: 'it returns false'. Refute it at one input. -/
def intervalSoundWrong : ChangeSpec := { name := "intervalSound", fn := fun _ => fun
  | [d1, d2] => { results := [.lit (.bool false)], args := [d1, d2] }
  | _ => none }
def IntervalSoundWrongFalsely : Prop := intervalSoundRow.holds Try.pinned (OpenSpec.ofChange intervalSoundWrong)

/-- 'jacquardlaw13.IntervalSmall': WHATEVER THE INPUT: true; the input reads as it did. -/
def intervalSmallSpec : ChangeSpec := { name := "intervalSmall", fn := fun _ => fun
  | [d] => { results := [.lit (.bool true)], args := [d] }
  | _ => none }
def intervalSmallRow : OpenClaim := { program := "ytoddafkffchnjaa", sum := "db2205da407987932afd59eca00938e7cddd8ea1ef3001bb7bda0ea39a9fb8fb", func := "jacquard/jacquardlaw13.IntervalSmall", spec := "intervalSmall", inPlace := ["math/bits.Add64"], apart := false }
def IntervalSmallSaid : Prop := intervalSmallRow.holds Try.pinned (OpenSpec.ofChange intervalSmallSpec)

/-- ITS FALSE NEIGHBOUR: 'it returns false'. Refute it at one input. -/
def intervalSmallWrong : ChangeSpec := { name := "intervalSmall", fn := fun _ => fun
  | [d] => { results := [.lit (.bool false)], args := [d] }
  | _ => none }
def IntervalSmallWrongFalsely : Prop := intervalSmallRow.holds Try.pinned (OpenSpec.ofChange intervalSmallWrong)

/- THE SECOND FORM. 'bulk': how many values and letters a reading holds, each counted each time it is reached (what is shared counts as often as it is met; a slice's spare places count too). A statement '..UptoSaid' is the law's where the arguments, and the package variables that the reading takes, are together of bulk at most 1048576: NARROWER than '..Said'. Prove '..Said' where nothing that the law and all that it calls make is longer than what came in: it says more and counts as full. Else prove '..UptoSaid'. A law counts once. -/
mutual
def uptoBulk {H : Type} : DataW H → Nat
  | .lit (.string bytes) => bytes.length + 1
  | .lit _ => 1
  | .nil => 1
  | .ptr d => uptoBulk d + 1
  | .slice elems spare => uptoBulkAll elems + uptoBulkAll spare + 1
  | .agg parts => uptoBulkAll parts + 1
  | .iface _ d => uptoBulk d + 1
  | .map entries => uptoBulkEntries entries + 1
  | .held _ => 1
def uptoBulkAll {H : Type} : List (DataW H) → Nat
  | [] => 0
  | d :: r => uptoBulk d + uptoBulkAll r
def uptoBulkEntries {H : Type} : List (Lit × DataW H) → Nat
  | [] => 0
  | x :: r => uptoBulkEntry x + uptoBulkEntries r
def uptoBulkEntry {H : Type} : Lit × DataW H → Nat
  | (.string bytes, d) => bytes.length + uptoBulk d + 1
  | (_, d) => uptoBulk d + 1
 end
def uptoSmall : (H : Type) → List (DataW H) → Bool := fun _ ds => decide (uptoBulkAll ds ≤ 1048576)
def OpenSpec.upto (s : _root_.Go.ChangeSpec) : _root_.Go.OpenSpec := { _root_.Go.OpenSpec.ofChange s with cond := some uptoSmall }

/-- 'jacquardlaw13.IntervalApply', WHERE WHAT IT READS IS OF BULK AT MOST 1048576: true; the input reads as it did. -/
def intervalApplyUptoRow : OpenClaim := { program := "ytoddafkffchnjaa", sum := "db2205da407987932afd59eca00938e7cddd8ea1ef3001bb7bda0ea39a9fb8fb", func := "jacquard/jacquardlaw13.IntervalApply", spec := "intervalApply", inPlace := ["math/bits.Add64"], apart := false, narrowed := true }
def IntervalApplyUptoSaid : Prop := intervalApplyUptoRow.holds Try.pinned (OpenSpec.upto intervalApplySpec)

/-- 'jacquardlaw13.IntervalSingles', WHERE WHAT IT READS IS OF BULK AT MOST 1048576: true; the input reads as it did. -/
def intervalSinglesUptoRow : OpenClaim := { program := "ytoddafkffchnjaa", sum := "db2205da407987932afd59eca00938e7cddd8ea1ef3001bb7bda0ea39a9fb8fb", func := "jacquard/jacquardlaw13.IntervalSingles", spec := "intervalSingles", inPlace := ["math/bits.Add64"], apart := false, narrowed := true }
def IntervalSinglesUptoSaid : Prop := intervalSinglesUptoRow.holds Try.pinned (OpenSpec.upto intervalSinglesSpec)

/-- 'jacquardlaw13.IntervalAgrees', WHERE WHAT IT READS IS OF BULK AT MOST 1048576: true; the input reads as it did. -/
def intervalAgreesUptoRow : OpenClaim := { program := "ytoddafkffchnjaa", sum := "db2205da407987932afd59eca00938e7cddd8ea1ef3001bb7bda0ea39a9fb8fb", func := "jacquard/jacquardlaw13.IntervalAgrees", spec := "intervalAgrees", inPlace := ["math/bits.Add64"], apart := false, narrowed := true }
def IntervalAgreesUptoSaid : Prop := intervalAgreesUptoRow.holds Try.pinned (OpenSpec.upto intervalAgreesSpec)

/-- 'jacquardlaw13.IntervalSound', WHERE WHAT IT READS IS OF BULK AT MOST 1048576: true; the input reads as it did. -/
def intervalSoundUptoRow : OpenClaim := { program := "ytoddafkffchnjaa", sum := "db2205da407987932afd59eca00938e7cddd8ea1ef3001bb7bda0ea39a9fb8fb", func := "jacquard/jacquardlaw13.IntervalSound", spec := "intervalSound", inPlace := ["math/bits.Add64"], apart := false, narrowed := true }
def IntervalSoundUptoSaid : Prop := intervalSoundUptoRow.holds Try.pinned (OpenSpec.upto intervalSoundSpec)

/-- 'jacquardlaw13.IntervalSmall', WHERE WHAT IT READS IS OF BULK AT MOST 1048576: true; the input reads as it did. -/
def intervalSmallUptoRow : OpenClaim := { program := "ytoddafkffchnjaa", sum := "db2205da407987932afd59eca00938e7cddd8ea1ef3001bb7bda0ea39a9fb8fb", func := "jacquard/jacquardlaw13.IntervalSmall", spec := "intervalSmall", inPlace := ["math/bits.Add64"], apart := false, narrowed := true }
def IntervalSmallUptoSaid : Prop := intervalSmallUptoRow.holds Try.pinned (OpenSpec.upto intervalSmallSpec)

end Rows
end Go.Proofs.Ytoddafkffchnjaa
