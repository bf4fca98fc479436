-- drawn by a program of this work (wip/prune.py) out of the words that the kit's printer writes
import Derived.Test.YtoddafkffchnjaaVWords
import Derived.Test.YtoddafkffchnjaaVLast
import Derived.Test.YtoddafkffchnjaaVQPut
import Derived.Test.YtoddafkffchnjaaVApart
import Derived.Test.YtoddafkffchnjaaVZeros
import Derived.Test.YtoddafkffchnjaaVFoot
import Derived.Test.YtoddafkffchnjaaVKept
import Derived.Test.YtoddafkffchnjaaVNEv
namespace Go.Proofs.YtoddafkffchnjaaW.PrintMore
open Go.RowKit Go.Proofs.YtoddafkffchnjaaW.PrintWords
namespace Kd
open Go.Proofs.YtoddafkffchnjaaW.PrintWords.Kd
end Kd
namespace Kd
open Go.Proofs.YtoddafkffchnjaaW.PrintWords.Kd
end Kd
end Go.Proofs.YtoddafkffchnjaaW.PrintMore
namespace Go.Proofs.YtoddafkffchnjaaW.PrintWords
open Go.RowKit
/-- The greater of two whole numbers, as Go's max tells it. -/
def mx (a b : Int) : Int := if a < b then b else a
/-- The smaller of two whole numbers, as Go's min tells it. -/
def mn (a b : Int) : Int := if b < a then b else a
/-- A shift to the left, as Go tells it: a count beyond the width leaves nothing. -/
def shl (k : IntKind) (x y : Int) : Int := k.wrap (x * 2 ^ min y.toNat k.bits)
/-- A shift to the right: a count beyond the width leaves the sign. -/
def shr (k : IntKind) (x y : Int) : Int := x / 2 ^ min y.toNat k.bits
namespace Kd
end Kd
end Go.Proofs.YtoddafkffchnjaaW.PrintWords
namespace Go.Proofs.YtoddafkffchnjaaW.PrintWords
open Go.RowKit
namespace Kd
/-- A row that is only read, told by its value: its form, its length, what it leads to (in ok). e and base say nothing; they make it as the others are. -/
def V {α : Type} (d : Kd α) (_e : Nat) (W : World) (_base : Nat) (ok : Nat → Prop) (v : Value) (xs : List α) : Prop := ∃ A c, v = .slice A xs.length c ∧ xs.length ≤ c ∧ F d W ok A xs.length xs
end Kd
end Go.Proofs.YtoddafkffchnjaaW.PrintWords
