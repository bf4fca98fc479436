-- drawn by a program of this work (wip/prune.py) out of the words that the kit's printer writes
import Derived.Test.YtbiohdgeclokmaaVTab
namespace Go.Proofs.YtbiohdgeclokmaaW.PrintLast
/-- Number i is listed too. -/
def up (b : Nat → Bool) (i : Nat) : Nat → Bool := fun j => if j = i then true else b j
end Go.Proofs.YtbiohdgeclokmaaW.PrintLast
