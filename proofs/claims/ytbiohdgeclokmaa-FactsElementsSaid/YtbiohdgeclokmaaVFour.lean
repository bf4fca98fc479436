-- drawn by a program of this work (wip/prune.py) out of the words that the kit's printer writes
import Derived.Test.YtbiohdgeclokmaaVTab
namespace Go.Proofs.YtbiohdgeclokmaaW.PrintLast
end Go.Proofs.YtbiohdgeclokmaaW.PrintLast
