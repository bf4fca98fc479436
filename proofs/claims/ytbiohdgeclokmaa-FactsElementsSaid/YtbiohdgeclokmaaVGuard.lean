-- drawn by a program of this work (wip/prune.py) out of the words that the kit's printer writes
import Derived.Test.YtbiohdgeclokmaaVWords
namespace Go.Proofs.YtbiohdgeclokmaaW.PrintWords
open Go.RowKit
end Go.Proofs.YtbiohdgeclokmaaW.PrintWords
