-- drawn by a program of this work (wip/prune.py) out of the words that the kit's printer writes
import Derived.Test.YtbiohdgeclokmaaVFootNe
namespace Go.Proofs.YtbiohdgeclokmaaW.PrintWords
open Go.RowKit
namespace Kd
end Kd
end Go.Proofs.YtbiohdgeclokmaaW.PrintWords
