-- drawn by a program of this work (wip/prune.py) out of the words that the kit's printer writes
import Derived.Test.YtoddafkffchnjaaVWords
import Derived.Test.YtoddafkffchnjaaVLast
namespace Go.Proofs.YtoddafkffchnjaaW.PrintWords
open Go.RowKit
namespace Kd
end Kd
end Go.Proofs.YtoddafkffchnjaaW.PrintWords
