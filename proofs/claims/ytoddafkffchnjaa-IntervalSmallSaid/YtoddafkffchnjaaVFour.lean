-- drawn by a program of this work (wip/prune.py) out of the words that the kit's printer writes
import Derived.Test.YtoddafkffchnjaaVTab
namespace Go.Proofs.YtoddafkffchnjaaW.PrintLast
end Go.Proofs.YtoddafkffchnjaaW.PrintLast
