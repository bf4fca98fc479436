-- drawn by a program of this work (wip/prune.py) out of the words that the kit's printer writes
import Derived.Test.YtoddafkffchnjaaVLast
import Derived.Test.YtoddafkffchnjaaVWords
namespace Go.Proofs.YtoddafkffchnjaaW.PrintLast
open Go.Proofs.YtoddafkffchnjaaW.PrintWords (Aside0)
end Go.Proofs.YtoddafkffchnjaaW.PrintLast
