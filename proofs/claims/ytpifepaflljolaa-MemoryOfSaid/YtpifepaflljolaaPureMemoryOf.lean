/-
  The statement MemoryOf, over lists alone: the memory of words that the program makes is the reference's, for all words. No condition.
-/
import Derived.Test.YtpifepaflljolaaPMemx13
import Derived.Test.YtpifepaflljolaaMathC
namespace Go.Proofs.Ytpifepaflljolaa.Pure
open Go.RowKit Go.Proofs.Ytpifepaflljolaa.PMem Go.Proofs.YtpifepaflljolaaW.PrintWords Go.Proofs.YtpifepaflljolaaW.PrintLast

theorem MemoryOf : debuggerlaw25_MemoryOf.Pure := fun l _ _ _ => Zev.done (Mem.MemoryOf_ev l)

end Go.Proofs.Ytpifepaflljolaa.Pure
