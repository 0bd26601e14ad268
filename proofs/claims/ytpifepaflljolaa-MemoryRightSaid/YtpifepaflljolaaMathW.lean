/-
  The sanity check of the Memory statements holds (run by the kernel). No condition.
-/
import Derived.Test.YtpifepaflljolaaZev
import Derived.Test.YtpifepaflljolaaPMemx9
namespace Go.Proofs.Ytpifepaflljolaa.Mem
open Go.RowKit Go.Proofs.Ytpifepaflljolaa.PMem Go.Proofs.YtpifepaflljolaaW.PrintWords Go.Proofs.YtpifepaflljolaaW.PrintLast Go.Proofs.YtpifepaflljolaaW.PrintMore

theorem awake_ev : Ev (fun k => debuggerlaw25_awake.f k) true := Zev.mono (fun k => debuggerlaw25_awake.mono k) (k := 100) (by decide +kernel)
theorem aw : Ev (fun k => (debuggerlaw25_awake.f k).bind fun t => some t) true := Zev.bind awake_ev (Zev.now _)
end Go.Proofs.Ytpifepaflljolaa.Mem
