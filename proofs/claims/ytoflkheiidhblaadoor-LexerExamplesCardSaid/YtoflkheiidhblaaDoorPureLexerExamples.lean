/-
  The statement LexerExamples, over the pure functions alone: it is closed, and the kernel runs it. No condition.
-/
import Derived.Test.YtoflkheiidhblaaDoorPLexx61
namespace Go.Proofs.YtoflkheiidhblaaDoor.Pure
open Go.RowKit Go.Proofs.YtoflkheiidhblaaDoor.PLex Go.Proofs.YtoflkheiidhblaaDoorW.PrintWords Go.Proofs.YtoflkheiidhblaaDoorW.PrintLast
set_option maxRecDepth 100000 in
theorem LexerExamples : debuggerlaw02_LexerExamples.Pure := ⟨80, by decide +kernel⟩
end Go.Proofs.YtoflkheiidhblaaDoor.Pure
