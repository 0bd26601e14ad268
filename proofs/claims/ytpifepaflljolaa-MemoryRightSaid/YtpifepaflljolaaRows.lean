/-
  No cell of these rows narrows 'for every input' (looked for: loops, veiled, ifaces, maps, wideKeys, modest, calm, conditions, laid).
  DERIVED. THE GIVEN ROWS OF THIS SEAT. 7 by the template 'for every input the law returns true; each argument reads behind the call as it read before'; 0 by the template 'total and deterministic' (their statements: YtpifepaflljolaaTotals.lean).
  GIVEN WITH THE SEED: the statements are not yours to turn. If you find one false, say at which input.
  Laid BY PROGRAM, IN A SANDBOX (cutbox-rows.mjs): the forced cells as the released guide's own fill.sh prints them over the translation d0148ac3cca32f16… (all of the seat's roots in one cut). By AI agents, Wed Nov 11 2026. No macro, syntax, notation, axiom, sorry.
-/
import Derived.Test.YtpifepaflljolaaChecked
import GoSem.Claim
import GoSem.ClaimJoined
import GoSem.ClaimMapViews
import Derived.JoinedTies
import Derived.KernelRfl
namespace Go.Proofs.Ytpifepaflljolaa
/- THE CELL 'sum', in the pinned program and in every row, IS THE sha256 OF THE DUMP (.gsa) THAT YtpifepaflljolaaProg.lean LOADS. Nothing in Lean hashes anything: it is a label: what it is worth is what the hold of that sum in a sandbox is worth. -/
noncomputable def Try.pinned : Pinned := { name := "ytpifepaflljolaa", sum := "d0148ac3cca32f1647732eb5c75b365abff745a3936677dc2ea36266a645324a", checked := Try.checked }
namespace Rows
def none {H : Type} : Left H := { results := [], args := [] }

/-- 'debuggerlaw25.MemoryRight': WHATEVER THE INPUT: true; the input reads as it did. -/
def memoryRightSpec : ChangeSpec := { name := "memoryRight", fn := fun _ => fun
  | [d1, d2, d3, d4, d5] => { results := [.lit (.bool true)], args := [d1, d2, d3, d4, d5] }
  | _ => none }
def memoryRightRow : OpenClaim := { program := "ytpifepaflljolaa", sum := "d0148ac3cca32f1647732eb5c75b365abff745a3936677dc2ea36266a645324a", func := "debugger/debuggerlaw25.MemoryRight", spec := "memoryRight", unfollowed := true, recurses := true, apart := false }
def MemoryRightSaid : Prop := memoryRightRow.holds Try.pinned (OpenSpec.ofChange memoryRightSpec)

/-- ITS FALSE NEIGHBOUR: 'it returns false'. Refute it at one input. -/
def memoryRightWrong : ChangeSpec := { name := "memoryRight", fn := fun _ => fun
  | [d1, d2, d3, d4, d5] => { results := [.lit (.bool false)], args := [d1, d2, d3, d4, d5] }
  | _ => none }
def MemoryRightWrongFalsely : Prop := memoryRightRow.holds Try.pinned (OpenSpec.ofChange memoryRightWrong)

/-- 'debuggerlaw25.MemoryOf': WHATEVER THE INPUT: true; the input reads as it did. -/
def memoryOfSpec : ChangeSpec := { name := "memoryOf", fn := fun _ => fun
  | [d] => { results := [.lit (.bool true)], args := [d] }
  | _ => none }
def memoryOfRow : OpenClaim := { program := "ytpifepaflljolaa", sum := "d0148ac3cca32f1647732eb5c75b365abff745a3936677dc2ea36266a645324a", func := "debugger/debuggerlaw25.MemoryOf", spec := "memoryOf", unfollowed := true, recurses := true, apart := false }
def MemoryOfSaid : Prop := memoryOfRow.holds Try.pinned (OpenSpec.ofChange memoryOfSpec)

/-- ITS FALSE NEIGHBOUR: 'it returns false'. Refute it at one input. -/
def memoryOfWrong : ChangeSpec := { name := "memoryOf", fn := fun _ => fun
  | [d] => { results := [.lit (.bool false)], args := [d] }
  | _ => none }
def MemoryOfWrongFalsely : Prop := memoryOfRow.holds Try.pinned (OpenSpec.ofChange memoryOfWrong)

/-- 'debuggerlaw25.MemoryReads': WHATEVER THE INPUT: true; the input reads as it did. -/
def memoryReadsSpec : ChangeSpec := { name := "memoryReads", fn := fun _ => fun
  | [d1, d2, d3] => { results := [.lit (.bool true)], args := [d1, d2, d3] }
  | _ => none }
def memoryReadsRow : OpenClaim := { program := "ytpifepaflljolaa", sum := "d0148ac3cca32f1647732eb5c75b365abff745a3936677dc2ea36266a645324a", func := "debugger/debuggerlaw25.MemoryReads", spec := "memoryReads", unfollowed := true, recurses := true, apart := false }
def MemoryReadsSaid : Prop := memoryReadsRow.holds Try.pinned (OpenSpec.ofChange memoryReadsSpec)

/-- ITS FALSE NEIGHBOUR: 'it returns false'. Refute it at one input. -/
def memoryReadsWrong : ChangeSpec := { name := "memoryReads", fn := fun _ => fun
  | [d1, d2, d3] => { results := [.lit (.bool false)], args := [d1, d2, d3] }
  | _ => none }
def MemoryReadsWrongFalsely : Prop := memoryReadsRow.holds Try.pinned (OpenSpec.ofChange memoryReadsWrong)

/-- 'debuggerlaw25.MemoryWords': WHATEVER THE INPUT: true; the input reads as it did. -/
def memoryWordsSpec : ChangeSpec := { name := "memoryWords", fn := fun _ => fun
  | [d1, d2, d3, d4] => { results := [.lit (.bool true)], args := [d1, d2, d3, d4] }
  | _ => none }
def memoryWordsRow : OpenClaim := { program := "ytpifepaflljolaa", sum := "d0148ac3cca32f1647732eb5c75b365abff745a3936677dc2ea36266a645324a", func := "debugger/debuggerlaw25.MemoryWords", spec := "memoryWords", unfollowed := true, recurses := true, apart := false }
def MemoryWordsSaid : Prop := memoryWordsRow.holds Try.pinned (OpenSpec.ofChange memoryWordsSpec)

/-- ITS FALSE NEIGHBOUR: 'it returns false'. Refute it at one input. -/
def memoryWordsWrong : ChangeSpec := { name := "memoryWords", fn := fun _ => fun
  | [d1, d2, d3, d4] => { results := [.lit (.bool false)], args := [d1, d2, d3, d4] }
  | _ => none }
def MemoryWordsWrongFalsely : Prop := memoryWordsRow.holds Try.pinned (OpenSpec.ofChange memoryWordsWrong)

/-- 'debuggerlaw25.MemoryHolds': WHATEVER THE INPUT: true; the input reads as it did. -/
def memoryHoldsSpec : ChangeSpec := { name := "memoryHolds", fn := fun _ => fun
  | [d1, d2, d3, d4] => { results := [.lit (.bool true)], args := [d1, d2, d3, d4] }
  | _ => none }
def memoryHoldsRow : OpenClaim := { program := "ytpifepaflljolaa", sum := "d0148ac3cca32f1647732eb5c75b365abff745a3936677dc2ea36266a645324a", func := "debugger/debuggerlaw25.MemoryHolds", spec := "memoryHolds", unfollowed := true, recurses := true, apart := false }
def MemoryHoldsSaid : Prop := memoryHoldsRow.holds Try.pinned (OpenSpec.ofChange memoryHoldsSpec)

/-- ITS FALSE NEIGHBOUR: 'it returns false'. Refute it at one input. -/
def memoryHoldsWrong : ChangeSpec := { name := "memoryHolds", fn := fun _ => fun
  | [d1, d2, d3, d4] => { results := [.lit (.bool false)], args := [d1, d2, d3, d4] }
  | _ => none }
def MemoryHoldsWrongFalsely : Prop := memoryHoldsRow.holds Try.pinned (OpenSpec.ofChange memoryHoldsWrong)

/-- 'debuggerlaw25.MemoryPages': WHATEVER THE INPUT: true; the input reads as it did. -/
def memoryPagesSpec : ChangeSpec := { name := "memoryPages", fn := fun _ => fun
  | [d1, d2, d3, d4] => { results := [.lit (.bool true)], args := [d1, d2, d3, d4] }
  | _ => none }
def memoryPagesRow : OpenClaim := { program := "ytpifepaflljolaa", sum := "d0148ac3cca32f1647732eb5c75b365abff745a3936677dc2ea36266a645324a", func := "debugger/debuggerlaw25.MemoryPages", spec := "memoryPages", unfollowed := true, recurses := true, apart := false }
def MemoryPagesSaid : Prop := memoryPagesRow.holds Try.pinned (OpenSpec.ofChange memoryPagesSpec)

/-- ITS FALSE NEIGHBOUR: 'it returns false'. Refute it at one input. -/
def memoryPagesWrong : ChangeSpec := { name := "memoryPages", fn := fun _ => fun
  | [d1, d2, d3, d4] => { results := [.lit (.bool false)], args := [d1, d2, d3, d4] }
  | _ => none }
def MemoryPagesWrongFalsely : Prop := memoryPagesRow.holds Try.pinned (OpenSpec.ofChange memoryPagesWrong)

/-- 'debuggerlaw25.MemoryDiffers': WHATEVER THE INPUT: true; the input reads as it did. -/
def memoryDiffersSpec : ChangeSpec := { name := "memoryDiffers", fn := fun _ => fun
  | [d1, d2, d3, d4] => { results := [.lit (.bool true)], args := [d1, d2, d3, d4] }
  | _ => none }
def memoryDiffersRow : OpenClaim := { program := "ytpifepaflljolaa", sum := "d0148ac3cca32f1647732eb5c75b365abff745a3936677dc2ea36266a645324a", func := "debugger/debuggerlaw25.MemoryDiffers", spec := "memoryDiffers", unfollowed := true, recurses := true, apart := false }
def MemoryDiffersSaid : Prop := memoryDiffersRow.holds Try.pinned (OpenSpec.ofChange memoryDiffersSpec)

/-- ITS FALSE NEIGHBOUR: 'it returns false'. Refute it at one input. -/
def memoryDiffersWrong : ChangeSpec := { name := "memoryDiffers", fn := fun _ => fun
  | [d1, d2, d3, d4] => { results := [.lit (.bool false)], args := [d1, d2, d3, d4] }
  | _ => none }
def MemoryDiffersWrongFalsely : Prop := memoryDiffersRow.holds Try.pinned (OpenSpec.ofChange memoryDiffersWrong)

/- THE SECOND FORM. 'bulk': how many values and letters a reading holds, each counted each time it is reached (what is shared counts as often as it is met; a slice's spare places count too). A statement '..UptoSaid' is the law's where the arguments, and the package variables that the reading takes, are together of bulk at most 1048576: NARROWER than '..Said'. Prove '..Said' where nothing that the law and all that it calls make is longer than what came in: it says more and counts as full. Else prove '..UptoSaid'. A law counts once. -/
mutual
def uptoBulk {H : Type} : DataW H → Nat
  | .lit (.string bytes) => bytes.length + 1
  | .lit _ => 1
  | .nil => 1
  | .ptr d => uptoBulk d + 1
  | .slice elems spare => uptoBulkAll elems + uptoBulkAll spare + 1
  | .agg parts => uptoBulkAll parts + 1
  | .iface _ d => uptoBulk d + 1
  | .map entries => uptoBulkEntries entries + 1
  | .held _ => 1
def uptoBulkAll {H : Type} : List (DataW H) → Nat
  | [] => 0
  | d :: r => uptoBulk d + uptoBulkAll r
def uptoBulkEntries {H : Type} : List (Lit × DataW H) → Nat
  | [] => 0
  | x :: r => uptoBulkEntry x + uptoBulkEntries r
def uptoBulkEntry {H : Type} : Lit × DataW H → Nat
  | (.string bytes, d) => bytes.length + uptoBulk d + 1
  | (_, d) => uptoBulk d + 1
 end
def uptoSmall : (H : Type) → List (DataW H) → Bool := fun _ ds => decide (uptoBulkAll ds ≤ 1048576)
def OpenSpec.upto (s : _root_.Go.ChangeSpec) : _root_.Go.OpenSpec := { _root_.Go.OpenSpec.ofChange s with cond := some uptoSmall }

/-- 'debuggerlaw25.MemoryRight', WHERE WHAT IT READS IS OF BULK AT MOST 1048576: true; the input reads as it did. -/
def memoryRightUptoRow : OpenClaim := { program := "ytpifepaflljolaa", sum := "d0148ac3cca32f1647732eb5c75b365abff745a3936677dc2ea36266a645324a", func := "debugger/debuggerlaw25.MemoryRight", spec := "memoryRight", unfollowed := true, recurses := true, apart := false, narrowed := true }
def MemoryRightUptoSaid : Prop := memoryRightUptoRow.holds Try.pinned (OpenSpec.upto memoryRightSpec)

/-- 'debuggerlaw25.MemoryOf', WHERE WHAT IT READS IS OF BULK AT MOST 1048576: true; the input reads as it did. -/
def memoryOfUptoRow : OpenClaim := { program := "ytpifepaflljolaa", sum := "d0148ac3cca32f1647732eb5c75b365abff745a3936677dc2ea36266a645324a", func := "debugger/debuggerlaw25.MemoryOf", spec := "memoryOf", unfollowed := true, recurses := true, apart := false, narrowed := true }
def MemoryOfUptoSaid : Prop := memoryOfUptoRow.holds Try.pinned (OpenSpec.upto memoryOfSpec)

/-- 'debuggerlaw25.MemoryReads', WHERE WHAT IT READS IS OF BULK AT MOST 1048576: true; the input reads as it did. -/
def memoryReadsUptoRow : OpenClaim := { program := "ytpifepaflljolaa", sum := "d0148ac3cca32f1647732eb5c75b365abff745a3936677dc2ea36266a645324a", func := "debugger/debuggerlaw25.MemoryReads", spec := "memoryReads", unfollowed := true, recurses := true, apart := false, narrowed := true }
def MemoryReadsUptoSaid : Prop := memoryReadsUptoRow.holds Try.pinned (OpenSpec.upto memoryReadsSpec)

/-- 'debuggerlaw25.MemoryWords', WHERE WHAT IT READS IS OF BULK AT MOST 1048576: true; the input reads as it did. -/
def memoryWordsUptoRow : OpenClaim := { program := "ytpifepaflljolaa", sum := "d0148ac3cca32f1647732eb5c75b365abff745a3936677dc2ea36266a645324a", func := "debugger/debuggerlaw25.MemoryWords", spec := "memoryWords", unfollowed := true, recurses := true, apart := false, narrowed := true }
def MemoryWordsUptoSaid : Prop := memoryWordsUptoRow.holds Try.pinned (OpenSpec.upto memoryWordsSpec)

/-- 'debuggerlaw25.MemoryHolds', WHERE WHAT IT READS IS OF BULK AT MOST 1048576: true; the input reads as it did. -/
def memoryHoldsUptoRow : OpenClaim := { program := "ytpifepaflljolaa", sum := "d0148ac3cca32f1647732eb5c75b365abff745a3936677dc2ea36266a645324a", func := "debugger/debuggerlaw25.MemoryHolds", spec := "memoryHolds", unfollowed := true, recurses := true, apart := false, narrowed := true }
def MemoryHoldsUptoSaid : Prop := memoryHoldsUptoRow.holds Try.pinned (OpenSpec.upto memoryHoldsSpec)

/-- 'debuggerlaw25.MemoryPages', WHERE WHAT IT READS IS OF BULK AT MOST 1048576: true; the input reads as it did. -/
def memoryPagesUptoRow : OpenClaim := { program := "ytpifepaflljolaa", sum := "d0148ac3cca32f1647732eb5c75b365abff745a3936677dc2ea36266a645324a", func := "debugger/debuggerlaw25.MemoryPages", spec := "memoryPages", unfollowed := true, recurses := true, apart := false, narrowed := true }
def MemoryPagesUptoSaid : Prop := memoryPagesUptoRow.holds Try.pinned (OpenSpec.upto memoryPagesSpec)

/-- 'debuggerlaw25.MemoryDiffers', WHERE WHAT IT READS IS OF BULK AT MOST 1048576: true; the input reads as it did. -/
def memoryDiffersUptoRow : OpenClaim := { program := "ytpifepaflljolaa", sum := "d0148ac3cca32f1647732eb5c75b365abff745a3936677dc2ea36266a645324a", func := "debugger/debuggerlaw25.MemoryDiffers", spec := "memoryDiffers", unfollowed := true, recurses := true, apart := false, narrowed := true }
def MemoryDiffersUptoSaid : Prop := memoryDiffersUptoRow.holds Try.pinned (OpenSpec.upto memoryDiffersSpec)

end Rows
end Go.Proofs.Ytpifepaflljolaa
