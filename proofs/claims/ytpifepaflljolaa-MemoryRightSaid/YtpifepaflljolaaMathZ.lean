/-
  Elements of lists of pages and of numbers, and a counter that goes up. Condition: the place lies in the list; the counter is small.
-/
import Derived.Test.YtpifepaflljolaaZev
import Derived.Test.YtpifepaflljolaaPMemx0
namespace Go.Proofs.Ytpifepaflljolaa.Mem
open Go.RowKit Go.Proofs.Ytpifepaflljolaa.PMem Go.Proofs.YtpifepaflljolaaW.PrintWords Go.Proofs.YtpifepaflljolaaW.PrintLast Go.Proofs.YtpifepaflljolaaW.PrintMore

theorem rd_get (l : List S31) (i : Nat) (h : i < l.length) : rd_T31 l (i : Int) = l[i] := by simp [rd_T31, h]
theorem rd_i (l : List Int) (i : Nat) (h : i < l.length) : rd l (i : Int) = l[i] := by simp [rd, h]
theorem w0 (i : Nat) (h : i < 1000000) : wrap64 ((i : Int) + 1) = ((i + 1 : Nat) : Int) := by
  rw [Zev.w64 (by omega) (by omega)]; omega
theorem w1 (i : Nat) (n : Nat) (h : i < n) (hn : n ≤ 4398046511104) : wrap64 ((i : Int) + 1) = ((i + 1 : Nat) : Int) := by
  rw [Zev.w64 (by omega) (by omega)]; omega

theorem wS {n i : Nat} (h : i < n) (hn : n < 4398046511104) : wrap64 ((i : Int) + 1) = ((i + 1 : Nat) : Int) := by
  rw [Zev.w64 (by omega) (by omega)]; omega
end Go.Proofs.Ytpifepaflljolaa.Mem
