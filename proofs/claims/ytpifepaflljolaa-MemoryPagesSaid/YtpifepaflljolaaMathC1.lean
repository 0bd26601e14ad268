/-
  Two equal memories are told the same by the reference. Condition: lengths fit.
-/
import Derived.Test.YtpifepaflljolaaMathZ
import Derived.Test.YtpifepaflljolaaPMemx11
import Derived.Test.YtpifepaflljolaaPMemx10
namespace Go.Proofs.Ytpifepaflljolaa.Mem
open Go.RowKit Go.Proofs.Ytpifepaflljolaa.PMem Go.Proofs.YtpifepaflljolaaW.PrintWords Go.Proofs.YtpifepaflljolaaW.PrintLast Go.Proofs.YtpifepaflljolaaW.PrintMore

theorem Ints_l (x : List Int) (hl : x.length < 4398046511104) (d : Nat) : ∀ (i : Nat), i + d = x.length → Ev (fun k => debuggerref25_Ints.l0 k x x (i : Int)) true := by
  induction d with
  | zero => intro i hi; exact Zev.step (fun k => rfl) (Zev.ifn (by omega) (Zev.now _))
  | succ d ih =>
    intro i hi
    refine Zev.step (fun k => rfl) (Zev.ifp (by omega) (Zev.ifp (by omega) (Zev.ifp (by omega) (Zev.ifp rfl ?_))))
    rw [wS (show i < x.length by omega) hl]
    exact ih (i + 1) (by omega)
theorem Ints_f (x : List Int) (hl : x.length < 4398046511104) : Ev (fun k => debuggerref25_Ints.f k x x) true :=
  Zev.ifp rfl (Ints_l x hl x.length 0 (by omega))
theorem Same_l (m : List S31) (hl : m.length < 4398046511104) (hf : ∀ p ∈ m, p.f1.length < 4398046511104) (d : Nat) : ∀ (i : Nat), i + d = m.length → Ev (fun k => debuggerref25_Same.l0 k (i : Int) m m) true := by
  induction d with
  | zero => intro i hi; exact Zev.step (fun k => rfl) (Zev.ifn (by omega) (Zev.now _))
  | succ d ih =>
    intro i hi
    have hlt : i < m.length := by omega
    refine Zev.step (fun k => rfl) (Zev.ifp (by omega) (Zev.ifp (by omega) (Zev.ifp (by omega) (Zev.ifp rfl ?_))))
    rw [wS hlt hl, rd_get m i hlt]
    exact Zev.bind (Ints_f _ (hf _ (List.getElem_mem hlt))) (Zev.ifp rfl (ih (i + 1) (by omega)))
theorem Same_f (m : List S31) (hl : m.length < 4398046511104) (hf : ∀ p ∈ m, p.f1.length < 4398046511104) : Ev (fun k => debuggerref25_Same.f k m m) true :=
  Zev.ifp rfl (Same_l m hl hf m.length 0 (by omega))

end Go.Proofs.Ytpifepaflljolaa.Mem
