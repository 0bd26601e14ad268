/-
  A memory copied by the program. Condition: lengths fit.
-/
import Derived.Test.YtpifepaflljolaaMathA
import Derived.Test.YtpifepaflljolaaPMemx24
import Derived.Test.YtpifepaflljolaaPMemx23
namespace Go.Proofs.Ytpifepaflljolaa.Mem
open Go.RowKit Go.Proofs.Ytpifepaflljolaa.PMem Go.Proofs.YtpifepaflljolaaW.PrintWords Go.Proofs.YtpifepaflljolaaW.PrintLast Go.Proofs.YtpifepaflljolaaW.PrintMore

theorem clonePage_f (b : Int) (l : List Int) (h : l.length < 17592186044416) : memory_clonePage.f b l = some (b, l) := by
  unfold memory_clonePage.f
  rw [if_pos (by simpa using h), List.nil_append]
theorem clone_l (m : List S31) (hf : Fit m) (hl : m.length < 4398046511104) (d : Nat) : ∀ (i : Nat) (acc : List S31), i + d = m.length → acc.length = i → Ev (fun k => memory_clone.l0 k m (m.length : Int) (i : Int) acc) (acc ++ m.drop i) := by
  induction d with
  | zero =>
    intro i acc hi ha
    refine Zev.step (fun k => rfl) (Zev.ifn (by omega) (Zev.cast (Zev.now _) ?_))
    rw [List.drop_of_length_le (by omega), List.append_nil]
  | succ d ih =>
    intro i acc hi ha
    have hlt : i < m.length := by omega
    refine Zev.step (fun k => rfl) (Zev.ifp (by omega) (Zev.ifp (by omega) (Zev.ifp (by omega) ?_)))
    rw [wS hlt hl, rd_get m i hlt]
    refine Zev.bindc (clonePage_f _ _ (hf _ (List.getElem_mem hlt))) (Zev.ifp (by omega) (Zev.cast (ih (i + 1) _ (by omega) (by simp [ha])) ?_))
    rw [List.append_assoc, List.drop_eq_getElem_cons hlt]
    rfl
theorem clone_f (m : List S31) (hf : Fit m) (hl : m.length < 4398046511104) : Ev (fun k => memory_clone.f k m) m :=
  Zev.cast (clone_l m hf hl m.length 0 [] (by omega) rfl) (by simp)
end Go.Proofs.Ytpifepaflljolaa.Mem
