/-
  The pure side of the Memory statements, third part: two equal memories are told the same; the memory of words. Condition: lengths fit.
-/
import Derived.Test.YtpifepaflljolaaMathZ
import Derived.Test.YtpifepaflljolaaMathW
import Derived.Test.YtpifepaflljolaaPMemx13
import Derived.Test.YtpifepaflljolaaPMemx11
namespace Go.Proofs.Ytpifepaflljolaa.Mem
open Go.RowKit Go.Proofs.Ytpifepaflljolaa.PMem Go.Proofs.YtpifepaflljolaaW.PrintWords Go.Proofs.YtpifepaflljolaaW.PrintLast Go.Proofs.YtpifepaflljolaaW.PrintMore

theorem Ints_l (x : List Int) (hl : x.length < 4398046511104) (d : Nat) : ∀ (i : Nat), i + d = x.length → Ev (fun k => debuggerref25_Ints.l0 k x x (i : Int)) true := by
  induction d with
  | zero => intro i hi; exact Zev.step (fun k => rfl) (Zev.ifn (by omega) (Zev.now _))
  | succ d ih =>
    intro i hi
    refine Zev.step (fun k => rfl) (Zev.ifp (by omega) (Zev.ifp (by omega) (Zev.ifp (by omega) (Zev.ifp rfl ?_))))
    rw [wS (show i < x.length by omega) hl]
    exact ih (i + 1) (by omega)
theorem Ints_f (x : List Int) (hl : x.length < 4398046511104) : Ev (fun k => debuggerref25_Ints.f k x x) true :=
  Zev.ifp rfl (Ints_l x hl x.length 0 (by omega))
theorem Same_l (m : List S31) (hl : m.length < 4398046511104) (hf : ∀ p ∈ m, p.f1.length < 4398046511104) (d : Nat) : ∀ (i : Nat), i + d = m.length → Ev (fun k => debuggerref25_Same.l0 k (i : Int) m m) true := by
  induction d with
  | zero => intro i hi; exact Zev.step (fun k => rfl) (Zev.ifn (by omega) (Zev.now _))
  | succ d ih =>
    intro i hi
    have hlt : i < m.length := by omega
    refine Zev.step (fun k => rfl) (Zev.ifp (by omega) (Zev.ifp (by omega) (Zev.ifp (by omega) (Zev.ifp rfl ?_))))
    rw [wS hlt hl, rd_get m i hlt]
    exact Zev.bind (Ints_f _ (hf _ (List.getElem_mem hlt))) (Zev.ifp rfl (ih (i + 1) (by omega)))
theorem Same_f (m : List S31) (hl : m.length < 4398046511104) (hf : ∀ p ∈ m, p.f1.length < 4398046511104) : Ev (fun k => debuggerref25_Same.f k m m) true :=
  Zev.ifp rfl (Same_l m hl hf m.length 0 (by omega))

theorem Of_l (l : List Int) (hl : l.length ≤ 1048576) (d : Nat) : ∀ (i : Nat) (acc : List S31), (l.length : Int) - i ≤ 64 * d → i ≤ l.length + 64 → acc.length + d < 20000 → (∀ p ∈ acc, p.f1.length = 64) →
    ∃ t, Ev (fun k => memory_Of.l0 k l (i : Int) acc) t ∧ Ev (fun k => debuggerref25_Of.l0 k l (i : Int) acc) t ∧ t.length < 20000 ∧ ∀ p ∈ t, p.f1.length = 64 := by
  induction d with
  | zero =>
    intro i acc hd hi ha hp
    exact ⟨acc, Zev.step (fun k => rfl) (Zev.ifn (by omega) (Zev.now _)), Zev.step (fun k => rfl) (Zev.ifn (by omega) (Zev.now _)), by omega, hp⟩
  | succ d ih =>
    intro i acc hd hi ha hp
    by_cases hlt : (i : Int) < (l.length : Int)
    · have hw : wrap64 ((i : Int) + 64) = ((i + 64 : Nat) : Int) := by rw [Zev.w64 (by omega) (by omega)]; omega
      obtain ⟨t, h1, h2, h3, h4⟩ := ih (i + 64) (acc ++ [(⟨(i : Int), cpy (l.drop i) (List.replicate 64 0)⟩ : S31)]) (by omega) (by omega) (by rw [List.length_append, List.length_singleton]; omega) (by
        intro p h
        rcases List.mem_append.1 h with h | h
        · exact hp p h
        · rw [List.mem_singleton.1 h]
          simp [cpy_length])
      refine ⟨t, ?_, ?_, h3, h4⟩
      · refine Zev.step (fun k => rfl) (Zev.ifp hlt (Zev.ifp (by decide) (Zev.ifp (by omega) (Zev.ifp (by omega) (Zev.ifp (by omega) ?_)))))
        rw [hw]
        exact h1
      · refine Zev.step (fun k => rfl) (Zev.ifp hlt (Zev.ifp (by decide) (Zev.ifp (by omega) (Zev.ifp (by omega) (Zev.ifp (by omega) ?_)))))
        rw [hw]
        exact h2
    · exact ⟨acc, Zev.step (fun k => rfl) (Zev.ifn hlt (Zev.now _)), Zev.step (fun k => rfl) (Zev.ifn hlt (Zev.now _)), by omega, hp⟩
theorem MemoryOf_ev (l : List Int) : Ev (fun k => debuggerlaw25_MemoryOf.f k l) true := by
  by_cases hl : (l.length : Int) > 1000
  · exact Zev.ifp hl aw
  · refine Zev.ifn hl ?_
    obtain ⟨t, h1, h2, h3, h4⟩ := Of_l l (by omega) 16 0 [] (by omega) (by omega) (by decide) (fun _ h => by cases h)
    refine Zev.bind (Zev.ifn (by omega) h1) (Zev.bind (Zev.ifn (by omega) h2) (Zev.bind (Same_f t (by omega) (fun p hp => by rw [h4 p hp]; decide)) (Zev.ifp rfl aw)))
end Go.Proofs.Ytpifepaflljolaa.Mem
