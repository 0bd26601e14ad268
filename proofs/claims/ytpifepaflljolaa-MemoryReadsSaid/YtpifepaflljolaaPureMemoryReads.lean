/-
  The statement MemoryReads, over lists alone: what Read returns are the words that Word returns, up to the first one that is missing, for all numbers. No condition.
-/
import Derived.Test.YtpifepaflljolaaPMemx20
import Derived.Test.YtpifepaflljolaaMathB
import Derived.Test.YtpifepaflljolaaMathW
namespace Go.Proofs.Ytpifepaflljolaa.Mem
open Go.RowKit Go.Proofs.Ytpifepaflljolaa.PMem Go.Proofs.YtpifepaflljolaaW.PrintWords Go.Proofs.YtpifepaflljolaaW.PrintLast Go.Proofs.YtpifepaflljolaaW.PrintMore
theorem reads_spec (m : List S31) (a : Int) (n : Nat) : ∀ i : Nat, (reads m a n i).1.length ≤ n ∧ (∀ (j : Nat) (hj : j < (reads m a n i).1.length), look m (wrap64 (a + ((i + j : Nat) : Int))) = ((reads m a n i).1[j], true)) ∧
    (((reads m a n i).1.length = n ∧ (reads m a n i).2 = -1) ∨ ((reads m a n i).1.length < n ∧ (reads m a n i).2 = wrap64 (a + ((i + (reads m a n i).1.length : Nat) : Int)) ∧ (look m (wrap64 (a + ((i + (reads m a n i).1.length : Nat) : Int)))).2 = false)) := by
  induction n with
  | zero => intro i; simp [reads]
  | succ n ih =>
    intro i
    obtain ⟨h1, h2, h3⟩ := ih (i + 1)
    by_cases hk : (look m (wrap64 (a + (i : Int)))).2 = true
    · have e : reads m a (n + 1) i = ((look m (wrap64 (a + (i : Int)))).1 :: (reads m a n (i + 1)).1, (reads m a n (i + 1)).2) := if_pos hk
      rw [e]
      refine ⟨by simpa using h1, ?_, ?_⟩
      · intro j hj
        cases j with
        | zero =>
          simp only [Nat.add_zero, List.getElem_cons_zero]
          exact Prod.ext rfl hk
        | succ j =>
          have := h2 j (by simpa using hj)
          rw [show i + (j + 1) = i + 1 + j by omega, this]
          simp
      · simp only [List.length_cons]
        rcases h3 with ⟨h4, h5⟩ | ⟨h4, h5, h6⟩
        · exact .inl ⟨by omega, h5⟩
        · refine .inr ⟨by omega, ?_, ?_⟩
          · rw [h5, show i + ((reads m a n (i + 1)).1.length + 1) = i + 1 + (reads m a n (i + 1)).1.length by omega]
          · rw [show i + ((reads m a n (i + 1)).1.length + 1) = i + 1 + (reads m a n (i + 1)).1.length by omega]
            exact h6
    · have e : reads m a (n + 1) i = ([], wrap64 (a + (i : Int))) := if_neg hk
      rw [e]
      refine ⟨by simp, fun j hj => by simp at hj, .inr ⟨by simp, by simp, ?_⟩⟩
      simpa using hk
theorem MemoryReads_l {m : List S31} (hg : Good m) (hl : m.length ≤ 50000) (a n : Int) (h0 : 0 ≤ a) (h1 : a < 768) (hn0 : 0 ≤ n) (hn : n ≤ 128) (d : Nat) : ∀ (i : Nat), i + d = (reads m a n.toNat 0).1.length →
    Ev (fun k => debuggerlaw25_MemoryReads.l0 k a n (reads m a n.toNat 0).1 (reads m a n.toNat 0).2 (i : Int) m) true := by
  obtain ⟨s1, s2, s3⟩ := reads_spec m a n.toNat 0
  generalize reads m a n.toNat 0 = r at s1 s2 s3 ⊢
  induction d with
  | zero =>
    intro i hi
    refine Zev.step (fun k => rfl) (Zev.ifn (by omega) (Zev.bindc (Word_f hg hl (wr _).2) ?_))
    rw [Nat.zero_add] at s3
    rcases s3 with ⟨h4, h5⟩ | ⟨h4, h5, h6⟩
    · exact Zev.ifp h5 (Zev.ifp (by omega) aw)
    · have hw : wrap64 (a + (r.1.length : Int)) = a + (r.1.length : Int) := Zev.w64 (by omega) (by omega)
      refine Zev.ifn (by rw [h5, hw]; omega) (Zev.ifp h5 (Zev.ifp (by omega) (Zev.ifn ?_ aw)))
      rw [h6]; simp
  | succ d ih =>
    intro i hi
    refine Zev.step (fun k => rfl) (Zev.ifp (by omega) (Zev.bindc (Word_f hg hl (wr _).2) ?_))
    have h2 := s2 i (by omega)
    rw [Nat.zero_add] at h2
    rw [h2, rd_i r.1 i (by omega), w0 i (by omega)]
    exact Zev.ifp rfl (Zev.ifp (by omega) (Zev.ifp rfl (ih (i + 1) (by omega))))
theorem MemoryReads_ev (l : List Int) (a n : Int) : Ev (fun k => debuggerlaw25_MemoryReads.f k l a n) true := by
  have ha := Int.emod_nonneg a (show (768 : Int) ≠ 0 by decide)
  have ha2 := Int.emod_lt_of_pos a (show (0 : Int) < 768 by decide)
  have hn := Int.emod_nonneg n (show (129 : Int) ≠ 0 by decide)
  have hn2 := Int.emod_lt_of_pos n (show (0 : Int) < 129 by decide)
  have hl : (mk l).length ≤ 50000 := by have := mk_len l; omega
  refine Zev.bind (some_f l) (Zev.bindc (Mod_f a 768 (by decide) (by decide)) (Zev.bindc (Mod_f n 129 (by decide) (by decide)) (Zev.bind (Read_f (mk_good l) hl) ?_)))
  rw [Zev.mn_le (show n % 129 ≤ 128 by omega)]
  exact MemoryReads_l (mk_good l) hl _ _ ha ha2 hn (by omega) (reads (mk l) (a % 768) (n % 129).toNat 0).1.length 0 (by omega)
end Go.Proofs.Ytpifepaflljolaa.Mem
namespace Go.Proofs.Ytpifepaflljolaa.Pure
open Go.RowKit Go.Proofs.Ytpifepaflljolaa.PMem Go.Proofs.YtpifepaflljolaaW.PrintWords Go.Proofs.YtpifepaflljolaaW.PrintLast

theorem MemoryReads : debuggerlaw25_MemoryReads.Pure := fun l a n _ _ _ _ _ => Zev.done (Mem.MemoryReads_ev l a n)

end Go.Proofs.Ytpifepaflljolaa.Pure
