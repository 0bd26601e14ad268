/-
  The statement MemoryWords, over lists alone: words are read and changed as specified, at arbitrary addresses. No condition.
-/
import Derived.Test.YtpifepaflljolaaPMemx28
import Derived.Test.YtpifepaflljolaaMathD
namespace Go.Proofs.Ytpifepaflljolaa.Mem
open Go.RowKit Go.Proofs.Ytpifepaflljolaa.PMem Go.Proofs.YtpifepaflljolaaW.PrintWords Go.Proofs.YtpifepaflljolaaW.PrintLast Go.Proofs.YtpifepaflljolaaW.PrintMore
theorem reads_len (m : List S31) (a : Int) (n : Nat) : ∀ i : Nat, (reads m a n i).1.length ≤ n := by
  induction n with
  | zero => intro i; simp [reads]
  | succ n ih =>
    intro i
    unfold reads
    split
    · have := ih (i + 1); simp; omega
    · simp
theorem mk_fit (l : List Int) : ∀ p ∈ mk l, p.f1.length < 4398046511104 := fun p hp => by rw [((mk_good l).pg p hp).1]; decide
theorem MemoryWords_l (l : List Int) (w n : Int) (ys : List Int) (hy : ∀ a ∈ ys, -9223372036854775808 ≤ a ∧ a ≤ 9223372036854775807) (hys : ys.length < 1000) (d : Nat) : ∀ (i : Nat), i + d = ys.length →
    Ev (fun k => debuggerlaw25_MemoryWords.l0 k l w n ys (ys.length : Int) (i : Int) (mk l)) true := by
  have hg := mk_good l
  have hl : (mk l).length ≤ 50000 := by have := mk_len l; omega
  induction d with
  | zero =>
    intro i hi
    refine Zev.step (fun k => rfl) (Zev.ifn (by omega) (Zev.bind (some_f l) (Zev.bind (Same_f _ (by omega) (mk_fit l)) (Zev.ifp rfl aw))))
  | succ d ih =>
    intro i hi
    have hlt : i < ys.length := by omega
    obtain ⟨a1, a2⟩ := hy ys[i] (List.getElem_mem hlt)
    refine Zev.step (fun k => rfl) (Zev.ifp (by omega) (Zev.ifp (by omega) (Zev.ifp (by omega) ?_)))
    rw [rd_i ys i hlt]
    refine Zev.bindc (Word_f hg hl a2) (Zev.bind (rWord_f hg hl a2 a1) (Zev.bind (With_f hg hl a2) (Zev.bind (rWith_f hg hl a2 a1) (Zev.bind (Read_f hg hl) (Zev.bind (rRead_f hg hl) (Zev.ifp rfl (Zev.ifn (by simp) (Zev.ifn (by simp) ?_))))))))
    refine Zev.bind (Same_f _ (by rw [put_len]; omega) (fun p hp => by rw [put_fit hg _ _ p hp]; decide)) (Zev.ifp rfl (Zev.ifp rfl (Zev.bind (Ints_f _ (by have h1 := reads_len (mk l) ys[i] (mn n 128).toNat 0; have h2 : mn n 128 ≤ 128 := (by unfold mn; split <;> omega); omega)) ?_)))
    refine Zev.step (fun k => rfl) ?_
    show Ev (fun k => debuggerlaw25_MemoryWords.l0 k l w n ys (ys.length : Int) (wrap64 ((i : Int) + 1)) (mk l)) true
    rw [w0 i (by omega)]
    exact ih (i + 1) (by omega)
theorem MemoryWords_ev (l : List Int) (a w n : Int) (ha : -9223372036854775808 ≤ a ∧ a ≤ 9223372036854775807) : Ev (fun k => debuggerlaw25_MemoryWords.f k l a w n) true := by
  refine Zev.bind (some_f l) (Zev.bindc (Mod_f a 832 (by decide) (by decide)) (Zev.bindc rfl ?_))
  refine MemoryWords_l l w n [a, wrap64 (a % 832 - 5)] (fun x hx => ?_) (by simp) 2 0 (by simp)
  rcases List.mem_cons.1 hx with rfl | hx
  · exact ha
  · rw [List.mem_singleton.1 hx]
    exact wr _
end Go.Proofs.Ytpifepaflljolaa.Mem
namespace Go.Proofs.Ytpifepaflljolaa.Pure
open Go.RowKit Go.Proofs.Ytpifepaflljolaa.PMem Go.Proofs.YtpifepaflljolaaW.PrintWords Go.Proofs.YtpifepaflljolaaW.PrintLast

theorem MemoryWords : debuggerlaw25_MemoryWords.Pure := fun l a w n _ _ _ ha _ _ => Zev.done (Mem.MemoryWords_ev l a w n (Zev.wf_i64 ha))

end Go.Proofs.Ytpifepaflljolaa.Pure
