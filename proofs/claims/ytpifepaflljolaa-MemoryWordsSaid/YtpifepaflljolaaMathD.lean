/-
  The pure side of the Memory statements, fourth part: a memory with another word (With), of the program and of the reference; the reference's Read. Condition: the memory is one of right pages in rising order, with few pages.
-/
import Derived.Test.YtpifepaflljolaaMathB
import Derived.Test.YtpifepaflljolaaMathC
import Derived.Test.YtpifepaflljolaaPMemx25
import Derived.Test.YtpifepaflljolaaPMemx26
import Derived.Test.YtpifepaflljolaaPMemx27
namespace Go.Proofs.Ytpifepaflljolaa.Mem
open Go.RowKit Go.Proofs.Ytpifepaflljolaa.PMem Go.Proofs.YtpifepaflljolaaW.PrintWords Go.Proofs.YtpifepaflljolaaW.PrintLast Go.Proofs.YtpifepaflljolaaW.PrintMore

theorem clonePage_f (b : Int) (l : List Int) (h : l.length < 17592186044416) : memory_clonePage.f b l = some (b, l) := by
  unfold memory_clonePage.f
  rw [if_pos (by simpa using h), List.nil_append]
theorem clone_l (m : List S31) (hf : Fit m) (hl : m.length < 4398046511104) (d : Nat) : ∀ (i : Nat) (acc : List S31), i + d = m.length → acc.length = i → Ev (fun k => memory_clone.l0 k m (m.length : Int) (i : Int) acc) (acc ++ m.drop i) := by
  induction d with
  | zero =>
    intro i acc hi ha
    refine Zev.step (fun k => rfl) (Zev.ifn (by omega) (Zev.cast (Zev.now _) ?_))
    rw [List.drop_of_length_le (by omega), List.append_nil]
  | succ d ih =>
    intro i acc hi ha
    have hlt : i < m.length := by omega
    refine Zev.step (fun k => rfl) (Zev.ifp (by omega) (Zev.ifp (by omega) (Zev.ifp (by omega) ?_)))
    rw [wS hlt hl, rd_get m i hlt]
    refine Zev.bindc (clonePage_f _ _ (hf _ (List.getElem_mem hlt))) (Zev.ifp (by omega) (Zev.cast (ih (i + 1) _ (by omega) (by simp [ha])) ?_))
    rw [List.append_assoc, List.drop_eq_getElem_cons hlt]
    rfl
theorem clone_f (m : List S31) (hf : Fit m) (hl : m.length < 4398046511104) : Ev (fun k => memory_clone.f k m) m :=
  Zev.cast (clone_l m hf hl m.length 0 [] (by omega) rfl) (by simp)
/-- A memory with another word at an address. -/
def put (m : List S31) (a word : Int) : List S31 × Bool := match at? m a with
  | some i => (m.set i ⟨(rd_T31 m (i : Nat)).f0, (rd_T31 m (i : Nat)).f1.set (a % 64).toNat word⟩, true)
  | none => (m, false)
theorem With_f {m : List S31} {a word : Int} (hg : Good m) (hl : m.length ≤ 50000) (h1 : a ≤ 9223372036854775807) : Ev (fun k => memory_With.f k m a word) (put m a word) := by
  refine Zev.bind (clone_f m hg.fit (by omega)) ?_
  unfold put
  cases h : at? m a with
  | none =>
    obtain ⟨t, ht⟩ := page_none hg hl h1 h
    exact Zev.bindc ht (Zev.ifn (by simp) (Zev.now _))
  | some i =>
    obtain ⟨h0, _, hi, he⟩ := at_some h
    have hlen := (hg.pg _ (List.getElem_mem hi)).1
    refine Zev.bindc (page_some hg hl h1 h) (Zev.ifp rfl ?_)
    rw [Zev.tm a 64 h0]
    simp only [rd_get m i hi, Int.toNat_natCast]
    exact Zev.ifp (by omega) (Zev.ifp (by omega) (Zev.ifp (by omega) (Zev.ifp (by rw [hlen]; omega) (Zev.now _))))
theorem rWith_f {m : List S31} {a word : Int} (hg : Good m) (hl : m.length ≤ 50000) (h1 : a ≤ 9223372036854775807) (h2 : -9223372036854775808 ≤ a) : Ev (fun k => debuggerref25_With.f k m a word) (put m a word) := by
  refine Zev.bind (Copy_f m hg.fit (by omega)) (Zev.bind (rfind_f hg hl h1 h2) ?_)
  unfold put
  cases h : at? m a with
  | none => exact Zev.ifp (by decide) (Zev.now _)
  | some i =>
    obtain ⟨hi, hw, hr, h64, h0⟩ := off_w hg h
    simp only
    rw [hw, hr]
    simp only [Int.toNat_natCast]
    exact Zev.ifn (by omega) (Zev.ifp (by omega) (Zev.ifp (by omega) (Zev.ifp (by omega) (Zev.ifp (by omega) (Zev.ifp (by rw [h64]; omega) (Zev.now _))))))
theorem put_len (m : List S31) (a word : Int) : (put m a word).1.length = m.length := by
  unfold put
  split <;> simp
theorem put_fit {m : List S31} (hg : Good m) (a word : Int) : ∀ p ∈ (put m a word).1, p.f1.length = 64 := by
  unfold put
  split
  · next i h =>
    obtain ⟨h0, _, hi, he⟩ := at_some h
    intro p hp
    rcases List.mem_or_eq_of_mem_set hp with hp | rfl
    · exact (hg.pg p hp).1
    · simp only [List.length_set]
      rw [rd_get m i hi]
      exact (hg.pg _ (List.getElem_mem hi)).1
  · exact fun p hp => (hg.pg p hp).1
theorem rRead_l {m : List S31} {a N : Int} (hg : Good m) (hl : m.length ≤ 50000) (hN : N ≤ 128) (d : Nat) : ∀ (i : Nat) (acc : List Int), (i : Int) + d = max N i → acc.length = i → i ≤ 128 → Ev (fun k => debuggerref25_Read.l0 k a N acc (i : Int) m) (acc ++ (reads m a d i).1, (reads m a d i).2) := by
  induction d with
  | zero =>
    intro i acc hi ha h128
    refine Zev.step (fun k => rfl) (Zev.ifn (by omega) (Zev.cast (Zev.now _) ?_))
    simp [reads]
  | succ d ih =>
    intro i acc hi ha h128
    have hlt : (i : Int) < N := by omega
    refine Zev.step (fun k => rfl) (Zev.ifp hlt (Zev.bind (rWord_f hg hl (wr _).2 (wr _).1) ?_))
    unfold reads
    by_cases hk : (look m (wrap64 (a + (i : Int)))).2 = true
    · refine Zev.ifp hk (Zev.ifp (by omega) ?_)
      rw [w1 i 129 (by omega) (by omega), if_pos hk]
      refine Zev.cast (ih (i + 1) _ (by omega) (by simp [ha]) (by omega)) ?_
      simp
    · refine Zev.ifn hk (Zev.cast (Zev.now _) ?_)
      rw [if_neg hk]; simp
theorem rRead_f {m : List S31} {a n : Int} (hg : Good m) (hl : m.length ≤ 50000) : Ev (fun k => debuggerref25_Read.f k m a n) (reads m a (mn n 128).toNat 0) := by
  have e : (mn (mx n 0) 128).toNat = (mn n 128).toNat ∧ mn (mx n 0) 128 ≤ 128 ∧ 0 ≤ mn (mx n 0) 128 := by
    unfold mn mx
    by_cases h1 : n < 0
    · rw [if_pos h1, if_neg (by omega), if_neg (by omega)]; omega
    · rw [if_neg h1]
      by_cases h2 : (128 : Int) < n
      · rw [if_pos h2]; omega
      · rw [if_neg h2]; omega
  refine Zev.cast (rRead_l hg hl e.2.1 (mn n 128).toNat 0 [] (by omega) rfl (by omega)) (by simp)
end Go.Proofs.Ytpifepaflljolaa.Mem
