/-
  The pure side of the Memory statements: where a page is found; a memory of right pages is right. Condition: right pages in rising order, few.
-/
import Derived.Test.YtpifepaflljolaaMathA
import Derived.Test.YtpifepaflljolaaPMemx5
import Derived.Test.YtpifepaflljolaaPMemx2
namespace Go.Proofs.Ytpifepaflljolaa.Mem
open Go.RowKit Go.Proofs.Ytpifepaflljolaa.PMem Go.Proofs.YtpifepaflljolaaW.PrintWords Go.Proofs.YtpifepaflljolaaW.PrintLast Go.Proofs.YtpifepaflljolaaW.PrintMore

/-- How many pages have a base below b. -/
def idx (m : List S31) (b : Int) : Nat := m.countP (fun x => decide (x.f0 < b))
theorem idx_le (m : List S31) (b : Int) : idx m b ≤ m.length := List.countP_le_length
theorem idx_spec (m : List S31) (b : Int) (hs : m.Pairwise (fun x y => x.f0 < y.f0)) : ∀ (i : Nat) (h : i < m.length), m[i].f0 < b ↔ i < idx m b := by
  unfold idx
  induction m with
  | nil => intro i h; simp at h
  | cons x m ih =>
    rw [List.pairwise_cons] at hs
    intro i h
    have hz : ¬ x.f0 < b → m.countP (fun x => decide (x.f0 < b)) = 0 := by
      intro hx
      rw [List.countP_eq_zero]
      intro q hq
      have := hs.1 q hq
      simp; omega
    by_cases hx : x.f0 < b
    · rw [List.countP_cons_of_pos (by simpa using hx)]
      cases i with
      | zero => simp [hx]
      | succ i =>
        have := ih hs.2 i (by simpa using h)
        simp only [List.getElem_cons_succ]
        omega
    · rw [List.countP_cons_of_neg (by simpa using hx), hz hx]
      cases i with
      | zero => simp [hx]
      | succ i =>
        have hi' : i < m.length := by simpa using h
        have := hs.1 m[i] (List.getElem_mem hi')
        simp only [List.getElem_cons_succ]
        omega
theorem find_f (m : List S31) (b : Int) (h : Good m) (hl : m.length ≤ 50000) : memory_find.f m b = some ((idx m b : Nat) : Int) := by
  unfold memory_find.f idx
  rw [if_pos (by omega), if_pos h.up]
theorem Right_l {m : List S31} (hg : Good m) (hl : m.length ≤ 50000) (d : Nat) : ∀ (i : Nat), i + d = m.length → Ev (fun k => memory_Right.l0 k m (m.length : Int) (i : Int) m) true := by
  induction d with
  | zero =>
    intro i hi
    refine Zev.step (fun k => rfl) (Zev.ifn (by omega) (Zev.cast (Zev.now _) ?_))
    rw [decide_eq_true_eq]; omega
  | succ d ih =>
    intro i hi
    have hlt : i < m.length := by omega
    have hp := hg.pg _ (List.getElem_mem hlt)
    have hpf : memory_rightPage.f m[i].f0 m[i].f1 = some true := by
      obtain ⟨p1, p2, p3, p4⟩ := hp
      unfold memory_rightPage.f
      rw [if_pos (by omega), if_pos p2, if_pos p3, Zev.tm _ 64 p2, p4]
      rfl
    refine Zev.step (fun k => rfl) (Zev.ifp (by omega) (Zev.ifp (by omega) (Zev.ifp (by omega) ?_)))
    rw [rd_get m i hlt, w1 i m.length hlt (by omega)]
    refine Zev.bindc hpf (Zev.ifp rfl ?_)
    by_cases h0 : (i : Int) > 0
    · refine Zev.ifp h0 ?_
      have hw : wrap64 ((i : Int) - 1) = ((i - 1 : Nat) : Int) := by rw [Zev.w64 (by omega) (by omega)]; omega
      rw [hw, rd_get m (i - 1) (by omega)]
      have := List.pairwise_iff_getElem.1 hg.up (i - 1) i (by omega) hlt (by omega)
      exact Zev.ifp (by omega) (Zev.ifp (by omega) (Zev.ifn (by omega) (ih (i + 1) (by omega))))
    · exact Zev.ifn h0 (ih (i + 1) (by omega))
theorem Right_f {m : List S31} (hg : Good m) (hl : m.length ≤ 50000) : Ev (fun k => memory_Right.f k m) true := Right_l hg hl m.length 0 (by omega)

end Go.Proofs.Ytpifepaflljolaa.Mem
