/-
  The statement MemoryRight, over lists alone: which pages are a memory, as the program and as the reference say it. No condition.
-/
import Derived.Test.YtpifepaflljolaaPMemx39
import Derived.Test.YtpifepaflljolaaMathA
import Derived.Test.YtpifepaflljolaaMathB1
import Derived.Test.YtpifepaflljolaaMathW
namespace Go.Proofs.Ytpifepaflljolaa.Mem
open Go.RowKit Go.Proofs.Ytpifepaflljolaa.PMem Go.Proofs.YtpifepaflljolaaW.PrintWords Go.Proofs.YtpifepaflljolaaW.PrintLast Go.Proofs.YtpifepaflljolaaW.PrintMore
theorem rightPage_both (p : S31) : ∃ b, memory_rightPage.f p.f0 p.f1 = some b ∧ debuggerref25_page.f p.f0 p.f1 = some b := by
  by_cases h : Pg ⟨p.f0, p.f1⟩
  · refine ⟨true, ?_, page_t h⟩
    obtain ⟨p1, p2, p3, p4⟩ := h
    simp only at p1 p2 p3 p4
    unfold memory_rightPage.f
    rw [if_pos (by omega), if_pos p2, if_pos p3, Zev.tm _ 64 p2, p4]
    rfl
  · refine ⟨false, ?_, page_n h⟩
    unfold memory_rightPage.f
    by_cases h4 : p.f1.length = 64
    · rw [if_pos (by omega)]
      by_cases h1 : p.f0 ≥ 0
      · rw [if_pos h1]
        by_cases h2 : p.f0 ≤ 1099511627776
        · rw [if_pos h2, Zev.tm p.f0 64 h1]
          have h3 : ¬ p.f0 % 64 = 0 := fun h3 => h ⟨h4, h1, h2, h3⟩
          rw [beq_eq_false_iff_ne.2 h3]
        · rw [if_neg h2]
      · rw [if_neg h1]
    · rw [if_neg (by omega)]
theorem right_both (m : List S31) (hl : m.length ≤ 50000) (d : Nat) : ∀ (i : Nat), i + d = m.length → ∃ b, Ev (fun k => memory_Right.l0 k m (m.length : Int) (i : Int) m) b ∧ Ev (fun k => debuggerref25_Right.l0 k (i : Int) m) b := by
  induction d with
  | zero =>
    intro i hi
    exact ⟨_, Zev.step (fun k => rfl) (Zev.ifn (by omega) (Zev.now _)), Zev.step (fun k => rfl) (Zev.ifn (by omega) (Zev.now _))⟩
  | succ d ih =>
    intro i hi
    have hlt : i < m.length := by omega
    obtain ⟨b, h1, h2⟩ := rightPage_both (rd_T31 m (i : Int))
    obtain ⟨r, r1, r2⟩ := ih (i + 1) (by omega)
    have wi : wrap64 ((i : Int) + 1) = ((i + 1 : Nat) : Int) := by rw [Zev.w64 (by omega) (by omega)]; omega
    cases b with
    | false =>
      exact ⟨false, Zev.step (fun k => rfl) (Zev.ifp (by omega) (Zev.ifp (by omega) (Zev.ifp (by omega) (Zev.bindc h1 (Zev.ifn (by decide) (Zev.now _)))))), Zev.step (fun k => rfl) (Zev.ifp (by omega) (Zev.ifp (by omega) (Zev.bindc h2 (Zev.ifn (by decide) (Zev.now _)))))⟩
    | true =>
      by_cases h0 : (i : Int) > 0
      · have wm : wrap64 ((i : Int) - 1) = (i : Int) - 1 := Zev.w64 (by omega) (by omega)
        by_cases hc : (rd_T31 m ((i : Int) - 1)).f0 ≥ (rd_T31 m (i : Int)).f0
        · refine ⟨false, Zev.step (fun k => rfl) (Zev.ifp (by omega) (Zev.ifp (by omega) (Zev.ifp (by omega) (Zev.bindc h1 (Zev.ifp rfl (Zev.ifp h0 ?_)))))), Zev.step (fun k => rfl) (Zev.ifp (by omega) (Zev.ifp (by omega) (Zev.bindc h2 (Zev.ifp rfl (Zev.ifp h0 ?_)))))⟩
          · rw [wm]
            exact Zev.ifp (by omega) (Zev.ifp (by omega) (Zev.ifp hc (Zev.now _)))
          · rw [wm]
            exact Zev.ifp (by omega) (Zev.ifp (by omega) (Zev.ifp hc (Zev.now _)))
        · refine ⟨r, Zev.step (fun k => rfl) (Zev.ifp (by omega) (Zev.ifp (by omega) (Zev.ifp (by omega) (Zev.bindc h1 (Zev.ifp rfl (Zev.ifp h0 ?_)))))), Zev.step (fun k => rfl) (Zev.ifp (by omega) (Zev.ifp (by omega) (Zev.bindc h2 (Zev.ifp rfl (Zev.ifp h0 ?_)))))⟩
          · rw [wm, wi]
            exact Zev.ifp (by omega) (Zev.ifp (by omega) (Zev.ifn hc r1))
          · rw [wm, wi]
            exact Zev.ifp (by omega) (Zev.ifp (by omega) (Zev.ifn hc r2))
      · refine ⟨r, Zev.step (fun k => rfl) (Zev.ifp (by omega) (Zev.ifp (by omega) (Zev.ifp (by omega) (Zev.bindc h1 (Zev.ifp rfl (Zev.ifn h0 ?_)))))), Zev.step (fun k => rfl) (Zev.ifp (by omega) (Zev.ifp (by omega) (Zev.bindc h2 (Zev.ifp rfl (Zev.ifn h0 ?_)))))⟩
        · rw [wi]; exact r1
        · rw [wi]; exact r2
theorem rightB (m : List S31) (hl : m.length ≤ 50000) : ∃ b, Ev (fun k => memory_Right.f k m) b ∧ Ev (fun k => debuggerref25_Right.f k m) b := right_both m hl m.length 0 (by omega)
theorem small_l (m : List S31) (d : Nat) : ∀ (i : Nat), i + d = 10 → ∃ b, Ev (fun k => debuggerlaw25_small.l0 k (i : Int) m) b ∧ (b = true → m.length ≤ 10) := by
  have last : ∀ (i : Nat) (c : Bool), c = false → ∃ b, Ev (fun k => debuggerlaw25_small.j1 k (i : Int) c m) b ∧ (b = true → m.length ≤ 10) := fun i c hc =>
    ⟨decide ((m.length : Int) ≤ 10), Zev.step (fun k => rfl) (Zev.ifn (by rw [hc]; decide) (Zev.now _)), fun h => by have := of_decide_eq_true h; omega⟩
  induction d with
  | zero =>
    intro i hi
    by_cases hlt : (i : Int) < (m.length : Int)
    · obtain ⟨b, h1, h2⟩ := last i (decide ((i : Int) < 10)) (decide_eq_false (by omega))
      exact ⟨b, Zev.step (fun k => rfl) (Zev.ifp hlt h1), h2⟩
    · obtain ⟨b, h1, h2⟩ := last i false rfl
      exact ⟨b, Zev.step (fun k => rfl) (Zev.ifn hlt h1), h2⟩
  | succ d ih =>
    intro i hi
    by_cases hlt : (i : Int) < (m.length : Int)
    · obtain ⟨r, r1, r2⟩ := ih (i + 1) (by omega)
      have wi : wrap64 ((i : Int) + 1) = ((i + 1 : Nat) : Int) := by rw [Zev.w64 (by omega) (by omega)]; omega
      have j : ∀ c : Bool, c = true → ∃ b, Ev (fun k => debuggerlaw25_small.j1 k (i : Int) c m) b ∧ (b = true → m.length ≤ 10) := fun c hc => by
        by_cases h2 : ((rd_T31 m (i : Int)).f1.length : Int) > 200
        · exact ⟨false, Zev.step (fun k => rfl) (Zev.ifp hc (Zev.ifp (by omega) (Zev.ifp hlt (Zev.ifp h2 (Zev.now _))))), fun h => by cases h⟩
        · refine ⟨r, Zev.step (fun k => rfl) (Zev.ifp hc (Zev.ifp (by omega) (Zev.ifp hlt (Zev.ifn h2 ?_)))), r2⟩
          rw [wi]
          exact r1
      obtain ⟨b, h1, h2⟩ := j (decide ((i : Int) < 10)) (decide_eq_true (by omega))
      exact ⟨b, Zev.step (fun k => rfl) (Zev.ifp hlt h1), h2⟩
    · obtain ⟨b, h1, h2⟩ := last i false rfl
      exact ⟨b, Zev.step (fun k => rfl) (Zev.ifn hlt h1), h2⟩
theorem mid (x : List S31) (hg : Good x) (hl : x.length ≤ 8) (a2 a3 a4 : Int) : ∃ y, debuggerlaw25_MemoryRight.m x a2 a3 a4 = some y ∧ y.length ≤ 8 := by
  unfold debuggerlaw25_MemoryRight.m
  by_cases h : x.length = 0
  · rw [if_pos h]
    exact ⟨x, rfl, hl⟩
  · rw [if_neg h, Mod_f a2 (x.length : Int) (by omega) (by omega), Option.bind_some, Mod_f a4 65 (by omega) (by omega), Option.bind_some]
    have i0 := Int.emod_nonneg a2 (show (x.length : Int) ≠ 0 by omega)
    have i1 := Int.emod_lt_of_pos a2 (show (0 : Int) < (x.length : Int) by omega)
    have n0 := Int.emod_nonneg a4 (show (65 : Int) ≠ 0 by decide)
    have n1 := Int.emod_lt_of_pos a4 (show (0 : Int) < 65 by decide)
    have hlt : (a2 % (x.length : Int)).toNat < x.length := by omega
    have hel : rd_T31 x (a2 % (x.length : Int)) = x[(a2 % (x.length : Int)).toNat] := by
      unfold rd_T31
      rw [List.getD_eq_getElem?_getD, List.getElem?_eq_getElem hlt]
      rfl
    have hp := (hg.pg _ (List.getElem_mem hlt)).1
    rw [if_pos ⟨⟨i0, i1⟩, n0, by rw [hel, hp]; omega, by rw [hel, hp]; omega⟩]
    exact ⟨_, rfl, by rw [List.length_set]; exact hl⟩
theorem MemoryRight_ev (m : List S31) (l : List Int) (a2 a3 a4 : Int) : Ev (fun k => debuggerlaw25_MemoryRight.f k m l a2 a3 a4) true := by
  have hg := mk_good l
  have hl := mk_len l
  obtain ⟨s, s1, s2⟩ := small_l m 10 0 (by omega)
  unfold debuggerlaw25_MemoryRight.f
  refine Zev.bind (a := s) s1 ?_
  cases s with
  | false => exact Zev.ifn (by decide) aw
  | true =>
    have hm := s2 rfl
    obtain ⟨y, y1, y2⟩ := mid (mk l) hg hl a2 a3 a4
    obtain ⟨b, b1, b2⟩ := rightB m (by omega)
    obtain ⟨c, c1, c2⟩ := rightB y (by omega)
    refine Zev.ifp rfl (Zev.bind (some_f l) (Zev.bindc y1 (Zev.bind b1 (Zev.bind b2 (Zev.ifp (by simp) (Zev.bind c1 (Zev.bind c2 (Zev.ifp (by simp) (Zev.bind (some_f l) (Zev.bind (Right_f hg (by omega)) (Zev.ifp rfl aw)))))))))))
end Go.Proofs.Ytpifepaflljolaa.Mem
namespace Go.Proofs.Ytpifepaflljolaa.Pure
open Go.RowKit Go.Proofs.Ytpifepaflljolaa.PMem Go.Proofs.YtpifepaflljolaaW.PrintWords Go.Proofs.YtpifepaflljolaaW.PrintLast

theorem MemoryRight (m : List S31) (l : List Int) (a2 a3 a4 : Int) : ∃ k, debuggerlaw25_MemoryRight.f k m l a2 a3 a4 = some true := Zev.done (Mem.MemoryRight_ev m l a2 a3 a4)

end Go.Proofs.Ytpifepaflljolaa.Pure
