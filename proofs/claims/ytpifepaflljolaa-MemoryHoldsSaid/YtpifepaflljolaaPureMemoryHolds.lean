/-
  The statement MemoryHolds, over lists alone: a word that has been written is read again, and no other word changes. No condition.
-/
import Derived.Test.YtpifepaflljolaaPMemx29
import Derived.Test.YtpifepaflljolaaMathD
namespace Go.Proofs.Ytpifepaflljolaa.Mem
open Go.RowKit Go.Proofs.Ytpifepaflljolaa.PMem Go.Proofs.YtpifepaflljolaaW.PrintWords Go.Proofs.YtpifepaflljolaaW.PrintLast Go.Proofs.YtpifepaflljolaaW.PrintMore
theorem set_get (m : List S31) (i j : Nat) (q : S31) (hj : j < m.length) : (m.set i q)[j]'(by simpa using hj) = if i = j then q else m[j] := by
  rw [List.getElem_set]
theorem put_good {m : List S31} (hg : Good m) (a word : Int) : Good (put m a word).1 := by
  unfold put
  split
  · next i h =>
    obtain ⟨h0, _, hi, he⟩ := at_some h
    rw [rd_get m i hi]
    constructor
    · rw [List.pairwise_iff_getElem]
      intro x y hx hy hxy
      have hx' : x < m.length := by simpa using hx
      have hy' : y < m.length := by simpa using hy
      have := List.pairwise_iff_getElem.1 hg.up x y hx' hy' hxy
      simp only [List.getElem_set]
      split <;> split <;> (try subst_vars) <;> (try simp only) <;> omega
    · intro p hp
      rcases List.mem_or_eq_of_mem_set hp with hp | rfl
      · exact hg.pg p hp
      · obtain ⟨p1, p2, p3, p4⟩ := hg.pg _ (List.getElem_mem hi)
        exact ⟨by simpa using p1, p2, p3, p4⟩
  · exact hg
theorem put_cases (m : List S31) (a word : Int) : (put m a word).1 = m ∨ ∃ (i : Nat) (hi : i < m.length) (q : S31), (put m a word).1 = m.set i q ∧ q.f0 = m[i].f0 := by
  unfold put
  split
  · next i h =>
    obtain ⟨_, _, hi, _⟩ := at_some h
    exact .inr ⟨i, hi, _, rfl, by rw [rd_get m i hi]⟩
  · exact .inl rfl
/-- The bases stay, so the place of an address stays. -/
theorem at_put {m : List S31} (hg : Good m) (a word b : Int) : at? (put m a word).1 b = at? m b := by
  have hp := put_good hg a word
  have hlen := put_len m a word
  have hb : ∀ (j : Nat) (hj : j < m.length), ((put m a word).1[j]'(by omega)).f0 = m[j].f0 := by
    intro j hj
    rcases put_cases m a word with e | ⟨i, hi, q, e, hq⟩
    · rw [List.getElem_of_eq e]
    · rw [List.getElem_of_eq e, List.getElem_set]
      split
      · subst_vars; exact hq
      · rfl
  cases h : at? m b with
  | some i =>
    obtain ⟨h0, _, hi, he⟩ := at_some h
    exact at_hit hp.up h0 i (by omega) (by rw [hb i hi]; exact he)
  | none =>
    cases h2 : at? (put m a word).1 b with
    | none => rfl
    | some i =>
      obtain ⟨h0, _, hi, he⟩ := at_some h2
      rw [hb i (by omega)] at he
      rw [at_hit hg.up h0 i (by omega) he] at h
      cases h
theorem look_put {m : List S31} (hg : Good m) (a word b : Int) :
    (look (put m a word).1 b).2 = (look m b).2 ∧ ((look m a).2 = true → b = a → (look (put m a word).1 b).1 = word) ∧ (b ≠ a → (look (put m a word).1 b).1 = (look m b).1) := by
  have e := at_put hg a word b
  unfold look
  rw [e]
  cases hb : at? m b with
  | none =>
    refine ⟨rfl, fun h hba => ?_, fun _ => rfl⟩
    subst hba
    rw [hb] at h
    cases h
  | some j =>
    obtain ⟨b0, _, hj, hbe⟩ := at_some hb
    refine ⟨rfl, fun h hba => ?_, fun hne => ?_⟩
    · subst hba
      unfold put
      rw [hb]
      simp only
      rw [rd_get _ j (by simpa using hj), List.getElem_set_self]
      simp only
      have h64 := (hg.pg _ (List.getElem_mem hj)).1
      rw [rd_get m j hj]
      unfold rd
      rw [List.getD_eq_getElem?_getD, List.getElem?_set_self (by omega)]
      rfl
    · simp only
      unfold put
      cases ha : at? m a with
      | none => rfl
      | some i =>
        obtain ⟨a0, _, hi, hae⟩ := at_some ha
        simp only
        rw [rd_get _ j (by simpa using hj), rd_get m j hj]
        simp only [List.getElem_set]
        split
        · next hij =>
          subst hij
          rw [rd_get m i hi]
          simp only
          unfold rd
          rw [List.getD_eq_getElem?_getD, List.getD_eq_getElem?_getD, List.getElem?_set_ne (by omega)]
        · rfl
theorem MemoryHolds_ev (l : List Int) (a w o : Int) : Ev (fun k => debuggerlaw25_MemoryHolds.f k l a w o) true := by
  have hg := mk_good l
  have hl : (mk l).length ≤ 50000 := by have := mk_len l; omega
  have ha := Int.emod_nonneg a (show (768 : Int) ≠ 0 by decide)
  have ha2 := Int.emod_lt_of_pos a (show (0 : Int) < 768 by decide)
  have hn := Int.emod_nonneg o (show (768 : Int) ≠ 0 by decide)
  have hn2 := Int.emod_lt_of_pos o (show (0 : Int) < 768 by decide)
  have hpg := put_good hg (a % 768) w
  have hpl : (put (mk l) (a % 768) w).1.length ≤ 50000 := by rw [put_len]; omega
  obtain ⟨p1, p2, _⟩ := look_put hg (a % 768) w (a % 768)
  obtain ⟨q1, q2, q3⟩ := look_put hg (a % 768) w (o % 768)
  have e1 : (put (mk l) (a % 768) w).2 = (look (mk l) (a % 768)).2 := by
    unfold put look
    cases at? (mk l) (a % 768) <;> rfl
  refine Zev.bind (some_f l) (Zev.bindc (Mod_f a 768 (by decide) (by decide)) (Zev.bindc (Mod_f o 768 (by decide) (by decide)) (Zev.bindc (Word_f hg hl (by omega)) (Zev.bindc (Word_f hg hl (by omega)) (Zev.bind (With_f hg hl (by omega)) (Zev.bindc (Word_f hpg hpl (by omega)) (Zev.bindc (Word_f hpg hpl (by omega)) ?_)))))))
  refine Zev.ifn (by rw [e1]; simp) (Zev.ifn (by rw [p1]; simp) (Zev.ifn (by rw [q1]; simp) ?_))
  have fin : ∀ c : Bool, c = false → Ev (fun k => debuggerlaw25_MemoryHolds.j0 k (a % 768) (o % 768) (look (mk l) (o % 768)).1 (look (put (mk l) (a % 768) w).1 (o % 768)).1 c (put (mk l) (a % 768) w).1) true := by
    intro c hc
    subst hc
    have rest : Ev (fun k => (memory_Right.f k (put (mk l) (a % 768) w).1).bind fun t => if t = true then ((debuggerlaw25_awake.f k).bind fun t => some t) else some false) true := Zev.bind (Right_f hpg hpl) (Zev.ifp rfl aw)
    refine Zev.step (f := fun k => if o % 768 = a % 768 then ((memory_Right.f k (put (mk l) (a % 768) w).1).bind fun t => if t = true then ((debuggerlaw25_awake.f k).bind fun t => some t) else some false) else
      (if (look (put (mk l) (a % 768) w).1 (o % 768)).1 = (look (mk l) (o % 768)).1 then ((memory_Right.f k (put (mk l) (a % 768) w).1).bind fun t => if t = true then ((debuggerlaw25_awake.f k).bind fun t => some t) else some false) else some false)) (fun k => rfl) ?_
    by_cases he : o % 768 = a % 768
    · exact Zev.ifp he rest
    · exact Zev.ifn he (Zev.ifp (q3 he) rest)
  by_cases hk : (look (mk l) (a % 768)).2 = true
  · refine Zev.ifp hk (fin _ ?_)
    rw [p2 hk rfl]
    simp
  · exact Zev.ifn hk (fin _ rfl)
end Go.Proofs.Ytpifepaflljolaa.Mem
namespace Go.Proofs.Ytpifepaflljolaa.Pure
open Go.RowKit Go.Proofs.Ytpifepaflljolaa.PMem Go.Proofs.YtpifepaflljolaaW.PrintWords Go.Proofs.YtpifepaflljolaaW.PrintLast

theorem MemoryHolds : debuggerlaw25_MemoryHolds.Pure := fun l a w o _ _ _ _ _ _ => Zev.done (Mem.MemoryHolds_ev l a w o)

end Go.Proofs.Ytpifepaflljolaa.Pure
