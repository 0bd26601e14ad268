/-
  The pure side of the Memory statements, second part: words of a memory (Word, Read), of the program and of the reference. Condition: the memory is one of right pages in rising order, with few pages.
-/
import Derived.Test.YtpifepaflljolaaMathA
import Derived.Test.YtpifepaflljolaaPMemx22
import Derived.Test.YtpifepaflljolaaPMemx7
import Derived.Test.YtpifepaflljolaaPMemx8
import Derived.Test.YtpifepaflljolaaPMemx2
namespace Go.Proofs.Ytpifepaflljolaa.Mem
open Go.RowKit Go.Proofs.Ytpifepaflljolaa.PMem Go.Proofs.YtpifepaflljolaaW.PrintWords Go.Proofs.YtpifepaflljolaaW.PrintLast Go.Proofs.YtpifepaflljolaaW.PrintMore

/-- How many pages have a base below b. -/
def idx (m : List S31) (b : Int) : Nat := m.countP (fun x => decide (x.f0 < b))
theorem idx_le (m : List S31) (b : Int) : idx m b ≤ m.length := List.countP_le_length
theorem idx_spec (m : List S31) (b : Int) (hs : m.Pairwise (fun x y => x.f0 < y.f0)) : ∀ (i : Nat) (h : i < m.length), m[i].f0 < b ↔ i < idx m b := by
  unfold idx
  induction m with
  | nil => intro i h; simp at h
  | cons x m ih =>
    rw [List.pairwise_cons] at hs
    intro i h
    have hz : ¬ x.f0 < b → m.countP (fun x => decide (x.f0 < b)) = 0 := by
      intro hx
      rw [List.countP_eq_zero]
      intro q hq
      have := hs.1 q hq
      simp; omega
    by_cases hx : x.f0 < b
    · rw [List.countP_cons_of_pos (by simpa using hx)]
      cases i with
      | zero => simp [hx]
      | succ i =>
        have := ih hs.2 i (by simpa using h)
        simp only [List.getElem_cons_succ]
        omega
    · rw [List.countP_cons_of_neg (by simpa using hx), hz hx]
      cases i with
      | zero => simp [hx]
      | succ i =>
        have hi' : i < m.length := by simpa using h
        have := hs.1 m[i] (List.getElem_mem hi')
        simp only [List.getElem_cons_succ]
        omega
theorem find_f (m : List S31) (b : Int) (h : Good m) (hl : m.length ≤ 50000) : memory_find.f m b = some ((idx m b : Nat) : Int) := by
  unfold memory_find.f idx
  rw [if_pos (by omega), if_pos h.up]
/-- The place of the page that has the address a, if there is one. -/
def at? (m : List S31) (a : Int) : Option Nat :=
  if 0 ≤ a ∧ idx m (a - a % 64) < m.length ∧ (rd_T31 m (idx m (a - a % 64) : Nat)).f0 = a - a % 64 then some (idx m (a - a % 64)) else none
theorem at_some {m : List S31} {a : Int} {i : Nat} (h : at? m a = some i) : 0 ≤ a ∧ i = idx m (a - a % 64) ∧ ∃ hi : i < m.length, m[i].f0 = a - a % 64 := by
  unfold at? at h
  split at h
  · next hc =>
    obtain rfl := Option.some.inj h
    refine ⟨hc.1, rfl, hc.2.1, ?_⟩
    have := hc.2.2
    rwa [rd_get m _ hc.2.1] at this
  · cases h
theorem at_hit {m : List S31} {a : Int} (hs : m.Pairwise (fun x y => x.f0 < y.f0)) (h0 : 0 ≤ a) (i : Nat) (hi : i < m.length) (he : m[i].f0 = a - a % 64) : at? m a = some i := by
  have h1 := idx_spec m (a - a % 64) hs i hi
  have hle : idx m (a - a % 64) ≤ i := by
    rcases Nat.lt_or_ge i (idx m (a - a % 64)) with h2 | h2
    · have := h1.2 h2; omega
    · exact h2
  have h3 := idx_spec m (a - a % 64) hs (idx m (a - a % 64)) (by omega)
  have e : idx m (a - a % 64) = i := by
    rcases Nat.lt_or_ge (idx m (a - a % 64)) i with h4 | h4
    · have h5 := List.pairwise_iff_getElem.1 hs (idx m (a - a % 64)) i (by omega) hi h4
      have h6 : ¬ m[idx m (a - a % 64)].f0 < a - a % 64 := fun h => by have := h3.1 h; omega
      omega
    · omega
  unfold at?
  rw [e, rd_get m i hi, if_pos ⟨h0, hi, he⟩]
theorem at_none {m : List S31} {a : Int} (hs : m.Pairwise (fun x y => x.f0 < y.f0)) (h : at? m a = none) (h0 : 0 ≤ a) (i : Nat) (hi : i < m.length) : m[i].f0 ≠ a - a % 64 := fun he => by
  rw [at_hit hs h0 i hi he] at h
  cases h
/-- The word at an address, and whether it is there. -/
def look (m : List S31) (a : Int) : Int × Bool := match at? m a with
  | some i => (rd (rd_T31 m (i : Nat)).f1 (a % 64), true)
  | none => (0, false)
theorem base_w {a : Int} (h0 : 0 ≤ a) (h1 : a ≤ 9223372036854775807) : wrap64 (a - Int.tmod a 64) = a - a % 64 := by
  rw [Zev.tm a 64 h0, Zev.w64 (by omega) (by omega)]
theorem page_some {m : List S31} {a : Int} {i : Nat} (hg : Good m) (hl : m.length ≤ 50000) (h1 : a ≤ 9223372036854775807) (h : at? m a = some i) : memory_page.f m a = some ((i : Int), true) := by
  obtain ⟨h0, rfl, hi, he⟩ := at_some h
  unfold memory_page.f
  rw [if_neg (by omega), base_w h0 h1, find_f m _ hg hl]
  simp only [Option.bind_some]
  rw [if_pos (by omega), if_pos (by omega), rd_get m _ hi, if_pos he]
  have := (hg.pg _ (List.getElem_mem hi)).1
  rw [this]
  rfl
theorem page_none {m : List S31} {a : Int} (hg : Good m) (hl : m.length ≤ 50000) (h1 : a ≤ 9223372036854775807) (h : at? m a = none) : ∃ t, memory_page.f m a = some (t, false) := by
  unfold memory_page.f
  by_cases hn : a < 0
  · exact ⟨0, if_pos hn⟩
  · rw [if_neg hn, base_w (by omega) h1, find_f m _ hg hl]
    simp only [Option.bind_some]
    by_cases hi : idx m (a - a % 64) < m.length
    · rw [if_pos (by omega), if_pos (by omega), rd_get m _ hi, if_neg (at_none hg.up h (by omega) _ hi)]
      exact ⟨_, rfl⟩
    · rw [if_neg (by omega)]
      exact ⟨_, rfl⟩
theorem Word_f {m : List S31} {a : Int} (hg : Good m) (hl : m.length ≤ 50000) (h1 : a ≤ 9223372036854775807) : memory_Word.f m a = some (look m a) := by
  unfold memory_Word.f look
  cases h : at? m a with
  | none =>
    obtain ⟨t, ht⟩ := page_none hg hl h1 h
    rw [ht]
    simp
  | some i =>
    rw [page_some hg hl h1 h]
    obtain ⟨h0, _, hi, he⟩ := at_some h
    simp only [Option.bind_some]
    have hlen := (hg.pg _ (List.getElem_mem hi)).1
    rw [if_pos True.intro, if_pos (by omega), if_pos (by omega), Zev.tm a 64 h0, if_pos (by omega), rd_get m _ hi, if_pos (by rw [hlen]; omega)]
theorem rfind_l {m : List S31} {a : Int} (hg : Good m) (hl : m.length ≤ 50000) (h1 : a ≤ 9223372036854775807) (h2 : -9223372036854775808 ≤ a) (d : Nat) : ∀ (i : Nat), i + d = m.length → (∀ (j : Nat) (hj : j < m.length), j < i → 0 ≤ a → m[j].f0 ≠ a - a % 64) →
    Ev (fun k => debuggerref25_find.l0 k a (i : Int) m) (match at? m a with | some i => (i : Int) | none => -1) := by
  induction d with
  | zero =>
    intro i hi hn
    have : at? m a = none := by
      cases h : at? m a with
      | none => rfl
      | some j =>
        obtain ⟨h0, _, hj, he⟩ := at_some h
        exact absurd he (hn j hj (by omega) h0)
    rw [this]
    exact Zev.step (fun k => rfl) (Zev.ifn (by omega) (Zev.now _))
  | succ d ih =>
    intro i hi hn
    have hlt : i < m.length := by omega
    have hp := hg.pg _ (List.getElem_mem hlt)
    obtain ⟨p1, p2, p3, p4⟩ := hp
    refine Zev.step (fun k => rfl) (Zev.ifp (by omega) (Zev.ifp (by omega) ?_))
    rw [rd_get m i hlt, w1 i m.length hlt (by omega)]
    by_cases hm : 0 ≤ a ∧ m[i].f0 = a - a % 64
    · obtain ⟨h0, he⟩ := hm
      rw [at_hit hg.up h0 i hlt he]
      have hw : wrap64 (a - m[i].f0) = a - m[i].f0 := Zev.w64 (by omega) (by omega)
      rw [hw]
      exact Zev.ifp (by omega) (Zev.ifp (by omega) (Zev.ifp (by omega) (Zev.ifp h0 (Zev.now _))))
    · have rest := ih (i + 1) (by omega) (fun j hj hji h0 => by
        rcases Nat.lt_or_ge j i with h | h
        · exact hn j hj h h0
        · obtain rfl : j = i := by omega
          exact fun he => hm ⟨h0, he⟩)
      by_cases hle : m[i].f0 ≤ a
      · have hw : wrap64 (a - m[i].f0) = a - m[i].f0 := Zev.w64 (by omega) (by omega)
        rw [hw]
        exact Zev.ifp hle (Zev.ifn (by omega) rest)
      · exact Zev.ifn hle rest
theorem rfind_f {m : List S31} {a : Int} (hg : Good m) (hl : m.length ≤ 50000) (h1 : a ≤ 9223372036854775807) (h2 : -9223372036854775808 ≤ a) : Ev (fun k => debuggerref25_find.f k m a) (match at? m a with | some i => (i : Int) | none => -1) :=
  rfind_l hg hl h1 h2 m.length 0 (by omega) (fun _ _ h => absurd h (Nat.not_lt_zero _))
theorem off_w {m : List S31} {a : Int} {i : Nat} (hg : Good m) (h : at? m a = some i) : ∃ hi : i < m.length, wrap64 (a - (rd_T31 m (i : Int)).f0) = a % 64 ∧ (rd_T31 m (i : Int)) = m[i] ∧ m[i].f1.length = 64 ∧ 0 ≤ a := by
  obtain ⟨h0, _, hi, he⟩ := at_some h
  obtain ⟨p1, p2, p3, p4⟩ := hg.pg _ (List.getElem_mem hi)
  refine ⟨hi, ?_, rd_get m i hi, p1, h0⟩
  rw [rd_get m i hi, Zev.w64 (by omega) (by omega)]
  omega
theorem rWord_f {m : List S31} {a : Int} (hg : Good m) (hl : m.length ≤ 50000) (h1 : a ≤ 9223372036854775807) (h2 : -9223372036854775808 ≤ a) : Ev (fun k => debuggerref25_Word.f k m a) (look m a) := by
  refine Zev.bind (rfind_f hg hl h1 h2) ?_
  unfold look
  cases h : at? m a with
  | none => exact Zev.ifp (by decide) (Zev.now _)
  | some i =>
    obtain ⟨hi, hw, hr, h64, h0⟩ := off_w hg h
    simp only
    rw [hw, hr]
    exact Zev.ifn (by omega) (Zev.ifp (by omega) (Zev.ifp (by omega) (Zev.ifp (by omega) (Zev.ifp (by rw [h64]; omega) (Zev.now _)))))
/-- Words from an address on. -/
def reads (m : List S31) (a : Int) : Nat → Nat → List Int × Int
  | 0, _ => ([], -1)
  | n + 1, i => if (look m (wrap64 (a + (i : Int)))).2 = true then ((look m (wrap64 (a + (i : Int)))).1 :: (reads m a n (i + 1)).1, (reads m a n (i + 1)).2) else ([], wrap64 (a + (i : Int)))
theorem wr (x : Int) : -9223372036854775808 ≤ wrap64 x ∧ wrap64 x ≤ 9223372036854775807 := by
  unfold wrap64
  omega
theorem Read_l {m : List S31} {a n : Int} (hg : Good m) (hl : m.length ≤ 50000) (d : Nat) : ∀ (i : Nat) (acc : List Int), (i : Int) + d = max (mn n 128) i → acc.length = i → i ≤ 128 → Ev (fun k => memory_Read.l0 k a n acc (i : Int) m) (acc ++ (reads m a d i).1, (reads m a d i).2) := by
  induction d with
  | zero =>
    intro i acc hi ha h128
    refine Zev.step (fun k => rfl) (Zev.ifn (by omega) (Zev.cast (Zev.now _) ?_))
    simp [reads]
  | succ d ih =>
    intro i acc hi ha h128
    have hlt : (i : Int) < mn n 128 := by omega
    have hm : mn n 128 ≤ 128 := by unfold mn; split <;> omega
    refine Zev.step (fun k => rfl) (Zev.ifp hlt (Zev.bindc (Word_f hg hl (wr _).2) ?_))
    unfold reads
    by_cases hk : (look m (wrap64 (a + (i : Int)))).2 = true
    · refine Zev.ifp hk (Zev.ifp (by omega) ?_)
      rw [w1 i 129 (by omega) (by omega), if_pos hk]
      refine Zev.cast (ih (i + 1) _ (by omega) (by simp [ha]) (by omega)) ?_
      simp
    · refine Zev.ifn hk (Zev.cast (Zev.now _) ?_)
      rw [if_neg hk]; simp
theorem Read_f {m : List S31} {a n : Int} (hg : Good m) (hl : m.length ≤ 50000) : Ev (fun k => memory_Read.f k m a n) (reads m a (mn n 128).toNat 0) := by
  have hm : mn n 128 ≤ 128 := by unfold mn; split <;> omega
  exact Zev.cast (Read_l hg hl (mn n 128).toNat 0 [] (by omega) rfl (by omega)) (by simp)
theorem Right_l {m : List S31} (hg : Good m) (hl : m.length ≤ 50000) (d : Nat) : ∀ (i : Nat), i + d = m.length → Ev (fun k => memory_Right.l0 k m (m.length : Int) (i : Int) m) true := by
  induction d with
  | zero =>
    intro i hi
    refine Zev.step (fun k => rfl) (Zev.ifn (by omega) (Zev.cast (Zev.now _) ?_))
    rw [decide_eq_true_eq]; omega
  | succ d ih =>
    intro i hi
    have hlt : i < m.length := by omega
    have hp := hg.pg _ (List.getElem_mem hlt)
    have hpf : memory_rightPage.f m[i].f0 m[i].f1 = some true := by
      obtain ⟨p1, p2, p3, p4⟩ := hp
      unfold memory_rightPage.f
      rw [if_pos (by omega), if_pos p2, if_pos p3, Zev.tm _ 64 p2, p4]
      rfl
    refine Zev.step (fun k => rfl) (Zev.ifp (by omega) (Zev.ifp (by omega) (Zev.ifp (by omega) ?_)))
    rw [rd_get m i hlt, w1 i m.length hlt (by omega)]
    refine Zev.bindc hpf (Zev.ifp rfl ?_)
    by_cases h0 : (i : Int) > 0
    · refine Zev.ifp h0 ?_
      have hw : wrap64 ((i : Int) - 1) = ((i - 1 : Nat) : Int) := by rw [Zev.w64 (by omega) (by omega)]; omega
      rw [hw, rd_get m (i - 1) (by omega)]
      have := List.pairwise_iff_getElem.1 hg.up (i - 1) i (by omega) hlt (by omega)
      exact Zev.ifp (by omega) (Zev.ifp (by omega) (Zev.ifn (by omega) (ih (i + 1) (by omega))))
    · exact Zev.ifn h0 (ih (i + 1) (by omega))
theorem Right_f {m : List S31} (hg : Good m) (hl : m.length ≤ 50000) : Ev (fun k => memory_Right.f k m) true := Right_l hg hl m.length 0 (by omega)

end Go.Proofs.Ytpifepaflljolaa.Mem
