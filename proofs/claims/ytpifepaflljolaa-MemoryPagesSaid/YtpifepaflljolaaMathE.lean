/-
  The pure side of the Memory statements, fifth part: pages added, left out and compared, by the program. Condition: the memory is one of right pages in rising order, with few pages.
-/
import Derived.Test.YtpifepaflljolaaMathB1
import Derived.Test.YtpifepaflljolaaMathC1
import Derived.Test.YtpifepaflljolaaMathD1
import Derived.Test.YtpifepaflljolaaPMemx30
import Derived.Test.YtpifepaflljolaaPMemx31
import Derived.Test.YtpifepaflljolaaPMemx33
namespace Go.Proofs.Ytpifepaflljolaa.Mem
open Go.RowKit Go.Proofs.Ytpifepaflljolaa.PMem Go.Proofs.YtpifepaflljolaaW.PrintWords Go.Proofs.YtpifepaflljolaaW.PrintLast Go.Proofs.YtpifepaflljolaaW.PrintMore

theorem drop_split (x y : List Int) (i : Nat) (hx : i < x.length) (hy : i < y.length) : decide (x.drop i = y.drop i) = (decide (x[i] = y[i]) && decide (x.drop (i + 1) = y.drop (i + 1))) := by
  rw [List.drop_eq_getElem_cons hx, List.drop_eq_getElem_cons hy, Bool.eq_iff_iff]
  simp only [List.cons.injEq, Bool.and_eq_true, decide_eq_true_eq]
theorem IntsG_l (x y : List Int) (hl : x.length < 4398046511104) (he : x.length = y.length) (d : Nat) : ∀ (i : Nat), i + d = x.length → Ev (fun k => debuggerref25_Ints.l0 k x y (i : Int)) (decide (x.drop i = y.drop i)) := by
  induction d with
  | zero =>
    intro i hi
    refine Zev.step (fun k => rfl) (Zev.ifn (by omega) (Zev.cast (Zev.now _) ?_))
    rw [List.drop_of_length_le (by omega), List.drop_of_length_le (by omega)]; simp
  | succ d ih =>
    intro i hi
    have hx : i < x.length := by omega
    have hy : i < y.length := by omega
    refine Zev.step (fun k => rfl) (Zev.ifp (by omega) (Zev.ifp (by omega) (Zev.ifp (by omega) ?_)))
    rw [rd_i x i hx, rd_i y i hy, wS hx hl, drop_split x y i hx hy]
    by_cases hc : x[i] = y[i]
    · exact Zev.ifp hc (Zev.cast (ih (i + 1) (by omega)) (by simp [hc]))
    · exact Zev.ifn hc (Zev.cast (Zev.now _) (by simp [hc]))
theorem IntsG_f (x y : List Int) (hl : x.length < 4398046511104) : Ev (fun k => debuggerref25_Ints.f k x y) (decide (x = y)) := by
  by_cases he : x.length = y.length
  · exact Zev.ifp (by omega) (Zev.cast (IntsG_l x y hl he x.length 0 (by omega)) (by simp))
  · refine Zev.ifn (by omega) (Zev.cast (Zev.now _) ?_)
    rw [decide_eq_false]
    intro h; rw [h] at he; exact he rfl
theorem same_l (x y : List Int) (b : Int) (hl : x.length < 4398046511104) (he : x.length = y.length) (d : Nat) : ∀ (i : Nat), i + d = x.length → Ev (fun k => memory_same.l0 k x (x.length : Int) (i : Int) b y) (decide (x.drop i = y.drop i)) := by
  induction d with
  | zero =>
    intro i hi
    refine Zev.step (fun k => rfl) (Zev.ifn (by omega) (Zev.cast (Zev.now _) ?_))
    rw [List.drop_of_length_le (by omega), List.drop_of_length_le (by omega)]; simp
  | succ d ih =>
    intro i hi
    have hx : i < x.length := by omega
    have hy : i < y.length := by omega
    refine Zev.step (fun k => rfl) (Zev.ifp (by omega) (Zev.ifp (by omega) (Zev.ifp (by omega) (Zev.ifp (by omega) ?_))))
    rw [rd_i x i hx, rd_i y i hy, wS hx hl, drop_split x y i hx hy]
    by_cases hc : y[i] = x[i]
    · exact Zev.ifp hc (Zev.cast (ih (i + 1) (by omega)) (by simp [hc]))
    · exact Zev.ifn hc (Zev.cast (Zev.now _) (by simp [Ne.symm hc]))
theorem same_f (a b : Int) (x y : List Int) (hl : x.length < 4398046511104) : Ev (fun k => memory_same.f k a x b y) (decide (x = y)) := by
  by_cases he : x.length = y.length
  · exact Zev.ifp (by omega) (Zev.cast (same_l x y b hl he x.length 0 (by omega)) (by simp))
  · refine Zev.ifn (by omega) (Zev.cast (Zev.now _) ?_)
    rw [decide_eq_false]
    intro h; rw [h] at he; exact he rfl
theorem S31_ext {p q : S31} (h0 : p.f0 = q.f0) (h1 : p.f1 = q.f1) : p = q := by
  cases p; cases q; simp_all
instance : DecidableEq S31 := fun p q => decidable_of_iff (p.f0 = q.f0 ∧ p.f1 = q.f1) ⟨fun h => S31_ext h.1 h.2, fun h => by rw [h]; exact ⟨rfl, rfl⟩⟩
theorem dropS (m n : List S31) (i : Nat) (hx : i < m.length) (hy : i < n.length) : decide (m.drop i = n.drop i) = (decide (m[i].f0 = n[i].f0) && (decide (m[i].f1 = n[i].f1) && decide (m.drop (i + 1) = n.drop (i + 1)))) := by
  rw [List.drop_eq_getElem_cons hx, List.drop_eq_getElem_cons hy, Bool.eq_iff_iff]
  simp only [List.cons.injEq, Bool.and_eq_true, decide_eq_true_eq]
  constructor
  · rintro ⟨h1, h2⟩
    rw [h1]
    exact ⟨rfl, rfl, h2⟩
  · rintro ⟨h1, h2, h3⟩
    exact ⟨S31_ext h1 h2, h3⟩
theorem SameG_l (m n : List S31) (hl : m.length < 4398046511104) (hf : ∀ p ∈ m, p.f1.length < 4398046511104) (he : m.length = n.length) (d : Nat) : ∀ (i : Nat), i + d = m.length → Ev (fun k => debuggerref25_Same.l0 k (i : Int) m n) (decide (m.drop i = n.drop i)) := by
  induction d with
  | zero =>
    intro i hi
    refine Zev.step (fun k => rfl) (Zev.ifn (by omega) (Zev.cast (Zev.now _) ?_))
    rw [List.drop_of_length_le (by omega), List.drop_of_length_le (by omega)]; simp
  | succ d ih =>
    intro i hi
    have hx : i < m.length := by omega
    have hy : i < n.length := by omega
    refine Zev.step (fun k => rfl) (Zev.ifp (by omega) (Zev.ifp (by omega) (Zev.ifp (by omega) ?_)))
    rw [rd_get m i hx, rd_get n i hy, wS hx hl, dropS m n i hx hy]
    by_cases hc : m[i].f0 = n[i].f0
    · refine Zev.ifp hc (Zev.bind (IntsG_f _ _ (hf _ (List.getElem_mem hx))) ?_)
      by_cases hd : m[i].f1 = n[i].f1
      · exact Zev.ifp (by simp [hd]) (Zev.cast (ih (i + 1) (by omega)) (by simp [hc, hd]))
      · exact Zev.ifn (by simp [hd]) (Zev.cast (Zev.now _) (by simp [hd]))
    · exact Zev.ifn hc (Zev.cast (Zev.now _) (by simp [hc]))
theorem SameG_f (m n : List S31) (hl : m.length < 4398046511104) (hf : ∀ p ∈ m, p.f1.length < 4398046511104) : Ev (fun k => debuggerref25_Same.f k m n) (decide (m = n)) := by
  by_cases he : m.length = n.length
  · exact Zev.ifp (by omega) (Zev.cast (SameG_l m n hl hf he m.length 0 (by omega)) (by simp))
  · refine Zev.ifn (by omega) (Zev.cast (Zev.now _) ?_)
    rw [decide_eq_false]
    intro h; rw [h] at he; exact he rfl

theorem pWithout_l (m : List S31) (b : Int) (hf : Fit m) (hl : m.length < 4398046511104) (d : Nat) : ∀ (i : Nat) (acc : List S31), i + d = m.length → acc.length ≤ i → Ev (fun k => memory_Without.l0 k b m (m.length : Int) (i : Int) acc) (acc ++ (m.drop i).filter (fun p => decide (p.f0 ≠ b))) := by
  induction d with
  | zero =>
    intro i acc hi ha
    refine Zev.step (fun k => rfl) (Zev.ifn (by omega) (Zev.cast (Zev.now _) ?_))
    rw [List.drop_of_length_le (by omega)]; simp
  | succ d ih =>
    intro i acc hi ha
    have hlt : i < m.length := by omega
    refine Zev.step (fun k => rfl) (Zev.ifp (by omega) (Zev.ifp (by omega) (Zev.ifp (by omega) ?_)))
    rw [wS hlt hl, rd_get m i hlt, List.drop_eq_getElem_cons hlt]
    by_cases hb : m[i].f0 = b
    · refine Zev.ifp hb (Zev.cast (ih (i + 1) acc (by omega) (by omega)) ?_)
      rw [List.filter_cons_of_neg (by simp [hb])]
    · refine Zev.ifn hb (Zev.bindc (clonePage_f _ _ (hf _ (List.getElem_mem hlt))) (Zev.ifp (by omega) (Zev.cast (ih (i + 1) _ (by omega) (by simp; omega)) ?_)))
      rw [List.filter_cons_of_pos (by simp [hb]), List.append_assoc]
      rfl
theorem pWithout_f (m : List S31) (b : Int) (hf : Fit m) (hl : m.length < 4398046511104) : Ev (fun k => memory_Without.f k m b) (m.filter (fun p => decide (p.f0 ≠ b))) :=
  Zev.cast (pWithout_l m b hf hl m.length 0 [] (by omega) (by simp)) (by simp)

/-- The bases of the pages in which two memories differ. -/
def chg : List S31 → List S31 → List Int
  | [], b => b.map (·.f0)
  | p :: a, [] => p.f0 :: a.map (·.f0)
  | p :: a, q :: b => if p.f0 < q.f0 then p.f0 :: chg a (q :: b) else if q.f0 < p.f0 then q.f0 :: chg (p :: a) b else if p.f1 = q.f1 then chg a b else p.f0 :: chg a b
termination_by a b => a.length + b.length
theorem chg_nil (b : List S31) : chg [] b = b.map (·.f0) := by rw [chg]
theorem chg_nil' (a : List S31) : chg a [] = a.map (·.f0) := by
  cases a with
  | nil => rw [chg]; try rfl
  | cons p a => rw [chg]; try rfl
theorem chg_self (a : List S31) : chg a a = [] := by
  induction a with
  | nil => rw [chg]; try rfl
  | cons p a ih => rw [chg, if_neg (by omega), if_neg (by omega), if_pos rfl, ih]
theorem chg_eq (a : List S31) : ∀ b, chg a b = [] → a = b := by
  induction a with
  | nil =>
    intro b h
    rw [chg_nil] at h
    exact (List.map_eq_nil_iff.1 h).symm
  | cons p a ih =>
    intro b h
    cases b with
    | nil => rw [chg] at h; cases h
    | cons q b =>
      rw [chg] at h
      by_cases h1 : p.f0 < q.f0
      · rw [if_pos h1] at h; cases h
      · rw [if_neg h1] at h
        by_cases h2 : q.f0 < p.f0
        · rw [if_pos h2] at h; cases h
        · rw [if_neg h2] at h
          by_cases h3 : p.f1 = q.f1
          · rw [if_pos h3] at h
            rw [ih b h, S31_ext (show p.f0 = q.f0 by omega) h3]
          · rw [if_neg h3] at h; cases h
theorem chg_len (a : List S31) : ∀ b, (chg a b).length ≤ a.length + b.length := by
  suffices ∀ n a b, a.length + b.length = n → (chg a b).length ≤ n by intro b; exact this _ a b rfl
  intro n
  induction n using Nat.strongRecOn with
  | _ n ih =>
    intro a b hn
    cases a with
    | nil => rw [chg_nil]; simp at hn ⊢; omega
    | cons p a =>
      cases b with
      | nil => rw [chg_nil']; simp at hn ⊢; omega
      | cons q b =>
        simp only [List.length_cons] at hn
        have h1 := ih (a.length + (q :: b).length) (by simp; omega) a (q :: b) rfl
        have h2 := ih ((p :: a).length + b.length) (by simp; omega) (p :: a) b rfl
        have h3 := ih (a.length + b.length) (by omega) a b rfl
        simp only [List.length_cons] at h1 h2
        rw [chg]
        split
        · simp only [List.length_cons]; omega
        · split
          · simp only [List.length_cons]; omega
          · split
            · omega
            · simp only [List.length_cons]; omega
/-- One more page, in its place. -/
theorem chg_ins (A B : List S31) (p : S31) (h : ∀ q ∈ B, p.f0 < q.f0) : chg (A ++ p :: B) (A ++ B) = [p.f0] := by
  induction A with
  | nil =>
    simp only [List.nil_append]
    cases B with
    | nil => rw [chg]; try rfl
    | cons q B => rw [chg, if_pos (h q List.mem_cons_self), chg_self]
  | cons x A ih =>
    simp only [List.cons_append]
    rw [chg, if_neg (by omega), if_neg (by omega), if_pos rfl, ih]
theorem chg_l (a b : List S31) (ha : a.length < 100000) (hb : b.length < 100000) (hf : ∀ p ∈ a, p.f1.length < 4398046511104) (n : Nat) : ∀ (i j : Nat) (o : List Int), i ≤ a.length → j ≤ b.length → (a.length - i) + (b.length - j) ≤ n → o.length + n ≤ 300000 →
    Ev (fun k => memory_Changed.l0 k o (i : Int) (j : Int) a b) (o ++ chg (a.drop i) (b.drop j)) := by
  induction n with
  | zero =>
    intro i j o hi hj hn ho
    obtain rfl : i = a.length := by omega
    obtain rfl : j = b.length := by omega
    rw [List.drop_length, List.drop_length, chg_nil]
    refine Zev.step (fun k => rfl) (Zev.ifn (by omega) ?_)
    refine Zev.gen (b := decide ((b.length : Int) < (b.length : Int))) (F := fun c k => memory_Changed.j1 k o (a.length : Int) (b.length : Int) c a b) (fun c hc => ?_)
    exact Zev.step (fun k => rfl) (Zev.ifn (by rw [hc]; simp) (Zev.cast (Zev.now _) (by simp)))
  | succ n ih =>
    intro i j o hi hj hn ho
    -- what follows a page of a, of b, of both
    have nexta : ∀ (hlt : i < a.length), Ev (fun k => memory_Changed.j2 k o (i : Int) (j : Int) true a b) (o ++ a[i].f0 :: chg (a.drop (i + 1)) (b.drop j)) := by
      intro hlt
      refine Zev.gen (b := true) (F := fun c k => memory_Changed.j2 k o (i : Int) (j : Int) c a b) (fun c hc => ?_)
      refine Zev.step (fun k => rfl) (Zev.ifp hc (Zev.ifp (by omega) (Zev.ifp (by omega) (Zev.ifp (by omega) ?_))))
      rw [rd_get a i hlt, w0 i (by omega)]
      exact Zev.cast (ih (i + 1) j _ (by omega) hj (by omega) (by simp; omega)) (by simp)
    have nextb : ∀ (hlt : j < b.length), Ev (fun k => memory_Changed.j3 k o (i : Int) (j : Int) true a b) (o ++ b[j].f0 :: chg (a.drop i) (b.drop (j + 1))) := by
      intro hlt
      refine Zev.gen (b := true) (F := fun c k => memory_Changed.j3 k o (i : Int) (j : Int) c a b) (fun c hc => ?_)
      refine Zev.step (fun k => rfl) (Zev.ifp hc (Zev.ifp (by omega) (Zev.ifp (by omega) (Zev.ifp (by omega) ?_))))
      rw [rd_get b j hlt, w0 j (by omega)]
      exact Zev.cast (ih i (j + 1) _ hi (by omega) (by omega) (by simp; omega)) (by simp)
    by_cases h1 : i < a.length
    · refine Zev.step (fun k => rfl) (Zev.ifp (by omega) ?_)
      refine Zev.gen (b := true) (F := fun c k => memory_Changed.j1 k o (i : Int) (j : Int) c a b) (fun c hc => ?_)
      refine Zev.step (fun k => rfl) (Zev.ifp hc ?_)
      by_cases h2 : j < b.length
      · refine Zev.ifn (by omega) (Zev.ifp (by omega) (Zev.ifp (by omega) (Zev.ifp (by omega) (Zev.ifp (by omega) ?_))))
        rw [rd_get a i h1, rd_get b j h2, List.drop_eq_getElem_cons h1, List.drop_eq_getElem_cons h2, chg]
        by_cases h3 : a[i].f0 < b[j].f0
        · rw [decide_eq_true h3, if_pos h3]
          refine Zev.cast (nexta h1) ?_
          rw [List.drop_eq_getElem_cons h2]
        · rw [decide_eq_false h3, if_neg h3]
          refine Zev.gen (b := false) (F := fun c k => memory_Changed.j2 k o (i : Int) (j : Int) c a b) (fun c hc => ?_)
          refine Zev.step (fun k => rfl) (Zev.ifn (by rw [hc]; simp) (Zev.ifn (by omega) (Zev.ifp (by omega) (Zev.ifp (by omega) (Zev.ifp (by omega) (Zev.ifp (by omega) ?_))))))
          rw [rd_get a i h1, rd_get b j h2]
          by_cases h4 : b[j].f0 < a[i].f0
          · rw [decide_eq_true h4, if_pos h4]
            refine Zev.cast (nextb h2) ?_
            rw [List.drop_eq_getElem_cons h1]
          · rw [decide_eq_false h4, if_neg h4]
            refine Zev.gen (b := false) (F := fun c k => memory_Changed.j3 k o (i : Int) (j : Int) c a b) (fun c hc => ?_)
            refine Zev.step (fun k => rfl) (Zev.ifn (by rw [hc]; simp) (Zev.ifp (by omega) (Zev.ifp (by omega) (Zev.ifp (by omega) (Zev.ifp (by omega) ?_)))))
            rw [rd_get a i h1, rd_get b j h2, w0 i (by omega), w0 j (by omega)]
            refine Zev.bind (same_f _ _ _ _ (hf _ (List.getElem_mem h1))) ?_
            by_cases h5 : a[i].f1 = b[j].f1
            · rw [if_pos h5]
              exact Zev.ifp (by simp [h5]) (ih (i + 1) (j + 1) o (by omega) (by omega) (by omega) (by omega))
            · rw [if_neg h5]
              exact Zev.ifn (by simp [h5]) (Zev.ifp (by omega) (Zev.cast (ih (i + 1) (j + 1) _ (by omega) (by omega) (by omega) (by simp; omega)) (by simp)))
      · obtain rfl : j = b.length := by omega
        refine Zev.ifp (by omega) (Zev.cast (nexta h1) ?_)
        rw [List.drop_length, chg_nil', chg_nil', List.drop_eq_getElem_cons h1]
        rfl
    · obtain rfl : i = a.length := by omega
      refine Zev.step (fun k => rfl) (Zev.ifn (by omega) ?_)
      by_cases h2 : j < b.length
      · rw [decide_eq_true (show (j : Int) < (b.length : Int) by omega)]
        refine Zev.gen (b := true) (F := fun c k => memory_Changed.j1 k o (a.length : Int) (j : Int) c a b) (fun c hc => ?_)
        refine Zev.step (fun k => rfl) (Zev.ifp hc (Zev.ifn (by omega) (Zev.ifn (by omega) ?_)))
        refine Zev.gen (b := false) (F := fun c k => memory_Changed.j2 k o (a.length : Int) (j : Int) c a b) (fun c hc => ?_)
        refine Zev.step (fun k => rfl) (Zev.ifn (by rw [hc]; simp) (Zev.ifp rfl (Zev.cast (nextb h2) ?_)))
        rw [List.drop_length, chg_nil, chg_nil, List.drop_eq_getElem_cons h2]
        rfl
      · obtain rfl : j = b.length := by omega
        rw [List.drop_length, List.drop_length, chg_nil]
        refine Zev.gen (b := decide ((b.length : Int) < (b.length : Int))) (F := fun c k => memory_Changed.j1 k o (a.length : Int) (b.length : Int) c a b) (fun c hc => ?_)
        exact Zev.step (fun k => rfl) (Zev.ifn (by rw [hc]; simp) (Zev.cast (Zev.now _) (by simp)))
theorem chg_f (a b : List S31) (ha : a.length < 100000) (hb : b.length < 100000) (hf : ∀ p ∈ a, p.f1.length < 4398046511104) : Ev (fun k => memory_Changed.f k a b) (chg a b) :=
  Zev.cast (chg_l a b ha hb hf (a.length + b.length) 0 0 [] (by omega) (by omega) (by omega) (by simp; omega)) (by simp)

/-- The pages without one base, and its place among them. -/
theorem without_idx {m : List S31} (hs : m.Pairwise (fun x y => x.f0 < y.f0)) (b : Int) :
    (m.filter (fun q => decide (q.f0 ≠ b))).takeWhile (fun q => decide (q.f0 < b)) = m.take (idx m b) ∧
    (m.filter (fun q => decide (q.f0 ≠ b))).dropWhile (fun q => decide (q.f0 < b)) = (if (rd_T31 m (idx m b : Nat)).f0 = b ∧ idx m b < m.length then m.drop (idx m b + 1) else m.drop (idx m b)) := by
  have sp := idx_spec m b hs
  have hle := idx_le m b
  generalize idx m b = n at sp hle ⊢
  have hA : ∀ q ∈ m.take n, q.f0 < b := by
    intro q hq
    obtain ⟨i, hi, rfl⟩ := List.getElem_of_mem hq
    rw [List.length_take] at hi
    rw [List.getElem_take]
    exact (sp i (by omega)).2 (by omega)
  have hB : ∀ (i : Nat) (hi : i < m.length), n ≤ i → b ≤ m[i].f0 := fun i hi hn => by
    have := sp i hi
    rcases Int.lt_or_le m[i].f0 b with h | h
    · have := this.1 h; omega
    · exact h
  have hB2 : ∀ (i : Nat) (hi : i < m.length), n < i → b < m[i].f0 := fun i hi hn => by
    have h1 := hB n (by omega) (Nat.le_refl _)
    have h2 := List.pairwise_iff_getElem.1 hs n i (by omega) hi hn
    omega
  have fA : (m.take n).filter (fun q => decide (q.f0 ≠ b)) = m.take n := by
    rw [List.filter_eq_self]
    intro q hq
    have := hA q hq
    simp; omega
  have tail : ∀ (l : List S31), (∀ q ∈ l, b < q.f0) → l.filter (fun q => decide (q.f0 ≠ b)) = l ∧ l.takeWhile (fun q => decide (q.f0 < b)) = [] ∧ l.dropWhile (fun q => decide (q.f0 < b)) = l := by
    intro l hl
    refine ⟨?_, ?_, ?_⟩
    · rw [List.filter_eq_self]
      intro q hq
      have := hl q hq
      simp; omega
    · cases l with
      | nil => rfl
      | cons q l => rw [List.takeWhile_cons_of_neg]; have := hl q List.mem_cons_self; simp; omega
    · cases l with
      | nil => rfl
      | cons q l => rw [List.dropWhile_cons_of_neg]; have := hl q List.mem_cons_self; simp; omega
  have join : ∀ (l : List S31), (∀ q ∈ l, b < q.f0) → (m.take n ++ l).takeWhile (fun q => decide (q.f0 < b)) = m.take n ∧ (m.take n ++ l).dropWhile (fun q => decide (q.f0 < b)) = l := by
    intro l hl
    obtain ⟨_, t2, t3⟩ := tail l hl
    have ha : ∀ q ∈ m.take n, decide (q.f0 < b) = true := fun q hq => decide_eq_true (hA q hq)
    constructor
    · rw [List.takeWhile_append_of_pos ha, t2, List.append_nil]
    · rw [List.dropWhile_append_of_pos ha, t3]
  conv => lhs; rw [← List.take_append_drop n m]
  have e := List.take_append_drop n m
  by_cases hn : n < m.length
  · rw [rd_get m n hn]
    by_cases hb : m[n].f0 = b
    · have f : m.filter (fun q => decide (q.f0 ≠ b)) = m.take n ++ m.drop (n + 1) := by
        conv => lhs; rw [← e]
        rw [List.filter_append, fA, List.drop_eq_getElem_cons hn, List.filter_cons_of_neg (by simp [hb])]
        congr 1
        refine (tail _ ?_).1
        intro q hq
        obtain ⟨i, hi, rfl⟩ := List.getElem_of_mem hq
        rw [List.getElem_drop]
        rw [List.length_drop] at hi
        exact hB2 _ (by omega) (by omega)
      rw [if_pos ⟨hb, hn⟩]
      rw [List.take_append_drop, f]
      refine join _ ?_
      intro q hq
      obtain ⟨i, hi, rfl⟩ := List.getElem_of_mem hq
      rw [List.getElem_drop]
      rw [List.length_drop] at hi
      exact hB2 _ (by omega) (by omega)
    · have hl : ∀ q ∈ m.drop n, b < q.f0 := by
        intro q hq
        obtain ⟨i, hi, rfl⟩ := List.getElem_of_mem hq
        rw [List.getElem_drop]
        rw [List.length_drop] at hi
        rcases Nat.eq_zero_or_pos i with h | h
        · subst h
          have := hB n hn (Nat.le_refl _)
          simp only [Nat.add_zero]
          omega
        · exact hB2 _ (by omega) (by omega)
      rw [if_neg (fun h => hb h.1), List.take_append_drop]
      have f : m.filter (fun q => decide (q.f0 ≠ b)) = m.take n ++ m.drop n := by
        conv => lhs; rw [← e]
        rw [List.filter_append, fA, (tail _ hl).1]
      rw [f]
      exact join _ hl
  · rw [if_neg (fun h => hn h.2), List.take_append_drop]
    have hd : m.drop n = [] := List.drop_of_length_le (by omega)
    have f : m.filter (fun q => decide (q.f0 ≠ b)) = m.take n ++ m.drop n := by
      conv => lhs; rw [← e]
      rw [List.filter_append, fA, hd]; rfl
    rw [f]
    exact join _ (by rw [hd]; intro q h; cases h)
theorem ins_eq {m : List S31} (hs : m.Pairwise (fun x y => x.f0 < y.f0)) (p : S31) : ins p m = m.take (idx m p.f0) ++ p :: (if (rd_T31 m (idx m p.f0 : Nat)).f0 = p.f0 ∧ idx m p.f0 < m.length then m.drop (idx m p.f0 + 1) else m.drop (idx m p.f0)) := by
  unfold ins
  rw [(without_idx hs p.f0).1, (without_idx hs p.f0).2]
theorem fit_sub {m : List S31} (hf : Fit m) {l : List S31} (h : ∀ q ∈ l, q ∈ m) : Fit l := fun p hp => hf p (h p hp)
theorem rightPage_t {b : Int} {l : List Int} (h : Pg ⟨b, l⟩) : memory_rightPage.f b l = some true := by
  obtain ⟨p1, p2, p3, p4⟩ := h
  simp only at p1 p2 p3 p4
  unfold memory_rightPage.f
  rw [if_pos (by omega), if_pos p2, if_pos p3, Zev.tm _ 64 p2, p4]
  rfl
theorem pAdd_f {m : List S31} {b : Int} {l : List Int} (hg : Good m) (hl : m.length < 50000) (hp : Pg ⟨b, l⟩) : Ev (fun k => memory_Add.f k m b l) (ins ⟨b, l⟩ m, 0) := by
  have hf := hg.fit
  have hle := idx_le m b
  have h64 : l.length = 64 := hp.1
  have tk : (m.take (idx m b)).length = idx m b := by rw [List.length_take]; omega
  have last : ∀ (n : Nat) (y : List S31), n ≤ m.length → y.length < 200000 → Ev (fun k => memory_Add.j2 k (n : Int) m y) (y ++ m.drop n, 0) := by
    intro n y hn hy
    refine Zev.step (fun k => rfl) (Zev.ifp (show (n : Int) ≤ (m.length : Int) by omega) ?_)
    rw [Int.toNat_natCast]
    refine (Zev.bind (clone_f (m.drop n) (fit_sub hf fun q hq => List.mem_of_mem_drop hq) (by rw [List.length_drop]; omega)) (Zev.ifp (by rw [List.length_drop]; omega) (Zev.now _)))
  have mid : ∀ (c : Bool), (c = true → idx m b < m.length) → Ev (fun k => memory_Add.j0 k ((idx m b : Nat) : Int) c m b l) ((m.take (idx m b) ++ [(⟨b, l⟩ : S31)]) ++ m.drop (if c = true then idx m b + 1 else idx m b), 0) := by
    intro c hc
    have one : ∀ (c2 : Bool), c2 = false → Ev (fun k => memory_Add.j1 k ((idx m b : Nat) : Int) c c2 m b l) ((m.take (idx m b) ++ [(⟨b, l⟩ : S31)]) ++ m.drop (if c = true then idx m b + 1 else idx m b), 0) := by
      intro c2 hc2
      refine Zev.step (fun k => rfl) (Zev.ifn (by rw [hc2]; simp) (Zev.ifp (by omega) (Zev.ifp (by omega) ?_)))
      rw [Int.toNat_natCast]
      refine (Zev.bind (clone_f (m.take (idx m b)) (fit_sub hf fun q hq => List.mem_of_mem_take hq) (by omega)) (Zev.bindc (clonePage_f b l (by omega)) (Zev.ifp (by omega) (Zev.bindc rfl ?_))))
      by_cases h : c = true
      · rw [if_pos h, w0 (idx m b) (by omega)]
        exact Zev.ifp h (last _ _ (by have := hc h; omega) (by simp; omega))
      · rw [if_neg h]
        exact Zev.ifn h (last _ _ (by omega) (by simp; omega))
    by_cases h : c = true
    · exact Zev.step (fun k => rfl) (Zev.ifp h (one false rfl))
    · exact Zev.step (fun k => rfl) (Zev.ifn h (one _ (decide_eq_false (by omega))))
  rw [ins_eq hg.up]
  refine Zev.bindc (rightPage_t hp) (Zev.ifp rfl (Zev.bindc (find_f m b hg (by omega)) ?_))
  by_cases h : idx m b < m.length
  · refine Zev.ifp (by omega) (Zev.ifp (by omega) (Zev.cast (mid _ (fun _ => h)) ?_))
    simp only [beq_iff_eq, List.append_assoc, List.singleton_append]
    congr 3
    by_cases hb : (rd_T31 m (idx m b : Nat)).f0 = b
    · rw [if_pos hb, if_pos ⟨hb, h⟩]
    · rw [if_neg hb, if_neg (fun h => hb h.1)]
  · refine Zev.ifn (by omega) (Zev.cast (mid false (fun h => by cases h)) ?_)
    simp only [Bool.false_eq_true, if_false, List.append_assoc, List.singleton_append]
    rw [if_neg (fun hc => h hc.2)]
end Go.Proofs.Ytpifepaflljolaa.Mem
