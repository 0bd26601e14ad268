/-
  The pure side of the Memory statements, first part: the words of memory (Mod, Copy, Without, Add, the memory of few pages) as plain functions on lists. No condition but that lengths fit.
-/
import Derived.Test.YtpifepaflljolaaMathZ
import Derived.Test.YtpifepaflljolaaPMemx19
import Derived.Test.YtpifepaflljolaaPMemx14
namespace Go.Proofs.Ytpifepaflljolaa.Mem
open Go.RowKit Go.Proofs.Ytpifepaflljolaa.PMem Go.Proofs.YtpifepaflljolaaW.PrintWords Go.Proofs.YtpifepaflljolaaW.PrintLast Go.Proofs.YtpifepaflljolaaW.PrintMore

theorem Mod_f (a n : Int) (h : 0 < n) (h2 : n ≤ 4611686018427387904) : debuggerkit_Mod.f a n = some (a % n) := by
  unfold debuggerkit_Mod.f
  rw [if_neg (by omega)]
  have := Zev.md (a := a) h h2
  split
  · next hc => rw [if_pos hc] at this; rw [this]
  · next hc => rw [if_neg hc] at this; rw [this]

/-- Every page's words fit. -/
def Fit (m : List S31) : Prop := ∀ p ∈ m, p.f1.length < 17592186044416

theorem Copy_l (m : List S31) (hf : Fit m) (hl : m.length < 4398046511104) (d : Nat) : ∀ (i : Nat) (acc : List S31), i + d = m.length → acc.length = i → Ev (fun k => debuggerref25_Copy.l0 k (i : Int) m acc) (acc ++ m.drop i) := by
  induction d with
  | zero =>
    intro i acc hi ha
    refine Zev.step (fun k => rfl) (Zev.ifn (by omega) (Zev.cast (Zev.now _) ?_))
    rw [List.drop_of_length_le (by omega), List.append_nil]
  | succ d ih =>
    intro i acc hi ha
    have hlt : i < m.length := by omega
    refine Zev.step (fun k => rfl) (Zev.ifp (by omega) (Zev.ifp (by omega) (Zev.bindc rfl (Zev.ifp ?_ (Zev.ifp (by omega) ?_)))))
    · rw [rd_get m i hlt]
      have := hf m[i] (List.getElem_mem hlt)
      simpa using this
    · rw [w1 i m.length hlt (by omega), rd_get m i hlt]
      refine Zev.cast (ih (i + 1) _ (by omega) (by simp [ha])) ?_
      rw [List.append_assoc, List.drop_eq_getElem_cons hlt]
      rfl
theorem Copy_f (m : List S31) (hf : Fit m) (hl : m.length < 4398046511104) : Ev (fun k => debuggerref25_Copy.f k m) m :=
  Zev.cast (Copy_l m hf hl m.length 0 [] (by omega) rfl) (by simp)

theorem Without_l (m : List S31) (b : Int) (hl : m.length < 4398046511104) (d : Nat) : ∀ (i : Nat) (acc : List S31), i + d = m.length → acc.length ≤ i → Ev (fun k => debuggerref25_Without.l0 k b (i : Int) m acc) (acc ++ (m.drop i).filter (fun p => decide (p.f0 ≠ b))) := by
  induction d with
  | zero =>
    intro i acc hi ha
    refine Zev.step (fun k => rfl) (Zev.ifn (by omega) (Zev.cast (Zev.now _) ?_))
    rw [List.drop_of_length_le (by omega)]; simp
  | succ d ih =>
    intro i acc hi ha
    have hlt : i < m.length := by omega
    refine Zev.step (fun k => rfl) (Zev.ifp (by omega) (Zev.ifp (by omega) ?_))
    rw [w1 i m.length hlt (by omega), rd_get m i hlt, List.drop_eq_getElem_cons hlt]
    by_cases hb : m[i].f0 = b
    · refine Zev.ifp hb (Zev.cast (ih (i + 1) acc (by omega) (by omega)) ?_)
      rw [List.filter_cons_of_neg (by simp [hb])]
    · refine Zev.ifn hb (Zev.ifp (by omega) (Zev.cast (ih (i + 1) _ (by omega) (by simp; omega)) ?_))
      rw [List.filter_cons_of_pos (by simp [hb]), List.append_assoc]
      rfl
theorem Without_f (m : List S31) (b : Int) (hf : Fit m) (hl : m.length < 4398046511104) : Ev (fun k => debuggerref25_Without.f k m b) (m.filter (fun p => decide (p.f0 ≠ b))) :=
  Zev.bind (Copy_f m hf hl) (Zev.cast (Without_l m b hl m.length 0 [] (by omega) (by simp)) (by simp))

/-- A page alone is right. -/
def Pg (p : S31) : Prop := p.f1.length = 64 ∧ 0 ≤ p.f0 ∧ p.f0 ≤ 1099511627776 ∧ p.f0 % 64 = 0
theorem page_t {b : Int} {l : List Int} (h : Pg ⟨b, l⟩) : debuggerref25_page.f b l = some true := by
  obtain ⟨h1, h2, h3, h4⟩ := h
  simp only at h1 h2 h3 h4
  unfold debuggerref25_page.f
  rw [if_pos h2, if_pos h3, Zev.tm b 64 h2, if_pos h4, h1]
  rfl
theorem page_n {b : Int} {l : List Int} (h : ¬ Pg ⟨b, l⟩) : debuggerref25_page.f b l = some false := by
  unfold debuggerref25_page.f
  by_cases h1 : b ≥ 0
  · rw [if_pos h1]
    by_cases h2 : b ≤ 1099511627776
    · rw [if_pos h2, Zev.tm b 64 h1]
      by_cases h3 : b % 64 = 0
      · rw [if_pos h3]
        have h4 : l.length ≠ 64 := fun h4 => h ⟨h4, h1, h2, h3⟩
        rw [show ((l.length : Int) == 64) = false from beq_eq_false_iff_ne.2 (by omega)]
      · rw [if_neg h3]
    · rw [if_neg h2]
  · rw [if_neg h1]

/-- A page put at its place, instead of the page with the same base. -/
def ins (p : S31) (m : List S31) : List S31 :=
  (m.filter (fun q => decide (q.f0 ≠ p.f0))).takeWhile (fun q => decide (q.f0 < p.f0)) ++ p :: (m.filter (fun q => decide (q.f0 ≠ p.f0))).dropWhile (fun q => decide (q.f0 < p.f0))

theorem Add_l (r : List S31) (b : Int) (l : List Int) (hl : r.length < 60000) (hb : l.length < 17592186044416) (d : Nat) : ∀ (i : Nat), i + d = r.length → (∀ j (hj : j < r.length), j < i → r[j].f0 < b) →
    Ev (fun k => debuggerref25_Add.l0 k (i : Int) b l r (r.take i)) (r.takeWhile (fun q => decide (q.f0 < b)) ++ (⟨b, l⟩ : S31) :: r.dropWhile (fun q => decide (q.f0 < b)), 0) := by
  have tw : ∀ i, i ≤ r.length → (∀ j (hj : j < r.length), j < i → r[j].f0 < b) → (∀ hi : i < r.length, ¬ r[i].f0 < b) → r.takeWhile (fun q => decide (q.f0 < b)) = r.take i ∧ r.dropWhile (fun q => decide (q.f0 < b)) = r.drop i := by
    intro i hi h1 h2
    have e := List.take_append_drop i r
    have ha : ∀ q ∈ r.take i, decide (q.f0 < b) = true := by
      intro q hq
      obtain ⟨j, hj, rfl⟩ := List.getElem_of_mem hq
      rw [List.length_take] at hj
      rw [List.getElem_take]
      exact decide_eq_true (h1 j (by omega) (by omega))
    have hd : (r.drop i).takeWhile (fun q => decide (q.f0 < b)) = [] ∧ (r.drop i).dropWhile (fun q => decide (q.f0 < b)) = r.drop i := by
      rcases Nat.lt_or_ge i r.length with h | h
      · rw [List.drop_eq_getElem_cons h]
        have hb0 : ¬ (fun q : S31 => decide (q.f0 < b)) r[i] = true := by have := h2 h; simpa using this
        exact ⟨List.takeWhile_cons_of_neg hb0, List.dropWhile_cons_of_neg hb0⟩
      · rw [List.drop_of_length_le h]; simp
    constructor
    · conv => lhs; rw [← e]
      rw [List.takeWhile_append_of_pos ha, hd.1, List.append_nil]
    · conv => lhs; rw [← e]
      rw [List.dropWhile_append_of_pos ha, hd.2]
  have stop : ∀ (i : Nat) (c : Bool), c = false → i ≤ r.length → (∀ j (hj : j < r.length), j < i → r[j].f0 < b) → (∀ hi : i < r.length, ¬ r[i].f0 < b) →
      Ev (fun k => debuggerref25_Add.j1 k (i : Int) c b l r (r.take i)) (r.takeWhile (fun q => decide (q.f0 < b)) ++ (⟨b, l⟩ : S31) :: r.dropWhile (fun q => decide (q.f0 < b)), 0) := by
    intro i c hc hi h1 h2
    obtain ⟨t1, t2⟩ := tw i hi h1 h2
    have h3 : (r.take i).length = i := by rw [List.length_take]; omega
    refine Zev.step (fun k => rfl) (Zev.ifn (by rw [hc]; simp) (Zev.bindc rfl (Zev.ifp (by simpa using hb) (Zev.ifp (by omega) (Zev.bindc rfl (Zev.ifp (by omega) (Zev.ifp (by omega) (Zev.bindc rfl (Zev.ifp ?_ (Zev.cast (Zev.now _) ?_))))))))))
    · simp only [List.length_append, List.length_drop, List.length_cons, List.length_nil]; omega
    · rw [t1, t2, h3]; simp
  induction d with
  | zero =>
    intro i hi h1
    exact Zev.step (fun k => rfl) (Zev.ifn (by omega) (stop i false rfl (by omega) h1 (fun h => by omega)))
  | succ d ih =>
    intro i hi h1
    have hlt : i < r.length := by omega
    have h3 : (r.take i).length = i := by rw [List.length_take]; omega
    refine Zev.step (fun k => rfl) (Zev.ifp (by omega) (Zev.ifp (by omega) ?_))
    rw [rd_get r i hlt]
    by_cases hb2 : r[i].f0 < b
    · refine Zev.gen (b := decide (r[i].f0 < b)) (F := fun c k => debuggerref25_Add.j1 k (i : Int) c b l r (r.take i)) (fun c hc => ?_)
      refine Zev.step (fun k => rfl) (Zev.ifp (by rw [hc]; exact decide_eq_true hb2) (Zev.ifp (by omega) (Zev.ifp (by omega) (Zev.ifp (by omega) ?_))))
      rw [rd_get r i hlt, w1 i r.length hlt (by omega)]
      have e : r.take i ++ [(⟨r[i].f0, r[i].f1⟩ : S31)] = r.take (i + 1) := by rw [List.take_succ_eq_append_getElem hlt]
      rw [e]
      refine ih (i + 1) (by omega) (fun j hj hji => ?_)
      rcases Nat.lt_or_ge j i with h | h
      · exact h1 j hj h
      · obtain rfl : j = i := by omega
        exact hb2
    · rw [decide_eq_false hb2]
      exact stop i false rfl (by omega) h1 (fun _ => hb2)
theorem Add_f (m : List S31) (b : Int) (l : List Int) (hf : Fit m) (hl : m.length < 50000) (hp : Pg ⟨b, l⟩) : Ev (fun k => debuggerref25_Add.f k m b l) (ins ⟨b, l⟩ m, 0) := by
  refine Zev.bindc (page_t hp) (Zev.ifp rfl (Zev.bind (Without_f m b hf (by omega)) ?_))
  have h1 : (m.filter (fun p => decide (p.f0 ≠ b))).length ≤ m.length := List.length_filter_le _ _
  refine Zev.ifn (by omega) ?_
  exact Zev.cast (Add_l (m.filter (fun p => decide (p.f0 ≠ b))) b l (by omega) (by have := hp.1; simp at this; omega) _ 0 (Nat.zero_add _) (fun _ _ h => absurd h (Nat.not_lt_zero _))) rfl

/-- A memory of right pages in rising order. -/
structure Good (m : List S31) : Prop where
  up : m.Pairwise (fun x y => x.f0 < y.f0)
  pg : ∀ p ∈ m, Pg p
theorem Good.fit {m : List S31} (h : Good m) : Fit m := fun p hp => by have := (h.pg p hp).1; omega
theorem Good.nil : Good [] := ⟨List.Pairwise.nil, fun _ h => by cases h⟩
theorem sorted_split (r : List S31) (b : Int) (hs : r.Pairwise (fun x y => x.f0 < y.f0)) : ∀ q ∈ r.dropWhile (fun q => decide (q.f0 < b)), b ≤ q.f0 := by
  induction r with
  | nil => intro q h; cases h
  | cons x r ih =>
    rw [List.pairwise_cons] at hs
    intro q hq
    by_cases hx : x.f0 < b
    · rw [List.dropWhile_cons_of_pos (by simpa using hx)] at hq
      exact ih hs.2 q hq
    · rw [List.dropWhile_cons_of_neg (by simpa using hx)] at hq
      rcases List.mem_cons.1 hq with rfl | hq
      · omega
      · have := hs.1 q hq; omega
theorem mem_takeWhile (r : List S31) (b : Int) : ∀ q ∈ r.takeWhile (fun q => decide (q.f0 < b)), q.f0 < b ∧ q ∈ r := by
  induction r with
  | nil => intro q h; cases h
  | cons x r ih =>
    intro q hq
    by_cases hx : x.f0 < b
    · rw [List.takeWhile_cons_of_pos (by simpa using hx)] at hq
      rcases List.mem_cons.1 hq with rfl | hq
      · exact ⟨hx, List.mem_cons_self⟩
      · have := ih q hq; exact ⟨this.1, List.mem_cons_of_mem _ this.2⟩
    · rw [List.takeWhile_cons_of_neg (by simpa using hx)] at hq
      cases hq
theorem Good.ins {m : List S31} (h : Good m) {p : S31} (hp : Pg p) : Good (ins p m) := by
  have hs : (m.filter (fun q => decide (q.f0 ≠ p.f0))).Pairwise (fun x y => x.f0 < y.f0) := h.up.filter _
  have hsub : ∀ q ∈ (m.filter (fun q => decide (q.f0 ≠ p.f0))).dropWhile (fun q => decide (q.f0 < p.f0)), q ∈ m.filter (fun q => decide (q.f0 ≠ p.f0)) := fun q hq => (List.dropWhile_sublist _).subset hq
  constructor
  · unfold Mem.ins
    rw [List.pairwise_append]
    refine ⟨hs.sublist (List.takeWhile_sublist _), ?_, ?_⟩
    · rw [List.pairwise_cons]
      refine ⟨fun q hq => ?_, hs.sublist (List.dropWhile_sublist _)⟩
      have h1 := sorted_split _ p.f0 hs q hq
      have h2 := (List.mem_filter.1 (hsub q hq)).2
      simp at h2
      omega
    · intro x hx y hy
      have h1 := (mem_takeWhile _ _ x hx).1
      rcases List.mem_cons.1 hy with rfl | hy
      · exact h1
      · have := sorted_split _ p.f0 hs y hy
        omega
  · intro q hq
    rcases List.mem_append.1 hq with hq | hq
    · exact h.pg q (List.mem_filter.1 (mem_takeWhile _ _ q hq).2).1
    · rcases List.mem_cons.1 hq with rfl | hq
      · exact hp
      · exact h.pg q (List.mem_filter.1 (hsub q hq)).1
theorem ins_length (p : S31) (m : List S31) : (ins p m).length ≤ m.length + 1 := by
  unfold ins
  have h1 : ((m.filter (fun q => decide (q.f0 ≠ p.f0))).takeWhile (fun q => decide (q.f0 < p.f0))).length + ((m.filter (fun q => decide (q.f0 ≠ p.f0))).dropWhile (fun q => decide (q.f0 < p.f0))).length = (m.filter (fun q => decide (q.f0 ≠ p.f0))).length := by
    rw [← List.length_append, List.takeWhile_append_dropWhile]
  have h2 := List.length_filter_le (fun q : S31 => decide (q.f0 ≠ p.f0)) m
  simp only [List.length_append, List.length_cons]
  omega

/-- The page of a number. -/
def pgOf (x : Int) : S31 := ⟨x % 12 * 64, (List.replicate 64 0).set (x % 7).toNat x⟩
theorem pgOf_pg (x : Int) : Pg (pgOf x) := by
  unfold pgOf Pg
  refine ⟨by simp, by simp only; omega, by simp only; omega, by simp only; omega⟩
/-- The memory of few pages. -/
def mk (l : List Int) : List S31 := (l.take 8).foldl (fun m x => ins (pgOf x) m) []
theorem fold_good (l : List Int) : ∀ m, Good m → Good (l.foldl (fun m x => ins (pgOf x) m) m) ∧ (l.foldl (fun m x => ins (pgOf x) m) m).length ≤ m.length + l.length := by
  induction l with
  | nil => intro m h; exact ⟨h, by simp⟩
  | cons x l ih =>
    intro m h
    obtain ⟨h1, h2⟩ := ih (ins (pgOf x) m) (h.ins (pgOf_pg x))
    have := ins_length (pgOf x) m
    exact ⟨h1, by simp only [List.foldl_cons, List.length_cons]; omega⟩
theorem mk_good (l : List Int) : Good (mk l) := (fold_good _ [] Good.nil).1
theorem mk_len (l : List Int) : (mk l).length ≤ 8 := by
  have := (fold_good (l.take 8) [] Good.nil).2
  simp only [List.length_nil, List.length_take] at this
  unfold mk
  omega
theorem some_l (l : List Int) (d : Nat) : ∀ (i : Nat) (m : List S31), i + d = 8 → Good m → m.length ≤ i → Ev (fun k => debuggerlaw25_some.l0 k l (i : Int) m) (((l.take 8).drop i).foldl (fun m x => ins (pgOf x) m) m) := by
  induction d with
  | zero =>
    intro i m hi hg hm
    obtain rfl : i = 8 := by omega
    have e : ((l.take 8).drop 8).foldl (fun m x => ins (pgOf x) m) m = m := by
      rw [List.drop_of_length_le (by rw [List.length_take]; omega)]; rfl
    rw [e]
    by_cases h : ((8 : Nat) : Int) < (l.length : Int)
    · refine Zev.step (fun k => rfl) (Zev.ifp h ?_)
      refine Zev.step (fun k => rfl) ?_
      exact Zev.now m
    · refine Zev.step (fun k => rfl) (Zev.ifn h ?_)
      refine Zev.step (fun k => rfl) ?_
      exact Zev.now m
  | succ d ih =>
    intro i m hi hg hm
    by_cases h : (i : Int) < (l.length : Int)
    · have hlt : i < l.length := by omega
      have ht : i < (l.take 8).length := by rw [List.length_take]; omega
      refine Zev.step (fun k => rfl) (Zev.ifp h (Zev.step (fun k => rfl) (Zev.ifp (by rw [decide_eq_true_eq]; omega) (Zev.ifp (by omega) (Zev.ifp h ?_)))))
      rw [rd_i l i hlt]
      have h12 := Int.emod_nonneg l[i] (show (12 : Int) ≠ 0 by decide)
      have h13 := Int.emod_lt_of_pos l[i] (show (0 : Int) < 12 by decide)
      have h7 := Int.emod_nonneg l[i] (show (7 : Int) ≠ 0 by decide)
      have h8 := Int.emod_lt_of_pos l[i] (show (0 : Int) < 7 by decide)
      refine Zev.bindc (Mod_f l[i] 12 (by decide) (by decide)) (Zev.ifp (by decide) (Zev.bindc rfl (Zev.bindc (Mod_f l[i] 7 (by decide) (by decide)) (Zev.ifp h7 (Zev.ifp (by simp; omega) ?_)))))
      rw [Zev.w64 (x := l[i] % 12 * 64) (by omega) (by omega), w0 i (by omega)]
      refine Zev.bind (Add_f m _ _ hg.fit (by omega) (pgOf_pg l[i])) ?_
      refine Zev.cast (ih (i + 1) (ins (pgOf l[i]) m) (by omega) (hg.ins (pgOf_pg _)) (by have := ins_length (pgOf l[i]) m; omega)) ?_
      rw [List.drop_eq_getElem_cons ht, List.getElem_take]
      rfl
    · have e : ((l.take 8).drop i).foldl (fun m x => ins (pgOf x) m) m = m := by
        rw [List.drop_of_length_le (by rw [List.length_take]; omega)]; rfl
      rw [e]
      refine Zev.step (fun k => rfl) (Zev.ifn h ?_)
      refine Zev.step (fun k => rfl) ?_
      exact Zev.now m
theorem some_f (l : List Int) : Ev (fun k => debuggerlaw25_some.f k l) (mk l) := some_l l 8 0 [] (by omega) Good.nil (by simp)

end Go.Proofs.Ytpifepaflljolaa.Mem
