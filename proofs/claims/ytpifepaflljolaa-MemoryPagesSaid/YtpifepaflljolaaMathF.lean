/-
  The pure side of the Memory statements, sixth part: what the reference says of changed pages, and pages that are none. Nothing of the program's run is in it.
-/
import Derived.Test.YtpifepaflljolaaMathE
import Derived.Test.YtpifepaflljolaaMathA
import Derived.Test.YtpifepaflljolaaPMemx35
import Derived.Test.YtpifepaflljolaaPMemx30
namespace Go.Proofs.Ytpifepaflljolaa.Mem
open Go.RowKit Go.Proofs.Ytpifepaflljolaa.PMem Go.Proofs.YtpifepaflljolaaW.PrintWords Go.Proofs.YtpifepaflljolaaW.PrintLast Go.Proofs.YtpifepaflljolaaW.PrintMore
theorem rchg_l (a b : List S31) (ha : a.length < 100000) (hb : b.length < 100000) (hf : ∀ p ∈ a, p.f1.length < 4398046511104) (n : Nat) : ∀ (i j : Nat) (o : List Int), i ≤ a.length → j ≤ b.length → (a.length - i) + (b.length - j) ≤ n → o.length + n ≤ 300000 →
    Ev (fun k => debuggerref25_Changed.l0 k o (i : Int) (j : Int) a b) (o ++ chg (a.drop i) (b.drop j)) := by
  induction n with
  | zero =>
    intro i j o hi hj hn ho
    obtain rfl : i = a.length := by omega
    obtain rfl : j = b.length := by omega
    rw [List.drop_length, List.drop_length, chg_nil]
    refine Zev.step (fun k => rfl) (Zev.ifn (by omega) ?_)
    refine Zev.gen (b := decide ((b.length : Int) < (b.length : Int))) (F := fun c k => debuggerref25_Changed.j1 k o (a.length : Int) (b.length : Int) c a b) (fun c hc => ?_)
    exact Zev.step (fun k => rfl) (Zev.ifn (by rw [hc]; simp) (Zev.cast (Zev.now _) (by simp)))
  | succ n ih =>
    intro i j o hi hj hn ho
    -- what follows a page of a, of b, of both
    have nexta : ∀ (hlt : i < a.length), Ev (fun k => debuggerref25_Changed.j2 k o (i : Int) (j : Int) true a b) (o ++ a[i].f0 :: chg (a.drop (i + 1)) (b.drop j)) := by
      intro hlt
      refine Zev.gen (b := true) (F := fun c k => debuggerref25_Changed.j2 k o (i : Int) (j : Int) c a b) (fun c hc => ?_)
      refine Zev.step (fun k => rfl) (Zev.ifp hc (Zev.ifp (by omega) (Zev.ifp (by omega) (Zev.ifp (by omega) ?_))))
      rw [rd_get a i hlt, w0 i (by omega)]
      exact Zev.cast (ih (i + 1) j _ (by omega) hj (by omega) (by simp; omega)) (by simp)
    have nextb : ∀ (hlt : j < b.length), Ev (fun k => debuggerref25_Changed.j3 k o (i : Int) (j : Int) true a b) (o ++ b[j].f0 :: chg (a.drop i) (b.drop (j + 1))) := by
      intro hlt
      refine Zev.gen (b := true) (F := fun c k => debuggerref25_Changed.j3 k o (i : Int) (j : Int) c a b) (fun c hc => ?_)
      refine Zev.step (fun k => rfl) (Zev.ifp hc (Zev.ifp (by omega) (Zev.ifp (by omega) (Zev.ifp (by omega) ?_))))
      rw [rd_get b j hlt, w0 j (by omega)]
      exact Zev.cast (ih i (j + 1) _ hi (by omega) (by omega) (by simp; omega)) (by simp)
    by_cases h1 : i < a.length
    · refine Zev.step (fun k => rfl) (Zev.ifp (by omega) ?_)
      refine Zev.gen (b := true) (F := fun c k => debuggerref25_Changed.j1 k o (i : Int) (j : Int) c a b) (fun c hc => ?_)
      refine Zev.step (fun k => rfl) (Zev.ifp hc ?_)
      by_cases h2 : j < b.length
      · refine Zev.ifn (by omega) (Zev.ifp (by omega) (Zev.ifp (by omega) (Zev.ifp (by omega) (Zev.ifp (by omega) ?_))))
        rw [rd_get a i h1, rd_get b j h2, List.drop_eq_getElem_cons h1, List.drop_eq_getElem_cons h2, chg]
        by_cases h3 : a[i].f0 < b[j].f0
        · rw [decide_eq_true h3, if_pos h3]
          refine Zev.cast (nexta h1) ?_
          rw [List.drop_eq_getElem_cons h2]
        · rw [decide_eq_false h3, if_neg h3]
          refine Zev.gen (b := false) (F := fun c k => debuggerref25_Changed.j2 k o (i : Int) (j : Int) c a b) (fun c hc => ?_)
          refine Zev.step (fun k => rfl) (Zev.ifn (by rw [hc]; simp) (Zev.ifn (by omega) (Zev.ifp (by omega) (Zev.ifp (by omega) (Zev.ifp (by omega) (Zev.ifp (by omega) ?_))))))
          rw [rd_get a i h1, rd_get b j h2]
          by_cases h4 : b[j].f0 < a[i].f0
          · rw [decide_eq_true h4, if_pos h4]
            refine Zev.cast (nextb h2) ?_
            rw [List.drop_eq_getElem_cons h1]
          · rw [decide_eq_false h4, if_neg h4]
            refine Zev.gen (b := false) (F := fun c k => debuggerref25_Changed.j3 k o (i : Int) (j : Int) c a b) (fun c hc => ?_)
            refine Zev.step (fun k => rfl) (Zev.ifn (by rw [hc]; simp) (Zev.ifp (by omega) (Zev.ifp (by omega) (Zev.ifp (by omega) (Zev.ifp (by omega) ?_)))))
            rw [rd_get a i h1, rd_get b j h2, w0 i (by omega), w0 j (by omega)]
            refine Zev.bind (IntsG_f _ _ (hf _ (List.getElem_mem h1))) ?_
            by_cases h5 : a[i].f1 = b[j].f1
            · rw [if_pos h5]
              exact Zev.ifp (by simp [h5]) (ih (i + 1) (j + 1) o (by omega) (by omega) (by omega) (by omega))
            · rw [if_neg h5]
              exact Zev.ifn (by simp [h5]) (Zev.ifp (by omega) (Zev.cast (ih (i + 1) (j + 1) _ (by omega) (by omega) (by omega) (by simp; omega)) (by simp)))
      · obtain rfl : j = b.length := by omega
        refine Zev.ifp (by omega) (Zev.cast (nexta h1) ?_)
        rw [List.drop_length, chg_nil', chg_nil', List.drop_eq_getElem_cons h1]
        rfl
    · obtain rfl : i = a.length := by omega
      refine Zev.step (fun k => rfl) (Zev.ifn (by omega) ?_)
      by_cases h2 : j < b.length
      · rw [decide_eq_true (show (j : Int) < (b.length : Int) by omega)]
        refine Zev.gen (b := true) (F := fun c k => debuggerref25_Changed.j1 k o (a.length : Int) (j : Int) c a b) (fun c hc => ?_)
        refine Zev.step (fun k => rfl) (Zev.ifp hc (Zev.ifn (by omega) (Zev.ifn (by omega) ?_)))
        refine Zev.gen (b := false) (F := fun c k => debuggerref25_Changed.j2 k o (a.length : Int) (j : Int) c a b) (fun c hc => ?_)
        refine Zev.step (fun k => rfl) (Zev.ifn (by rw [hc]; simp) (Zev.ifp (by omega) (Zev.cast (nextb h2) ?_)))
        rw [List.drop_length, chg_nil, chg_nil, List.drop_eq_getElem_cons h2]
        rfl
      · obtain rfl : j = b.length := by omega
        rw [List.drop_length, List.drop_length, chg_nil]
        refine Zev.gen (b := decide ((b.length : Int) < (b.length : Int))) (F := fun c k => debuggerref25_Changed.j1 k o (a.length : Int) (b.length : Int) c a b) (fun c hc => ?_)
        exact Zev.step (fun k => rfl) (Zev.ifn (by rw [hc]; simp) (Zev.cast (Zev.now _) (by simp)))
theorem rchg_f (a b : List S31) (ha : a.length < 100000) (hb : b.length < 100000) (hf : ∀ p ∈ a, p.f1.length < 4398046511104) : Ev (fun k => debuggerref25_Changed.f k a b) (chg a b) :=
  Zev.cast (rchg_l a b ha hb hf (a.length + b.length) 0 0 [] (by omega) (by omega) (by omega) (by simp; omega)) (by simp)
theorem rightPage_n {b : Int} {l : List Int} (h : ¬ Pg ⟨b, l⟩) : memory_rightPage.f b l = some false := by
  unfold memory_rightPage.f
  by_cases h4 : l.length = 64
  · rw [if_pos (by omega)]
    by_cases h1 : b ≥ 0
    · rw [if_pos h1]
      by_cases h2 : b ≤ 1099511627776
      · rw [if_pos h2, Zev.tm b 64 h1]
        have h3 : ¬ b % 64 = 0 := fun h3 => h ⟨h4, h1, h2, h3⟩
        rw [beq_eq_false_iff_ne.2 h3]
      · rw [if_neg h2]
    · rw [if_neg h1]
  · rw [if_neg (by omega)]
theorem pAdd_n {m : List S31} {b : Int} {l : List Int} (hp : ¬ Pg ⟨b, l⟩) : Ev (fun k => memory_Add.f k m b l) ([], 1) :=
  Zev.bindc (rightPage_n hp) (Zev.ifn (by decide) (Zev.now _))
theorem Add_n {m : List S31} {b : Int} {l : List Int} (hp : ¬ Pg ⟨b, l⟩) : Ev (fun k => debuggerref25_Add.f k m b l) ([], 1) :=
  Zev.bindc (page_n hp) (Zev.ifn (by decide) (Zev.now _))
end Go.Proofs.Ytpifepaflljolaa.Mem
