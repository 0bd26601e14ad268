/-
  The statement MemoryPages, over lists alone: pages are added, left out and compared by the program as by the reference. No condition.
-/
import Derived.Test.YtpifepaflljolaaPMemx36
import Derived.Test.YtpifepaflljolaaMathF
import Derived.Test.YtpifepaflljolaaMathW
namespace Go.Proofs.Ytpifepaflljolaa.Mem
open Go.RowKit Go.Proofs.Ytpifepaflljolaa.PMem Go.Proofs.YtpifepaflljolaaW.PrintWords Go.Proofs.YtpifepaflljolaaW.PrintLast Go.Proofs.YtpifepaflljolaaW.PrintMore
theorem smallP {m : List S31} (h : Good m) : ∀ p ∈ m, p.f1.length < 4398046511104 := fun p hp => by rw [(h.pg p hp).1]; decide
theorem Pages_j {m o : List S31} (hg : Good m) (hl : m.length ≤ 8) (hol : o.length ≤ 8) (base q0 : Int) (q1 : List Int) (c : Bool) (hc : c = false) : Ev (fun k => debuggerlaw25_MemoryPages.j0 k base c m o q0 q1) true := by
  have same : ∀ b : Int, Ev (fun k => debuggerref25_Same.f k (m.filter (fun p => decide (p.f0 ≠ b))) (m.filter (fun p => decide (p.f0 ≠ b)))) true := fun b => by
    have wl : (m.filter (fun p => decide (p.f0 ≠ b))).length ≤ m.length := List.length_filter_le _ _
    exact Same_f _ (by omega) (fun p hp => smallP hg p (List.mem_filter.1 hp).1)
  have cl := chg_len m o
  refine Zev.step (fun k => rfl) (Zev.ifn (by rw [hc]; simp) ?_)
  refine Zev.bind (pWithout_f m base hg.fit (by omega)) (Zev.bind (Without_f m base hg.fit (by omega)) (Zev.bind (same base) (Zev.ifp rfl ?_)))
  refine Zev.bind (pWithout_f m q0 hg.fit (by omega)) (Zev.bind (Without_f m q0 hg.fit (by omega)) (Zev.bind (same q0) (Zev.ifp rfl ?_)))
  exact Zev.bind (chg_f m o (by omega) (by omega) (smallP hg)) (Zev.bind (rchg_f m o (by omega) (by omega) (smallP hg)) (Zev.bind (Ints_f _ (by omega)) (Zev.ifp rfl aw)))
theorem addBoth {m : List S31} (hg : Good m) (hl : m.length ≤ 8) (b : Int) (l : List Int) : ∃ r : List S31 × Int, Ev (fun k => memory_Add.f k m b l) r ∧ Ev (fun k => debuggerref25_Add.f k m b l) r ∧ r.1.length ≤ 9 ∧ ∀ p ∈ r.1, p.f1.length < 4398046511104 := by
  by_cases hp : Pg ⟨b, l⟩
  · refine ⟨(ins ⟨b, l⟩ m, 0), pAdd_f hg (by omega) hp, Add_f m b l hg.fit (by omega) hp, ?_, smallP (hg.ins hp)⟩
    have := ins_length ⟨b, l⟩ m
    show (ins ⟨b, l⟩ m).length ≤ 9
    omega
  · exact ⟨([], 1), pAdd_n hp, Add_n hp, by simp, fun p h => by cases h⟩
theorem MemoryPages_ev (l o : List Int) (p0 : Int) (p1 : List Int) (base : Int) : Ev (fun k => debuggerlaw25_MemoryPages.f k l o p0 p1 base) true := by
  have hg := mk_good l
  have hl := mk_len l
  have hol := mk_len o
  unfold debuggerlaw25_MemoryPages.f
  by_cases h : (p1.length : Int) > 200
  · exact Zev.ifp h aw
  · refine Zev.ifn h (Zev.bind (some_f l) (Zev.bind (some_f o) (Zev.bindc (Mod_f base 14 (by decide) (by decide)) (Zev.ifp (by decide) (Zev.bindc rfl ?_)))))
    obtain ⟨r, a1, a2, a3, a4⟩ := addBoth hg hl p0 p1
    obtain ⟨s, b1, b2, b3, b4⟩ := addBoth hg hl (wrap64 (base % 14 * 64)) (List.replicate 64 0)
    refine Zev.bind a1 (Zev.bind a2 (Zev.bind b1 (Zev.bind b2 (Zev.ifp rfl (Zev.ifp rfl (Zev.bind (Same_f _ (by omega) a4) (Zev.ifp rfl (Zev.bind (Same_f _ (by omega) b4) ?_))))))))
    exact Pages_j hg hl hol base _ _ _ rfl
end Go.Proofs.Ytpifepaflljolaa.Mem
namespace Go.Proofs.Ytpifepaflljolaa.Pure
open Go.RowKit Go.Proofs.Ytpifepaflljolaa.PMem Go.Proofs.YtpifepaflljolaaW.PrintWords Go.Proofs.YtpifepaflljolaaW.PrintLast

theorem MemoryPages (l o : List Int) (p0 : Int) (p1 : List Int) (base : Int) : ∃ k, debuggerlaw25_MemoryPages.f k l o p0 p1 base = some true := Zev.done (Mem.MemoryPages_ev l o p0 p1 base)

end Go.Proofs.Ytpifepaflljolaa.Pure
