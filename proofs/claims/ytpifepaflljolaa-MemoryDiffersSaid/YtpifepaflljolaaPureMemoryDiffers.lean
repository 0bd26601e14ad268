/-
  The statement MemoryDiffers, over lists alone: two memories differ in no page exactly if they are the same; a page that is added or left out is the only one that differs. No condition.
-/
import Derived.Test.YtpifepaflljolaaPMemx34
import Derived.Test.YtpifepaflljolaaMathE
import Derived.Test.YtpifepaflljolaaMathW
namespace Go.Proofs.Ytpifepaflljolaa.Mem
open Go.RowKit Go.Proofs.Ytpifepaflljolaa.PMem Go.Proofs.YtpifepaflljolaaW.PrintWords Go.Proofs.YtpifepaflljolaaW.PrintLast Go.Proofs.YtpifepaflljolaaW.PrintMore
theorem Good.without {m : List S31} (h : Good m) (b : Int) : Good (m.filter (fun p => decide (p.f0 ≠ b))) :=
  ⟨h.up.filter _, fun p hp => h.pg p (List.mem_filter.1 hp).1⟩
theorem small {m : List S31} (h : Good m) : ∀ p ∈ m, p.f1.length < 4398046511104 := fun p hp => by rw [(h.pg p hp).1]; decide
theorem Differs_j {m : List S31} (hg : Good m) (hl : m.length ≤ 8) (a w : Int) (c : Bool) (hc : c = false) : Ev (fun k => debuggerlaw25_MemoryDiffers.j0 k a w c m) true := by
  have h12 := Int.emod_nonneg a (show (12 : Int) ≠ 0 by decide)
  have h13 := Int.emod_lt_of_pos a (show (0 : Int) < 12 by decide)
  have hb : wrap64 (a % 12 * 64) = a % 12 * 64 := Zev.w64 (by omega) (by omega)
  generalize hbase : a % 12 * 64 = b at hb
  have hp : Pg ⟨b, (List.replicate 64 0).set 3 w⟩ := ⟨by simp, by simp only; omega, by simp only; omega, by simp only; omega⟩
  have hi := hg.ins hp
  have hil := ins_length ⟨b, (List.replicate 64 0).set 3 w⟩ m
  have hw := hi.without b
  have hwm := hg.without b
  have e : (ins ⟨b, (List.replicate 64 0).set 3 w⟩ m).filter (fun p => decide (p.f0 ≠ b)) = m.filter (fun p => decide (p.f0 ≠ b)) := by
    unfold ins
    simp only
    rw [List.filter_append, List.filter_cons_of_neg (by simp), ← List.filter_append, List.takeWhile_append_dropWhile, List.filter_filter]
    simp
  have c1 : chg (ins ⟨b, (List.replicate 64 0).set 3 w⟩ m) (m.filter (fun p => decide (p.f0 ≠ b))) = [b] := by
    have h1 := chg_ins ((m.filter (fun q => decide (q.f0 ≠ b))).takeWhile (fun q => decide (q.f0 < b))) ((m.filter (fun q => decide (q.f0 ≠ b))).dropWhile (fun q => decide (q.f0 < b))) ⟨b, (List.replicate 64 0).set 3 w⟩ (by
      intro q hq
      have h1 := sorted_split _ b hwm.up q hq
      have h2 := (List.mem_filter.1 ((List.dropWhile_sublist _).subset hq)).2
      simp at h2
      simp only
      omega)
    rw [List.takeWhile_append_dropWhile] at h1
    exact h1
  have wl : (m.filter (fun p => decide (p.f0 ≠ b))).length ≤ m.length := List.length_filter_le _ _
  refine Zev.step (fun k => rfl) (Zev.ifn (by rw [hc]; simp) (Zev.bindc (Mod_f a 12 (by decide) (by decide)) (Zev.ifp (by decide) (Zev.bindc rfl (Zev.ifp (by simp) ?_)))))
  rw [hbase, hb, show (3 : Int).toNat = 3 from rfl]
  refine Zev.bind (pAdd_f hg (by omega) hp) ?_
  refine Zev.bind (pWithout_f (ins ⟨b, (List.replicate 64 0).set 3 w⟩ m) b hi.fit (by omega)) ?_
  rw [e]
  refine Zev.bind (chg_f (ins ⟨b, (List.replicate 64 0).set 3 w⟩ m) _ (by omega) (by omega) (small hi)) (Zev.bind (pWithout_f m b hg.fit (by omega)) (Zev.bind (chg_f _ _ (by omega) (by omega) (small hwm)) ?_))
  rw [c1, chg_self]
  exact Zev.ifp rfl (Zev.ifp rfl (Zev.ifp (by simp) (Zev.ifp rfl (Zev.ifp rfl (Zev.bind (Right_f hi (show (ins ⟨b, (List.replicate 64 0).set 3 w⟩ m).length ≤ 50000 by omega)) (Zev.ifp rfl (Zev.bind (Right_f hwm (by omega)) (Zev.ifp rfl aw))))))))
theorem MemoryDiffers_ev (l o : List Int) (a w : Int) : Ev (fun k => debuggerlaw25_MemoryDiffers.f k l o a w) true := by
  have hg := mk_good l
  have hl := mk_len l
  have ho := mk_good o
  have hol := mk_len o
  refine Zev.bind (some_f l) (Zev.bind (some_f o) (Zev.bind (chg_f _ _ (by omega) (by omega) (small hg)) (Zev.bind (SameG_f _ _ (by omega) (small hg)) (Zev.ifn ?_ (Zev.bind (chg_f _ _ (by omega) (by omega) (small hg)) (Differs_j hg hl a w _ (by rw [chg_self]; rfl)))))))
  by_cases h : mk l = mk o
  · rw [decide_eq_true h, h, chg_self]; simp
  · have : chg (mk l) (mk o) ≠ [] := fun hc => h (chg_eq _ _ hc)
    rw [decide_eq_false h]
    simpa using this
end Go.Proofs.Ytpifepaflljolaa.Mem
namespace Go.Proofs.Ytpifepaflljolaa.Pure
open Go.RowKit Go.Proofs.Ytpifepaflljolaa.PMem Go.Proofs.YtpifepaflljolaaW.PrintWords Go.Proofs.YtpifepaflljolaaW.PrintLast

theorem MemoryDiffers : debuggerlaw25_MemoryDiffers.Pure := fun l o a w _ _ _ _ _ _ _ _ => Zev.done (Mem.MemoryDiffers_ev l o a w)

end Go.Proofs.Ytpifepaflljolaa.Pure
