-- By wip/xprint.py (a driver of this session's over the kit's print), for this claim.
import Derived.Test.YtpifepaflljolaaPMemx0
namespace Go.Proofs.Ytpifepaflljolaa.PMem
open Go.RowKit Go.Proofs.YtpifepaflljolaaW.PrintWords Go.Proofs.YtpifepaflljolaaW.PrintLast Go.Proofs.YtpifepaflljolaaW.PrintMore
attribute [local go_sem] max2_int min2_int max_two min_two max_three min_three max_four min_four   -- for this text's walks alone
set_option linter.unusedVariables false
set_option linter.unusedSimpArgs false

/-! ### memory_find: function 38, by hand (sort.Search 41, the closure 42) -/
theorem find_closure (i : Nat) (A : Option Addr) (c0 : Nat) (l : List S31) (b : Int) (gm gb : Nat) (W : World) (hi : i < l.length)
  (hm : W.cell? ⟨gm, 0, none⟩ = some (.slice A l.length c0)) (hb : W.cell? ⟨gb, 0, none⟩ = some (.int .i64 b)) (hr : Kd.C k31 W A l.length l) :
  Calls Try.prog 42 #[.int .i64 i, .pointer (some ⟨gm, 0, none⟩), .pointer (some ⟨gb, 0, none⟩)] W fun e w' => e = .returned (.bool (decide (b ≤ (rd_T31 l (i : Int)).f0))) ∧ Drawn0 W w' := by
 have hu := Try.underlying24
 have hu2 := Try.underlying31
 have c1 : decide (0 ≤ (i : Int)) = true := decide_eq_true (by omega)
 have c2 : decide ((i : Int) < (l.length : Int)) = true := decide_eq_true (by omega)
 obtain ⟨ad, A1, d1, rfl, hx0, hx1, hl1, hi1⟩ := at_T31 hr (i : Int) (by omega) (by omega)
 clear hr hl1 hi1
 rw [Int.toNat_natCast] at hx0 hx1
 go_enter Try.func42, Try.ntmps42
 go_wp2
 go_quiet (fail)
 go_wp2
 go_ret
 exact ⟨rfl, ⟨_, rfl⟩⟩
theorem find_count (l : List S31) (b : Int) (n : Nat) (hn : n ≤ l.length) (h1 : ∀ t : Nat, t < n → (rd_T31 l (t : Int)).f0 < b) (h2 : ∀ t : Nat, n ≤ t → t < l.length → b ≤ (rd_T31 l (t : Int)).f0) :
  l.countP (fun x => decide (x.f0 < b)) = n := by
 have e : l = l.take n ++ l.drop n := (List.take_append_drop n l).symm
 have hg : ∀ (t : Nat) (ht : t < l.length), rd_T31 l (t : Int) = l[t] := fun t ht => by simp [rd_T31, ht]
 rw [e, List.countP_append]
 have a1 : (l.take n).countP (fun x => decide (x.f0 < b)) = n := by
  have : (l.take n).countP (fun x => decide (x.f0 < b)) = (l.take n).length := by
   rw [List.countP_eq_length]
   intro x hx
   obtain ⟨i, hi, rfl⟩ := List.getElem_of_mem hx
   have hi' : i < n ∧ i < l.length := by have := hi; rw [List.length_take] at this; omega
   have := h1 i hi'.1
   rw [hg i hi'.2] at this
   simpa using this
  rw [this, List.length_take]; omega
 have a2 : (l.drop n).countP (fun x => decide (x.f0 < b)) = 0 := by
  rw [List.countP_eq_zero]
  intro x hx
  obtain ⟨i, hi, rfl⟩ := List.getElem_of_mem hx
  have hi' : n + i < l.length := by simp at hi; omega
  have := h2 (n + i) (by omega) hi'
  rw [hg (n + i) hi'] at this
  simp; omega
 omega
theorem find_mono (l : List S31) (hs : l.Pairwise (fun x y => x.f0 < y.f0)) (s t : Nat) (h : s ≤ t) (ht : t < l.length) : (rd_T31 l (s : Int)).f0 ≤ (rd_T31 l (t : Int)).f0 := by
 have hg : ∀ (t : Nat) (ht : t < l.length), rd_T31 l (t : Int) = l[t] := fun t ht => by simp [rd_T31, ht]
 rw [hg s (by omega), hg t ht]
 rcases Nat.lt_or_ge s t with h' | h'
 ·have := List.pairwise_iff_getElem.1 hs s t (by omega) ht h'
  omega
 ·obtain rfl : s = t := by omega
  exact Int.le_refl _
theorem find_search (A : Option Addr) (c0 : Nat) (l : List S31) (b : Int) (gm gb : Nat) (w : World) (hsz : l.length < 4398046511104) (hs : l.Pairwise (fun x y => x.f0 < y.f0))
  (hm : w.cell? ⟨gm, 0, none⟩ = some (.slice A l.length c0)) (hb : w.cell? ⟨gb, 0, none⟩ = some (.int .i64 b)) (hr : Kd.C k31 w A l.length l) :
  Calls Try.prog 41 #[.int .i64 (l.length : Int), .func (.func 42) #[] #[.pointer (some ⟨gm, 0, none⟩), .pointer (some ⟨gb, 0, none⟩)]] w fun e w' => e = .returned (.int .i64 ((l.countP (fun x => decide (x.f0 < b)) : Nat) : Int)) ∧ Drawn0 w w' := by
 have MO := Zw (find_mono l hs)
 clear hs
 have HC := Aside0.mk hm
 have HD := Aside0.mk hb
 have HR := Aside0.mk hr
 clear hm hb hr
 generalize hcnt : l.countP (fun x => decide (x.f0 < b)) = cnt
 have CN := Aside0.mk hcnt
 clear hcnt
 generalize hn : l.length = n at hsz
 have HN := Aside0.mk hn
 clear hn
 go_enter Try.func41, Try.ntmps41
 go_wp2
 go_loopg [5, 6] n (fun kx s5 s6 wr => ∃ (lo hi q : Nat), s5 = .int .i64 lo ∧ s6 = .int .i64 hi ∧ lo ≤ hi ∧ hi ≤ n ∧ hi - lo ≤ kx ∧ wr = w.drewN q ∧
  Aside0 ((∀ t : Nat, t < lo → (rd_T31 l (t : Int)).f0 < b) ∧ (∀ t : Nat, hi ≤ t → t < n → b ≤ (rd_T31 l (t : Int)).f0)))
 case atStart => exact ⟨0, n, 0, rfl, rfl, Nat.zero_le _, Nat.le_refl _, by omega, rfl, ⟨fun t ht => absurd ht (Nat.not_lt_zero _), fun t h1 h2 => by omega⟩⟩
 case round =>
  obtain ⟨lo, hi, q, rfl, rfl, hlh, hin, hg, rfl, I⟩ := hrel
  by_cases hlt : lo < hi
  ·have hc := find_closure ((lo + hi) / 2) A c0 l b gm gb (w.drewN q) (by have := HN.out; omega) (by simpa using HC.out) (by simpa using HD.out) (Kd.C_drewN HR.out q)
   rw [show (((lo + hi) / 2 : Nat) : Int) = ((lo : Int) + (hi : Int)) / 2 by omega] at hc
   by_cases hp : b ≤ (rd_T31 l (((lo : Int) + (hi : Int)) / 2)).f0
   ·rw [decide_eq_true hp] at hc
    have HP := Aside0.mk hp
    clear hp
    go_wp2_with fail
    refine hc.mono ?_
    rintro e w' ⟨rfl, ⟨nq, rfl⟩⟩
    go_wp2
    go_roundg ((lo + hi) / 2 - lo)
    case measure => omega
    case rel =>
     have I2 := Zw (show (∀ t : Nat, t < lo → (rd_T31 l (t : Int)).f0 < b) ∧ (∀ t : Nat, (lo + hi) / 2 ≤ t → t < n → b ≤ (rd_T31 l (t : Int)).f0) from ⟨I.out.1, fun t ht htn => by
      have h3 := MO.out ((lo + hi) / 2) t ht (by have := HN.out; omega)
      have h4 := HP.out
      rw [show ((lo : Int) + (hi : Int)) / 2 = (((lo + hi) / 2 : Nat) : Int) by omega] at h4
      omega⟩)
     exact ⟨lo, (lo + hi) / 2, q + nq, rfl, by rw [show ((lo : Int) + (hi : Int)) / 2 = (((lo + hi) / 2 : Nat) : Int) by omega], by omega, by omega, Nat.le_refl _, by first | rfl | rw [World.drewN_drewN], I2⟩
   ·rw [decide_eq_false hp] at hc
    have HP := Aside0.mk hp
    clear hp
    go_wp2_with fail
    refine hc.mono ?_
    rintro e w' ⟨rfl, ⟨nq, rfl⟩⟩
    go_wp2
    go_roundg (hi - ((lo + hi) / 2 + 1))
    case measure => omega
    case rel =>
     have I2 := Zw (show (∀ t : Nat, t < (lo + hi) / 2 + 1 → (rd_T31 l (t : Int)).f0 < b) ∧ (∀ t : Nat, hi ≤ t → t < n → b ≤ (rd_T31 l (t : Int)).f0) from ⟨fun t ht => by
      have h3 := MO.out t ((lo + hi) / 2) (by omega) (by have := HN.out; omega)
      have h4 := HP.out
      rw [show ((lo : Int) + (hi : Int)) / 2 = (((lo + hi) / 2 : Nat) : Int) by omega] at h4
      omega, I.out.2⟩)
     exact ⟨(lo + hi) / 2 + 1, hi, q + nq, by rw [show ((lo : Int) + (hi : Int)) / 2 + 1 = (((lo + hi) / 2 + 1 : Nat) : Int) by omega], rfl, by omega, hin, Nat.le_refl _, by first | rfl | rw [World.drewN_drewN], I2⟩
  ·obtain rfl : hi = lo := by omega
   have ecnt : cnt = hi := by
    rw [← CN.out]
    exact find_count l b hi (by have := HN.out; omega) I.out.1 (fun t h1 h2 => I.out.2 t h1 (by have := HN.out; omega))
   subst ecnt
   go_wp2
   go_ret
   exact ⟨rfl, ⟨q, rfl⟩⟩
def memory_find.f (l0_0 : List S31) (a1 : Int) : Option Int :=
 if l0_0.length < 4398046511104 then (if l0_0.Pairwise (fun x y => x.f0 < y.f0) then some ((l0_0.countP (fun x => decide (x.f0 < a1)) : Nat) : Int) else none) else none
set_option maxHeartbeats 4000000 in
set_option maxRecDepth 100000 in
theorem memory_find.calls (A0_0 : Option Addr) (c0_0 : Nat) (l0_0 : List S31) (a1 : Int) (r : Int) (w : World) (hr0_0 : Kd.C k31 w A0_0 l0_0.length l0_0) (hc0_0 : l0_0.length ≤ c0_0) (h : memory_find.f l0_0 a1 = some r) :
  Calls Try.prog 38 #[.agg #[.slice A0_0 l0_0.length c0_0], .int .i64 a1] w fun e w' => e = .returned (.int .i64 r) ∧ Below w.heap.size w w' := by
 unfold memory_find.f at h
 by_cases h1 : l0_0.length < 4398046511104
 case neg => rw [if_neg h1] at h; cases h
 rw [if_pos h1] at h
 by_cases h2 : l0_0.Pairwise (fun x y => x.f0 < y.f0)
 case neg => rw [if_neg h2] at h; cases h
 rw [if_pos h2] at h
 obtain rfl := Option.some.inj h
 clear h
 have hmf : ∀ (fn : Fn) (first cap : Array Value) (w : World), (Instr.makeFunc fn first cap).run Try.prog w = .ok (.func fn first cap) w := fun _ _ _ _ => rfl
 have hcl := find_search A0_0 c0_0 l0_0 a1 w.heap.size (w.heap.size + 1) ((w.alloc (.cells #[.slice A0_0 l0_0.length c0_0] 24)).alloc (.cells #[.int .i64 a1] 3)) h1 h2
  (by rw [World.cell?_alloc_past _ _ _ (by simp), World.cell?_alloc_at _ _ _ _ rfl]; rfl) (by rw [World.cell?_alloc_at _ _ _ _ (by simp)]; rfl) (Kd.C_alloc (Kd.C_alloc hr0_0 _) _)
 have HL := Aside0.mk hcl
 clear hcl h1 h2 hr0_0 hc0_0
 have hu := Try.underlying24
 generalize ((l0_0.countP (fun x => decide (x.f0 < a1)) : Nat) : Int) = cnt at HL ⊢
 go_enter Try.func38, Try.ntmps38
 go_wp2_with fail
 refine HL.out.mono ?_
 rintro e w' ⟨rfl, ⟨q, rfl⟩⟩
 go_wp2
 go_ret
 exact ⟨rfl, pw_below_drewN (below_alloc (below_alloc (Below.refl _ _) _) _) q⟩

end Go.Proofs.Ytpifepaflljolaa.PMem
