-- By wip/xprint.py (a driver of this session's over the kit's print), for this claim.
import Derived.Test.YtpifepaflljolaaPMemx0
import Derived.Test.YtpifepaflljolaaPMemx10
namespace Go.Proofs.Ytpifepaflljolaa.PMem
open Go.RowKit Go.Proofs.YtpifepaflljolaaW.PrintWords Go.Proofs.YtpifepaflljolaaW.PrintLast Go.Proofs.YtpifepaflljolaaW.PrintMore
attribute [local go_sem] max2_int min2_int max_two min_two max_three min_three max_four min_four   -- for this text's walks alone
set_option linter.unusedVariables false
set_option linter.unusedSimpArgs false

/-! ### debuggerref25_Changed: function 31 -/
mutual
def debuggerref25_Changed.l0 : Nat → List Int → Int → Int → List (S31) → List (S31) → Option (List Int)
 | 0, _, _, _, _, _ => none
 | k + 1, x5, x6, x7, x498000, x499000 => if x6 < (x498000.length : Int) then (debuggerref25_Changed.j1 k x5 x6 x7 true x498000 x499000) else (debuggerref25_Changed.j1 k x5 x6 x7 (decide (x7 < (x499000.length : Int))) x498000 x499000)
def debuggerref25_Changed.j1 : Nat → List Int → Int → Int → Bool → List (S31) → List (S31) → Option (List Int)
 | 0, _, _, _, _, _, _ => none
 | k + 1, x5, x6, x7, x19, x498000, x499000 => if x19 = true then (if x7 ≥ (x499000.length : Int) then (debuggerref25_Changed.j2 k x5 x6 x7 true x498000 x499000) else (if x6 < (x498000.length : Int) then (if 0 ≤ x6 then (if 0 ≤ x7 then (if x7 < (x499000.length : Int) then (debuggerref25_Changed.j2 k x5 x6 x7 (decide (((rd_T31 x498000 x6).f0) < ((rd_T31 x499000 x7).f0))) x498000 x499000) else (none)) else (none)) else (none)) else (debuggerref25_Changed.j2 k x5 x6 x7 false x498000 x499000))) else (some x5)
def debuggerref25_Changed.j2 : Nat → List Int → Int → Int → Bool → List (S31) → List (S31) → Option (List Int)
 | 0, _, _, _, _, _, _ => none
 | k + 1, x5, x6, x7, x47, x498000, x499000 => if x47 = true then (if 0 ≤ x6 then (if x6 < (x498000.length : Int) then (if x5.length < 17592186044416 then (debuggerref25_Changed.l0 k (x5 ++ [(rd_T31 x498000 x6).f0]) (wrap64 (x6 + 1)) x7 x498000 x499000) else (none)) else (none)) else (none)) else (if x6 ≥ (x498000.length : Int) then (debuggerref25_Changed.j3 k x5 x6 x7 true x498000 x499000) else (if 0 ≤ x7 then (if x7 < (x499000.length : Int) then (if 0 ≤ x6 then (if x6 < (x498000.length : Int) then (debuggerref25_Changed.j3 k x5 x6 x7 (decide (((rd_T31 x499000 x7).f0) < ((rd_T31 x498000 x6).f0))) x498000 x499000) else (none)) else (none)) else (none)) else (none)))
def debuggerref25_Changed.j3 : Nat → List Int → Int → Int → Bool → List (S31) → List (S31) → Option (List Int)
 | 0, _, _, _, _, _, _ => none
 | k + 1, x5, x6, x7, x86, x498000, x499000 => if x86 = true then (if 0 ≤ x7 then (if x7 < (x499000.length : Int) then (if x5.length < 17592186044416 then (debuggerref25_Changed.l0 k (x5 ++ [(rd_T31 x499000 x7).f0]) x6 (wrap64 (x7 + 1)) x498000 x499000) else (none)) else (none)) else (none)) else (if 0 ≤ x6 then (if x6 < (x498000.length : Int) then (if 0 ≤ x7 then (if x7 < (x499000.length : Int) then ((debuggerref25_Ints.f k ((rd_T31 x498000 x6).f1) ((rd_T31 x499000 x7).f1)).bind fun t513 => (if t513 = true then (debuggerref25_Changed.l0 k x5 (wrap64 (x6 + 1)) (wrap64 (x7 + 1)) x498000 x499000) else (if x5.length < 17592186044416 then (debuggerref25_Changed.l0 k (x5 ++ [(rd_T31 x498000 x6).f0]) (wrap64 (x6 + 1)) (wrap64 (x7 + 1)) x498000 x499000) else (none)))) else (none)) else (none)) else (none)) else (none))
end
def debuggerref25_Changed.f (k : Nat) (l0_0 : List (S31)) (l1_0 : List (S31)) : Option (List Int) := debuggerref25_Changed.l0 k ([] : List Int) 0 0 l0_0 l1_0
theorem debuggerref25_Changed.mono_l : ∀ k, (∀ y0 y1 y2 y3 y4, LeO (debuggerref25_Changed.l0 k y0 y1 y2 y3 y4) (debuggerref25_Changed.l0 (k + 1) y0 y1 y2 y3 y4)) ∧ (∀ y0 y1 y2 y3 y4 y5, LeO (debuggerref25_Changed.j1 k y0 y1 y2 y3 y4 y5) (debuggerref25_Changed.j1 (k + 1) y0 y1 y2 y3 y4 y5)) ∧ (∀ y0 y1 y2 y3 y4 y5, LeO (debuggerref25_Changed.j2 k y0 y1 y2 y3 y4 y5) (debuggerref25_Changed.j2 (k + 1) y0 y1 y2 y3 y4 y5)) ∧ (∀ y0 y1 y2 y3 y4 y5, LeO (debuggerref25_Changed.j3 k y0 y1 y2 y3 y4 y5) (debuggerref25_Changed.j3 (k + 1) y0 y1 y2 y3 y4 y5))
 | 0 => ⟨fun _ _ _ _ _ r h => by simp [debuggerref25_Changed.l0] at h, fun _ _ _ _ _ _ r h => by simp [debuggerref25_Changed.j1] at h, fun _ _ _ _ _ _ r h => by simp [debuggerref25_Changed.j2] at h, fun _ _ _ _ _ _ r h => by simp [debuggerref25_Changed.j3] at h⟩
 | k + 1 => by
  obtain ⟨ih0, ih1, ih2, ih3⟩ := debuggerref25_Changed.mono_l k
  refine ⟨?_, ?_, ?_, ?_⟩
  ·intro y0 y1 y2 y3 y4
   unfold debuggerref25_Changed.l0
   repeat' first
   | (with_reducible exact ih0 _ _ _ _ _)
   | (with_reducible exact ih1 _ _ _ _ _ _)
   | (with_reducible exact ih2 _ _ _ _ _ _)
   | (with_reducible exact ih3 _ _ _ _ _ _)
   | (with_reducible exact debuggerref25_Ints.mono _ _ _)
   | (with_reducible exact LeO.refl _)
   | (with_reducible exact LeO.none _)
   | (with_reducible refine LeO.ite ?_ ?_)
   | (with_reducible refine LeO.bind ?_ (fun _ => ?_))
   | exact ih0 _ _ _ _ _
   | exact ih1 _ _ _ _ _ _
   | exact ih2 _ _ _ _ _ _
   | exact ih3 _ _ _ _ _ _
   | exact debuggerref25_Ints.mono _ _ _
   | exact LeO.none _
   | refine LeO.ite ?_ ?_
   | refine LeO.bind ?_ (fun _ => ?_)
  ·intro y0 y1 y2 y3 y4 y5
   unfold debuggerref25_Changed.j1
   repeat' first
   | (with_reducible exact ih0 _ _ _ _ _)
   | (with_reducible exact ih1 _ _ _ _ _ _)
   | (with_reducible exact ih2 _ _ _ _ _ _)
   | (with_reducible exact ih3 _ _ _ _ _ _)
   | (with_reducible exact debuggerref25_Ints.mono _ _ _)
   | (with_reducible exact LeO.refl _)
   | (with_reducible exact LeO.none _)
   | (with_reducible refine LeO.ite ?_ ?_)
   | (with_reducible refine LeO.bind ?_ (fun _ => ?_))
   | exact ih0 _ _ _ _ _
   | exact ih1 _ _ _ _ _ _
   | exact ih2 _ _ _ _ _ _
   | exact ih3 _ _ _ _ _ _
   | exact debuggerref25_Ints.mono _ _ _
   | exact LeO.none _
   | refine LeO.ite ?_ ?_
   | refine LeO.bind ?_ (fun _ => ?_)
  ·intro y0 y1 y2 y3 y4 y5
   unfold debuggerref25_Changed.j2
   repeat' first
   | (with_reducible exact ih0 _ _ _ _ _)
   | (with_reducible exact ih1 _ _ _ _ _ _)
   | (with_reducible exact ih2 _ _ _ _ _ _)
   | (with_reducible exact ih3 _ _ _ _ _ _)
   | (with_reducible exact debuggerref25_Ints.mono _ _ _)
   | (with_reducible exact LeO.refl _)
   | (with_reducible exact LeO.none _)
   | (with_reducible refine LeO.ite ?_ ?_)
   | (with_reducible refine LeO.bind ?_ (fun _ => ?_))
   | exact ih0 _ _ _ _ _
   | exact ih1 _ _ _ _ _ _
   | exact ih2 _ _ _ _ _ _
   | exact ih3 _ _ _ _ _ _
   | exact debuggerref25_Ints.mono _ _ _
   | exact LeO.none _
   | refine LeO.ite ?_ ?_
   | refine LeO.bind ?_ (fun _ => ?_)
  ·intro y0 y1 y2 y3 y4 y5
   unfold debuggerref25_Changed.j3
   repeat' first
   | (with_reducible exact ih0 _ _ _ _ _)
   | (with_reducible exact ih1 _ _ _ _ _ _)
   | (with_reducible exact ih2 _ _ _ _ _ _)
   | (with_reducible exact ih3 _ _ _ _ _ _)
   | (with_reducible exact debuggerref25_Ints.mono _ _ _)
   | (with_reducible exact LeO.refl _)
   | (with_reducible exact LeO.none _)
   | (with_reducible refine LeO.ite ?_ ?_)
   | (with_reducible refine LeO.bind ?_ (fun _ => ?_))
   | exact ih0 _ _ _ _ _
   | exact ih1 _ _ _ _ _ _
   | exact ih2 _ _ _ _ _ _
   | exact ih3 _ _ _ _ _ _
   | exact debuggerref25_Ints.mono _ _ _
   | exact LeO.none _
   | refine LeO.ite ?_ ?_
   | refine LeO.bind ?_ (fun _ => ?_)
theorem debuggerref25_Changed.mono : ∀ a0 a1 k, LeO (debuggerref25_Changed.f k a0 a1) (debuggerref25_Changed.f (k + 1) a0 a1) := by
 intro a0 a1 k
 obtain ⟨ih0, ih1, ih2, ih3⟩ := debuggerref25_Changed.mono_l k
 unfold debuggerref25_Changed.f
 repeat' first
   | (with_reducible exact ih0 _ _ _ _ _)
   | (with_reducible exact ih1 _ _ _ _ _ _)
   | (with_reducible exact ih2 _ _ _ _ _ _)
   | (with_reducible exact ih3 _ _ _ _ _ _)
   | (with_reducible exact debuggerref25_Ints.mono _ _ _)
   | (with_reducible exact LeO.refl _)
   | (with_reducible exact LeO.none _)
   | (with_reducible refine LeO.ite ?_ ?_)
   | (with_reducible refine LeO.bind ?_ (fun _ => ?_))
   | exact ih0 _ _ _ _ _
   | exact ih1 _ _ _ _ _ _
   | exact ih2 _ _ _ _ _ _
   | exact ih3 _ _ _ _ _ _
   | exact debuggerref25_Ints.mono _ _ _
   | exact LeO.none _
   | refine LeO.ite ?_ ?_
   | refine LeO.bind ?_ (fun _ => ?_)
set_option maxHeartbeats 8000000 in
set_option maxRecDepth 100000 in
theorem debuggerref25_Changed.calls (k : Nat) (A0_0 : Option Addr) (c0_0 : Nat) (l0_0 : List (S31)) (A1_0 : Option Addr) (c1_0 : Nat) (l1_0 : List (S31)) (r : List Int) (w : World) (hr0_0 : Kd.C k31 w A0_0 l0_0.length l0_0) (hc0_0 : l0_0.length ≤ c0_0) (hr1_0 : Kd.C k31 w A1_0 l1_0.length l1_0) (hc1_0 : l1_0.length ≤ c1_0) (h : debuggerref25_Changed.f k l0_0 l1_0 = some r) :
  Calls Try.prog 31 #[.agg #[.slice A0_0 l0_0.length c0_0], .agg #[.slice A1_0 l1_0.length c1_0]] w fun e w' => ∃ v0_ : Value, e = .returned (v0_) ∧ Kd.R (Kd.int .i64) 3 w' w.heap.size (fun _ => True) v0_ r ∧ Below w.heap.size w w' := by
 have hu24 := Try.underlying24
 have HR0_0 := Aside0.mk hr0_0
 have HC0_0 := Aside0.mk hc0_0
 clear hr0_0 hc0_0
 have HR1_0 := Aside0.mk hr1_0
 have HC1_0 := Aside0.mk hc1_0
 clear hr1_0 hc1_0
 have HB := Zw (Below.refl w.heap.size w)
 have H : (debuggerref25_Changed.l0 k ([] : List Int) 0 0 l0_0 l1_0) = some r := h
 clear h
 have H' := Aside0.mk H
 clear H
 go_enter Try.func31, Try.ntmps31
 go_wp2_with (first | ((with_reducible refine gate_dst (N := 2) rfl ?_); (try (refine gate_guard (by rfl) ?_; dsimp only)); refine box_event ?hg (N := 2) ?hd (cs := #[.slice A0_0 l0_0.length c0_0]) (t := 24) ?hr ?_; (case hd => rfl); (case hg => rfl); (case hr => first | (go_simp; done) | (go_simp; rfl)); intro gb497 hg w3 hbox hb; have n0_ := Zw (below_step (Zh HB.out) hb); have n1_ := Zw (hbox); have n2_ := Zw ((by rw [hg]; exact (below_size (Zh HB.out)) : w.heap.size ≤ gb497)); have n3_ := Zw ((by rw [hg]; exact (below_size (Zh HB.out)) : w.heap.size ≤ gb497)); clear HB; have HB := n0_; have BK497 := n1_; have GW497 := n2_; have GE497 := n3_; clear n0_ n1_ n2_ n3_; clear hb hbox hg) | ((with_reducible refine gate_dst (N := 3) rfl ?_); (try (refine gate_guard (by rfl) ?_; dsimp only)); refine box_event ?hg (N := 3) ?hd (cs := #[.slice A1_0 l1_0.length c1_0]) (t := 24) ?hr ?_; (case hd => rfl); (case hg => rfl); (case hr => first | (go_simp; done) | (go_simp; rfl)); intro gb498 hg w4 hbox hb; have n0_ := Zw (blk_below (g := gb497) (o := .cells #[.slice A0_0 l0_0.length c0_0] 24 (0, 0)) (Zb BK497.out) hb); have n1_ := Zw (below_step (Zh1 HB.out GE497.out) hb); have n2_ := Zw (hbox); have n3_ := Zw ((by rw [hg]; exact (below_size (Zh1 HB.out GE497.out)) : w.heap.size ≤ gb498)); have n4_ := Zw ((by rw [hg]; exact (below_size (Zh1 HB.out GE497.out)) : w.heap.size ≤ gb498)); have n5_ := Zw ((by rw [hg]; exact Nat.ne_of_lt (blk_lt (Zb BK497.out)) : gb497 ≠ gb498)); have n6_ := Zw ((by rw [hg]; exact Nat.ne_of_gt (blk_lt (Zb BK497.out)) : gb498 ≠ gb497)); clear BK497; clear HB; have BK497 := n0_; have HB := n1_; have BK498 := n2_; have GW498 := n3_; have GE498 := n4_; have NB497_498 := n5_; have NB498_497 := n6_; clear n0_ n1_ n2_ n3_ n4_ n5_ n6_; clear hb hbox hg))
 repeat (go_quiet (first | ((with_reducible refine gate_dst (N := 2) rfl ?_); (try (refine gate_guard (by rfl) ?_; dsimp only)); refine box_event ?hg (N := 2) ?hd (cs := #[.slice A0_0 l0_0.length c0_0]) (t := 24) ?hr ?_; (case hd => rfl); (case hg => rfl); (case hr => first | (go_simp; done) | (go_simp; rfl)); intro gb497 hg w3 hbox hb; have n0_ := Zw (below_step (Zh HB.out) hb); have n1_ := Zw (hbox); have n2_ := Zw ((by rw [hg]; exact (below_size (Zh HB.out)) : w.heap.size ≤ gb497)); have n3_ := Zw ((by rw [hg]; exact (below_size (Zh HB.out)) : w.heap.size ≤ gb497)); clear HB; have HB := n0_; have BK497 := n1_; have GW497 := n2_; have GE497 := n3_; clear n0_ n1_ n2_ n3_; clear hb hbox hg) | ((with_reducible refine gate_dst (N := 3) rfl ?_); (try (refine gate_guard (by rfl) ?_; dsimp only)); refine box_event ?hg (N := 3) ?hd (cs := #[.slice A1_0 l1_0.length c1_0]) (t := 24) ?hr ?_; (case hd => rfl); (case hg => rfl); (case hr => first | (go_simp; done) | (go_simp; rfl)); intro gb498 hg w4 hbox hb; have n0_ := Zw (blk_below (g := gb497) (o := .cells #[.slice A0_0 l0_0.length c0_0] 24 (0, 0)) (Zb BK497.out) hb); have n1_ := Zw (below_step (Zh1 HB.out GE497.out) hb); have n2_ := Zw (hbox); have n3_ := Zw ((by rw [hg]; exact (below_size (Zh1 HB.out GE497.out)) : w.heap.size ≤ gb498)); have n4_ := Zw ((by rw [hg]; exact (below_size (Zh1 HB.out GE497.out)) : w.heap.size ≤ gb498)); have n5_ := Zw ((by rw [hg]; exact Nat.ne_of_lt (blk_lt (Zb BK497.out)) : gb497 ≠ gb498)); have n6_ := Zw ((by rw [hg]; exact Nat.ne_of_gt (blk_lt (Zb BK497.out)) : gb498 ≠ gb497)); clear BK497; clear HB; have BK497 := n0_; have HB := n1_; have BK498 := n2_; have GW498 := n3_; have GE498 := n4_; have NB497_498 := n5_; have NB498_497 := n6_; clear n0_ n1_ n2_ n3_ n4_ n5_ n6_; clear hb hbox hg)); try go_wp2_with (first | ((with_reducible refine gate_dst (N := 2) rfl ?_); (try (refine gate_guard (by rfl) ?_; dsimp only)); refine box_event ?hg (N := 2) ?hd (cs := #[.slice A0_0 l0_0.length c0_0]) (t := 24) ?hr ?_; (case hd => rfl); (case hg => rfl); (case hr => first | (go_simp; done) | (go_simp; rfl)); intro gb497 hg w3 hbox hb; have n0_ := Zw (below_step (Zh HB.out) hb); have n1_ := Zw (hbox); have n2_ := Zw ((by rw [hg]; exact (below_size (Zh HB.out)) : w.heap.size ≤ gb497)); have n3_ := Zw ((by rw [hg]; exact (below_size (Zh HB.out)) : w.heap.size ≤ gb497)); clear HB; have HB := n0_; have BK497 := n1_; have GW497 := n2_; have GE497 := n3_; clear n0_ n1_ n2_ n3_; clear hb hbox hg) | ((with_reducible refine gate_dst (N := 3) rfl ?_); (try (refine gate_guard (by rfl) ?_; dsimp only)); refine box_event ?hg (N := 3) ?hd (cs := #[.slice A1_0 l1_0.length c1_0]) (t := 24) ?hr ?_; (case hd => rfl); (case hg => rfl); (case hr => first | (go_simp; done) | (go_simp; rfl)); intro gb498 hg w4 hbox hb; have n0_ := Zw (blk_below (g := gb497) (o := .cells #[.slice A0_0 l0_0.length c0_0] 24 (0, 0)) (Zb BK497.out) hb); have n1_ := Zw (below_step (Zh1 HB.out GE497.out) hb); have n2_ := Zw (hbox); have n3_ := Zw ((by rw [hg]; exact (below_size (Zh1 HB.out GE497.out)) : w.heap.size ≤ gb498)); have n4_ := Zw ((by rw [hg]; exact (below_size (Zh1 HB.out GE497.out)) : w.heap.size ≤ gb498)); have n5_ := Zw ((by rw [hg]; exact Nat.ne_of_lt (blk_lt (Zb BK497.out)) : gb497 ≠ gb498)); have n6_ := Zw ((by rw [hg]; exact Nat.ne_of_gt (blk_lt (Zb BK497.out)) : gb498 ≠ gb497)); clear BK497; clear HB; have BK497 := n0_; have HB := n1_; have BK498 := n2_; have GW498 := n3_; have GE498 := n4_; have NB497_498 := n5_; have NB498_497 := n6_; clear n0_ n1_ n2_ n3_ n4_ n5_ n6_; clear hb hbox hg)))
 go_loopg [5, 6, 7] k (fun kq v5 v6 v7 w' => ∃ (x5_1 : List Int) (x6_1 : Int) (x7_1 : Int), v6 = .int .i64 x6_1 ∧ v7 = .int .i64 x7_1 ∧ Aside0 (debuggerref25_Changed.l0 kq x5_1 x6_1 x7_1 l0_0 l1_0 = some r) ∧ Aside0 (kq ≤ k) ∧ Aside0 (Kd.R (Kd.int .i64) 3 w' w.heap.size (fun _ => True) v5 x5_1) ∧ Aside0 (w'.heap[gb497]? = some (.cells #[(.slice A0_0 l0_0.length c0_0)] 24 (0, 0))) ∧ Aside0 (w'.heap[gb498]? = some (.cells #[(.slice A1_0 l1_0.length c1_0)] 24 (0, 0))) ∧ Aside0 (Below w.heap.size w w'))
 case atStart => exact ⟨(([] : List Int)), (0), (0), (by first | rfl | (simp; done) | (simp [*]; done)), (by first | rfl | (simp; done) | (simp [*]; done)), H', ⟨Nat.le_refl _⟩, ⟨by first | exact Kd.R_nil _ _ _ _ _ | exact Kd.N_nil _ _ _ _ _ | exact Kd.V_nil _ _ _ _ _ | exact Kd.Q_nil _ _ _ _ _ | exact Kd.S_nil _ _ _ _ _⟩, ⟨Zb BK497.out⟩, ⟨Zb BK498.out⟩, ⟨Zh2 HB.out GE497.out GE498.out⟩⟩
 case round =>
  clear H'
  try clear c1
  try clear p2
  try clear c3
  obtain ⟨x5_1, x6_1, x7_1, rfl, rfl, HA, HK1, HO_5, BK497, BK498, HB⟩ := hrel
  cases gk with
  | zero => exact absurd HA.out (by simp [debuggerref25_Changed.l0])
  | succ k1 =>
   have H := HA.out
   clear HA
   simp only [debuggerref25_Changed.l0] at H
   have HC5 := Aside0.mk H
   clear H
   go_upto_region 3 with (fail)
   repeat (go_quiet (fail); go_upto_region 3 with (fail))
   go_cut [19] (fun v19 wc => ∃ (kq : Nat) (x19_4 : Bool), v19 = .bool x19_4 ∧ Aside0 (debuggerref25_Changed.j1 kq x5_1 x6_1 x7_1 x19_4 l0_0 l1_0 = some r) ∧ Aside0 (kq ≤ k1) ∧ Aside0 (Kd.R (Kd.int .i64) 3 wc w.heap.size (fun _ => True) u5 x5_1) ∧ Aside0 (wc.heap[gb497]? = some (.cells #[(.slice A0_0 l0_0.length c0_0)] 24 (0, 0))) ∧ Aside0 (wc.heap[gb498]? = some (.cells #[(.slice A1_0 l1_0.length c1_0)] 24 (0, 0))) ∧ Aside0 (Below w.heap.size w wc))
   case first =>
    have H := HC5.out
    clear HC5
    by_cases c6 : x6_1 < (l0_0.length : Int)
    ·rw [if_pos c6] at H
     have c6b0 : decide (x6_1 < (l0_0.length : Int)) = true := decide_eq_true c6
     clear c6
     (first | rw [c6b0] | (simp only [i64_w, i32_w]; rw [c6b0]) | skip)
     have H' := Aside0.mk H
     clear H
     have hnb7 := NB497_498.out
     have hnc7 := NB498_497.out
     have hcz8_0 := Zcl BK497.out 0 rfl
     have hfz8_0 := blk_frozen BK497.out 0
     go_wp2
     repeat (go_quiet (fail); try go_wp2)
     go_meet
     case rel => exact ⟨_, (true), (by first | rfl | (simp; done) | (simp [*]; done)), H', ⟨by have := HK1.out; first | omega | exact Nat.le_refl _⟩, ⟨ZR HO_5.out⟩, ⟨Zb BK497.out⟩, ⟨Zb BK498.out⟩, ⟨Zh2 HB.out GE497.out GE498.out⟩⟩
    ·rw [if_neg c6] at H
     have c6b0 : decide (x6_1 < (l0_0.length : Int)) = false := decide_eq_false c6
     clear c6
     (first | rw [c6b0] | (simp only [i64_w, i32_w]; rw [c6b0]) | skip)
     have H' := Aside0.mk H
     clear H
     have hnb9 := NB497_498.out
     have hnc9 := NB498_497.out
     have hcz10_0 := Zcl BK497.out 0 rfl
     have hfz10_0 := blk_frozen BK497.out 0
     have hcz11_0 := Zcl BK498.out 0 rfl
     have hfz11_0 := blk_frozen BK498.out 0
     go_wp2
     repeat (go_quiet (fail); try go_wp2)
     go_meet
     case rel => exact ⟨_, (decide (x7_1 < (l1_0.length : Int))), (by first | rfl | (simp; done) | (simp [*]; done)), H', ⟨by have := HK1.out; first | omega | exact Nat.le_refl _⟩, ⟨ZR HO_5.out⟩, ⟨Zb BK497.out⟩, ⟨Zb BK498.out⟩, ⟨Zh2 HB.out GE497.out GE498.out⟩⟩
   case rest =>
    clear HC5
    try clear c1
    try clear p2
    try clear c3
    try clear c6
    try clear c6b0
    try clear c7
    try clear c9
    try clear hcz10_0
    try clear hcz11_0
    try clear hcz8_0
    try clear hfz10_0
    try clear hfz11_0
    try clear hfz8_0
    try clear p2
    obtain ⟨kq, x19_4, rfl, HA, HJ4, HO_5, BK497, BK498, HB⟩ := hcut
    cases kq with
    | zero => exact absurd HA.out (by simp [debuggerref25_Changed.j1])
    | succ kj4 =>
     have H := HA.out
     clear HA
     simp only [debuggerref25_Changed.j1] at H
     by_cases c12 : x19_4 = true
     ·subst c12
      have H1 : (if x7_1 ≥ (l1_0.length : Int) then (debuggerref25_Changed.j2 kj4 x5_1 x6_1 x7_1 true l0_0 l1_0) else (if x6_1 < (l0_0.length : Int) then (if 0 ≤ x6_1 then (if 0 ≤ x7_1 then (if x7_1 < (l1_0.length : Int) then (debuggerref25_Changed.j2 kj4 x5_1 x6_1 x7_1 (decide (((rd_T31 l0_0 x6_1).f0) < ((rd_T31 l1_0 x7_1).f0))) l0_0 l1_0) else (none)) else (none)) else (none)) else (debuggerref25_Changed.j2 kj4 x5_1 x6_1 x7_1 false l0_0 l1_0))) = some r := by rw [if_pos rfl] at H; exact H
      clear H
      have H := H1
      clear H1
      have HC13 := Aside0.mk H
      clear H
      go_upto_region 8 with (fail)
      repeat (go_quiet (fail); go_upto_region 8 with (fail))
      go_cut [47] (fun v47 wc => ∃ (kq : Nat) (x47_12 : Bool), v47 = .bool x47_12 ∧ Aside0 (debuggerref25_Changed.j2 kq x5_1 x6_1 x7_1 x47_12 l0_0 l1_0 = some r) ∧ Aside0 (kq ≤ kj4) ∧ Aside0 (Kd.R (Kd.int .i64) 3 wc w.heap.size (fun _ => True) u5 x5_1) ∧ Aside0 (wc.heap[gb497]? = some (.cells #[(.slice A0_0 l0_0.length c0_0)] 24 (0, 0))) ∧ Aside0 (wc.heap[gb498]? = some (.cells #[(.slice A1_0 l1_0.length c1_0)] 24 (0, 0))) ∧ Aside0 (Below w.heap.size w wc))
      case first =>
       have H := HC13.out
       clear HC13
       by_cases c14 : x7_1 ≥ (l1_0.length : Int)
       ·rw [if_pos c14] at H
        have c14b0 : decide ((l1_0.length : Int) ≤ x7_1) = true := decide_eq_true c14
        clear c14
        (first | rw [c14b0] | (simp only [i64_w, i32_w]; rw [c14b0]) | skip)
        have H' := Aside0.mk H
        clear H
        have hnb15 := NB498_497.out
        have hnc15 := NB497_498.out
        have hcz16_0 := Zcl BK498.out 0 rfl
        have hfz16_0 := blk_frozen BK498.out 0
        go_wp2
        repeat (go_quiet (fail); try go_wp2)
        go_meet
        case rel => exact ⟨_, (true), (by first | rfl | (simp; done) | (simp [*]; done)), H', ⟨by have := HK1.out; have := HJ4.out; first | omega | exact Nat.le_refl _⟩, ⟨ZR HO_5.out⟩, ⟨Zb BK497.out⟩, ⟨Zb BK498.out⟩, ⟨Zh2 HB.out GE497.out GE498.out⟩⟩
       ·rw [if_neg c14] at H
        have c14b0 : decide ((l1_0.length : Int) ≤ x7_1) = false := decide_eq_false c14
        clear c14
        (first | rw [c14b0] | (simp only [i64_w, i32_w]; rw [c14b0]) | skip)
        by_cases c17 : x6_1 < (l0_0.length : Int)
        ·rw [if_pos c17] at H
         have c17b0 : decide (x6_1 < (l0_0.length : Int)) = true := decide_eq_true c17
         clear c17
         by_cases c18 : 0 ≤ x6_1
         ·rw [if_pos c18] at H
          have c18b0 : decide (0 ≤ x6_1) = true := decide_eq_true c18
          clear c18
          by_cases c19 : 0 ≤ x7_1
          ·rw [if_pos c19] at H
           have c19b0 : decide (0 ≤ x7_1) = true := decide_eq_true c19
           clear c19
           by_cases c20 : x7_1 < (l1_0.length : Int)
           ·rw [if_pos c20] at H
            have c20b0 : decide (x7_1 < (l1_0.length : Int)) = true := decide_eq_true c20
            clear c20
            have H' := Aside0.mk H
            clear H
            have hnb21 := NB498_497.out
            have hnc21 := NB497_498.out
            have hcz22_0 := Zcl BK498.out 0 rfl
            have hfz22_0 := blk_frozen BK498.out 0
            have hcz23_0 := Zcl BK497.out 0 rfl
            have hfz23_0 := blk_frozen BK497.out 0
            have p499 : 0 ≤ (x6_1 : Int) := of_decide_eq_true Za
            have q499 : x6_1 < (l0_0.length : Int) := of_decide_eq_true Za
            obtain ⟨ad499, A499_1, c499_1, e499, hx499_0, hx499_1, hl499_1, hi499_1⟩ := at_T31 HR0_0.out x6_1 p499 q499
            cases e499
            replace hx499_0 := Zl HB.out hx499_0
            replace hx499_1 := Zl HB.out hx499_1
            have HR499_1 := Aside0.mk hi499_1
            have HC499_1 := Aside0.mk hl499_1
            clear hi499_1 hl499_1
            replace p499 := eq_true p499
            replace q499 := eq_true q499
            have p500 : 0 ≤ (x7_1 : Int) := of_decide_eq_true Za
            have q500 : x7_1 < (l1_0.length : Int) := of_decide_eq_true Za
            obtain ⟨ad500, A500_1, c500_1, e500, hx500_0, hx500_1, hl500_1, hi500_1⟩ := at_T31 HR1_0.out x7_1 p500 q500
            cases e500
            replace hx500_0 := Zl HB.out hx500_0
            replace hx500_1 := Zl HB.out hx500_1
            have HR500_1 := Aside0.mk hi500_1
            have HC500_1 := Aside0.mk hl500_1
            clear hi500_1 hl500_1
            replace p500 := eq_true p500
            replace q500 := eq_true q500
            go_wp2
            repeat (go_quiet (fail); try go_wp2)
            go_meet
            case rel => exact ⟨_, (decide (((rd_T31 l0_0 x6_1).f0) < ((rd_T31 l1_0 x7_1).f0))), (by first | rfl | (simp; done) | (simp [*]; done)), H', ⟨by have := HK1.out; have := HJ4.out; first | omega | exact Nat.le_refl _⟩, ⟨ZR HO_5.out⟩, ⟨Zb BK497.out⟩, ⟨Zb BK498.out⟩, ⟨Zh2 HB.out GE497.out GE498.out⟩⟩
           ·rw [if_neg c20] at H
            exact absurd H (by simp)
          ·rw [if_neg c19] at H
           exact absurd H (by simp)
         ·rw [if_neg c18] at H
          exact absurd H (by simp)
        ·rw [if_neg c17] at H
         have c17b0 : decide (x6_1 < (l0_0.length : Int)) = false := decide_eq_false c17
         clear c17
         have H' := Aside0.mk H
         clear H
         have hnb24 := NB498_497.out
         have hnc24 := NB497_498.out
         have hcz25_0 := Zcl BK498.out 0 rfl
         have hfz25_0 := blk_frozen BK498.out 0
         have hcz26_0 := Zcl BK497.out 0 rfl
         have hfz26_0 := blk_frozen BK497.out 0
         go_wp2
         repeat (go_quiet (fail); try go_wp2)
         go_meet
         case rel => exact ⟨_, (false), (by first | rfl | (simp; done) | (simp [*]; done)), H', ⟨by have := HK1.out; have := HJ4.out; first | omega | exact Nat.le_refl _⟩, ⟨ZR HO_5.out⟩, ⟨Zb BK497.out⟩, ⟨Zb BK498.out⟩, ⟨Zh2 HB.out GE497.out GE498.out⟩⟩
      case rest =>
       clear HC13
       try clear c1
       try clear c2
       try clear p2
       try clear c3
       try clear c4
       try clear p4
       try clear q4
       try clear hx4
       try clear c5
       try clear p5
       try clear q5
       try clear hx5
       try clear c6
       try clear c6b0
       try clear c7
       try clear c9
       try clear c12
       try clear c14
       try clear c14b0
       try clear c15
       try clear c17
       try clear c17b0
       try clear c18
       try clear c18b0
       try clear c19
       try clear c19b0
       try clear c20
       try clear c20b0
       try clear c21
       try clear c24
       try clear hcz10_0
       try clear hcz11_0
       try clear hcz16_0
       try clear hcz22_0
       try clear hcz23_0
       try clear hcz25_0
       try clear hcz26_0
       try clear hcz8_0
       try clear hfz10_0
       try clear hfz11_0
       try clear hfz16_0
       try clear hfz22_0
       try clear hfz23_0
       try clear hfz25_0
       try clear hfz26_0
       try clear hfz8_0
       try clear hx499_0
       try clear hx499_1
       try clear hx500_0
       try clear hx500_1
       try clear p2
       try clear p499
       try clear p500
       try clear q499
       try clear q500
       obtain ⟨kq, x47_12, rfl, HA, HJ12, HO_5, BK497, BK498, HB⟩ := hcut
       cases kq with
       | zero => exact absurd HA.out (by simp [debuggerref25_Changed.j2])
       | succ kj12 =>
        have H := HA.out
        clear HA
        simp only [debuggerref25_Changed.j2] at H
        by_cases c27 : x47_12 = true
        ·subst c27
         have H1 : (if 0 ≤ x6_1 then (if x6_1 < (l0_0.length : Int) then (if x5_1.length < 17592186044416 then (debuggerref25_Changed.l0 kj12 (x5_1 ++ [(rd_T31 l0_0 x6_1).f0]) (wrap64 (x6_1 + 1)) x7_1 l0_0 l1_0) else (none)) else (none)) else (none)) = some r := by rw [if_pos rfl] at H; exact H
         clear H
         have H := H1
         clear H1
         by_cases c28 : 0 ≤ x6_1
         ·rw [if_pos c28] at H
          have c28b0 : decide (0 ≤ x6_1) = true := decide_eq_true c28
          clear c28
          by_cases c29 : x6_1 < (l0_0.length : Int)
          ·rw [if_pos c29] at H
           have c29b0 : decide (x6_1 < (l0_0.length : Int)) = true := decide_eq_true c29
           clear c29
           by_cases c30 : x5_1.length < 17592186044416
           ·rw [if_pos c30] at H
            have LMc30 := Aside0.mk c30
            clear c30
            obtain ⟨y502, hy502⟩ : ∃ y_ : List Int, y_ = (x5_1 ++ [(rd_T31 l0_0 x6_1).f0]) := ⟨_, rfl⟩
            replace H : (debuggerref25_Changed.l0 kj12 y502 (wrap64 (x6_1 + 1)) x7_1 l0_0 l1_0) = some r := by first | (rw [hy502]; with_reducible exact H) | (have H2_ := (Option.bind_some _ _).symm.trans H; rw [hy502]; with_reducible exact H2_) | (have H2_ := (Option.bind_some _ _).symm.trans H; with_reducible exact H2_) | with_reducible exact H | (rw [hy502]; exact H) | exact H
            have Ny502 := Aside0.mk hy502
            clear hy502
            have H' := Aside0.mk H
            clear H
            have hnb31 := NB497_498.out
            have hnc31 := NB498_497.out
            have hcz32_0 := Zcl BK497.out 0 rfl
            have hfz32_0 := blk_frozen BK497.out 0
            have p501 : 0 ≤ (x6_1 : Int) := of_decide_eq_true Za
            have q501 : x6_1 < (l0_0.length : Int) := of_decide_eq_true Za
            obtain ⟨ad501, A501_1, c501_1, e501, hx501_0, hx501_1, hl501_1, hi501_1⟩ := at_T31 HR0_0.out x6_1 p501 q501
            cases e501
            replace hx501_0 := Zl HB.out hx501_0
            replace hx501_1 := Zl HB.out hx501_1
            have HR501_1 := Aside0.mk hi501_1
            have HC501_1 := Aside0.mk hl501_1
            clear hi501_1 hl501_1
            replace p501 := eq_true p501
            replace q501 := eq_true q501
            go_wp2_with (first | ((with_reducible refine gate_builtin (b := .append) (xs := #[(.tmp 75), .tmp 82]) rfl ?_); (try (refine gate_guard (by rfl) ?_; dsimp only)); at_builtin; refine Kd.R_append (Kd.int .i64) (w0 := w) w.heap.size rfl (.tmp 75) (.tmp 82) 25 3 (.int .i64 0) 8 rfl Try.underlying25 info3 rfl (by decide) (by omega) u5 x5_1 ((rd_T31 l0_0 x6_1).f0) [.int .i64 ((rd_T31 l0_0 x6_1).f0)] (fun _ => True) (fun _ => False) rfl rfl ?aP (fun _ hk => hk.elim) ?aF ?aO ?aB ?aS ?aL ?_; (case aP => exact rfl); (case aB => exact (Zh2 HB.out GE497.out GE498.out)); (case aF => exact (fun _ _ => trivial)); (case aO => exact (ZR HO_5.out)); (case aS => exact (below_size (Zh2 HB.out GE497.out GE498.out))); (case aL => have := LMc30.out; omega); intro v503 w33 ho hb hg hat; rw [← Ny502.out] at ho; have n0_ := Zw (blk_grown (g := gb497) (o := .cells #[.slice (some ad501) l0_0.length c0_0] 24 (0, 0)) (Zb BK497.out) hg (Kd.R_ne HO_5.out BK497.out (by decide))); have n1_ := Zw (blk_grown (g := gb498) (o := .cells #[.slice A1_0 l1_0.length c1_0] 24 (0, 0)) (Zb BK498.out) hg (Kd.R_ne HO_5.out BK498.out (by decide))); have n2_ := Zw (hb); have n3_ := Zw (ho); clear BK497; clear BK498; clear HB; clear HO_5; have BK497 := n0_; have BK498 := n1_; have HB := n2_; have HO504 := n3_; clear n0_ n1_ n2_ n3_; clear ho hb hg hat))
            repeat (go_quiet (first | ((with_reducible refine gate_builtin (b := .append) (xs := #[(.tmp 75), .tmp 82]) rfl ?_); (try (refine gate_guard (by rfl) ?_; dsimp only)); at_builtin; refine Kd.R_append (Kd.int .i64) (w0 := w) w.heap.size rfl (.tmp 75) (.tmp 82) 25 3 (.int .i64 0) 8 rfl Try.underlying25 info3 rfl (by decide) (by omega) u5 x5_1 ((rd_T31 l0_0 x6_1).f0) [.int .i64 ((rd_T31 l0_0 x6_1).f0)] (fun _ => True) (fun _ => False) rfl rfl ?aP (fun _ hk => hk.elim) ?aF ?aO ?aB ?aS ?aL ?_; (case aP => exact rfl); (case aB => exact (Zh2 HB.out GE497.out GE498.out)); (case aF => exact (fun _ _ => trivial)); (case aO => exact (ZR HO_5.out)); (case aS => exact (below_size (Zh2 HB.out GE497.out GE498.out))); (case aL => have := LMc30.out; omega); intro v503 w33 ho hb hg hat; rw [← Ny502.out] at ho; have n0_ := Zw (blk_grown (g := gb497) (o := .cells #[.slice (some ad501) l0_0.length c0_0] 24 (0, 0)) (Zb BK497.out) hg (Kd.R_ne HO_5.out BK497.out (by decide))); have n1_ := Zw (blk_grown (g := gb498) (o := .cells #[.slice A1_0 l1_0.length c1_0] 24 (0, 0)) (Zb BK498.out) hg (Kd.R_ne HO_5.out BK498.out (by decide))); have n2_ := Zw (hb); have n3_ := Zw (ho); clear BK497; clear BK498; clear HB; clear HO_5; have BK497 := n0_; have BK498 := n1_; have HB := n2_; have HO504 := n3_; clear n0_ n1_ n2_ n3_; clear ho hb hg hat)); try go_wp2_with (first | ((with_reducible refine gate_builtin (b := .append) (xs := #[(.tmp 75), .tmp 82]) rfl ?_); (try (refine gate_guard (by rfl) ?_; dsimp only)); at_builtin; refine Kd.R_append (Kd.int .i64) (w0 := w) w.heap.size rfl (.tmp 75) (.tmp 82) 25 3 (.int .i64 0) 8 rfl Try.underlying25 info3 rfl (by decide) (by omega) u5 x5_1 ((rd_T31 l0_0 x6_1).f0) [.int .i64 ((rd_T31 l0_0 x6_1).f0)] (fun _ => True) (fun _ => False) rfl rfl ?aP (fun _ hk => hk.elim) ?aF ?aO ?aB ?aS ?aL ?_; (case aP => exact rfl); (case aB => exact (Zh2 HB.out GE497.out GE498.out)); (case aF => exact (fun _ _ => trivial)); (case aO => exact (ZR HO_5.out)); (case aS => exact (below_size (Zh2 HB.out GE497.out GE498.out))); (case aL => have := LMc30.out; omega); intro v503 w33 ho hb hg hat; rw [← Ny502.out] at ho; have n0_ := Zw (blk_grown (g := gb497) (o := .cells #[.slice (some ad501) l0_0.length c0_0] 24 (0, 0)) (Zb BK497.out) hg (Kd.R_ne HO_5.out BK497.out (by decide))); have n1_ := Zw (blk_grown (g := gb498) (o := .cells #[.slice A1_0 l1_0.length c1_0] 24 (0, 0)) (Zb BK498.out) hg (Kd.R_ne HO_5.out BK498.out (by decide))); have n2_ := Zw (hb); have n3_ := Zw (ho); clear BK497; clear BK498; clear HB; clear HO_5; have BK497 := n0_; have BK498 := n1_; have HB := n2_; have HO504 := n3_; clear n0_ n1_ n2_ n3_; clear ho hb hg hat)))
            go_roundg kj12
            case measure => have := HK1.out; have := HJ4.out; have := HJ12.out; omega
            case rel => exact ⟨(y502), (wrap64 (x6_1 + 1)), (x7_1), (by first | rfl | (simp; done) | (simp [*]; done)), (by first | rfl | (simp; done) | (simp [*]; done)), H', ⟨by have := HK1.out; have := HJ4.out; have := HJ12.out; omega⟩, ⟨ZR HO504.out⟩, ⟨Zb BK497.out⟩, ⟨Zb BK498.out⟩, ⟨Zh2 HB.out GE497.out GE498.out⟩⟩
           ·rw [if_neg c30] at H
            exact absurd H (by simp)
          ·rw [if_neg c29] at H
           exact absurd H (by simp)
         ·rw [if_neg c28] at H
          exact absurd H (by simp)
        ·replace c27 := Bool.eq_false_iff.mpr c27
         subst c27
         have H1 : (if x6_1 ≥ (l0_0.length : Int) then (debuggerref25_Changed.j3 kj12 x5_1 x6_1 x7_1 true l0_0 l1_0) else (if 0 ≤ x7_1 then (if x7_1 < (l1_0.length : Int) then (if 0 ≤ x6_1 then (if x6_1 < (l0_0.length : Int) then (debuggerref25_Changed.j3 kj12 x5_1 x6_1 x7_1 (decide (((rd_T31 l1_0 x7_1).f0) < ((rd_T31 l0_0 x6_1).f0))) l0_0 l1_0) else (none)) else (none)) else (none)) else (none))) = some r := by rw [if_neg (show ¬ (false = true) by decide)] at H; exact H
         clear H
         have H := H1
         clear H1
         have HC34 := Aside0.mk H
         clear H
         go_upto_region 11 with (fail)
         repeat (go_quiet (fail); go_upto_region 11 with (fail))
         go_cut [86] (fun v86 wc => ∃ (kq : Nat) (x86_33 : Bool), v86 = .bool x86_33 ∧ Aside0 (debuggerref25_Changed.j3 kq x5_1 x6_1 x7_1 x86_33 l0_0 l1_0 = some r) ∧ Aside0 (kq ≤ kj12) ∧ Aside0 (Kd.R (Kd.int .i64) 3 wc w.heap.size (fun _ => True) u5 x5_1) ∧ Aside0 (wc.heap[gb497]? = some (.cells #[(.slice A0_0 l0_0.length c0_0)] 24 (0, 0))) ∧ Aside0 (wc.heap[gb498]? = some (.cells #[(.slice A1_0 l1_0.length c1_0)] 24 (0, 0))) ∧ Aside0 (Below w.heap.size w wc))
         case first =>
          have H := HC34.out
          clear HC34
          by_cases c35 : x6_1 ≥ (l0_0.length : Int)
          ·rw [if_pos c35] at H
           have c35b0 : decide ((l0_0.length : Int) ≤ x6_1) = true := decide_eq_true c35
           clear c35
           (first | rw [c35b0] | (simp only [i64_w, i32_w]; rw [c35b0]) | skip)
           have H' := Aside0.mk H
           clear H
           have hnb36 := NB497_498.out
           have hnc36 := NB498_497.out
           have hcz37_0 := Zcl BK497.out 0 rfl
           have hfz37_0 := blk_frozen BK497.out 0
           go_wp2
           repeat (go_quiet (fail); try go_wp2)
           go_meet
           case rel => exact ⟨_, (true), (by first | rfl | (simp; done) | (simp [*]; done)), H', ⟨by have := HK1.out; have := HJ4.out; have := HJ12.out; first | omega | exact Nat.le_refl _⟩, ⟨ZR HO_5.out⟩, ⟨Zb BK497.out⟩, ⟨Zb BK498.out⟩, ⟨Zh2 HB.out GE497.out GE498.out⟩⟩
          ·rw [if_neg c35] at H
           have c35b0 : decide ((l0_0.length : Int) ≤ x6_1) = false := decide_eq_false c35
           clear c35
           (first | rw [c35b0] | (simp only [i64_w, i32_w]; rw [c35b0]) | skip)
           by_cases c38 : 0 ≤ x7_1
           ·rw [if_pos c38] at H
            have c38b0 : decide (0 ≤ x7_1) = true := decide_eq_true c38
            clear c38
            by_cases c39 : x7_1 < (l1_0.length : Int)
            ·rw [if_pos c39] at H
             have c39b0 : decide (x7_1 < (l1_0.length : Int)) = true := decide_eq_true c39
             clear c39
             by_cases c40 : 0 ≤ x6_1
             ·rw [if_pos c40] at H
              have c40b0 : decide (0 ≤ x6_1) = true := decide_eq_true c40
              clear c40
              by_cases c41 : x6_1 < (l0_0.length : Int)
              ·rw [if_pos c41] at H
               have c41b0 : decide (x6_1 < (l0_0.length : Int)) = true := decide_eq_true c41
               clear c41
               have H' := Aside0.mk H
               clear H
               have hnb42 := NB497_498.out
               have hnc42 := NB498_497.out
               have hcz43_0 := Zcl BK497.out 0 rfl
               have hfz43_0 := blk_frozen BK497.out 0
               have hcz44_0 := Zcl BK498.out 0 rfl
               have hfz44_0 := blk_frozen BK498.out 0
               have p505 : 0 ≤ (x7_1 : Int) := of_decide_eq_true Za
               have q505 : x7_1 < (l1_0.length : Int) := of_decide_eq_true Za
               obtain ⟨ad505, A505_1, c505_1, e505, hx505_0, hx505_1, hl505_1, hi505_1⟩ := at_T31 HR1_0.out x7_1 p505 q505
               cases e505
               replace hx505_0 := Zl HB.out hx505_0
               replace hx505_1 := Zl HB.out hx505_1
               have HR505_1 := Aside0.mk hi505_1
               have HC505_1 := Aside0.mk hl505_1
               clear hi505_1 hl505_1
               replace p505 := eq_true p505
               replace q505 := eq_true q505
               have p506 : 0 ≤ (x6_1 : Int) := of_decide_eq_true Za
               have q506 : x6_1 < (l0_0.length : Int) := of_decide_eq_true Za
               obtain ⟨ad506, A506_1, c506_1, e506, hx506_0, hx506_1, hl506_1, hi506_1⟩ := at_T31 HR0_0.out x6_1 p506 q506
               cases e506
               replace hx506_0 := Zl HB.out hx506_0
               replace hx506_1 := Zl HB.out hx506_1
               have HR506_1 := Aside0.mk hi506_1
               have HC506_1 := Aside0.mk hl506_1
               clear hi506_1 hl506_1
               replace p506 := eq_true p506
               replace q506 := eq_true q506
               go_wp2
               repeat (go_quiet (fail); try go_wp2)
               go_meet
               case rel => exact ⟨_, (decide (((rd_T31 l1_0 x7_1).f0) < ((rd_T31 l0_0 x6_1).f0))), (by first | rfl | (simp; done) | (simp [*]; done)), H', ⟨by have := HK1.out; have := HJ4.out; have := HJ12.out; first | omega | exact Nat.le_refl _⟩, ⟨ZR HO_5.out⟩, ⟨Zb BK497.out⟩, ⟨Zb BK498.out⟩, ⟨Zh2 HB.out GE497.out GE498.out⟩⟩
              ·rw [if_neg c41] at H
               exact absurd H (by simp)
             ·rw [if_neg c40] at H
              exact absurd H (by simp)
            ·rw [if_neg c39] at H
             exact absurd H (by simp)
           ·rw [if_neg c38] at H
            exact absurd H (by simp)
         case rest =>
          clear HC34
          try clear c1
          try clear c2
          try clear p2
          try clear c3
          try clear c4
          try clear p4
          try clear q4
          try clear hx4
          try clear c5
          try clear p5
          try clear q5
          try clear hx5
          try clear c6
          try clear c6b0
          try clear p6
          try clear c7
          try clear c9
          try clear c12
          try clear c14
          try clear c14b0
          try clear c15
          try clear c17
          try clear c17b0
          try clear c18
          try clear c18b0
          try clear c19
          try clear c19b0
          try clear c20
          try clear c20b0
          try clear c21
          try clear c24
          try clear c27
          try clear c28
          try clear c28b0
          try clear c29
          try clear c29b0
          try clear c30
          try clear c31
          try clear c35
          try clear c35b0
          try clear c36
          try clear c38
          try clear c38b0
          try clear c39
          try clear c39b0
          try clear c40
          try clear c40b0
          try clear c41
          try clear c41b0
          try clear c42
          try clear hcz10_0
          try clear hcz11_0
          try clear hcz16_0
          try clear hcz22_0
          try clear hcz23_0
          try clear hcz25_0
          try clear hcz26_0
          try clear hcz32_0
          try clear hcz37_0
          try clear hcz43_0
          try clear hcz44_0
          try clear hcz8_0
          try clear hfz10_0
          try clear hfz11_0
          try clear hfz16_0
          try clear hfz22_0
          try clear hfz23_0
          try clear hfz25_0
          try clear hfz26_0
          try clear hfz32_0
          try clear hfz37_0
          try clear hfz43_0
          try clear hfz44_0
          try clear hfz8_0
          try clear hx499_0
          try clear hx499_1
          try clear hx500_0
          try clear hx500_1
          try clear hx501_0
          try clear hx501_1
          try clear hx505_0
          try clear hx505_1
          try clear hx506_0
          try clear hx506_1
          try clear p2
          try clear p4
          try clear p499
          try clear p5
          try clear p500
          try clear p501
          try clear p505
          try clear p506
          try clear q4
          try clear q499
          try clear q5
          try clear q500
          try clear q501
          try clear q505
          try clear q506
          obtain ⟨kq, x86_33, rfl, HA, HJ33, HO_5, BK497, BK498, HB⟩ := hcut
          cases kq with
          | zero => exact absurd HA.out (by simp [debuggerref25_Changed.j3])
          | succ kj33 =>
           have H := HA.out
           clear HA
           simp only [debuggerref25_Changed.j3] at H
           by_cases c45 : x86_33 = true
           ·subst c45
            have H1 : (if 0 ≤ x7_1 then (if x7_1 < (l1_0.length : Int) then (if x5_1.length < 17592186044416 then (debuggerref25_Changed.l0 kj33 (x5_1 ++ [(rd_T31 l1_0 x7_1).f0]) x6_1 (wrap64 (x7_1 + 1)) l0_0 l1_0) else (none)) else (none)) else (none)) = some r := by rw [if_pos rfl] at H; exact H
            clear H
            have H := H1
            clear H1
            by_cases c46 : 0 ≤ x7_1
            ·rw [if_pos c46] at H
             have c46b0 : decide (0 ≤ x7_1) = true := decide_eq_true c46
             clear c46
             by_cases c47 : x7_1 < (l1_0.length : Int)
             ·rw [if_pos c47] at H
              have c47b0 : decide (x7_1 < (l1_0.length : Int)) = true := decide_eq_true c47
              clear c47
              by_cases c48 : x5_1.length < 17592186044416
              ·rw [if_pos c48] at H
               have LMc48 := Aside0.mk c48
               clear c48
               obtain ⟨y508, hy508⟩ : ∃ y_ : List Int, y_ = (x5_1 ++ [(rd_T31 l1_0 x7_1).f0]) := ⟨_, rfl⟩
               replace H : (debuggerref25_Changed.l0 kj33 y508 x6_1 (wrap64 (x7_1 + 1)) l0_0 l1_0) = some r := by first | (rw [hy508]; with_reducible exact H) | (have H2_ := (Option.bind_some _ _).symm.trans H; rw [hy508]; with_reducible exact H2_) | (have H2_ := (Option.bind_some _ _).symm.trans H; with_reducible exact H2_) | with_reducible exact H | (rw [hy508]; exact H) | exact H
               have Ny508 := Aside0.mk hy508
               clear hy508
               have H' := Aside0.mk H
               clear H
               have hnb49 := NB498_497.out
               have hnc49 := NB497_498.out
               have hcz50_0 := Zcl BK498.out 0 rfl
               have hfz50_0 := blk_frozen BK498.out 0
               have p507 : 0 ≤ (x7_1 : Int) := of_decide_eq_true Za
               have q507 : x7_1 < (l1_0.length : Int) := of_decide_eq_true Za
               obtain ⟨ad507, A507_1, c507_1, e507, hx507_0, hx507_1, hl507_1, hi507_1⟩ := at_T31 HR1_0.out x7_1 p507 q507
               cases e507
               replace hx507_0 := Zl HB.out hx507_0
               replace hx507_1 := Zl HB.out hx507_1
               have HR507_1 := Aside0.mk hi507_1
               have HC507_1 := Aside0.mk hl507_1
               clear hi507_1 hl507_1
               replace p507 := eq_true p507
               replace q507 := eq_true q507
               go_wp2_with (first | ((with_reducible refine gate_builtin (b := .append) (xs := #[(.tmp 107), .tmp 114]) rfl ?_); (try (refine gate_guard (by rfl) ?_; dsimp only)); at_builtin; refine Kd.R_append (Kd.int .i64) (w0 := w) w.heap.size rfl (.tmp 107) (.tmp 114) 25 3 (.int .i64 0) 8 rfl Try.underlying25 info3 rfl (by decide) (by omega) u5 x5_1 ((rd_T31 l1_0 x7_1).f0) [.int .i64 ((rd_T31 l1_0 x7_1).f0)] (fun _ => True) (fun _ => False) rfl rfl ?aP (fun _ hk => hk.elim) ?aF ?aO ?aB ?aS ?aL ?_; (case aP => exact rfl); (case aB => exact (Zh2 HB.out GE497.out GE498.out)); (case aF => exact (fun _ _ => trivial)); (case aO => exact (ZR HO_5.out)); (case aS => exact (below_size (Zh2 HB.out GE497.out GE498.out))); (case aL => have := LMc48.out; omega); intro v509 w51 ho hb hg hat; rw [← Ny508.out] at ho; have n0_ := Zw (blk_grown (g := gb497) (o := .cells #[.slice A0_0 l0_0.length c0_0] 24 (0, 0)) (Zb BK497.out) hg (Kd.R_ne HO_5.out BK497.out (by decide))); have n1_ := Zw (blk_grown (g := gb498) (o := .cells #[.slice (some ad507) l1_0.length c1_0] 24 (0, 0)) (Zb BK498.out) hg (Kd.R_ne HO_5.out BK498.out (by decide))); have n2_ := Zw (hb); have n3_ := Zw (ho); clear BK497; clear BK498; clear HB; clear HO_5; have BK497 := n0_; have BK498 := n1_; have HB := n2_; have HO510 := n3_; clear n0_ n1_ n2_ n3_; clear ho hb hg hat))
               repeat (go_quiet (first | ((with_reducible refine gate_builtin (b := .append) (xs := #[(.tmp 107), .tmp 114]) rfl ?_); (try (refine gate_guard (by rfl) ?_; dsimp only)); at_builtin; refine Kd.R_append (Kd.int .i64) (w0 := w) w.heap.size rfl (.tmp 107) (.tmp 114) 25 3 (.int .i64 0) 8 rfl Try.underlying25 info3 rfl (by decide) (by omega) u5 x5_1 ((rd_T31 l1_0 x7_1).f0) [.int .i64 ((rd_T31 l1_0 x7_1).f0)] (fun _ => True) (fun _ => False) rfl rfl ?aP (fun _ hk => hk.elim) ?aF ?aO ?aB ?aS ?aL ?_; (case aP => exact rfl); (case aB => exact (Zh2 HB.out GE497.out GE498.out)); (case aF => exact (fun _ _ => trivial)); (case aO => exact (ZR HO_5.out)); (case aS => exact (below_size (Zh2 HB.out GE497.out GE498.out))); (case aL => have := LMc48.out; omega); intro v509 w51 ho hb hg hat; rw [← Ny508.out] at ho; have n0_ := Zw (blk_grown (g := gb497) (o := .cells #[.slice A0_0 l0_0.length c0_0] 24 (0, 0)) (Zb BK497.out) hg (Kd.R_ne HO_5.out BK497.out (by decide))); have n1_ := Zw (blk_grown (g := gb498) (o := .cells #[.slice (some ad507) l1_0.length c1_0] 24 (0, 0)) (Zb BK498.out) hg (Kd.R_ne HO_5.out BK498.out (by decide))); have n2_ := Zw (hb); have n3_ := Zw (ho); clear BK497; clear BK498; clear HB; clear HO_5; have BK497 := n0_; have BK498 := n1_; have HB := n2_; have HO510 := n3_; clear n0_ n1_ n2_ n3_; clear ho hb hg hat)); try go_wp2_with (first | ((with_reducible refine gate_builtin (b := .append) (xs := #[(.tmp 107), .tmp 114]) rfl ?_); (try (refine gate_guard (by rfl) ?_; dsimp only)); at_builtin; refine Kd.R_append (Kd.int .i64) (w0 := w) w.heap.size rfl (.tmp 107) (.tmp 114) 25 3 (.int .i64 0) 8 rfl Try.underlying25 info3 rfl (by decide) (by omega) u5 x5_1 ((rd_T31 l1_0 x7_1).f0) [.int .i64 ((rd_T31 l1_0 x7_1).f0)] (fun _ => True) (fun _ => False) rfl rfl ?aP (fun _ hk => hk.elim) ?aF ?aO ?aB ?aS ?aL ?_; (case aP => exact rfl); (case aB => exact (Zh2 HB.out GE497.out GE498.out)); (case aF => exact (fun _ _ => trivial)); (case aO => exact (ZR HO_5.out)); (case aS => exact (below_size (Zh2 HB.out GE497.out GE498.out))); (case aL => have := LMc48.out; omega); intro v509 w51 ho hb hg hat; rw [← Ny508.out] at ho; have n0_ := Zw (blk_grown (g := gb497) (o := .cells #[.slice A0_0 l0_0.length c0_0] 24 (0, 0)) (Zb BK497.out) hg (Kd.R_ne HO_5.out BK497.out (by decide))); have n1_ := Zw (blk_grown (g := gb498) (o := .cells #[.slice (some ad507) l1_0.length c1_0] 24 (0, 0)) (Zb BK498.out) hg (Kd.R_ne HO_5.out BK498.out (by decide))); have n2_ := Zw (hb); have n3_ := Zw (ho); clear BK497; clear BK498; clear HB; clear HO_5; have BK497 := n0_; have BK498 := n1_; have HB := n2_; have HO510 := n3_; clear n0_ n1_ n2_ n3_; clear ho hb hg hat)))
               go_roundg kj33
               case measure => have := HK1.out; have := HJ4.out; have := HJ12.out; have := HJ33.out; omega
               case rel => exact ⟨(y508), (x6_1), (wrap64 (x7_1 + 1)), (by first | rfl | (simp; done) | (simp [*]; done)), (by first | rfl | (simp; done) | (simp [*]; done)), H', ⟨by have := HK1.out; have := HJ4.out; have := HJ12.out; have := HJ33.out; omega⟩, ⟨ZR HO510.out⟩, ⟨Zb BK497.out⟩, ⟨Zb BK498.out⟩, ⟨Zh2 HB.out GE497.out GE498.out⟩⟩
              ·rw [if_neg c48] at H
               exact absurd H (by simp)
             ·rw [if_neg c47] at H
              exact absurd H (by simp)
            ·rw [if_neg c46] at H
             exact absurd H (by simp)
           ·replace c45 := Bool.eq_false_iff.mpr c45
            subst c45
            have H1 : (if 0 ≤ x6_1 then (if x6_1 < (l0_0.length : Int) then (if 0 ≤ x7_1 then (if x7_1 < (l1_0.length : Int) then ((debuggerref25_Ints.f kj33 ((rd_T31 l0_0 x6_1).f1) ((rd_T31 l1_0 x7_1).f1)).bind fun t513 => (if t513 = true then (debuggerref25_Changed.l0 kj33 x5_1 (wrap64 (x6_1 + 1)) (wrap64 (x7_1 + 1)) l0_0 l1_0) else (if x5_1.length < 17592186044416 then (debuggerref25_Changed.l0 kj33 (x5_1 ++ [(rd_T31 l0_0 x6_1).f0]) (wrap64 (x6_1 + 1)) (wrap64 (x7_1 + 1)) l0_0 l1_0) else (none)))) else (none)) else (none)) else (none)) else (none)) = some r := by rw [if_neg (show ¬ (false = true) by decide)] at H; exact H
            clear H
            have H := H1
            clear H1
            by_cases c52 : 0 ≤ x6_1
            ·rw [if_pos c52] at H
             have c52b0 : decide (0 ≤ x6_1) = true := decide_eq_true c52
             clear c52
             by_cases c53 : x6_1 < (l0_0.length : Int)
             ·rw [if_pos c53] at H
              have c53b0 : decide (x6_1 < (l0_0.length : Int)) = true := decide_eq_true c53
              clear c53
              by_cases c54 : 0 ≤ x7_1
              ·rw [if_pos c54] at H
               have c54b0 : decide (0 ≤ x7_1) = true := decide_eq_true c54
               clear c54
               by_cases c55 : x7_1 < (l1_0.length : Int)
               ·rw [if_pos c55] at H
                have c55b0 : decide (x7_1 < (l1_0.length : Int)) = true := decide_eq_true c55
                clear c55
                replace H := Option.bind_eq_some_iff.mp H
                obtain ⟨t513, A560, H⟩ := H
                replace H : (if t513 = true then (debuggerref25_Changed.l0 kj33 x5_1 (wrap64 (x6_1 + 1)) (wrap64 (x7_1 + 1)) l0_0 l1_0) else (if x5_1.length < 17592186044416 then (debuggerref25_Changed.l0 kj33 (x5_1 ++ [(rd_T31 l0_0 x6_1).f0]) (wrap64 (x6_1 + 1)) (wrap64 (x7_1 + 1)) l0_0 l1_0) else (none))) = some r := H
                have A56 := Aside0.mk A560
                clear A560
                by_cases c57 : t513 = true
                ·subst c57
                 have H1 : (debuggerref25_Changed.l0 kj33 x5_1 (wrap64 (x6_1 + 1)) (wrap64 (x7_1 + 1)) l0_0 l1_0) = some r := by rw [if_pos rfl] at H; exact H
                 clear H
                 have H := H1
                 clear H1
                 have H' := Aside0.mk H
                 clear H
                 have hnb58 := NB497_498.out
                 have hnc58 := NB498_497.out
                 have hcz59_0 := Zcl BK497.out 0 rfl
                 have hfz59_0 := blk_frozen BK497.out 0
                 have p511 : 0 ≤ (x6_1 : Int) := of_decide_eq_true Za
                 have q511 : x6_1 < (l0_0.length : Int) := of_decide_eq_true Za
                 obtain ⟨ad511, A511_1, c511_1, e511, hx511_0, hx511_1, hl511_1, hi511_1⟩ := at_T31 HR0_0.out x6_1 p511 q511
                 cases e511
                 replace hx511_0 := Zl HB.out hx511_0
                 replace hx511_1 := Zl HB.out hx511_1
                 have HR511_1 := Aside0.mk hi511_1
                 have HC511_1 := Aside0.mk hl511_1
                 clear hi511_1 hl511_1
                 replace p511 := eq_true p511
                 replace q511 := eq_true q511
                 have hcz60_0 := Zcl BK498.out 0 rfl
                 have hfz60_0 := blk_frozen BK498.out 0
                 have p512 : 0 ≤ (x7_1 : Int) := of_decide_eq_true Za
                 have q512 : x7_1 < (l1_0.length : Int) := of_decide_eq_true Za
                 obtain ⟨ad512, A512_1, c512_1, e512, hx512_0, hx512_1, hl512_1, hi512_1⟩ := at_T31 HR1_0.out x7_1 p512 q512
                 cases e512
                 replace hx512_0 := Zl HB.out hx512_0
                 replace hx512_1 := Zl HB.out hx512_1
                 have HR512_1 := Aside0.mk hi512_1
                 have HC512_1 := Aside0.mk hl512_1
                 clear hi512_1 hl512_1
                 replace p512 := eq_true p512
                 replace q512 := eq_true q512
                 go_wp2_with (first | (go_at_call 25; (with_reducible refine (debuggerref25_Ints.calls kj33 _ _ ((rd_T31 l0_0 x6_1).f1) _ _ ((rd_T31 l1_0 x7_1).f1) true _ ?side1 ?side2 ?side3 ?side4 A56.out).mono ?_); (case side1 => exact Zc (Kd.C_below HR511_1.out HB.out)); (case side2 => exact HC511_1.out); (case side3 => exact Zc (Kd.C_below HR512_1.out HB.out)); (case side4 => exact HC512_1.out); rintro e w' ⟨rfl, ⟨nd, rfl⟩⟩; (try first | exact ⟨rfl, _, World.drewN_drewN _ _ _⟩ | exact ⟨rfl, _, Eq.trans (World.drewN_drewN _ _ _) (congrArg (World.drewN _) (Nat.add_assoc _ _ _))⟩)))
                 repeat (go_quiet (first | (go_at_call 25; (with_reducible refine (debuggerref25_Ints.calls kj33 _ _ ((rd_T31 l0_0 x6_1).f1) _ _ ((rd_T31 l1_0 x7_1).f1) true _ ?side1 ?side2 ?side3 ?side4 A56.out).mono ?_); (case side1 => exact Zc (Kd.C_below HR511_1.out HB.out)); (case side2 => exact HC511_1.out); (case side3 => exact Zc (Kd.C_below HR512_1.out HB.out)); (case side4 => exact HC512_1.out); rintro e w' ⟨rfl, ⟨nd, rfl⟩⟩; (try first | exact ⟨rfl, _, World.drewN_drewN _ _ _⟩ | exact ⟨rfl, _, Eq.trans (World.drewN_drewN _ _ _) (congrArg (World.drewN _) (Nat.add_assoc _ _ _))⟩))); try go_wp2_with (first | (go_at_call 25; (with_reducible refine (debuggerref25_Ints.calls kj33 _ _ ((rd_T31 l0_0 x6_1).f1) _ _ ((rd_T31 l1_0 x7_1).f1) true _ ?side1 ?side2 ?side3 ?side4 A56.out).mono ?_); (case side1 => exact Zc (Kd.C_below HR511_1.out HB.out)); (case side2 => exact HC511_1.out); (case side3 => exact Zc (Kd.C_below HR512_1.out HB.out)); (case side4 => exact HC512_1.out); rintro e w' ⟨rfl, ⟨nd, rfl⟩⟩; (try first | exact ⟨rfl, _, World.drewN_drewN _ _ _⟩ | exact ⟨rfl, _, Eq.trans (World.drewN_drewN _ _ _) (congrArg (World.drewN _) (Nat.add_assoc _ _ _))⟩))))
                 go_roundg kj33
                 case measure => have := HK1.out; have := HJ4.out; have := HJ12.out; have := HJ33.out; omega
                 case rel => exact ⟨(x5_1), (wrap64 (x6_1 + 1)), (wrap64 (x7_1 + 1)), (by first | rfl | (simp; done) | (simp [*]; done)), (by first | rfl | (simp; done) | (simp [*]; done)), H', ⟨by have := HK1.out; have := HJ4.out; have := HJ12.out; have := HJ33.out; omega⟩, ⟨ZR HO_5.out⟩, ⟨Zb BK497.out⟩, ⟨Zb BK498.out⟩, ⟨Zh2 HB.out GE497.out GE498.out⟩⟩
                ·replace c57 := Bool.eq_false_iff.mpr c57
                 subst c57
                 have H1 : (if x5_1.length < 17592186044416 then (debuggerref25_Changed.l0 kj33 (x5_1 ++ [(rd_T31 l0_0 x6_1).f0]) (wrap64 (x6_1 + 1)) (wrap64 (x7_1 + 1)) l0_0 l1_0) else (none)) = some r := by rw [if_neg (show ¬ (false = true) by decide)] at H; exact H
                 clear H
                 have H := H1
                 clear H1
                 by_cases c61 : x5_1.length < 17592186044416
                 ·rw [if_pos c61] at H
                  have LMc61 := Aside0.mk c61
                  clear c61
                  obtain ⟨y515, hy515⟩ : ∃ y_ : List Int, y_ = (x5_1 ++ [(rd_T31 l0_0 x6_1).f0]) := ⟨_, rfl⟩
                  replace H : (debuggerref25_Changed.l0 kj33 y515 (wrap64 (x6_1 + 1)) (wrap64 (x7_1 + 1)) l0_0 l1_0) = some r := by first | (rw [hy515]; with_reducible exact H) | (have H2_ := (Option.bind_some _ _).symm.trans H; rw [hy515]; with_reducible exact H2_) | (have H2_ := (Option.bind_some _ _).symm.trans H; with_reducible exact H2_) | with_reducible exact H | (rw [hy515]; exact H) | exact H
                  have Ny515 := Aside0.mk hy515
                  clear hy515
                  have H' := Aside0.mk H
                  clear H
                  have hnb62 := NB497_498.out
                  have hnc62 := NB498_497.out
                  have hcz63_0 := Zcl BK497.out 0 rfl
                  have hfz63_0 := blk_frozen BK497.out 0
                  have p511 : 0 ≤ (x6_1 : Int) := of_decide_eq_true Za
                  have q511 : x6_1 < (l0_0.length : Int) := of_decide_eq_true Za
                  obtain ⟨ad511, A511_1, c511_1, e511, hx511_0, hx511_1, hl511_1, hi511_1⟩ := at_T31 HR0_0.out x6_1 p511 q511
                  cases e511
                  replace hx511_0 := Zl HB.out hx511_0
                  replace hx511_1 := Zl HB.out hx511_1
                  have HR511_1 := Aside0.mk hi511_1
                  have HC511_1 := Aside0.mk hl511_1
                  clear hi511_1 hl511_1
                  replace p511 := eq_true p511
                  replace q511 := eq_true q511
                  have hcz64_0 := Zcl BK498.out 0 rfl
                  have hfz64_0 := blk_frozen BK498.out 0
                  have p512 : 0 ≤ (x7_1 : Int) := of_decide_eq_true Za
                  have q512 : x7_1 < (l1_0.length : Int) := of_decide_eq_true Za
                  obtain ⟨ad512, A512_1, c512_1, e512, hx512_0, hx512_1, hl512_1, hi512_1⟩ := at_T31 HR1_0.out x7_1 p512 q512
                  cases e512
                  replace hx512_0 := Zl HB.out hx512_0
                  replace hx512_1 := Zl HB.out hx512_1
                  have HR512_1 := Aside0.mk hi512_1
                  have HC512_1 := Aside0.mk hl512_1
                  clear hi512_1 hl512_1
                  replace p512 := eq_true p512
                  replace q512 := eq_true q512
                  go_wp2_with (first | (go_at_call 25; (with_reducible refine (debuggerref25_Ints.calls kj33 _ _ ((rd_T31 l0_0 x6_1).f1) _ _ ((rd_T31 l1_0 x7_1).f1) false _ ?side1 ?side2 ?side3 ?side4 A56.out).mono ?_); (case side1 => exact Zc (Kd.C_below HR511_1.out HB.out)); (case side2 => exact HC511_1.out); (case side3 => exact Zc (Kd.C_below HR512_1.out HB.out)); (case side4 => exact HC512_1.out); rintro e w' ⟨rfl, ⟨nd, rfl⟩⟩; (try first | exact ⟨rfl, _, World.drewN_drewN _ _ _⟩ | exact ⟨rfl, _, Eq.trans (World.drewN_drewN _ _ _) (congrArg (World.drewN _) (Nat.add_assoc _ _ _))⟩); have p514 : 0 ≤ (x6_1 : Int) := of_decide_eq_true Za; have q514 : x6_1 < (l0_0.length : Int) := of_decide_eq_true Za; obtain ⟨ad514, A514_1, c514_1, e514, hx514_0, hx514_1, hl514_1, hi514_1⟩ := at_T31 HR0_0.out x6_1 p514 q514; obtain rfl : ad511 = ad514 := (by injection e514); replace hx514_0 := Zl HB.out hx514_0; replace hx514_1 := Zl HB.out hx514_1; have HR514_1 := Aside0.mk hi514_1; have HC514_1 := Aside0.mk hl514_1; clear hi514_1 hl514_1; replace p514 := eq_true p514; replace q514 := eq_true q514; have ea_ := Option.some.inj (hx511_1.symm.trans hx514_1); injection ea_ with ea_ en_ ec_; subst ea_; subst ec_; clear en_) | ((with_reducible refine gate_builtin (b := .append) (xs := #[(.tmp 34), .tmp 41]) rfl ?_); (try (refine gate_guard (by rfl) ?_; dsimp only)); at_builtin; refine Kd.R_append (Kd.int .i64) (w0 := w) w.heap.size rfl (.tmp 34) (.tmp 41) 25 3 (.int .i64 0) 8 rfl Try.underlying25 info3 rfl (by decide) (by omega) u5 x5_1 ((rd_T31 l0_0 x6_1).f0) [.int .i64 ((rd_T31 l0_0 x6_1).f0)] (fun _ => True) (fun _ => False) rfl rfl ?aP (fun _ hk => hk.elim) ?aF ?aO ?aB ?aS ?aL ?_; (case aP => exact rfl); (case aB => exact (Zh2 HB.out GE497.out GE498.out)); (case aF => exact (fun _ _ => trivial)); (case aO => exact (ZR HO_5.out)); (case aS => exact (below_size (Zh2 HB.out GE497.out GE498.out))); (case aL => have := LMc61.out; omega); intro v516 w65 ho hb hg hat; rw [← Ny515.out] at ho; have n0_ := Zw (blk_grown (g := gb497) (o := .cells #[.slice (some ad511) l0_0.length c0_0] 24 (0, 0)) (Zb BK497.out) hg (Kd.R_ne HO_5.out BK497.out (by decide))); have n1_ := Zw (blk_grown (g := gb498) (o := .cells #[.slice (some ad512) l1_0.length c1_0] 24 (0, 0)) (Zb BK498.out) hg (Kd.R_ne HO_5.out BK498.out (by decide))); have n2_ := Zw (hb); have n3_ := Zw (ho); clear BK497; clear BK498; clear HB; clear HO_5; have BK497 := n0_; have BK498 := n1_; have HB := n2_; have HO517 := n3_; clear n0_ n1_ n2_ n3_; clear ho hb hg hat))
                  repeat (go_quiet (first | (go_at_call 25; (with_reducible refine (debuggerref25_Ints.calls kj33 _ _ ((rd_T31 l0_0 x6_1).f1) _ _ ((rd_T31 l1_0 x7_1).f1) false _ ?side1 ?side2 ?side3 ?side4 A56.out).mono ?_); (case side1 => exact Zc (Kd.C_below HR511_1.out HB.out)); (case side2 => exact HC511_1.out); (case side3 => exact Zc (Kd.C_below HR512_1.out HB.out)); (case side4 => exact HC512_1.out); rintro e w' ⟨rfl, ⟨nd, rfl⟩⟩; (try first | exact ⟨rfl, _, World.drewN_drewN _ _ _⟩ | exact ⟨rfl, _, Eq.trans (World.drewN_drewN _ _ _) (congrArg (World.drewN _) (Nat.add_assoc _ _ _))⟩); have p514 : 0 ≤ (x6_1 : Int) := of_decide_eq_true Za; have q514 : x6_1 < (l0_0.length : Int) := of_decide_eq_true Za; obtain ⟨ad514, A514_1, c514_1, e514, hx514_0, hx514_1, hl514_1, hi514_1⟩ := at_T31 HR0_0.out x6_1 p514 q514; obtain rfl : ad511 = ad514 := (by injection e514); replace hx514_0 := Zl HB.out hx514_0; replace hx514_1 := Zl HB.out hx514_1; have HR514_1 := Aside0.mk hi514_1; have HC514_1 := Aside0.mk hl514_1; clear hi514_1 hl514_1; replace p514 := eq_true p514; replace q514 := eq_true q514; have ea_ := Option.some.inj (hx511_1.symm.trans hx514_1); injection ea_ with ea_ en_ ec_; subst ea_; subst ec_; clear en_) | ((with_reducible refine gate_builtin (b := .append) (xs := #[(.tmp 34), .tmp 41]) rfl ?_); (try (refine gate_guard (by rfl) ?_; dsimp only)); at_builtin; refine Kd.R_append (Kd.int .i64) (w0 := w) w.heap.size rfl (.tmp 34) (.tmp 41) 25 3 (.int .i64 0) 8 rfl Try.underlying25 info3 rfl (by decide) (by omega) u5 x5_1 ((rd_T31 l0_0 x6_1).f0) [.int .i64 ((rd_T31 l0_0 x6_1).f0)] (fun _ => True) (fun _ => False) rfl rfl ?aP (fun _ hk => hk.elim) ?aF ?aO ?aB ?aS ?aL ?_; (case aP => exact rfl); (case aB => exact (Zh2 HB.out GE497.out GE498.out)); (case aF => exact (fun _ _ => trivial)); (case aO => exact (ZR HO_5.out)); (case aS => exact (below_size (Zh2 HB.out GE497.out GE498.out))); (case aL => have := LMc61.out; omega); intro v516 w65 ho hb hg hat; rw [← Ny515.out] at ho; have n0_ := Zw (blk_grown (g := gb497) (o := .cells #[.slice (some ad511) l0_0.length c0_0] 24 (0, 0)) (Zb BK497.out) hg (Kd.R_ne HO_5.out BK497.out (by decide))); have n1_ := Zw (blk_grown (g := gb498) (o := .cells #[.slice (some ad512) l1_0.length c1_0] 24 (0, 0)) (Zb BK498.out) hg (Kd.R_ne HO_5.out BK498.out (by decide))); have n2_ := Zw (hb); have n3_ := Zw (ho); clear BK497; clear BK498; clear HB; clear HO_5; have BK497 := n0_; have BK498 := n1_; have HB := n2_; have HO517 := n3_; clear n0_ n1_ n2_ n3_; clear ho hb hg hat)); try go_wp2_with (first | (go_at_call 25; (with_reducible refine (debuggerref25_Ints.calls kj33 _ _ ((rd_T31 l0_0 x6_1).f1) _ _ ((rd_T31 l1_0 x7_1).f1) false _ ?side1 ?side2 ?side3 ?side4 A56.out).mono ?_); (case side1 => exact Zc (Kd.C_below HR511_1.out HB.out)); (case side2 => exact HC511_1.out); (case side3 => exact Zc (Kd.C_below HR512_1.out HB.out)); (case side4 => exact HC512_1.out); rintro e w' ⟨rfl, ⟨nd, rfl⟩⟩; (try first | exact ⟨rfl, _, World.drewN_drewN _ _ _⟩ | exact ⟨rfl, _, Eq.trans (World.drewN_drewN _ _ _) (congrArg (World.drewN _) (Nat.add_assoc _ _ _))⟩); have p514 : 0 ≤ (x6_1 : Int) := of_decide_eq_true Za; have q514 : x6_1 < (l0_0.length : Int) := of_decide_eq_true Za; obtain ⟨ad514, A514_1, c514_1, e514, hx514_0, hx514_1, hl514_1, hi514_1⟩ := at_T31 HR0_0.out x6_1 p514 q514; obtain rfl : ad511 = ad514 := (by injection e514); replace hx514_0 := Zl HB.out hx514_0; replace hx514_1 := Zl HB.out hx514_1; have HR514_1 := Aside0.mk hi514_1; have HC514_1 := Aside0.mk hl514_1; clear hi514_1 hl514_1; replace p514 := eq_true p514; replace q514 := eq_true q514; have ea_ := Option.some.inj (hx511_1.symm.trans hx514_1); injection ea_ with ea_ en_ ec_; subst ea_; subst ec_; clear en_) | ((with_reducible refine gate_builtin (b := .append) (xs := #[(.tmp 34), .tmp 41]) rfl ?_); (try (refine gate_guard (by rfl) ?_; dsimp only)); at_builtin; refine Kd.R_append (Kd.int .i64) (w0 := w) w.heap.size rfl (.tmp 34) (.tmp 41) 25 3 (.int .i64 0) 8 rfl Try.underlying25 info3 rfl (by decide) (by omega) u5 x5_1 ((rd_T31 l0_0 x6_1).f0) [.int .i64 ((rd_T31 l0_0 x6_1).f0)] (fun _ => True) (fun _ => False) rfl rfl ?aP (fun _ hk => hk.elim) ?aF ?aO ?aB ?aS ?aL ?_; (case aP => exact rfl); (case aB => exact (Zh2 HB.out GE497.out GE498.out)); (case aF => exact (fun _ _ => trivial)); (case aO => exact (ZR HO_5.out)); (case aS => exact (below_size (Zh2 HB.out GE497.out GE498.out))); (case aL => have := LMc61.out; omega); intro v516 w65 ho hb hg hat; rw [← Ny515.out] at ho; have n0_ := Zw (blk_grown (g := gb497) (o := .cells #[.slice (some ad511) l0_0.length c0_0] 24 (0, 0)) (Zb BK497.out) hg (Kd.R_ne HO_5.out BK497.out (by decide))); have n1_ := Zw (blk_grown (g := gb498) (o := .cells #[.slice (some ad512) l1_0.length c1_0] 24 (0, 0)) (Zb BK498.out) hg (Kd.R_ne HO_5.out BK498.out (by decide))); have n2_ := Zw (hb); have n3_ := Zw (ho); clear BK497; clear BK498; clear HB; clear HO_5; have BK497 := n0_; have BK498 := n1_; have HB := n2_; have HO517 := n3_; clear n0_ n1_ n2_ n3_; clear ho hb hg hat)))
                  go_roundg kj33
                  case measure => have := HK1.out; have := HJ4.out; have := HJ12.out; have := HJ33.out; omega
                  case rel => exact ⟨(y515), (wrap64 (x6_1 + 1)), (wrap64 (x7_1 + 1)), (by first | rfl | (simp; done) | (simp [*]; done)), (by first | rfl | (simp; done) | (simp [*]; done)), H', ⟨by have := HK1.out; have := HJ4.out; have := HJ12.out; have := HJ33.out; omega⟩, ⟨ZR HO517.out⟩, ⟨Zb BK497.out⟩, ⟨Zb BK498.out⟩, ⟨Zh2 HB.out GE497.out GE498.out⟩⟩
                 ·rw [if_neg c61] at H
                  exact absurd H (by simp)
               ·rw [if_neg c55] at H
                exact absurd H (by simp)
              ·rw [if_neg c54] at H
               exact absurd H (by simp)
             ·rw [if_neg c53] at H
              exact absurd H (by simp)
            ·rw [if_neg c52] at H
             exact absurd H (by simp)
     ·replace c12 := Bool.eq_false_iff.mpr c12
      subst c12
      have H1 : (some x5_1) = some r := by rw [if_neg (show ¬ (false = true) by decide)] at H; exact H
      clear H
      have H := H1
      clear H1
      obtain rfl := Option.some.inj H
      go_wp2
      repeat (go_quiet (fail); try go_wp2)
      go_ret
      exact ⟨_, by first | rfl | (simp [errW_none, errW_some] <;> rfl) | (simp [*, errW_none, errW_some] <;> rfl), by refine ZRk ?_; exact HO_5.out, Zh2 HB.out GE497.out GE498.out⟩

end Go.Proofs.Ytpifepaflljolaa.PMem
