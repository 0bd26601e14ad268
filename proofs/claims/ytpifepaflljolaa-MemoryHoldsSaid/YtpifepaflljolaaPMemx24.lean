-- By wip/xprint.py (a driver of this session's over the kit's print), for this claim.
import Derived.Test.YtpifepaflljolaaPMemx0
import Derived.Test.YtpifepaflljolaaPMemx23
namespace Go.Proofs.Ytpifepaflljolaa.PMem
open Go.RowKit Go.Proofs.YtpifepaflljolaaW.PrintWords Go.Proofs.YtpifepaflljolaaW.PrintLast Go.Proofs.YtpifepaflljolaaW.PrintMore
attribute [local go_sem] max2_int min2_int max_two min_two max_three min_three max_four min_four   -- for this text's walks alone
set_option linter.unusedVariables false
set_option linter.unusedSimpArgs false

/-! ### memory_clone: function 36 -/
def memory_clone.l0 : Nat → List (S31) → Int → Int → List (S31) → Option ((List (S31)))
 | 0, _, _, _, _ => none
 | k + 1, x7, x8, x9, x302000 => if x9 < x8 then (if 0 ≤ x9 then (if x9 < (x7.length : Int) then ((memory_clonePage.f ((rd_T31 x7 x9).f0) ((rd_T31 x7 x9).f1)).bind fun bt304 => (if x302000.length < 4398046511104 then (memory_clone.l0 k x7 x8 (wrap64 (x9 + 1)) (x302000 ++ [(⟨bt304.1, bt304.2⟩ : S31)])) else (none))) else (none)) else (none)) else (some x302000)
def memory_clone.f (k : Nat) (l0_0 : List (S31)) : Option ((List (S31))) := memory_clone.l0 k l0_0 (l0_0.length : Int) 0 ([] : List (S31))
theorem memory_clone.mono_l : ∀ k, (∀ y0 y1 y2 y3, LeO (memory_clone.l0 k y0 y1 y2 y3) (memory_clone.l0 (k + 1) y0 y1 y2 y3))
 | 0 => fun _ _ _ _ r h => by simp [memory_clone.l0] at h
 | k + 1 => by
  have ih0 := memory_clone.mono_l k
  ·intro y0 y1 y2 y3
   unfold memory_clone.l0
   repeat' first
   | (with_reducible exact ih0 _ _ _ _)
   | (with_reducible exact LeO.refl _)
   | (with_reducible exact LeO.none _)
   | (with_reducible refine LeO.ite ?_ ?_)
   | (with_reducible refine LeO.bind ?_ (fun _ => ?_))
   | exact ih0 _ _ _ _
   | exact LeO.none _
   | refine LeO.ite ?_ ?_
   | refine LeO.bind ?_ (fun _ => ?_)
theorem memory_clone.mono : ∀ a0 k, LeO (memory_clone.f k a0) (memory_clone.f (k + 1) a0) := by
 intro a0 k
 have ih0 := memory_clone.mono_l k
 unfold memory_clone.f
 repeat' first
   | (with_reducible exact ih0 _ _ _ _)
   | (with_reducible exact LeO.refl _)
   | (with_reducible exact LeO.none _)
   | (with_reducible refine LeO.ite ?_ ?_)
   | (with_reducible refine LeO.bind ?_ (fun _ => ?_))
   | exact ih0 _ _ _ _
   | exact LeO.none _
   | refine LeO.ite ?_ ?_
   | refine LeO.bind ?_ (fun _ => ?_)
def memory_clone.T5 : Bool × List (List Nat × List Nat) := (true, [([], []), ([0], [0]), ([], []), ([2], [2]), ([3], [3]), ([1, 4, 3], [1, 4]), ([0, 1, 2, 3, 4, 5], []), ([6, 5, 5, 0, 1, 2, 3, 4, 5], [5, 6])])
def memory_clone.B5 : List Nat := [0, 1, 0, 4, 12, 31, 63, 127]
theorem memory_clone.tab5 : rtab .any (opsOf Try.f36 5) = memory_clone.T5 := by kernel_rfl
theorem memory_clone.bits5 : waitsOk memory_clone.T5.2 memory_clone.B5 = true := by kernel_rfl
set_option maxHeartbeats 8000000 in
set_option maxRecDepth 100000 in
theorem memory_clone.calls (k : Nat) (A0_0 : Option Addr) (c0_0 : Nat) (l0_0 : List (S31)) (r : List (S31)) (w : World) (hr0_0 : Kd.C k31 w A0_0 l0_0.length l0_0) (hc0_0 : l0_0.length ≤ c0_0) (h : memory_clone.f k l0_0 = some r) :
  Calls Try.prog 36 #[.agg #[.slice A0_0 l0_0.length c0_0]] w fun e w' => ∃ v0_ : Value, e = .returned (.agg #[v0_]) ∧ Kd.S k31 31 w' w.heap.size (fun _ => True) v0_ r ∧ Below w.heap.size w w' := by
 have hu24 := Try.underlying24
 have hu31 := Try.underlying31
 have HR0_0 := Aside0.mk hr0_0
 have HC0_0 := Aside0.mk hc0_0
 clear hr0_0 hc0_0
 have HB := Aside0.mk (Below.refl w.heap.size w)
 have H : (memory_clone.l0 k l0_0 (l0_0.length : Int) 0 ([] : List (S31))) = some r := h
 clear h
 have H' := Aside0.mk H
 clear H
 go_enter Try.func36, Try.ntmps36
 go_wp2_with (first | ((with_reducible refine gate_dst (N := 1) rfl ?_); refine box_event ?hg (N := 1) ?hd (cs := #[.slice A0_0 l0_0.length c0_0]) (t := 24) ?hr ?_; (case hd => rfl); (case hg => rfl); (case hr => first | (go_simp; done) | (go_simp; rfl)); intro gb299 hg w2 hbox hb; have n0_ := Aside0.mk (below_step (by repeat (first | (with_reducible first | exact HB.out | apply below_alloc | apply pw_below_drewN | apply below_drew1) | exact HB.out)) hb); have n1_ := Aside0.mk (hbox); have n2_ := Aside0.mk ((by rw [hg]; exact (below_size (by repeat (first | (with_reducible first | exact HB.out | apply below_alloc | apply pw_below_drewN | apply below_drew1) | exact HB.out))) : w.heap.size ≤ gb299)); have n3_ := Aside0.mk ((by rw [hg]; exact (below_size (by repeat (first | (with_reducible first | exact HB.out | apply below_alloc | apply pw_below_drewN | apply below_drew1) | exact HB.out))) : w.heap.size ≤ gb299)); clear HB; have HB := n0_; have BK299 := n1_; have GW299 := n2_; have GE299 := n3_; clear n0_ n1_ n2_ n3_; clear hb hbox hg) | ((with_reducible refine gate_dst (N := 2) rfl ?_); refine box_event ?hg (N := 2) ?hd (cs := #[.slice none 0 0]) (t := 24) ?hr ?_; (case hd => rfl); (case hg => rfl); (case hr => first | (go_simp; done) | (go_simp; rfl)); intro gb300 hg w3 hbox hb; have n0_ := Aside0.mk (blk_below (g := gb299) (o := .cells #[.slice A0_0 l0_0.length c0_0] 24 (0, 0)) (by (with_reducible repeat (first | refine blk_drewN ?_ _ | refine blk_drew ?_ | refine blk_alloc ?_ _)); exact BK299.out) hb); have n1_ := Aside0.mk (below_step (by repeat (first | (with_reducible first | exact HB.out | apply below_alloc | apply pw_below_drewN | apply below_drew1 | refine below_set ?_ GE299.out) | exact HB.out)) hb); have n2_ := Aside0.mk (hbox); have n3_ := Aside0.mk ((by rw [hg]; exact (below_size (by repeat (first | (with_reducible first | exact HB.out | apply below_alloc | apply pw_below_drewN | apply below_drew1 | refine below_set ?_ GE299.out) | exact HB.out))) : w.heap.size ≤ gb300)); have n4_ := Aside0.mk ((by rw [hg]; exact (below_size (by repeat (first | (with_reducible first | exact HB.out | apply below_alloc | apply pw_below_drewN | apply below_drew1 | refine below_set ?_ GE299.out) | exact HB.out))) : w.heap.size ≤ gb300)); have n5_ := Aside0.mk ((by rw [hg]; exact Nat.ne_of_lt (blk_lt (g := gb299) (o := .cells #[.slice A0_0 l0_0.length c0_0] 24 (0, 0)) (by (with_reducible repeat (first | refine blk_drewN ?_ _ | refine blk_drew ?_ | refine blk_alloc ?_ _)); exact BK299.out)) : gb299 ≠ gb300)); have n6_ := Aside0.mk ((by rw [hg]; exact Nat.ne_of_gt (blk_lt (g := gb299) (o := .cells #[.slice A0_0 l0_0.length c0_0] 24 (0, 0)) (by (with_reducible repeat (first | refine blk_drewN ?_ _ | refine blk_drew ?_ | refine blk_alloc ?_ _)); exact BK299.out)) : gb300 ≠ gb299)); clear BK299; clear HB; have BK299 := n0_; have HB := n1_; have BK300 := n2_; have GW300 := n3_; have GE300 := n4_; have NB299_300 := n5_; have NB300_299 := n6_; clear n0_ n1_ n2_ n3_ n4_ n5_ n6_; clear hb hbox hg) | ((with_reducible refine gate_dst (N := 3) rfl ?_); refine box_event ?hg (N := 3) ?hd (cs := #[.slice none 0 0]) (t := 24) ?hr ?_; (case hd => rfl); (case hg => rfl); (case hr => first | (go_simp; done) | (go_simp; rfl)); intro gb301 hg w4 hbox hb; have n0_ := Aside0.mk (blk_below (g := gb299) (o := .cells #[.slice A0_0 l0_0.length c0_0] 24 (0, 0)) (by (with_reducible repeat (first | refine blk_drewN ?_ _ | refine blk_drew ?_ | refine blk_alloc ?_ _)); exact BK299.out) hb); have n1_ := Aside0.mk (blk_below (g := gb300) (o := .cells #[.slice none 0 0] 24 (0, 0)) (by (with_reducible repeat (first | refine blk_drewN ?_ _ | refine blk_drew ?_ | refine blk_alloc ?_ _)); exact BK300.out) hb); have n2_ := Aside0.mk (below_step (by repeat (first | (with_reducible first | exact HB.out | apply below_alloc | apply pw_below_drewN | apply below_drew1 | refine below_set ?_ GE299.out | refine below_set ?_ GE300.out) | exact HB.out)) hb); have n3_ := Aside0.mk (hbox); have n4_ := Aside0.mk ((by rw [hg]; exact (below_size (by repeat (first | (with_reducible first | exact HB.out | apply below_alloc | apply pw_below_drewN | apply below_drew1 | refine below_set ?_ GE299.out | refine below_set ?_ GE300.out) | exact HB.out))) : w.heap.size ≤ gb301)); have n5_ := Aside0.mk ((by rw [hg]; exact (below_size (by repeat (first | (with_reducible first | exact HB.out | apply below_alloc | apply pw_below_drewN | apply below_drew1 | refine below_set ?_ GE299.out | refine below_set ?_ GE300.out) | exact HB.out))) : w.heap.size ≤ gb301)); have n6_ := Aside0.mk ((by rw [hg]; exact Nat.ne_of_lt (blk_lt (g := gb299) (o := .cells #[.slice A0_0 l0_0.length c0_0] 24 (0, 0)) (by (with_reducible repeat (first | refine blk_drewN ?_ _ | refine blk_drew ?_ | refine blk_alloc ?_ _)); exact BK299.out)) : gb299 ≠ gb301)); have n7_ := Aside0.mk ((by rw [hg]; exact Nat.ne_of_gt (blk_lt (g := gb299) (o := .cells #[.slice A0_0 l0_0.length c0_0] 24 (0, 0)) (by (with_reducible repeat (first | refine blk_drewN ?_ _ | refine blk_drew ?_ | refine blk_alloc ?_ _)); exact BK299.out)) : gb301 ≠ gb299)); have n8_ := Aside0.mk ((by rw [hg]; exact Nat.ne_of_lt (blk_lt (g := gb300) (o := .cells #[.slice none 0 0] 24 (0, 0)) (by (with_reducible repeat (first | refine blk_drewN ?_ _ | refine blk_drew ?_ | refine blk_alloc ?_ _)); exact BK300.out)) : gb300 ≠ gb301)); have n9_ := Aside0.mk ((by rw [hg]; exact Nat.ne_of_gt (blk_lt (g := gb300) (o := .cells #[.slice none 0 0] 24 (0, 0)) (by (with_reducible repeat (first | refine blk_drewN ?_ _ | refine blk_drew ?_ | refine blk_alloc ?_ _)); exact BK300.out)) : gb301 ≠ gb300)); clear BK299; clear BK300; clear HB; have BK299 := n0_; have BK300 := n1_; have HB := n2_; have BK301 := n3_; have GW301 := n4_; have GE301 := n5_; have NB299_301 := n6_; have NB301_299 := n7_; have NB300_301 := n8_; have NB301_300 := n9_; clear n0_ n1_ n2_ n3_ n4_ n5_ n6_ n7_ n8_ n9_; clear hb hbox hg; have hnb5 := NB299_300.out; have hnc5 := NB300_299.out; have hnb6 := NB299_301.out; have hnc6 := NB301_299.out; have hcz7_0 : w4.cell? ⟨gb299, 0, none⟩ = some (.slice A0_0 l0_0.length c0_0) := (blk_cell BK299.out 0).trans rfl; have hfz7_0 := blk_frozen BK299.out 0))
 go_loopg [9] k (fun kq v9 w' => ∃ (x9_1 : Int) (x302000_1 : List (S31)) (u302000 : Value), v9 = .int .i64 x9_1 ∧ Aside0 (memory_clone.l0 kq l0_0 (l0_0.length : Int) x9_1 x302000_1 = some r) ∧ Aside0 (kq ≤ k) ∧ Aside0 (Kd.S k31 31 w' w.heap.size (fun _ => True) u302000 x302000_1) ∧ Aside0 (w'.heap[gb299]? = some (.cells #[(.slice A0_0 l0_0.length c0_0)] 24 (0, 0))) ∧ Aside0 (w'.heap[gb300]? = some (.cells #[(.slice none 0 0)] 24 (0, 0))) ∧ Aside0 (w'.heap[gb301]? = some (.cells #[u302000] 24 (0, 0))) ∧ Aside0 (Below w.heap.size w w'))
 case atStart => exact ⟨(0), (([] : List (S31))), (.slice none 0 0), (by first | rfl | (simp; done) | (simp [*]; done)), H', ⟨Nat.le_refl _⟩, ⟨by first | exact Kd.S_nil _ _ _ _ _ | exact Kd.N_nil _ _ _ _ _ | exact Kd.V_nil _ _ _ _ _ | exact Kd.Q_nil _ _ _ _ _ | exact Kd.R_nil _ _ _ _ _⟩, ⟨by (with_reducible repeat (first | refine blk_drewN ?_ _ | refine blk_drew ?_ | refine blk_alloc ?_ _)); exact BK299.out⟩, ⟨by (with_reducible repeat (first | refine blk_drewN ?_ _ | refine blk_drew ?_ | refine blk_alloc ?_ _)); exact BK300.out⟩, ⟨by (with_reducible repeat (first | refine blk_drewN ?_ _ | refine blk_drew ?_ | refine blk_alloc ?_ _)); exact BK301.out⟩, ⟨by repeat (first | (with_reducible first | exact HB.out | apply below_alloc | apply pw_below_drewN | apply below_drew1 | refine below_set ?_ GE299.out | refine below_set ?_ GE300.out | refine below_set ?_ GE301.out) | exact HB.out)⟩⟩
 case round =>
  clear H'
  try clear p2
  try clear c3
  try clear c5
  try clear c6
  try clear hcz7_0
  try clear hfz7_0
  obtain ⟨x9_1, x302000_1, u302000, rfl, HA, HK1, HO_302000, BK299, BK300, BK301, HB⟩ := hrel
  cases gk with
  | zero => exact absurd HA.out (by simp [memory_clone.l0])
  | succ k1 =>
   have H := HA.out
   clear HA
   simp only [memory_clone.l0] at H
   by_cases c8 : x9_1 < (l0_0.length : Int)
   ·rw [if_pos c8] at H
    have c8b0 : decide (x9_1 < (l0_0.length : Int)) = true := decide_eq_true c8
    clear c8
    by_cases c9 : 0 ≤ x9_1
    ·rw [if_pos c9] at H
     have c9b0 : decide (0 ≤ x9_1) = true := decide_eq_true c9
     clear c9
     by_cases c10 : x9_1 < (l0_0.length : Int)
     ·rw [if_pos c10] at H
      have c10b0 : decide (x9_1 < (l0_0.length : Int)) = true := decide_eq_true c10
      clear c10
      replace H := Option.bind_eq_some_iff.mp H
      obtain ⟨⟨t304, t305⟩, A110, H⟩ := H
      replace H : (if x302000_1.length < 4398046511104 then (memory_clone.l0 k1 l0_0 (l0_0.length : Int) (wrap64 (x9_1 + 1)) (x302000_1 ++ [(⟨t304, t305⟩ : S31)])) else (none)) = some r := H
      have A11 := Aside0.mk A110
      clear A110
      by_cases c12 : x302000_1.length < 4398046511104
      ·rw [if_pos c12] at H
       have LMc12 := Aside0.mk c12
       clear c12
       obtain ⟨y308, hy308⟩ : ∃ y_ : List (S31), y_ = (x302000_1 ++ [(⟨t304, t305⟩ : S31)]) := ⟨_, rfl⟩
       replace H : (memory_clone.l0 k1 l0_0 (l0_0.length : Int) (wrap64 (x9_1 + 1)) y308) = some r := by first | (rw [hy308]; with_reducible exact H) | (have H2_ := (Option.bind_some _ _).symm.trans H; rw [hy308]; with_reducible exact H2_) | (have H2_ := (Option.bind_some _ _).symm.trans H; with_reducible exact H2_) | with_reducible exact H | (rw [hy308]; exact H) | exact H
       have Ny308 := Aside0.mk hy308
       clear hy308
       have H' := Aside0.mk H
       clear H
       have p302 : 0 ≤ (x9_1 : Int) := of_decide_eq_true (by first | (with_reducible assumption) | assumption)
       have q302 : x9_1 < (l0_0.length : Int) := of_decide_eq_true (by first | (with_reducible assumption) | assumption)
       obtain ⟨ad302, A302_1, c302_1, e302, hx302_0, hx302_1, hl302_1, hi302_1⟩ := at_T31 HR0_0.out x9_1 p302 q302
       cases e302
       replace hx302_0 := (HB.out.cell (World.block_lt_of_cell? w _ hx302_0)).trans hx302_0
       replace hx302_1 := (HB.out.cell (World.block_lt_of_cell? w _ hx302_1)).trans hx302_1
       have HR302_1 := Aside0.mk hi302_1
       have HC302_1 := Aside0.mk hl302_1
       clear hi302_1 hl302_1
       replace p302 := eq_true p302
       replace q302 := eq_true q302
       try go_wp2_with (first | ((with_reducible refine gate_dst (N := 5) rfl ?_); refine box_event ?hg (N := 5) ?hd (cs := #[.int .i64 0, .slice none 0 0]) (t := 31) ?hr ?_; (case hd => rfl); (case hg => rfl); (case hr => first | (go_simp; done) | (go_simp; rfl)); intro gb303 hg w13 hbox hb; have n0_ := Aside0.mk (Kd.S_below (Kd.S_elderB (by (with_reducible repeat (first | apply Kd.S_alloc | apply Kd.S_drewN | apply Kd.S_drew)); exact HO_302000.out) gb303 (Nat.le_of_eq hg.symm)) hb); have n1_ := Aside0.mk (blk_below (g := gb299) (o := .cells #[.slice (some ad302) l0_0.length c0_0] 24 (0, 0)) (by (with_reducible repeat (first | refine blk_drewN ?_ _ | refine blk_drew ?_ | refine blk_alloc ?_ _)); exact BK299.out) hb); have n2_ := Aside0.mk (blk_below (g := gb300) (o := .cells #[.slice none 0 0] 24 (0, 0)) (by (with_reducible repeat (first | refine blk_drewN ?_ _ | refine blk_drew ?_ | refine blk_alloc ?_ _)); exact BK300.out) hb); have n3_ := Aside0.mk (blk_below (g := gb301) (o := .cells #[u302000] 24 (0, 0)) (by (with_reducible repeat (first | refine blk_drewN ?_ _ | refine blk_drew ?_ | refine blk_alloc ?_ _)); exact BK301.out) hb); have n4_ := Aside0.mk (below_step (by repeat (first | (with_reducible first | exact HB.out | apply below_alloc | apply pw_below_drewN | apply below_drew1 | refine below_set ?_ GE299.out | refine below_set ?_ GE300.out | refine below_set ?_ GE301.out) | exact HB.out)) hb); have n5_ := Aside0.mk (hbox); have n6_ := Aside0.mk ((by rw [hg]; exact (below_size (by repeat (first | (with_reducible first | exact HB.out | apply below_alloc | apply pw_below_drewN | apply below_drew1 | refine below_set ?_ GE299.out | refine below_set ?_ GE300.out | refine below_set ?_ GE301.out) | exact HB.out))) : w.heap.size ≤ gb303)); have n7_ := Aside0.mk ((by rw [hg]; exact (below_size (by repeat (first | (with_reducible first | exact HB.out | apply below_alloc | apply pw_below_drewN | apply below_drew1 | refine below_set ?_ GE299.out | refine below_set ?_ GE300.out | refine below_set ?_ GE301.out) | exact HB.out))) : w.heap.size ≤ gb303)); have n8_ := Aside0.mk ((by rw [hg]; exact Nat.ne_of_lt (blk_lt (g := gb299) (o := .cells #[.slice (some ad302) l0_0.length c0_0] 24 (0, 0)) (by (with_reducible repeat (first | refine blk_drewN ?_ _ | refine blk_drew ?_ | refine blk_alloc ?_ _)); exact BK299.out)) : gb299 ≠ gb303)); have n9_ := Aside0.mk ((by rw [hg]; exact Nat.ne_of_gt (blk_lt (g := gb299) (o := .cells #[.slice (some ad302) l0_0.length c0_0] 24 (0, 0)) (by (with_reducible repeat (first | refine blk_drewN ?_ _ | refine blk_drew ?_ | refine blk_alloc ?_ _)); exact BK299.out)) : gb303 ≠ gb299)); have n10_ := Aside0.mk ((by rw [hg]; exact Nat.ne_of_lt (blk_lt (g := gb300) (o := .cells #[.slice none 0 0] 24 (0, 0)) (by (with_reducible repeat (first | refine blk_drewN ?_ _ | refine blk_drew ?_ | refine blk_alloc ?_ _)); exact BK300.out)) : gb300 ≠ gb303)); have n11_ := Aside0.mk ((by rw [hg]; exact Nat.ne_of_gt (blk_lt (g := gb300) (o := .cells #[.slice none 0 0] 24 (0, 0)) (by (with_reducible repeat (first | refine blk_drewN ?_ _ | refine blk_drew ?_ | refine blk_alloc ?_ _)); exact BK300.out)) : gb303 ≠ gb300)); have n12_ := Aside0.mk ((by rw [hg]; exact Nat.ne_of_lt (blk_lt (g := gb301) (o := .cells #[u302000] 24 (0, 0)) (by (with_reducible repeat (first | refine blk_drewN ?_ _ | refine blk_drew ?_ | refine blk_alloc ?_ _)); exact BK301.out)) : gb301 ≠ gb303)); have n13_ := Aside0.mk ((by rw [hg]; exact Nat.ne_of_gt (blk_lt (g := gb301) (o := .cells #[u302000] 24 (0, 0)) (by (with_reducible repeat (first | refine blk_drewN ?_ _ | refine blk_drew ?_ | refine blk_alloc ?_ _)); exact BK301.out)) : gb303 ≠ gb301)); clear HO_302000; clear BK299; clear BK300; clear BK301; clear HB; have HO_302000 := n0_; have BK299 := n1_; have BK300 := n2_; have BK301 := n3_; have HB := n4_; have BK303 := n5_; have GW303 := n6_; have GE303 := n7_; have NB299_303 := n8_; have NB303_299 := n9_; have NB300_303 := n10_; have NB303_300 := n11_; have NB301_303 := n12_; have NB303_301 := n13_; clear n0_ n1_ n2_ n3_ n4_ n5_ n6_ n7_ n8_ n9_ n10_ n11_ n12_ n13_; clear hb hbox hg; have hnb14 := NB303_299.out; have hnc14 := NB299_303.out; have hnb15 := NB303_300.out; have hnc15 := NB300_303.out; have hnb16 := NB303_301.out; have hnc16 := NB301_303.out; have hcz17_0 : w13.cell? ⟨gb303, 0, none⟩ = some (.int .i64 0) := (blk_cell BK303.out 0).trans rfl; have hcz17_1 : w13.cell? ⟨gb303, 1, none⟩ = some (.slice none 0 0) := (blk_cell BK303.out 1).trans rfl; have hfz17_0 := blk_frozen BK303.out 0; have hfz17_1 := blk_frozen BK303.out 1))
       have n0_ : Aside0 (Kd.S k31 31 ((w13.setCell ⟨gb303, 0, none⟩ (.int .i64 ((rd_T31 l0_0 x9_1).f0))).setCell ⟨gb303, 1, none⟩ (.slice A302_1 ((rd_T31 l0_0 x9_1).f1).length c302_1)) w.heap.size (fun k_ => k_ ≠ gb303) u302000 x302000_1) := ⟨by (with_reducible repeat (first | apply Kd.S_alloc | apply Kd.S_drewN | apply Kd.S_drew)); exact Kd.S_mono (Kd.S_far (p := ⟨gb303, 1, none⟩) (Kd.S_far (p := ⟨gb303, 0, none⟩) (Kd.S_mono HO_302000.out (fun k_ hk => (⟨hk, hk.2⟩ : _ ∧ k_ ≠ gb303))) (fun _ hk => hk.2) (.int .i64 ((rd_T31 l0_0 x9_1).f0))) (fun _ hk => hk.2) (.slice A302_1 ((rd_T31 l0_0 x9_1).f1).length c302_1)) (fun _ hk => hk.1.2)⟩
       have n1_ : Aside0 (((w13.setCell ⟨gb303, 0, none⟩ (.int .i64 ((rd_T31 l0_0 x9_1).f0))).setCell ⟨gb303, 1, none⟩ (.slice A302_1 ((rd_T31 l0_0 x9_1).f1).length c302_1)).heap[gb299]? = some (.cells #[.slice (some ad302) l0_0.length c0_0] 24 (0, 0))) := ⟨by (with_reducible repeat (first | refine blk_drewN ?_ _ | refine blk_drew ?_ | refine blk_alloc ?_ _)); refine blk_far ?_ NB299_303.out _; (with_reducible repeat (first | refine blk_drewN ?_ _ | refine blk_drew ?_ | refine blk_alloc ?_ _)); refine blk_far ?_ NB299_303.out _; (with_reducible repeat (first | refine blk_drewN ?_ _ | refine blk_drew ?_ | refine blk_alloc ?_ _)); exact BK299.out⟩
       have n2_ : Aside0 (((w13.setCell ⟨gb303, 0, none⟩ (.int .i64 ((rd_T31 l0_0 x9_1).f0))).setCell ⟨gb303, 1, none⟩ (.slice A302_1 ((rd_T31 l0_0 x9_1).f1).length c302_1)).heap[gb300]? = some (.cells #[.slice none 0 0] 24 (0, 0))) := ⟨by (with_reducible repeat (first | refine blk_drewN ?_ _ | refine blk_drew ?_ | refine blk_alloc ?_ _)); refine blk_far ?_ NB300_303.out _; (with_reducible repeat (first | refine blk_drewN ?_ _ | refine blk_drew ?_ | refine blk_alloc ?_ _)); refine blk_far ?_ NB300_303.out _; (with_reducible repeat (first | refine blk_drewN ?_ _ | refine blk_drew ?_ | refine blk_alloc ?_ _)); exact BK300.out⟩
       have n3_ : Aside0 (((w13.setCell ⟨gb303, 0, none⟩ (.int .i64 ((rd_T31 l0_0 x9_1).f0))).setCell ⟨gb303, 1, none⟩ (.slice A302_1 ((rd_T31 l0_0 x9_1).f1).length c302_1)).heap[gb301]? = some (.cells #[u302000] 24 (0, 0))) := ⟨by (with_reducible repeat (first | refine blk_drewN ?_ _ | refine blk_drew ?_ | refine blk_alloc ?_ _)); refine blk_far ?_ NB301_303.out _; (with_reducible repeat (first | refine blk_drewN ?_ _ | refine blk_drew ?_ | refine blk_alloc ?_ _)); refine blk_far ?_ NB301_303.out _; (with_reducible repeat (first | refine blk_drewN ?_ _ | refine blk_drew ?_ | refine blk_alloc ?_ _)); exact BK301.out⟩
       have n4_ : Aside0 (((w13.setCell ⟨gb303, 0, none⟩ (.int .i64 ((rd_T31 l0_0 x9_1).f0))).setCell ⟨gb303, 1, none⟩ (.slice A302_1 ((rd_T31 l0_0 x9_1).f1).length c302_1)).heap[gb303]? = some (.cells #[.int .i64 ((rd_T31 l0_0 x9_1).f0), .slice A302_1 ((rd_T31 l0_0 x9_1).f1).length c302_1] 31 (0, 0))) := ⟨by (with_reducible repeat (first | refine blk_drewN ?_ _ | refine blk_drew ?_ | refine blk_alloc ?_ _)); refine blk_put (cs := #[.int .i64 ((rd_T31 l0_0 x9_1).f0), .slice none 0 0]) ?_ 1 _ rfl; (with_reducible repeat (first | refine blk_drewN ?_ _ | refine blk_drew ?_ | refine blk_alloc ?_ _)); refine blk_put (cs := #[.int .i64 0, .slice none 0 0]) ?_ 0 _ rfl; (with_reducible repeat (first | refine blk_drewN ?_ _ | refine blk_drew ?_ | refine blk_alloc ?_ _)); exact BK303.out⟩
       have n5_ : Aside0 (Below w.heap.size w ((w13.setCell ⟨gb303, 0, none⟩ (.int .i64 ((rd_T31 l0_0 x9_1).f0))).setCell ⟨gb303, 1, none⟩ (.slice A302_1 ((rd_T31 l0_0 x9_1).f1).length c302_1))) := ⟨by repeat (first | (with_reducible first | exact HB.out | apply below_alloc | apply pw_below_drewN | apply below_drew1 | refine below_set ?_ GE299.out | refine below_set ?_ GE300.out | refine below_set ?_ GE301.out | refine below_set ?_ GE303.out) | exact HB.out)⟩
       (try clear HO_302000)
       (try clear BK299)
       (try clear BK300)
       (try clear BK301)
       (try clear BK303)
       (try clear HB)
       generalize ((w13.setCell ⟨gb303, 0, none⟩ (.int .i64 ((rd_T31 l0_0 x9_1).f0))).setCell ⟨gb303, 1, none⟩ (.slice A302_1 ((rd_T31 l0_0 x9_1).f1).length c302_1)) = w18 at n0_ n1_ n2_ n3_ n4_ n5_ ⊢
       have HO_302000 := n0_
       have BK299 := n1_
       have BK300 := n2_
       have BK301 := n3_
       have BK303 := n4_
       have HB := n5_
       clear n0_ n1_ n2_ n3_ n4_ n5_
       have n0_ := Aside0.mk (Kd.S_drew HO_302000.out)
       have n1_ := Aside0.mk (blk_drew BK299.out)
       have n2_ := Aside0.mk (blk_drew BK300.out)
       have n3_ := Aside0.mk (blk_drew BK301.out)
       have n4_ := Aside0.mk (blk_drew BK303.out)
       have n5_ := Aside0.mk (below_drew1 HB.out)
       clear HO_302000
       clear BK299
       clear BK300
       clear BK301
       clear BK303
       clear HB
       have HO_302000 := n0_
       have BK299 := n1_
       have BK300 := n2_
       have BK301 := n3_
       have BK303 := n4_
       have HB := n5_
       clear n0_ n1_ n2_ n3_ n4_ n5_
       refine start_ (n := 8) (S := fun w' => w'.cell? ⟨gb301, 0, none⟩ = some (u302000) ∧ w'.cell? ⟨gb303, 0, none⟩ = some (.int .i64 ((rd_T31 l0_0 x9_1).f0)) ∧ w'.cell? ⟨gb303, 1, none⟩ = some (.slice A302_1 ((rd_T31 l0_0 x9_1).f1).length c302_1)) (ds := [7]) #[false, false, false, false, false, false, false, false] (by kernel_rfl) rfl rfl ⟨(blk_cell BK301.out 0).trans rfl, (blk_cell BK303.out 0).trans rfl, (blk_cell BK303.out 1).trans rfl⟩ (fun hHeld => ?_); refine with_tabW memory_clone.tab5 memory_clone.bits5 (fun HT_ HW_ => ?_)
       generalize w18.drew = w19 at HO_302000 BK299 BK300 BK301 BK303 HB hHeld ⊢
       refine pure_ (i := 0) (N := some 13) (v := ?_) (a' := ?_) #[true, false, false, false, false, false, false, false] rfl rfl (any_of HT_.out (by kernel_rfl)) (fun _ _ _ h => h) (Or.inl ⟨by rfl, ?_⟩) ?_ ?_
       rotate_left
       ·intro w'
        go_simp
        with_reducible rfl
       rotate_left
       ·simp only [Act.put, List.setIfInBounds_toArray, List.set_cons_zero, List.set_cons_succ, i64_w, i32_w]
        rfl
       refine take_ (i := 1) (N := some 14) (v := ?_) (a' := ?_) #[true, true, false, false, false, false, false, false] rfl rfl (take_ofW HT_.out HW_.out (by kernel_rfl)) (fun _ _ _ h => h) (Or.inl ⟨by rfl, ?_⟩) hHeld ?_ ?_
       rotate_left
       ·rintro w' ⟨s0, s1, s2⟩
        go_simp
        with_reducible rfl
       rotate_left
       ·simp only [Act.put, List.setIfInBounds_toArray, List.set_cons_zero, List.set_cons_succ, i64_w, i32_w]
        rfl
       refine take_ (i := 2) (N := some 15) (v := ?_) (a' := ?_) #[true, true, true, false, false, false, false, false] rfl rfl (take_ofW HT_.out HW_.out (by kernel_rfl)) (fun _ _ _ h => h) (Or.inl ⟨by rfl, ?_⟩) hHeld ?_ ?_
       rotate_left
       ·rintro w' ⟨s0, s1, s2⟩
        go_simp
        with_reducible rfl
       rotate_left
       ·simp only [Act.put, List.setIfInBounds_toArray, List.set_cons_zero, List.set_cons_succ, i64_w, i32_w]
        rfl
       refine one_ (i := 3) (N := some 16) #[true, true, true, true, false, false, false, false] rfl rfl (one_of HT_.out (by kernel_rfl)) (by decide) (fun K hK => ?_)
       refine goes_ Try.func39 (by kernel_rfl) rfl #[.agg #[.int .i64 ((rd_T31 l0_0 x9_1).f0), .slice A302_1 ((rd_T31 l0_0 x9_1).f1).length c302_1]] (by rfl) rfl rfl (by (try simp only [List.map_toArray, List.map_cons, List.map_nil]); first | done | rfl | (simp only [List.length_drop, List.length_take]; rfl)) ?_
       with_reducible refine (memory_clonePage.calls ((rd_T31 l0_0 x9_1).f0) _ _ ((rd_T31 l0_0 x9_1).f1) t304 t305 _ ?side1 ?side2 A11.out).mono ?_
       (case side1 => repeat (first | exact (Kd.C_below HR302_1.out HB.out) | (with_reducible refine Kd.C_alloc ?_ _) | (with_reducible refine Kd.C_drewN ?_ _) | (with_reducible refine Kd.C_drew ?_)))
       (case side2 => exact HC302_1.out)
       rintro e w20 ⟨v306, rfl, ho0, hb⟩
       refine ⟨_, rfl, ?_⟩
       have n0_ := Aside0.mk (Kd.S_elder' (by (with_reducible repeat (first | apply Kd.S_alloc | apply Kd.S_drewN | apply Kd.S_drew)); exact HO_302000.out) (by first | exact Kd.R_base ho0 | exact Kd.S_base ho0 | exact Kd.R_base ho0 | exact Kd.N_base ho0) hb)
       have n1_ := Aside0.mk (Kd.R_lower ho0 (below_size (by repeat (first | (with_reducible first | exact HB.out | apply below_alloc | apply pw_below_drewN | apply below_drew1 | refine below_set ?_ GE299.out | refine below_set ?_ GE300.out | refine below_set ?_ GE301.out | refine below_set ?_ GE303.out) | exact HB.out))))
       have n2_ := Aside0.mk (blk_below (g := gb299) (o := .cells #[.slice (some ad302) l0_0.length c0_0] 24 (0, 0)) (by (with_reducible repeat (first | refine blk_drewN ?_ _ | refine blk_drew ?_ | refine blk_alloc ?_ _)); exact BK299.out) hb)
       have n3_ := Aside0.mk (blk_below (g := gb300) (o := .cells #[.slice none 0 0] 24 (0, 0)) (by (with_reducible repeat (first | refine blk_drewN ?_ _ | refine blk_drew ?_ | refine blk_alloc ?_ _)); exact BK300.out) hb)
       have n4_ := Aside0.mk (blk_below (g := gb301) (o := .cells #[u302000] 24 (0, 0)) (by (with_reducible repeat (first | refine blk_drewN ?_ _ | refine blk_drew ?_ | refine blk_alloc ?_ _)); exact BK301.out) hb)
       have n5_ := Aside0.mk (blk_below (g := gb303) (o := .cells #[.int .i64 ((rd_T31 l0_0 x9_1).f0), .slice A302_1 ((rd_T31 l0_0 x9_1).f1).length c302_1] 31 (0, 0)) (by (with_reducible repeat (first | refine blk_drewN ?_ _ | refine blk_drew ?_ | refine blk_alloc ?_ _)); exact BK303.out) hb)
       have n6_ := Aside0.mk (below_step (by repeat (first | (with_reducible first | exact HB.out | apply below_alloc | apply pw_below_drewN | apply below_drew1 | refine below_set ?_ GE299.out | refine below_set ?_ GE300.out | refine below_set ?_ GE301.out | refine below_set ?_ GE303.out) | exact HB.out)) hb)
       clear HO_302000
       clear BK299
       clear BK300
       clear BK301
       clear BK303
       clear HB
       have HO_302000 := n0_
       have HO307 := n1_
       have BK299 := n2_
       have BK300 := n3_
       have BK301 := n4_
       have BK303 := n5_
       have HB := n6_
       clear n0_ n1_ n2_ n3_ n4_ n5_ n6_
       (try clear hb)
       (try clear hb2)
       (try clear hk)
       (try clear hi)
       (try clear ho0)
       obtain ⟨Ao22, co22, eo22⟩ := Kd.R_slice HO307.out
       (first | subst eo22 | (injection eo22 with f1_ f2_ f3_; have f4_ := f1_.symm; have f5_ := f3_.symm; clear f1_ f2_ f3_; subst f4_; subst f5_))
       refine hK.out _ _ ⟨(blk_cell BK301.out 0).trans rfl, (blk_cell BK303.out 0).trans rfl, (blk_cell BK303.out 1).trans rfl⟩ (fun hHeld => ?_)
       clear hK K
       refine norm_ (a' := ?_) ?_ ?_
       rotate_left
       ·show Act.put _ (some 16) _ = _
        simp only [Act.put, List.setIfInBounds_toArray, List.set_cons_zero, List.set_cons_succ, i64_w, i32_w]
        rfl
       refine one_ (i := 4) (N := some 17) #[true, true, true, true, true, false, false, false] rfl rfl (one_of HT_.out (by kernel_rfl)) (by decide) (fun K hK => ?_)
       refine value_ (w1 := ?_) (v := ?_) (by rfl) rfl ?_ ?_
       rotate_left 2
       ·go_simp
        constructor
        ·rfl
        ·rfl
       refine hK.out _ _ ⟨(blk_cell (blk_alloc BK301.out _) 0).trans rfl, (blk_cell (blk_alloc BK303.out _) 0).trans rfl, (blk_cell (blk_alloc BK303.out _) 1).trans rfl⟩ (fun hHeld => ?_)
       clear hK K
       refine norm_ (a' := ?_) ?_ ?_
       rotate_left
       ·show Act.put _ (some 17) _ = _
        simp only [Act.put, List.setIfInBounds_toArray, List.set_cons_zero, List.set_cons_succ, i64_w, i32_w]
        rfl
       refine one_ (i := 5) (N := some 18) #[true, true, true, true, true, true, false, false] rfl rfl (one_of HT_.out (by kernel_rfl)) (by decide) (fun K hK => ?_)
       refine Kd.S_append_step k31 (w0 := w) w.heap.size (by rfl) (.tmp 14) (.tmp 17) 22 31 (.agg #[(.int .i64 0), (.slice none 0 0)]) 32 rfl Try.underlying22 info31 rfl (by decide) (by omega) u302000 x302000_1 (⟨t304, t305⟩ : S31) [.int .i64 t304, .slice Ao22 t305.length co22] (fun k_ => k_ ≠ gb303) (fun k_ => some k_ = (.slice Ao22 t305.length co22 : Value).ownBlock) rfl rfl ?aP (fun k_ hk_ => ((Kd.R_mono (ok' := fun k_ => ((fun k_ => k_ ≠ gb303)) k_ ∧ some k_ ≠ (u302000 : Value).ownBlock) (Kd.R_types (Kd.R_apart' (HO307.out) (Kd.S_typed HO_302000.out) (by decide)) BK303.out (by decide)) (fun k_ hk => ⟨hk.2, hk.1.2⟩))).1 k_ hk_.symm) ?aF ?aO ?aB ?aS ?aL ?_
       (case aP => exact k31_mkM _ _ _ (⟨t304, t305⟩ : S31) (Kd.R_mono (Kd.R_tight rfl (Kd.R_mono (ok' := fun k_ => ((fun k_ => k_ ≠ gb303)) k_ ∧ some k_ ≠ (u302000 : Value).ownBlock) (Kd.R_types (Kd.R_apart' (HO307.out) (Kd.S_typed HO_302000.out) (by decide)) BK303.out (by decide)) (fun k_ hk => ⟨hk.2, hk.1.2⟩))) (fun _ h_ => h_)))
       (case aB => exact (by repeat (first | (with_reducible first | exact HB.out | apply below_alloc | apply pw_below_drewN | apply below_drew1 | refine below_set ?_ GE299.out | refine below_set ?_ GE300.out | refine below_set ?_ GE301.out | refine below_set ?_ GE303.out) | exact HB.out)))
       (case aF => exact (fun k_ hk => Kd.freshB (g := gb303) (o := .cells #[.int .i64 ((rd_T31 l0_0 x9_1).f0), .slice A302_1 ((rd_T31 l0_0 x9_1).f1).length c302_1] 31 (0, 0)) (by (with_reducible repeat (first | refine blk_drewN ?_ _ | refine blk_drew ?_ | refine blk_alloc ?_ _)); exact BK303.out) k_ hk))
       (case aO => exact (by (with_reducible repeat (first | apply Kd.S_alloc | apply Kd.S_drewN | apply Kd.S_drew)); exact Kd.S_mono HO_302000.out (fun k_ hk => ⟨hk.1, fun e_ => hk.2 e_⟩)))
       (case aS => exact (below_size (by repeat (first | (with_reducible first | exact HB.out | apply below_alloc | apply pw_below_drewN | apply below_drew1 | refine below_set ?_ GE299.out | refine below_set ?_ GE300.out | refine below_set ?_ GE301.out | refine below_set ?_ GE303.out) | exact HB.out))))
       (case aL => have := LMc12.out; omega)
       intro v309 w21 ho hb hg hat
       rw [← Ny308.out] at ho
       have n0_ := Aside0.mk (blk_grown (g := gb299) (o := .cells #[.slice (some ad302) l0_0.length c0_0] 24 (0, 0)) (by (with_reducible repeat (first | refine blk_drewN ?_ _ | refine blk_drew ?_ | refine blk_alloc ?_ _)); exact BK299.out) hg (Kd.S_ne HO_302000.out BK299.out (by decide)))
       have n1_ := Aside0.mk (blk_grown (g := gb300) (o := .cells #[.slice none 0 0] 24 (0, 0)) (by (with_reducible repeat (first | refine blk_drewN ?_ _ | refine blk_drew ?_ | refine blk_alloc ?_ _)); exact BK300.out) hg (Kd.S_ne HO_302000.out BK300.out (by decide)))
       have n2_ := Aside0.mk (blk_grown (g := gb301) (o := .cells #[u302000] 24 (0, 0)) (by (with_reducible repeat (first | refine blk_drewN ?_ _ | refine blk_drew ?_ | refine blk_alloc ?_ _)); exact BK301.out) hg (Kd.S_ne HO_302000.out BK301.out (by decide)))
       have n3_ := Aside0.mk (blk_grown (g := gb303) (o := .cells #[.int .i64 ((rd_T31 l0_0 x9_1).f0), .slice A302_1 ((rd_T31 l0_0 x9_1).f1).length c302_1] 31 (0, 0)) (by (with_reducible repeat (first | refine blk_drewN ?_ _ | refine blk_drew ?_ | refine blk_alloc ?_ _)); exact BK303.out) hg (Kd.S_away HO_302000.out (fun _ hk => hk.1)))
       have n4_ := Aside0.mk (hb)
       have n5_ := Aside0.mk (ho)
       clear BK299
       clear BK300
       clear BK301
       clear BK303
       clear HB
       clear HO_302000
       clear HO307
       have BK299 := n0_
       have BK300 := n1_
       have BK301 := n2_
       have BK303 := n3_
       have HB := n4_
       have HO310 := n5_
       clear n0_ n1_ n2_ n3_ n4_ n5_
       clear ho hb hg hat
       obtain ⟨Ao23, co23, eo23⟩ := Kd.S_slice HO310.out
       (first | subst eo23 | (injection eo23 with f1_ f2_ f3_; have f4_ := f1_.symm; have f5_ := f3_.symm; clear f1_ f2_ f3_; subst f4_; subst f5_))
       refine hK.out _ _ ⟨(blk_cell BK301.out 0).trans rfl, (blk_cell BK303.out 0).trans rfl, (blk_cell BK303.out 1).trans rfl⟩ (fun hHeld => ?_)
       clear hK K
       refine norm_ (a' := ?_) ?_ ?_
       rotate_left
       ·show Act.put _ (some 18) _ = _
        simp only [Act.put, List.setIfInBounds_toArray, List.set_cons_zero, List.set_cons_succ, i64_w, i32_w]
        rfl
       refine pure_ (i := 6) (N := some 19) (v := ?_) (a' := ?_) #[true, true, true, true, true, true, true, false] rfl rfl (any_of HT_.out (by kernel_rfl)) (fun _ _ _ h => h) (Or.inl ⟨by rfl, ?_⟩) ?_ ?_
       rotate_left
       ·intro w'
        go_simp
        with_reducible rfl
       rotate_left
       ·simp only [Act.put, List.setIfInBounds_toArray, List.set_cons_zero, List.set_cons_succ, i64_w, i32_w]
        rfl
       refine last_ (i := 7) (N := none) #[true, true, true, true, true, true, true, true] rfl rfl (one_of HT_.out (by kernel_rfl)) (by decide) (fun K hK => ?_)
       have hs24 : w21.cell? ⟨gb301, 0, none⟩ = some (u302000) := (blk_cell BK301.out 0).trans rfl
       have hfs24 := blk_frozen BK301.out 0
       have hns24_0 := NB299_301.out
       have hns24_1 := NB300_301.out
       have hns24_3 := NB303_301.out
       have hms24_0 := NB301_299.out
       have hms24_1 := NB301_300.out
       have hms24_3 := NB301_303.out
       refine skip_ (w1 := ?_) (by rfl) rfl ?_ ?_
       rotate_left
       ·go_simp
        rfl
       refine hK.out _ _ ?_
       clear hK K
       refine done_ (done_of HT_.out (by kernel_rfl)) ?_
       try go_wp2
       go_roundg k1
       case measure => have := HK1.out; omega
       case rel => exact ⟨(wrap64 (x9_1 + 1)), (y308), (.slice Ao23 y308.length co23), (by first | rfl | (simp; done) | (simp [*]; done)), H', ⟨by have := HK1.out; omega⟩, ⟨by (with_reducible repeat (first | apply Kd.S_alloc | apply Kd.S_drewN | apply Kd.S_drew)); exact Kd.S_mono (Kd.S_far (p := ⟨gb301, 0, none⟩) (Kd.S_types HO310.out BK301.out (by decide)) (fun _ hk => hk.2) (.slice Ao23 y308.length co23)) (fun _ hk => trivial)⟩, ⟨by (with_reducible repeat (first | refine blk_drewN ?_ _ | refine blk_drew ?_ | refine blk_alloc ?_ _)); refine blk_far ?_ NB299_301.out _; (with_reducible repeat (first | refine blk_drewN ?_ _ | refine blk_drew ?_ | refine blk_alloc ?_ _)); exact BK299.out⟩, ⟨by (with_reducible repeat (first | refine blk_drewN ?_ _ | refine blk_drew ?_ | refine blk_alloc ?_ _)); refine blk_far ?_ NB300_301.out _; (with_reducible repeat (first | refine blk_drewN ?_ _ | refine blk_drew ?_ | refine blk_alloc ?_ _)); exact BK300.out⟩, ⟨by (with_reducible repeat (first | refine blk_drewN ?_ _ | refine blk_drew ?_ | refine blk_alloc ?_ _)); refine blk_put (cs := #[u302000]) ?_ 0 _ rfl; (with_reducible repeat (first | refine blk_drewN ?_ _ | refine blk_drew ?_ | refine blk_alloc ?_ _)); exact BK301.out⟩, ⟨by repeat (first | (with_reducible first | exact HB.out | apply below_alloc | apply pw_below_drewN | apply below_drew1 | refine below_set ?_ GE299.out | refine below_set ?_ GE300.out | refine below_set ?_ GE301.out | refine below_set ?_ GE303.out) | exact HB.out)⟩⟩
      ·rw [if_neg c12] at H
       exact absurd H (by simp)
     ·rw [if_neg c10] at H
      exact absurd H (by simp)
    ·rw [if_neg c9] at H
     exact absurd H (by simp)
   ·rw [if_neg c8] at H
    have c8b0 : decide (x9_1 < (l0_0.length : Int)) = false := decide_eq_false c8
    clear c8
    obtain rfl := Option.some.inj H
    have hnb25 := NB301_299.out
    have hnc25 := NB299_301.out
    have hnb26 := NB301_300.out
    have hnc26 := NB300_301.out
    have hcz27_0 : wr.cell? ⟨gb301, 0, none⟩ = some (u302000) := (blk_cell BK301.out 0).trans rfl
    have hfz27_0 := blk_frozen BK301.out 0
    obtain ⟨Ao28, co28, eo28⟩ := Kd.S_slice HO_302000.out
    subst eo28
    have hnb29 := NB300_299.out
    have hnc29 := NB299_300.out
    have hcz30_0 : wr.cell? ⟨gb300, 0, none⟩ = some (.slice none 0 0) := (blk_cell BK300.out 0).trans rfl
    have hfz30_0 := blk_frozen BK300.out 0
    go_wp2
    refine bodyPost_ret (results_cell_row rfl _ _ gb300 24 #[.slice Ao28 x302000_1.length co28] (0, 0) _ rfl (by (with_reducible repeat (first | refine blk_drewN ?_ _ | refine blk_drew ?_ | refine blk_alloc ?_ _)); refine blk_put (cs := #[.slice none 0 0]) ?_ 0 _ rfl; (with_reducible repeat (first | refine blk_drewN ?_ _ | refine blk_drew ?_ | refine blk_alloc ?_ _)); exact BK300.out) Try.underlying24 rfl (by kernel_rfl)) rfl ?_
    exact ⟨_, by first | rfl | (simp [errW_none, errW_some] <;> rfl) | (simp [*, errW_none, errW_some] <;> rfl), by (with_reducible repeat (first | apply Kd.S_alloc | apply Kd.S_drewN | apply Kd.S_drew)); exact Kd.S_mono (Kd.S_far (p := ⟨gb300, 0, none⟩) (Kd.S_types HO_302000.out BK300.out (by decide)) (fun _ hk => hk.2) (.slice Ao28 x302000_1.length co28)) (fun _ hk => trivial), by repeat (first | (with_reducible first | exact HB.out | apply below_alloc | apply pw_below_drewN | apply below_drew1 | refine below_set ?_ GE299.out | refine below_set ?_ GE300.out | refine below_set ?_ GE301.out) | exact HB.out)⟩

end Go.Proofs.Ytpifepaflljolaa.PMem
