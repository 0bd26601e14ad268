-- By wip/xprint.py (a driver of this session's over the kit's print), for this claim.
import Derived.Test.YtpifepaflljolaaPMemx0
namespace Go.Proofs.Ytpifepaflljolaa.PMem
open Go.RowKit Go.Proofs.YtpifepaflljolaaW.PrintWords Go.Proofs.YtpifepaflljolaaW.PrintLast Go.Proofs.YtpifepaflljolaaW.PrintMore
attribute [local go_sem] max2_int min2_int max_two min_two max_three min_three max_four min_four   -- for this text's walks alone
set_option linter.unusedVariables false
set_option linter.unusedSimpArgs false

/-! ### debuggerref25_find: function 35 -/
def debuggerref25_find.l0 : Nat → Int → Int → List (S31) → Option (Int)
 | 0, _, _, _ => none
 | k + 1, x1, x5, x287000 => if x5 < (x287000.length : Int) then (if 0 ≤ x5 then (if ((rd_T31 x287000 x5).f0) ≤ x1 then (if (wrap64 (x1 - ((rd_T31 x287000 x5).f0))) < 64 then (if (wrap64 (x1 - ((rd_T31 x287000 x5).f0))) < (((rd_T31 x287000 x5).f1).length : Int) then (if x1 ≥ 0 then (some x5) else (debuggerref25_find.l0 k x1 (wrap64 (x5 + 1)) x287000)) else (debuggerref25_find.l0 k x1 (wrap64 (x5 + 1)) x287000)) else (debuggerref25_find.l0 k x1 (wrap64 (x5 + 1)) x287000)) else (debuggerref25_find.l0 k x1 (wrap64 (x5 + 1)) x287000)) else (none)) else (some (-1))
def debuggerref25_find.f (k : Nat) (l0_0 : List (S31)) (a1 : Int) : Option (Int) := debuggerref25_find.l0 k a1 0 l0_0
theorem debuggerref25_find.mono_l : ∀ k, (∀ y0 y1 y2, LeO (debuggerref25_find.l0 k y0 y1 y2) (debuggerref25_find.l0 (k + 1) y0 y1 y2))
 | 0 => fun _ _ _ r h => by simp [debuggerref25_find.l0] at h
 | k + 1 => by
  have ih0 := debuggerref25_find.mono_l k
  ·intro y0 y1 y2
   unfold debuggerref25_find.l0
   repeat' first
   | (with_reducible exact ih0 _ _ _)
   | (with_reducible exact LeO.refl _)
   | (with_reducible exact LeO.none _)
   | (with_reducible refine LeO.ite ?_ ?_)
   | (with_reducible refine LeO.bind ?_ (fun _ => ?_))
   | exact ih0 _ _ _
   | exact LeO.none _
   | refine LeO.ite ?_ ?_
   | refine LeO.bind ?_ (fun _ => ?_)
theorem debuggerref25_find.mono : ∀ a0 a1 k, LeO (debuggerref25_find.f k a0 a1) (debuggerref25_find.f (k + 1) a0 a1) := by
 intro a0 a1 k
 have ih0 := debuggerref25_find.mono_l k
 unfold debuggerref25_find.f
 repeat' first
   | (with_reducible exact ih0 _ _ _)
   | (with_reducible exact LeO.refl _)
   | (with_reducible exact LeO.none _)
   | (with_reducible refine LeO.ite ?_ ?_)
   | (with_reducible refine LeO.bind ?_ (fun _ => ?_))
   | exact ih0 _ _ _
   | exact LeO.none _
   | refine LeO.ite ?_ ?_
   | refine LeO.bind ?_ (fun _ => ?_)
set_option maxHeartbeats 8000000 in
set_option maxRecDepth 100000 in
theorem debuggerref25_find.calls (k : Nat) (A0_0 : Option Addr) (c0_0 : Nat) (l0_0 : List (S31)) (a1 : Int) (r : Int) (w : World) (hr0_0 : Kd.C k31 w A0_0 l0_0.length l0_0) (hc0_0 : l0_0.length ≤ c0_0) (h : debuggerref25_find.f k l0_0 a1 = some r) :
  Calls Try.prog 35 #[.agg #[.slice A0_0 l0_0.length c0_0], .int .i64 a1] w fun e w' => e = .returned (.int .i64 r) ∧ Below w.heap.size w w' := by
 have hu24 := Try.underlying24
 have HR0_0 := Aside0.mk hr0_0
 have HC0_0 := Aside0.mk hc0_0
 clear hr0_0 hc0_0
 have HB := Aside0.mk (Below.refl w.heap.size w)
 have H : (debuggerref25_find.l0 k a1 0 l0_0) = some r := h
 clear h
 have H' := Aside0.mk H
 clear H
 go_enter Try.func35, Try.ntmps35
 go_wp2_with (first | ((with_reducible refine gate_dst (N := 2) rfl ?_); (try (refine gate_guard (by rfl) ?_; dsimp only)); refine box_event ?hg (N := 2) ?hd (cs := #[.slice A0_0 l0_0.length c0_0]) (t := 24) ?hr ?_; (case hd => rfl); (case hg => rfl); (case hr => first | (go_simp; done) | (go_simp; rfl)); intro gb286 hg w3 hbox hb; have n0_ := Aside0.mk (below_step (by repeat (first | (with_reducible first | exact HB.out | apply below_alloc | apply pw_below_drewN | apply below_drew1) | exact HB.out)) hb); have n1_ := Aside0.mk (hbox); have n2_ := Aside0.mk ((by rw [hg]; exact (below_size (by repeat (first | (with_reducible first | exact HB.out | apply below_alloc | apply pw_below_drewN | apply below_drew1) | exact HB.out))) : w.heap.size ≤ gb286)); have n3_ := Aside0.mk ((by rw [hg]; exact (below_size (by repeat (first | (with_reducible first | exact HB.out | apply below_alloc | apply pw_below_drewN | apply below_drew1) | exact HB.out))) : w.heap.size ≤ gb286)); clear HB; have HB := n0_; have BK286 := n1_; have GW286 := n2_; have GE286 := n3_; clear n0_ n1_ n2_ n3_; clear hb hbox hg))
 go_loopg [5] k (fun kq v5 w' => ∃ (x5_1 : Int), v5 = .int .i64 x5_1 ∧ Aside0 (debuggerref25_find.l0 kq a1 x5_1 l0_0 = some r) ∧ Aside0 (kq ≤ k) ∧ Aside0 (w'.heap[gb286]? = some (.cells #[(.slice A0_0 l0_0.length c0_0)] 24 (0, 0))) ∧ Aside0 (Below w.heap.size w w'))
 case atStart => exact ⟨(0), (by first | rfl | (simp; done) | (simp [*]; done)), H', ⟨Nat.le_refl _⟩, ⟨by (with_reducible repeat (first | refine blk_drewN ?_ _ | refine blk_drew ?_ | refine blk_alloc ?_ _)); exact BK286.out⟩, ⟨by repeat (first | (with_reducible first | exact HB.out | apply below_alloc | apply pw_below_drewN | apply below_drew1 | refine below_set ?_ GE286.out) | exact HB.out)⟩⟩
 case round =>
  clear H'
  try clear p2
  try clear c3
  obtain ⟨x5_1, rfl, HA, HK1, BK286, HB⟩ := hrel
  cases gk with
  | zero => exact absurd HA.out (by simp [debuggerref25_find.l0])
  | succ k1 =>
   have H := HA.out
   clear HA
   simp only [debuggerref25_find.l0] at H
   by_cases c4 : x5_1 < (l0_0.length : Int)
   ·rw [if_pos c4] at H
    have c4b0 : decide (x5_1 < (l0_0.length : Int)) = true := decide_eq_true c4
    clear c4
    by_cases c5 : 0 ≤ x5_1
    ·rw [if_pos c5] at H
     have c5b0 : decide (0 ≤ x5_1) = true := decide_eq_true c5
     clear c5
     by_cases c6 : ((rd_T31 l0_0 x5_1).f0) ≤ a1
     ·rw [if_pos c6] at H
      have c6b0 : decide (((rd_T31 l0_0 x5_1).f0) ≤ a1) = true := decide_eq_true c6
      clear c6
      by_cases c7 : (wrap64 (a1 - ((rd_T31 l0_0 x5_1).f0))) < 64
      ·rw [if_pos c7] at H
       have c7b0 : decide ((wrap64 (a1 - ((rd_T31 l0_0 x5_1).f0))) < 64) = true := decide_eq_true c7
       clear c7
       by_cases c8 : (wrap64 (a1 - ((rd_T31 l0_0 x5_1).f0))) < (((rd_T31 l0_0 x5_1).f1).length : Int)
       ·rw [if_pos c8] at H
        have c8b0 : decide ((wrap64 (a1 - ((rd_T31 l0_0 x5_1).f0))) < (((rd_T31 l0_0 x5_1).f1).length : Int)) = true := decide_eq_true c8
        clear c8
        by_cases c9 : a1 ≥ 0
        ·rw [if_pos c9] at H
         have c9b0 : decide (0 ≤ a1) = true := decide_eq_true c9
         clear c9
         obtain rfl := Option.some.inj H
         have hcz10_0 : wr.cell? ⟨gb286, 0, none⟩ = some (.slice A0_0 l0_0.length c0_0) := (blk_cell BK286.out 0).trans rfl
         have hfz10_0 := blk_frozen BK286.out 0
         have p287 : 0 ≤ (x5_1 : Int) := of_decide_eq_true (by first | (with_reducible assumption) | assumption)
         have q287 : x5_1 < (l0_0.length : Int) := of_decide_eq_true (by first | (with_reducible assumption) | assumption)
         obtain ⟨ad287, A287_1, c287_1, e287, hx287_0, hx287_1, hl287_1, hi287_1⟩ := at_T31 HR0_0.out x5_1 p287 q287
         cases e287
         replace hx287_0 := (HB.out.cell (World.block_lt_of_cell? w _ hx287_0)).trans hx287_0
         replace hx287_1 := (HB.out.cell (World.block_lt_of_cell? w _ hx287_1)).trans hx287_1
         have HR287_1 := Aside0.mk hi287_1
         have HC287_1 := Aside0.mk hl287_1
         clear hi287_1 hl287_1
         replace p287 := eq_true p287
         replace q287 := eq_true q287
         have p288 : 0 ≤ (x5_1 : Int) := of_decide_eq_true (by first | (with_reducible assumption) | assumption)
         have q288 : x5_1 < (l0_0.length : Int) := of_decide_eq_true (by first | (with_reducible assumption) | assumption)
         obtain ⟨ad288, A288_1, c288_1, e288, hx288_0, hx288_1, hl288_1, hi288_1⟩ := at_T31 HR0_0.out x5_1 p288 q288
         obtain rfl : ad287 = ad288 := (by injection e288)
         replace hx288_0 := (HB.out.cell (World.block_lt_of_cell? w _ hx288_0)).trans hx288_0
         replace hx288_1 := (HB.out.cell (World.block_lt_of_cell? w _ hx288_1)).trans hx288_1
         have HR288_1 := Aside0.mk hi288_1
         have HC288_1 := Aside0.mk hl288_1
         clear hi288_1 hl288_1
         replace p288 := eq_true p288
         replace q288 := eq_true q288
         have ea_ := Option.some.inj (hx287_1.symm.trans hx288_1)
         injection ea_ with ea_ en_ ec_
         subst ea_
         subst ec_
         clear en_
         go_wp2
         go_ret
         exact ⟨by first | rfl | (simp [errW_none, errW_some] <;> rfl) | (simp [*, errW_none, errW_some] <;> rfl), by repeat (first | (with_reducible first | exact HB.out | apply below_alloc | apply pw_below_drewN | apply below_drew1 | refine below_set ?_ GE286.out) | exact HB.out)⟩
        ·rw [if_neg c9] at H
         have c9b0 : decide (0 ≤ a1) = false := decide_eq_false c9
         clear c9
         have H' := Aside0.mk H
         clear H
         have hcz11_0 : wr.cell? ⟨gb286, 0, none⟩ = some (.slice A0_0 l0_0.length c0_0) := (blk_cell BK286.out 0).trans rfl
         have hfz11_0 := blk_frozen BK286.out 0
         have p287 : 0 ≤ (x5_1 : Int) := of_decide_eq_true (by first | (with_reducible assumption) | assumption)
         have q287 : x5_1 < (l0_0.length : Int) := of_decide_eq_true (by first | (with_reducible assumption) | assumption)
         obtain ⟨ad287, A287_1, c287_1, e287, hx287_0, hx287_1, hl287_1, hi287_1⟩ := at_T31 HR0_0.out x5_1 p287 q287
         cases e287
         replace hx287_0 := (HB.out.cell (World.block_lt_of_cell? w _ hx287_0)).trans hx287_0
         replace hx287_1 := (HB.out.cell (World.block_lt_of_cell? w _ hx287_1)).trans hx287_1
         have HR287_1 := Aside0.mk hi287_1
         have HC287_1 := Aside0.mk hl287_1
         clear hi287_1 hl287_1
         replace p287 := eq_true p287
         replace q287 := eq_true q287
         have p288 : 0 ≤ (x5_1 : Int) := of_decide_eq_true (by first | (with_reducible assumption) | assumption)
         have q288 : x5_1 < (l0_0.length : Int) := of_decide_eq_true (by first | (with_reducible assumption) | assumption)
         obtain ⟨ad288, A288_1, c288_1, e288, hx288_0, hx288_1, hl288_1, hi288_1⟩ := at_T31 HR0_0.out x5_1 p288 q288
         obtain rfl : ad287 = ad288 := (by injection e288)
         replace hx288_0 := (HB.out.cell (World.block_lt_of_cell? w _ hx288_0)).trans hx288_0
         replace hx288_1 := (HB.out.cell (World.block_lt_of_cell? w _ hx288_1)).trans hx288_1
         have HR288_1 := Aside0.mk hi288_1
         have HC288_1 := Aside0.mk hl288_1
         clear hi288_1 hl288_1
         replace p288 := eq_true p288
         replace q288 := eq_true q288
         have ea_ := Option.some.inj (hx287_1.symm.trans hx288_1)
         injection ea_ with ea_ en_ ec_
         subst ea_
         subst ec_
         clear en_
         go_wp2
         go_roundg k1
         case measure => have := HK1.out; omega
         case rel => exact ⟨(wrap64 (x5_1 + 1)), (by first | rfl | (simp; done) | (simp [*]; done)), H', ⟨by have := HK1.out; omega⟩, ⟨by (with_reducible repeat (first | refine blk_drewN ?_ _ | refine blk_drew ?_ | refine blk_alloc ?_ _)); exact BK286.out⟩, ⟨by repeat (first | (with_reducible first | exact HB.out | apply below_alloc | apply pw_below_drewN | apply below_drew1 | refine below_set ?_ GE286.out) | exact HB.out)⟩⟩
       ·rw [if_neg c8] at H
        have c8b0 : decide ((wrap64 (a1 - ((rd_T31 l0_0 x5_1).f0))) < (((rd_T31 l0_0 x5_1).f1).length : Int)) = false := decide_eq_false c8
        clear c8
        have H' := Aside0.mk H
        clear H
        have hcz12_0 : wr.cell? ⟨gb286, 0, none⟩ = some (.slice A0_0 l0_0.length c0_0) := (blk_cell BK286.out 0).trans rfl
        have hfz12_0 := blk_frozen BK286.out 0
        have p287 : 0 ≤ (x5_1 : Int) := of_decide_eq_true (by first | (with_reducible assumption) | assumption)
        have q287 : x5_1 < (l0_0.length : Int) := of_decide_eq_true (by first | (with_reducible assumption) | assumption)
        obtain ⟨ad287, A287_1, c287_1, e287, hx287_0, hx287_1, hl287_1, hi287_1⟩ := at_T31 HR0_0.out x5_1 p287 q287
        cases e287
        replace hx287_0 := (HB.out.cell (World.block_lt_of_cell? w _ hx287_0)).trans hx287_0
        replace hx287_1 := (HB.out.cell (World.block_lt_of_cell? w _ hx287_1)).trans hx287_1
        have HR287_1 := Aside0.mk hi287_1
        have HC287_1 := Aside0.mk hl287_1
        clear hi287_1 hl287_1
        replace p287 := eq_true p287
        replace q287 := eq_true q287
        have p288 : 0 ≤ (x5_1 : Int) := of_decide_eq_true (by first | (with_reducible assumption) | assumption)
        have q288 : x5_1 < (l0_0.length : Int) := of_decide_eq_true (by first | (with_reducible assumption) | assumption)
        obtain ⟨ad288, A288_1, c288_1, e288, hx288_0, hx288_1, hl288_1, hi288_1⟩ := at_T31 HR0_0.out x5_1 p288 q288
        obtain rfl : ad287 = ad288 := (by injection e288)
        replace hx288_0 := (HB.out.cell (World.block_lt_of_cell? w _ hx288_0)).trans hx288_0
        replace hx288_1 := (HB.out.cell (World.block_lt_of_cell? w _ hx288_1)).trans hx288_1
        have HR288_1 := Aside0.mk hi288_1
        have HC288_1 := Aside0.mk hl288_1
        clear hi288_1 hl288_1
        replace p288 := eq_true p288
        replace q288 := eq_true q288
        have ea_ := Option.some.inj (hx287_1.symm.trans hx288_1)
        injection ea_ with ea_ en_ ec_
        subst ea_
        subst ec_
        clear en_
        go_wp2
        go_roundg k1
        case measure => have := HK1.out; omega
        case rel => exact ⟨(wrap64 (x5_1 + 1)), (by first | rfl | (simp; done) | (simp [*]; done)), H', ⟨by have := HK1.out; omega⟩, ⟨by (with_reducible repeat (first | refine blk_drewN ?_ _ | refine blk_drew ?_ | refine blk_alloc ?_ _)); exact BK286.out⟩, ⟨by repeat (first | (with_reducible first | exact HB.out | apply below_alloc | apply pw_below_drewN | apply below_drew1 | refine below_set ?_ GE286.out) | exact HB.out)⟩⟩
      ·rw [if_neg c7] at H
       have c7b0 : decide ((wrap64 (a1 - ((rd_T31 l0_0 x5_1).f0))) < 64) = false := decide_eq_false c7
       clear c7
       have H' := Aside0.mk H
       clear H
       have hcz13_0 : wr.cell? ⟨gb286, 0, none⟩ = some (.slice A0_0 l0_0.length c0_0) := (blk_cell BK286.out 0).trans rfl
       have hfz13_0 := blk_frozen BK286.out 0
       have p287 : 0 ≤ (x5_1 : Int) := of_decide_eq_true (by first | (with_reducible assumption) | assumption)
       have q287 : x5_1 < (l0_0.length : Int) := of_decide_eq_true (by first | (with_reducible assumption) | assumption)
       obtain ⟨ad287, A287_1, c287_1, e287, hx287_0, hx287_1, hl287_1, hi287_1⟩ := at_T31 HR0_0.out x5_1 p287 q287
       cases e287
       replace hx287_0 := (HB.out.cell (World.block_lt_of_cell? w _ hx287_0)).trans hx287_0
       replace hx287_1 := (HB.out.cell (World.block_lt_of_cell? w _ hx287_1)).trans hx287_1
       have HR287_1 := Aside0.mk hi287_1
       have HC287_1 := Aside0.mk hl287_1
       clear hi287_1 hl287_1
       replace p287 := eq_true p287
       replace q287 := eq_true q287
       go_wp2
       go_roundg k1
       case measure => have := HK1.out; omega
       case rel => exact ⟨(wrap64 (x5_1 + 1)), (by first | rfl | (simp; done) | (simp [*]; done)), H', ⟨by have := HK1.out; omega⟩, ⟨by (with_reducible repeat (first | refine blk_drewN ?_ _ | refine blk_drew ?_ | refine blk_alloc ?_ _)); exact BK286.out⟩, ⟨by repeat (first | (with_reducible first | exact HB.out | apply below_alloc | apply pw_below_drewN | apply below_drew1 | refine below_set ?_ GE286.out) | exact HB.out)⟩⟩
     ·rw [if_neg c6] at H
      have c6b0 : decide (((rd_T31 l0_0 x5_1).f0) ≤ a1) = false := decide_eq_false c6
      clear c6
      have H' := Aside0.mk H
      clear H
      have hcz14_0 : wr.cell? ⟨gb286, 0, none⟩ = some (.slice A0_0 l0_0.length c0_0) := (blk_cell BK286.out 0).trans rfl
      have hfz14_0 := blk_frozen BK286.out 0
      have p287 : 0 ≤ (x5_1 : Int) := of_decide_eq_true (by first | (with_reducible assumption) | assumption)
      have q287 : x5_1 < (l0_0.length : Int) := of_decide_eq_true (by first | (with_reducible assumption) | assumption)
      obtain ⟨ad287, A287_1, c287_1, e287, hx287_0, hx287_1, hl287_1, hi287_1⟩ := at_T31 HR0_0.out x5_1 p287 q287
      cases e287
      replace hx287_0 := (HB.out.cell (World.block_lt_of_cell? w _ hx287_0)).trans hx287_0
      replace hx287_1 := (HB.out.cell (World.block_lt_of_cell? w _ hx287_1)).trans hx287_1
      have HR287_1 := Aside0.mk hi287_1
      have HC287_1 := Aside0.mk hl287_1
      clear hi287_1 hl287_1
      replace p287 := eq_true p287
      replace q287 := eq_true q287
      go_wp2
      go_roundg k1
      case measure => have := HK1.out; omega
      case rel => exact ⟨(wrap64 (x5_1 + 1)), (by first | rfl | (simp; done) | (simp [*]; done)), H', ⟨by have := HK1.out; omega⟩, ⟨by (with_reducible repeat (first | refine blk_drewN ?_ _ | refine blk_drew ?_ | refine blk_alloc ?_ _)); exact BK286.out⟩, ⟨by repeat (first | (with_reducible first | exact HB.out | apply below_alloc | apply pw_below_drewN | apply below_drew1 | refine below_set ?_ GE286.out) | exact HB.out)⟩⟩
    ·rw [if_neg c5] at H
     exact absurd H (by simp)
   ·rw [if_neg c4] at H
    have c4b0 : decide (x5_1 < (l0_0.length : Int)) = false := decide_eq_false c4
    clear c4
    obtain rfl := Option.some.inj H
    have hcz15_0 : wr.cell? ⟨gb286, 0, none⟩ = some (.slice A0_0 l0_0.length c0_0) := (blk_cell BK286.out 0).trans rfl
    have hfz15_0 := blk_frozen BK286.out 0
    go_wp2
    go_ret
    exact ⟨by first | rfl | (simp [errW_none, errW_some] <;> rfl) | (simp [*, errW_none, errW_some] <;> rfl), by repeat (first | (with_reducible first | exact HB.out | apply below_alloc | apply pw_below_drewN | apply below_drew1 | refine below_set ?_ GE286.out) | exact HB.out)⟩

end Go.Proofs.Ytpifepaflljolaa.PMem
