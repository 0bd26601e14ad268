-- By wip/xprint.py (a driver of this session's over the kit's print), for this claim.
import Derived.Test.YtpifepaflljolaaPMemx0
namespace Go.Proofs.Ytpifepaflljolaa.PMem
open Go.RowKit Go.Proofs.YtpifepaflljolaaW.PrintWords Go.Proofs.YtpifepaflljolaaW.PrintLast Go.Proofs.YtpifepaflljolaaW.PrintMore
attribute [local go_sem] max2_int min2_int max_two min_two max_three min_three max_four min_four   -- for this text's walks alone
set_option linter.unusedVariables false
set_option linter.unusedSimpArgs false

/-! ### memory_same: function 40 -/
def memory_same.l0 : Nat → List Int → Int → Int → Int → List Int → Option (Bool)
 | 0, _, _, _, _, _ => none
 | k + 1, x15, x16, x17, x431000, x431001 => if x17 < x16 then (if 0 ≤ x17 then (if x17 < (x15.length : Int) then (if x17 < (x431001.length : Int) then (if (rd x431001 x17) = (rd x15 x17) then (memory_same.l0 k x15 x16 (wrap64 (x17 + 1)) x431000 x431001) else (some false)) else (none)) else (none)) else (none)) else (some true)
def memory_same.f (k : Nat) (a0_0 : Int) (l0_1 : List Int) (a1_0 : Int) (l1_1 : List Int) : Option (Bool) := if (l0_1.length : Int) = (l1_1.length : Int) then (memory_same.l0 k l0_1 (l0_1.length : Int) 0 a1_0 l1_1) else (some false)
theorem memory_same.mono_l : ∀ k, (∀ y0 y1 y2 y3 y4, LeO (memory_same.l0 k y0 y1 y2 y3 y4) (memory_same.l0 (k + 1) y0 y1 y2 y3 y4))
 | 0 => fun _ _ _ _ _ r h => by simp [memory_same.l0] at h
 | k + 1 => by
  have ih0 := memory_same.mono_l k
  ·intro y0 y1 y2 y3 y4
   unfold memory_same.l0
   repeat' first
   | (with_reducible exact ih0 _ _ _ _ _)
   | (with_reducible exact LeO.refl _)
   | (with_reducible exact LeO.none _)
   | (with_reducible refine LeO.ite ?_ ?_)
   | (with_reducible refine LeO.bind ?_ (fun _ => ?_))
   | exact ih0 _ _ _ _ _
   | exact LeO.none _
   | refine LeO.ite ?_ ?_
   | refine LeO.bind ?_ (fun _ => ?_)
theorem memory_same.mono : ∀ a0 a1 a2 a3 k, LeO (memory_same.f k a0 a1 a2 a3) (memory_same.f (k + 1) a0 a1 a2 a3) := by
 intro a0 a1 a2 a3 k
 have ih0 := memory_same.mono_l k
 unfold memory_same.f
 repeat' first
   | (with_reducible exact ih0 _ _ _ _ _)
   | (with_reducible exact LeO.refl _)
   | (with_reducible exact LeO.none _)
   | (with_reducible refine LeO.ite ?_ ?_)
   | (with_reducible refine LeO.bind ?_ (fun _ => ?_))
   | exact ih0 _ _ _ _ _
   | exact LeO.none _
   | refine LeO.ite ?_ ?_
   | refine LeO.bind ?_ (fun _ => ?_)
set_option maxHeartbeats 8000000 in
set_option maxRecDepth 100000 in
theorem memory_same.calls (k : Nat) (a0_0 : Int) (A0_1 : Option Addr) (c0_1 : Nat) (l0_1 : List Int) (a1_0 : Int) (A1_1 : Option Addr) (c1_1 : Nat) (l1_1 : List Int) (r : Bool) (w : World) (hr0_1 : Kd.C (Kd.int .i64) w A0_1 l0_1.length l0_1) (hc0_1 : l0_1.length ≤ c0_1) (hr1_1 : Kd.C (Kd.int .i64) w A1_1 l1_1.length l1_1) (hc1_1 : l1_1.length ≤ c1_1) (h : memory_same.f k a0_0 l0_1 a1_0 l1_1 = some r) :
  Calls Try.prog 40 #[.agg #[.int .i64 a0_0, .slice A0_1 l0_1.length c0_1], .agg #[.int .i64 a1_0, .slice A1_1 l1_1.length c1_1]] w fun e w' => e = .returned (.bool r) ∧ Below w.heap.size w w' := by
 have hu31 := Try.underlying31
 have HR0_1 := Aside0.mk hr0_1
 have HC0_1 := Aside0.mk hc0_1
 clear hr0_1 hc0_1
 have HR1_1 := Aside0.mk hr1_1
 have HC1_1 := Aside0.mk hc1_1
 clear hr1_1 hc1_1
 have HB := Zw (Below.refl w.heap.size w)
 have H : (if (l0_1.length : Int) = (l1_1.length : Int) then (memory_same.l0 k l0_1 (l0_1.length : Int) 0 a1_0 l1_1) else (some false)) = some r := h
 clear h
 by_cases c3 : (l0_1.length : Int) = (l1_1.length : Int)
 ·rw [if_pos c3] at H
  have c3b0 : ((l0_1.length : Int) == (l1_1.length : Int)) = true := beq_iff_eq.mpr c3
  have c3b1 : ((l0_1.length : Int) != (l1_1.length : Int)) = false := bne_eq_false_iff_eq.mpr c3
  have c3b2 : (l0_1.length == l1_1.length) = true := by first | simpa using c3 | (simp at c3 ⊢; omega)
  clear c3
  have H' := Aside0.mk H
  clear H
  go_enter Try.func40, Try.ntmps40
  go_wp2_with (first | ((with_reducible refine gate_dst (N := 2) rfl ?_); refine box_event ?hg (N := 2) ?hd (cs := #[.int .i64 a0_0, .slice A0_1 l0_1.length c0_1]) (t := 31) ?hr ?_; (case hd => rfl); (case hg => rfl); (case hr => first | (go_simp; done) | (go_simp; rfl)); intro gb429 hg w4 hbox hb; have n0_ := Zw (below_step (Zh HB.out) hb); have n1_ := Zw (hbox); have n2_ := Zw ((by rw [hg]; exact (below_size (Zh HB.out)) : w.heap.size ≤ gb429)); have n3_ := Zw ((by rw [hg]; exact (below_size (Zh HB.out)) : w.heap.size ≤ gb429)); clear HB; have HB := n0_; have BK429 := n1_; have GW429 := n2_; have GE429 := n3_; clear n0_ n1_ n2_ n3_; clear hb hbox hg) | ((with_reducible refine gate_dst (N := 3) rfl ?_); refine box_event ?hg (N := 3) ?hd (cs := #[.int .i64 a1_0, .slice A1_1 l1_1.length c1_1]) (t := 31) ?hr ?_; (case hd => rfl); (case hg => rfl); (case hr => first | (go_simp; done) | (go_simp; rfl)); intro gb430 hg w5 hbox hb; have n0_ := Zw (blk_below (g := gb429) (o := .cells #[.int .i64 a0_0, .slice A0_1 l0_1.length c0_1] 31 (0, 0)) (Zb BK429.out) hb); have n1_ := Zw (below_step (Zh1 HB.out GE429.out) hb); have n2_ := Zw (hbox); have n3_ := Zw ((by rw [hg]; exact (below_size (Zh1 HB.out GE429.out)) : w.heap.size ≤ gb430)); have n4_ := Zw ((by rw [hg]; exact (below_size (Zh1 HB.out GE429.out)) : w.heap.size ≤ gb430)); have n5_ := Zw ((by rw [hg]; exact Nat.ne_of_lt (blk_lt (Zb BK429.out)) : gb429 ≠ gb430)); have n6_ := Zw ((by rw [hg]; exact Nat.ne_of_gt (blk_lt (Zb BK429.out)) : gb430 ≠ gb429)); clear BK429; clear HB; have BK429 := n0_; have HB := n1_; have BK430 := n2_; have GW430 := n3_; have GE430 := n4_; have NB429_430 := n5_; have NB430_429 := n6_; clear n0_ n1_ n2_ n3_ n4_ n5_ n6_; clear hb hbox hg; have hnb6 := NB429_430.out; have hnc6 := NB430_429.out; have hcz7_0 := Zcl BK429.out 0 rfl; have hcz7_1 := Zcl BK429.out 1 rfl; have hfz7_0 := blk_frozen BK429.out 0; have hfz7_1 := blk_frozen BK429.out 1; have hcz8_0 := Zcl BK430.out 0 rfl; have hcz8_1 := Zcl BK430.out 1 rfl; have hfz8_0 := blk_frozen BK430.out 0; have hfz8_1 := blk_frozen BK430.out 1))
  go_loopg [17] k (fun kq v17 w' => ∃ (x17_1 : Int), v17 = .int .i64 x17_1 ∧ Aside0 (memory_same.l0 kq l0_1 (l0_1.length : Int) x17_1 a1_0 l1_1 = some r) ∧ Aside0 (kq ≤ k) ∧ Aside0 (w'.heap[gb429]? = some (.cells #[.int .i64 a0_0, (.slice A0_1 l0_1.length c0_1)] 31 (0, 0))) ∧ Aside0 (w'.heap[gb430]? = some (.cells #[.int .i64 a1_0, (.slice A1_1 l1_1.length c1_1)] 31 (0, 0))) ∧ Aside0 (Below w.heap.size w w'))
  case atStart => exact ⟨(0), (by first | rfl | (simp; done) | (simp [*]; done)), H', ⟨Nat.le_refl _⟩, ⟨Zb BK429.out⟩, ⟨Zb BK430.out⟩, ⟨Zh2 HB.out GE429.out GE430.out⟩⟩
  case round =>
   clear H'
   try clear c1
   try clear p2
   try clear c3
   try clear c3b0
   try clear c3b1
   try clear c3b2
   try clear c4
   try clear c6
   try clear hcz7_0
   try clear hcz7_1
   try clear hcz8_0
   try clear hcz8_1
   try clear hfz7_0
   try clear hfz7_1
   try clear hfz8_0
   try clear hfz8_1
   obtain ⟨x17_1, rfl, HA, HK1, BK429, BK430, HB⟩ := hrel
   cases gk with
   | zero => exact absurd HA.out (by simp [memory_same.l0])
   | succ k1 =>
    have H := HA.out
    clear HA
    simp only [memory_same.l0] at H
    by_cases c9 : x17_1 < (l0_1.length : Int)
    ·rw [if_pos c9] at H
     have c9b0 : decide (x17_1 < (l0_1.length : Int)) = true := decide_eq_true c9
     clear c9
     by_cases c10 : 0 ≤ x17_1
     ·rw [if_pos c10] at H
      have c10b0 : decide (0 ≤ x17_1) = true := decide_eq_true c10
      clear c10
      by_cases c11 : x17_1 < (l0_1.length : Int)
      ·rw [if_pos c11] at H
       have c11b0 : decide (x17_1 < (l0_1.length : Int)) = true := decide_eq_true c11
       clear c11
       by_cases c12 : x17_1 < (l1_1.length : Int)
       ·rw [if_pos c12] at H
        have c12b0 : decide (x17_1 < (l1_1.length : Int)) = true := decide_eq_true c12
        clear c12
        by_cases c13 : (rd l1_1 x17_1) = (rd l0_1 x17_1)
        ·rw [if_pos c13] at H
         have c13b0 : ((rd l1_1 x17_1) == (rd l0_1 x17_1)) = true := beq_iff_eq.mpr c13
         have c13b1 : ((rd l1_1 x17_1) != (rd l0_1 x17_1)) = false := bne_eq_false_iff_eq.mpr c13
         clear c13
         have H' := Aside0.mk H
         clear H
         have p431 : 0 ≤ (x17_1 : Int) := of_decide_eq_true Za
         have q431 : x17_1 < (l0_1.length : Int) := of_decide_eq_true Za
         obtain ⟨ad431, e431, hx431_0⟩ := Kd.at_int HR0_1.out x17_1 p431 q431
         cases e431
         replace hx431_0 := Zl HB.out hx431_0
         replace p431 := eq_true p431
         replace q431 := eq_true q431
         have hnb14 := NB430_429.out
         have hnc14 := NB429_430.out
         have hcz15_0 := Zcl BK430.out 0 rfl
         have hcz15_1 := Zcl BK430.out 1 rfl
         have hfz15_0 := blk_frozen BK430.out 0
         have hfz15_1 := blk_frozen BK430.out 1
         have p432 : 0 ≤ (x17_1 : Int) := of_decide_eq_true Za
         have q432 : x17_1 < (l1_1.length : Int) := of_decide_eq_true Za
         obtain ⟨ad432, e432, hx432_0⟩ := Kd.at_int HR1_1.out x17_1 p432 q432
         cases e432
         replace hx432_0 := Zl HB.out hx432_0
         replace p432 := eq_true p432
         replace q432 := eq_true q432
         go_wp2
         go_roundg k1
         case measure => have := HK1.out; omega
         case rel => exact ⟨(wrap64 (x17_1 + 1)), (by first | rfl | (simp; done) | (simp [*]; done)), H', ⟨by have := HK1.out; omega⟩, ⟨Zb BK429.out⟩, ⟨Zb BK430.out⟩, ⟨Zh2 HB.out GE429.out GE430.out⟩⟩
        ·rw [if_neg c13] at H
         have c13b0 : ((rd l1_1 x17_1) == (rd l0_1 x17_1)) = false := beq_eq_false_iff_ne.mpr c13
         have c13b1 : ((rd l1_1 x17_1) != (rd l0_1 x17_1)) = true := bne_iff_ne.mpr c13
         obtain rfl := Option.some.inj H
         have p431 : 0 ≤ (x17_1 : Int) := of_decide_eq_true Za
         have q431 : x17_1 < (l0_1.length : Int) := of_decide_eq_true Za
         obtain ⟨ad431, e431, hx431_0⟩ := Kd.at_int HR0_1.out x17_1 p431 q431
         cases e431
         replace hx431_0 := Zl HB.out hx431_0
         replace p431 := eq_true p431
         replace q431 := eq_true q431
         have hnb16 := NB430_429.out
         have hnc16 := NB429_430.out
         have hcz17_0 := Zcl BK430.out 0 rfl
         have hcz17_1 := Zcl BK430.out 1 rfl
         have hfz17_0 := blk_frozen BK430.out 0
         have hfz17_1 := blk_frozen BK430.out 1
         have p432 : 0 ≤ (x17_1 : Int) := of_decide_eq_true Za
         have q432 : x17_1 < (l1_1.length : Int) := of_decide_eq_true Za
         obtain ⟨ad432, e432, hx432_0⟩ := Kd.at_int HR1_1.out x17_1 p432 q432
         cases e432
         replace hx432_0 := Zl HB.out hx432_0
         replace p432 := eq_true p432
         replace q432 := eq_true q432
         go_wp2
         go_ret
         exact ⟨by first | rfl | (simp [errW_none, errW_some] <;> rfl) | (simp [*, errW_none, errW_some] <;> rfl), Zh2 HB.out GE429.out GE430.out⟩
       ·rw [if_neg c12] at H
        exact absurd H (by simp)
      ·rw [if_neg c11] at H
       exact absurd H (by simp)
     ·rw [if_neg c10] at H
      exact absurd H (by simp)
    ·rw [if_neg c9] at H
     have c9b0 : decide (x17_1 < (l0_1.length : Int)) = false := decide_eq_false c9
     clear c9
     obtain rfl := Option.some.inj H
     go_wp2
     go_ret
     exact ⟨by first | rfl | (simp [errW_none, errW_some] <;> rfl) | (simp [*, errW_none, errW_some] <;> rfl), Zh2 HB.out GE429.out GE430.out⟩
 ·rw [if_neg c3] at H
  have c3b0 : ((l0_1.length : Int) == (l1_1.length : Int)) = false := beq_eq_false_iff_ne.mpr c3
  have c3b1 : ((l0_1.length : Int) != (l1_1.length : Int)) = true := bne_iff_ne.mpr c3
  have c3b2 : (l0_1.length == l1_1.length) = false := by first | simpa using c3 | (simp at c3 ⊢; omega)
  obtain rfl := Option.some.inj H
  go_enter Try.func40, Try.ntmps40
  go_wp2_with (first | ((with_reducible refine gate_dst (N := 2) rfl ?_); refine box_event ?hg (N := 2) ?hd (cs := #[.int .i64 a0_0, .slice A0_1 l0_1.length c0_1]) (t := 31) ?hr ?_; (case hd => rfl); (case hg => rfl); (case hr => first | (go_simp; done) | (go_simp; rfl)); intro gb429 hg w18 hbox hb; have n0_ := Zw (below_step (Zh HB.out) hb); have n1_ := Zw (hbox); have n2_ := Zw ((by rw [hg]; exact (below_size (Zh HB.out)) : w.heap.size ≤ gb429)); have n3_ := Zw ((by rw [hg]; exact (below_size (Zh HB.out)) : w.heap.size ≤ gb429)); clear HB; have HB := n0_; have BK429 := n1_; have GW429 := n2_; have GE429 := n3_; clear n0_ n1_ n2_ n3_; clear hb hbox hg) | ((with_reducible refine gate_dst (N := 3) rfl ?_); refine box_event ?hg (N := 3) ?hd (cs := #[.int .i64 a1_0, .slice A1_1 l1_1.length c1_1]) (t := 31) ?hr ?_; (case hd => rfl); (case hg => rfl); (case hr => first | (go_simp; done) | (go_simp; rfl)); intro gb430 hg w19 hbox hb; have n0_ := Zw (blk_below (g := gb429) (o := .cells #[.int .i64 a0_0, .slice A0_1 l0_1.length c0_1] 31 (0, 0)) (Zb BK429.out) hb); have n1_ := Zw (below_step (Zh1 HB.out GE429.out) hb); have n2_ := Zw (hbox); have n3_ := Zw ((by rw [hg]; exact (below_size (Zh1 HB.out GE429.out)) : w.heap.size ≤ gb430)); have n4_ := Zw ((by rw [hg]; exact (below_size (Zh1 HB.out GE429.out)) : w.heap.size ≤ gb430)); have n5_ := Zw ((by rw [hg]; exact Nat.ne_of_lt (blk_lt (Zb BK429.out)) : gb429 ≠ gb430)); have n6_ := Zw ((by rw [hg]; exact Nat.ne_of_gt (blk_lt (Zb BK429.out)) : gb430 ≠ gb429)); clear BK429; clear HB; have BK429 := n0_; have HB := n1_; have BK430 := n2_; have GW430 := n3_; have GE430 := n4_; have NB429_430 := n5_; have NB430_429 := n6_; clear n0_ n1_ n2_ n3_ n4_ n5_ n6_; clear hb hbox hg; have hnb20 := NB429_430.out; have hnc20 := NB430_429.out; have hcz21_0 := Zcl BK429.out 0 rfl; have hcz21_1 := Zcl BK429.out 1 rfl; have hfz21_0 := blk_frozen BK429.out 0; have hfz21_1 := blk_frozen BK429.out 1; have hcz22_0 := Zcl BK430.out 0 rfl; have hcz22_1 := Zcl BK430.out 1 rfl; have hfz22_0 := blk_frozen BK430.out 0; have hfz22_1 := blk_frozen BK430.out 1))
  go_ret
  exact ⟨by first | rfl | (simp [errW_none, errW_some] <;> rfl) | (simp [*, errW_none, errW_some] <;> rfl), Zh2 HB.out GE429.out GE430.out⟩

end Go.Proofs.Ytpifepaflljolaa.PMem
