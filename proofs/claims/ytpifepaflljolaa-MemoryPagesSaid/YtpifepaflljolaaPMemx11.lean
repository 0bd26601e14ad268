-- By wip/xprint.py (a driver of this session's over the kit's print), for this claim.
import Derived.Test.YtpifepaflljolaaPMemx0
import Derived.Test.YtpifepaflljolaaPMemx10
namespace Go.Proofs.Ytpifepaflljolaa.PMem
open Go.RowKit Go.Proofs.YtpifepaflljolaaW.PrintWords Go.Proofs.YtpifepaflljolaaW.PrintLast Go.Proofs.YtpifepaflljolaaW.PrintMore
attribute [local go_sem] max2_int min2_int max_two min_two max_three min_three max_four min_four   -- for this text's walks alone
set_option linter.unusedVariables false
set_option linter.unusedSimpArgs false

/-! ### debuggerref25_Same: function 16 -/
def debuggerref25_Same.l0 : Nat → Int → List (S31) → List (S31) → Option (Bool)
 | 0, _, _, _ => none
 | k + 1, x5, x152000, x153000 => if x5 < (x152000.length : Int) then (if 0 ≤ x5 then (if x5 < (x153000.length : Int) then (if ((rd_T31 x152000 x5).f0) = ((rd_T31 x153000 x5).f0) then ((debuggerref25_Ints.f k ((rd_T31 x152000 x5).f1) ((rd_T31 x153000 x5).f1)).bind fun t157 => (if t157 = true then (debuggerref25_Same.l0 k (wrap64 (x5 + 1)) x152000 x153000) else (some false))) else (some false)) else (none)) else (none)) else (some true)
def debuggerref25_Same.f (k : Nat) (l0_0 : List (S31)) (l1_0 : List (S31)) : Option (Bool) := if (l0_0.length : Int) = (l1_0.length : Int) then (debuggerref25_Same.l0 k 0 l0_0 l1_0) else (some false)
theorem debuggerref25_Same.mono_l : ∀ k, (∀ y0 y1 y2, LeO (debuggerref25_Same.l0 k y0 y1 y2) (debuggerref25_Same.l0 (k + 1) y0 y1 y2))
 | 0 => fun _ _ _ r h => by simp [debuggerref25_Same.l0] at h
 | k + 1 => by
  have ih0 := debuggerref25_Same.mono_l k
  ·intro y0 y1 y2
   unfold debuggerref25_Same.l0
   repeat' first
   | (with_reducible exact ih0 _ _ _)
   | (with_reducible exact debuggerref25_Ints.mono _ _ _)
   | (with_reducible exact LeO.refl _)
   | (with_reducible exact LeO.none _)
   | (with_reducible refine LeO.ite ?_ ?_)
   | (with_reducible refine LeO.bind ?_ (fun _ => ?_))
   | exact ih0 _ _ _
   | exact debuggerref25_Ints.mono _ _ _
   | exact LeO.none _
   | refine LeO.ite ?_ ?_
   | refine LeO.bind ?_ (fun _ => ?_)
theorem debuggerref25_Same.mono : ∀ a0 a1 k, LeO (debuggerref25_Same.f k a0 a1) (debuggerref25_Same.f (k + 1) a0 a1) := by
 intro a0 a1 k
 have ih0 := debuggerref25_Same.mono_l k
 unfold debuggerref25_Same.f
 repeat' first
   | (with_reducible exact ih0 _ _ _)
   | (with_reducible exact debuggerref25_Ints.mono _ _ _)
   | (with_reducible exact LeO.refl _)
   | (with_reducible exact LeO.none _)
   | (with_reducible refine LeO.ite ?_ ?_)
   | (with_reducible refine LeO.bind ?_ (fun _ => ?_))
   | exact ih0 _ _ _
   | exact debuggerref25_Ints.mono _ _ _
   | exact LeO.none _
   | refine LeO.ite ?_ ?_
   | refine LeO.bind ?_ (fun _ => ?_)
set_option maxHeartbeats 8000000 in
set_option maxRecDepth 100000 in
theorem debuggerref25_Same.calls (k : Nat) (A0_0 : Option Addr) (c0_0 : Nat) (l0_0 : List (S31)) (A1_0 : Option Addr) (c1_0 : Nat) (l1_0 : List (S31)) (r : Bool) (w : World) (hr0_0 : Kd.C k31 w A0_0 l0_0.length l0_0) (hc0_0 : l0_0.length ≤ c0_0) (hr1_0 : Kd.C k31 w A1_0 l1_0.length l1_0) (hc1_0 : l1_0.length ≤ c1_0) (h : debuggerref25_Same.f k l0_0 l1_0 = some r) :
  Calls Try.prog 16 #[.agg #[.slice A0_0 l0_0.length c0_0], .agg #[.slice A1_0 l1_0.length c1_0]] w fun e w' => e = .returned (.bool r) ∧ Below w.heap.size w w' := by
 have hu24 := Try.underlying24
 have HR0_0 := Aside0.mk hr0_0
 have HC0_0 := Aside0.mk hc0_0
 clear hr0_0 hc0_0
 have HR1_0 := Aside0.mk hr1_0
 have HC1_0 := Aside0.mk hc1_0
 clear hr1_0 hc1_0
 have HB := Zw (Below.refl w.heap.size w)
 have H : (if (l0_0.length : Int) = (l1_0.length : Int) then (debuggerref25_Same.l0 k 0 l0_0 l1_0) else (some false)) = some r := h
 clear h
 by_cases c3 : (l0_0.length : Int) = (l1_0.length : Int)
 ·rw [if_pos c3] at H
  have c3b0 : ((l0_0.length : Int) == (l1_0.length : Int)) = true := beq_iff_eq.mpr c3
  have c3b1 : ((l0_0.length : Int) != (l1_0.length : Int)) = false := bne_eq_false_iff_eq.mpr c3
  have c3b2 : (l0_0.length == l1_0.length) = true := by first | simpa using c3 | (simp at c3 ⊢; omega)
  clear c3
  have H' := Aside0.mk H
  clear H
  go_enter Try.func16, Try.ntmps16
  go_wp2_with (first | ((with_reducible refine gate_dst (N := 2) rfl ?_); refine box_event ?hg (N := 2) ?hd (cs := #[.slice A0_0 l0_0.length c0_0]) (t := 24) ?hr ?_; (case hd => rfl); (case hg => rfl); (case hr => first | (go_simp; done) | (go_simp; rfl)); intro gb151 hg w4 hbox hb; have n0_ := Zw (below_step (Zh HB.out) hb); have n1_ := Zw (hbox); have n2_ := Zw ((by rw [hg]; exact (below_size (Zh HB.out)) : w.heap.size ≤ gb151)); have n3_ := Zw ((by rw [hg]; exact (below_size (Zh HB.out)) : w.heap.size ≤ gb151)); clear HB; have HB := n0_; have BK151 := n1_; have GW151 := n2_; have GE151 := n3_; clear n0_ n1_ n2_ n3_; clear hb hbox hg) | ((with_reducible refine gate_dst (N := 3) rfl ?_); refine box_event ?hg (N := 3) ?hd (cs := #[.slice A1_0 l1_0.length c1_0]) (t := 24) ?hr ?_; (case hd => rfl); (case hg => rfl); (case hr => first | (go_simp; done) | (go_simp; rfl)); intro gb152 hg w5 hbox hb; have n0_ := Zw (blk_below (g := gb151) (o := .cells #[.slice A0_0 l0_0.length c0_0] 24 (0, 0)) (Zb BK151.out) hb); have n1_ := Zw (below_step (Zh1 HB.out GE151.out) hb); have n2_ := Zw (hbox); have n3_ := Zw ((by rw [hg]; exact (below_size (Zh1 HB.out GE151.out)) : w.heap.size ≤ gb152)); have n4_ := Zw ((by rw [hg]; exact (below_size (Zh1 HB.out GE151.out)) : w.heap.size ≤ gb152)); have n5_ := Zw ((by rw [hg]; exact Nat.ne_of_lt (blk_lt (Zb BK151.out)) : gb151 ≠ gb152)); have n6_ := Zw ((by rw [hg]; exact Nat.ne_of_gt (blk_lt (Zb BK151.out)) : gb152 ≠ gb151)); clear BK151; clear HB; have BK151 := n0_; have HB := n1_; have BK152 := n2_; have GW152 := n3_; have GE152 := n4_; have NB151_152 := n5_; have NB152_151 := n6_; clear n0_ n1_ n2_ n3_ n4_ n5_ n6_; clear hb hbox hg; have hnb6 := NB151_152.out; have hnc6 := NB152_151.out; have hcz7_0 := Zcl BK151.out 0 rfl; have hfz7_0 := blk_frozen BK151.out 0; have hcz8_0 := Zcl BK152.out 0 rfl; have hfz8_0 := blk_frozen BK152.out 0))
  repeat (go_quiet (first | ((with_reducible refine gate_dst (N := 2) rfl ?_); refine box_event ?hg (N := 2) ?hd (cs := #[.slice A0_0 l0_0.length c0_0]) (t := 24) ?hr ?_; (case hd => rfl); (case hg => rfl); (case hr => first | (go_simp; done) | (go_simp; rfl)); intro gb151 hg w4 hbox hb; have n0_ := Zw (below_step (Zh HB.out) hb); have n1_ := Zw (hbox); have n2_ := Zw ((by rw [hg]; exact (below_size (Zh HB.out)) : w.heap.size ≤ gb151)); have n3_ := Zw ((by rw [hg]; exact (below_size (Zh HB.out)) : w.heap.size ≤ gb151)); clear HB; have HB := n0_; have BK151 := n1_; have GW151 := n2_; have GE151 := n3_; clear n0_ n1_ n2_ n3_; clear hb hbox hg) | ((with_reducible refine gate_dst (N := 3) rfl ?_); refine box_event ?hg (N := 3) ?hd (cs := #[.slice A1_0 l1_0.length c1_0]) (t := 24) ?hr ?_; (case hd => rfl); (case hg => rfl); (case hr => first | (go_simp; done) | (go_simp; rfl)); intro gb152 hg w5 hbox hb; have n0_ := Zw (blk_below (g := gb151) (o := .cells #[.slice A0_0 l0_0.length c0_0] 24 (0, 0)) (Zb BK151.out) hb); have n1_ := Zw (below_step (Zh1 HB.out GE151.out) hb); have n2_ := Zw (hbox); have n3_ := Zw ((by rw [hg]; exact (below_size (Zh1 HB.out GE151.out)) : w.heap.size ≤ gb152)); have n4_ := Zw ((by rw [hg]; exact (below_size (Zh1 HB.out GE151.out)) : w.heap.size ≤ gb152)); have n5_ := Zw ((by rw [hg]; exact Nat.ne_of_lt (blk_lt (Zb BK151.out)) : gb151 ≠ gb152)); have n6_ := Zw ((by rw [hg]; exact Nat.ne_of_gt (blk_lt (Zb BK151.out)) : gb152 ≠ gb151)); clear BK151; clear HB; have BK151 := n0_; have HB := n1_; have BK152 := n2_; have GW152 := n3_; have GE152 := n4_; have NB151_152 := n5_; have NB152_151 := n6_; clear n0_ n1_ n2_ n3_ n4_ n5_ n6_; clear hb hbox hg; have hnb6 := NB151_152.out; have hnc6 := NB152_151.out; have hcz7_0 := Zcl BK151.out 0 rfl; have hfz7_0 := blk_frozen BK151.out 0; have hcz8_0 := Zcl BK152.out 0 rfl; have hfz8_0 := blk_frozen BK152.out 0)); try go_wp2_with (first | ((with_reducible refine gate_dst (N := 2) rfl ?_); refine box_event ?hg (N := 2) ?hd (cs := #[.slice A0_0 l0_0.length c0_0]) (t := 24) ?hr ?_; (case hd => rfl); (case hg => rfl); (case hr => first | (go_simp; done) | (go_simp; rfl)); intro gb151 hg w4 hbox hb; have n0_ := Zw (below_step (Zh HB.out) hb); have n1_ := Zw (hbox); have n2_ := Zw ((by rw [hg]; exact (below_size (Zh HB.out)) : w.heap.size ≤ gb151)); have n3_ := Zw ((by rw [hg]; exact (below_size (Zh HB.out)) : w.heap.size ≤ gb151)); clear HB; have HB := n0_; have BK151 := n1_; have GW151 := n2_; have GE151 := n3_; clear n0_ n1_ n2_ n3_; clear hb hbox hg) | ((with_reducible refine gate_dst (N := 3) rfl ?_); refine box_event ?hg (N := 3) ?hd (cs := #[.slice A1_0 l1_0.length c1_0]) (t := 24) ?hr ?_; (case hd => rfl); (case hg => rfl); (case hr => first | (go_simp; done) | (go_simp; rfl)); intro gb152 hg w5 hbox hb; have n0_ := Zw (blk_below (g := gb151) (o := .cells #[.slice A0_0 l0_0.length c0_0] 24 (0, 0)) (Zb BK151.out) hb); have n1_ := Zw (below_step (Zh1 HB.out GE151.out) hb); have n2_ := Zw (hbox); have n3_ := Zw ((by rw [hg]; exact (below_size (Zh1 HB.out GE151.out)) : w.heap.size ≤ gb152)); have n4_ := Zw ((by rw [hg]; exact (below_size (Zh1 HB.out GE151.out)) : w.heap.size ≤ gb152)); have n5_ := Zw ((by rw [hg]; exact Nat.ne_of_lt (blk_lt (Zb BK151.out)) : gb151 ≠ gb152)); have n6_ := Zw ((by rw [hg]; exact Nat.ne_of_gt (blk_lt (Zb BK151.out)) : gb152 ≠ gb151)); clear BK151; clear HB; have BK151 := n0_; have HB := n1_; have BK152 := n2_; have GW152 := n3_; have GE152 := n4_; have NB151_152 := n5_; have NB152_151 := n6_; clear n0_ n1_ n2_ n3_ n4_ n5_ n6_; clear hb hbox hg; have hnb6 := NB151_152.out; have hnc6 := NB152_151.out; have hcz7_0 := Zcl BK151.out 0 rfl; have hfz7_0 := blk_frozen BK151.out 0; have hcz8_0 := Zcl BK152.out 0 rfl; have hfz8_0 := blk_frozen BK152.out 0)))
  go_loopg [5] k (fun kq v5 w' => ∃ (x5_1 : Int), v5 = .int .i64 x5_1 ∧ Aside0 (debuggerref25_Same.l0 kq x5_1 l0_0 l1_0 = some r) ∧ Aside0 (kq ≤ k) ∧ Aside0 (w'.heap[gb151]? = some (.cells #[(.slice A0_0 l0_0.length c0_0)] 24 (0, 0))) ∧ Aside0 (w'.heap[gb152]? = some (.cells #[(.slice A1_0 l1_0.length c1_0)] 24 (0, 0))) ∧ Aside0 (Below w.heap.size w w'))
  case atStart => exact ⟨(0), (by first | rfl | (simp; done) | (simp [*]; done)), H', ⟨Nat.le_refl _⟩, ⟨Zb BK151.out⟩, ⟨Zb BK152.out⟩, ⟨Zh2 HB.out GE151.out GE152.out⟩⟩
  case round =>
   clear H'
   try clear c1
   try clear p2
   try clear c3
   try clear c3b0
   try clear c3b1
   try clear c3b2
   try clear c6
   try clear hcz7_0
   try clear hcz8_0
   try clear hfz7_0
   try clear hfz8_0
   obtain ⟨x5_1, rfl, HA, HK1, BK151, BK152, HB⟩ := hrel
   cases gk with
   | zero => exact absurd HA.out (by simp [debuggerref25_Same.l0])
   | succ k1 =>
    have H := HA.out
    clear HA
    simp only [debuggerref25_Same.l0] at H
    by_cases c9 : x5_1 < (l0_0.length : Int)
    ·rw [if_pos c9] at H
     have c9b0 : decide (x5_1 < (l0_0.length : Int)) = true := decide_eq_true c9
     clear c9
     by_cases c10 : 0 ≤ x5_1
     ·rw [if_pos c10] at H
      have c10b0 : decide (0 ≤ x5_1) = true := decide_eq_true c10
      clear c10
      by_cases c11 : x5_1 < (l1_0.length : Int)
      ·rw [if_pos c11] at H
       have c11b0 : decide (x5_1 < (l1_0.length : Int)) = true := decide_eq_true c11
       clear c11
       by_cases c12 : ((rd_T31 l0_0 x5_1).f0) = ((rd_T31 l1_0 x5_1).f0)
       ·rw [if_pos c12] at H
        have c12b0 : (((rd_T31 l0_0 x5_1).f0) == ((rd_T31 l1_0 x5_1).f0)) = true := beq_iff_eq.mpr c12
        have c12b1 : (((rd_T31 l0_0 x5_1).f0) != ((rd_T31 l1_0 x5_1).f0)) = false := bne_eq_false_iff_eq.mpr c12
        clear c12
        replace H := Option.bind_eq_some_iff.mp H
        obtain ⟨t157, A130, H⟩ := H
        replace H : (if t157 = true then (debuggerref25_Same.l0 k1 (wrap64 (x5_1 + 1)) l0_0 l1_0) else (some false)) = some r := H
        have A13 := Aside0.mk A130
        clear A130
        by_cases c14 : t157 = true
        ·subst c14
         have H1 : (debuggerref25_Same.l0 k1 (wrap64 (x5_1 + 1)) l0_0 l1_0) = some r := by rw [if_pos rfl] at H; exact H
         clear H
         have H := H1
         clear H1
         have H' := Aside0.mk H
         clear H
         have hnb15 := NB151_152.out
         have hnc15 := NB152_151.out
         have hcz16_0 := Zcl BK151.out 0 rfl
         have hfz16_0 := blk_frozen BK151.out 0
         have p153 : 0 ≤ (x5_1 : Int) := of_decide_eq_true Za
         have q153 : x5_1 < (l0_0.length : Int) := of_decide_eq_true Za
         obtain ⟨ad153, A153_1, c153_1, e153, hx153_0, hx153_1, hl153_1, hi153_1⟩ := at_T31 HR0_0.out x5_1 p153 q153
         cases e153
         replace hx153_0 := Zl HB.out hx153_0
         replace hx153_1 := Zl HB.out hx153_1
         have HR153_1 := Aside0.mk hi153_1
         have HC153_1 := Aside0.mk hl153_1
         clear hi153_1 hl153_1
         replace p153 := eq_true p153
         replace q153 := eq_true q153
         have hcz17_0 := Zcl BK152.out 0 rfl
         have hfz17_0 := blk_frozen BK152.out 0
         have p154 : 0 ≤ (x5_1 : Int) := of_decide_eq_true Za
         have q154 : x5_1 < (l1_0.length : Int) := of_decide_eq_true Za
         obtain ⟨ad154, A154_1, c154_1, e154, hx154_0, hx154_1, hl154_1, hi154_1⟩ := at_T31 HR1_0.out x5_1 p154 q154
         cases e154
         replace hx154_0 := Zl HB.out hx154_0
         replace hx154_1 := Zl HB.out hx154_1
         have HR154_1 := Aside0.mk hi154_1
         have HC154_1 := Aside0.mk hl154_1
         clear hi154_1 hl154_1
         replace p154 := eq_true p154
         replace q154 := eq_true q154
         have p155 : 0 ≤ (x5_1 : Int) := of_decide_eq_true Za
         have q155 : x5_1 < (l0_0.length : Int) := of_decide_eq_true Za
         obtain ⟨ad155, A155_1, c155_1, e155, hx155_0, hx155_1, hl155_1, hi155_1⟩ := at_T31 HR0_0.out x5_1 p155 q155
         obtain rfl : ad153 = ad155 := (by injection e155)
         replace hx155_0 := Zl HB.out hx155_0
         replace hx155_1 := Zl HB.out hx155_1
         have HR155_1 := Aside0.mk hi155_1
         have HC155_1 := Aside0.mk hl155_1
         clear hi155_1 hl155_1
         replace p155 := eq_true p155
         replace q155 := eq_true q155
         have ea_ := Option.some.inj (hx153_1.symm.trans hx155_1)
         injection ea_ with ea_ en_ ec_
         subst ea_
         subst ec_
         clear en_
         have p156 : 0 ≤ (x5_1 : Int) := of_decide_eq_true Za
         have q156 : x5_1 < (l1_0.length : Int) := of_decide_eq_true Za
         obtain ⟨ad156, A156_1, c156_1, e156, hx156_0, hx156_1, hl156_1, hi156_1⟩ := at_T31 HR1_0.out x5_1 p156 q156
         obtain rfl : ad154 = ad156 := (by injection e156)
         replace hx156_0 := Zl HB.out hx156_0
         replace hx156_1 := Zl HB.out hx156_1
         have HR156_1 := Aside0.mk hi156_1
         have HC156_1 := Aside0.mk hl156_1
         clear hi156_1 hl156_1
         replace p156 := eq_true p156
         replace q156 := eq_true q156
         have ea_ := Option.some.inj (hx154_1.symm.trans hx156_1)
         injection ea_ with ea_ en_ ec_
         subst ea_
         subst ec_
         clear en_
         go_wp2_with (first | (go_at_call 25; (with_reducible refine (debuggerref25_Ints.calls k1 _ _ ((rd_T31 l0_0 x5_1).f1) _ _ ((rd_T31 l1_0 x5_1).f1) true _ ?side1 ?side2 ?side3 ?side4 A13.out).mono ?_); (case side1 => exact Zc (Kd.C_below HR155_1.out HB.out)); (case side2 => exact HC155_1.out); (case side3 => exact Zc (Kd.C_below HR156_1.out HB.out)); (case side4 => exact HC156_1.out); rintro e w' ⟨rfl, ⟨nd, rfl⟩⟩; (try first | exact ⟨rfl, _, World.drewN_drewN _ _ _⟩ | exact ⟨rfl, _, Eq.trans (World.drewN_drewN _ _ _) (congrArg (World.drewN _) (Nat.add_assoc _ _ _))⟩)))
         repeat (go_quiet (first | (go_at_call 25; (with_reducible refine (debuggerref25_Ints.calls k1 _ _ ((rd_T31 l0_0 x5_1).f1) _ _ ((rd_T31 l1_0 x5_1).f1) true _ ?side1 ?side2 ?side3 ?side4 A13.out).mono ?_); (case side1 => exact Zc (Kd.C_below HR155_1.out HB.out)); (case side2 => exact HC155_1.out); (case side3 => exact Zc (Kd.C_below HR156_1.out HB.out)); (case side4 => exact HC156_1.out); rintro e w' ⟨rfl, ⟨nd, rfl⟩⟩; (try first | exact ⟨rfl, _, World.drewN_drewN _ _ _⟩ | exact ⟨rfl, _, Eq.trans (World.drewN_drewN _ _ _) (congrArg (World.drewN _) (Nat.add_assoc _ _ _))⟩))); try go_wp2_with (first | (go_at_call 25; (with_reducible refine (debuggerref25_Ints.calls k1 _ _ ((rd_T31 l0_0 x5_1).f1) _ _ ((rd_T31 l1_0 x5_1).f1) true _ ?side1 ?side2 ?side3 ?side4 A13.out).mono ?_); (case side1 => exact Zc (Kd.C_below HR155_1.out HB.out)); (case side2 => exact HC155_1.out); (case side3 => exact Zc (Kd.C_below HR156_1.out HB.out)); (case side4 => exact HC156_1.out); rintro e w' ⟨rfl, ⟨nd, rfl⟩⟩; (try first | exact ⟨rfl, _, World.drewN_drewN _ _ _⟩ | exact ⟨rfl, _, Eq.trans (World.drewN_drewN _ _ _) (congrArg (World.drewN _) (Nat.add_assoc _ _ _))⟩))))
         go_roundg k1
         case measure => have := HK1.out; omega
         case rel => exact ⟨(wrap64 (x5_1 + 1)), (by first | rfl | (simp; done) | (simp [*]; done)), H', ⟨by have := HK1.out; omega⟩, ⟨Zb BK151.out⟩, ⟨Zb BK152.out⟩, ⟨Zh2 HB.out GE151.out GE152.out⟩⟩
        ·replace c14 := Bool.eq_false_iff.mpr c14
         subst c14
         have H1 : (some false) = some r := by rw [if_neg (show ¬ (false = true) by decide)] at H; exact H
         clear H
         have H := H1
         clear H1
         obtain rfl := Option.some.inj H
         have hnb18 := NB151_152.out
         have hnc18 := NB152_151.out
         have hcz19_0 := Zcl BK151.out 0 rfl
         have hfz19_0 := blk_frozen BK151.out 0
         have p153 : 0 ≤ (x5_1 : Int) := of_decide_eq_true Za
         have q153 : x5_1 < (l0_0.length : Int) := of_decide_eq_true Za
         obtain ⟨ad153, A153_1, c153_1, e153, hx153_0, hx153_1, hl153_1, hi153_1⟩ := at_T31 HR0_0.out x5_1 p153 q153
         cases e153
         replace hx153_0 := Zl HB.out hx153_0
         replace hx153_1 := Zl HB.out hx153_1
         have HR153_1 := Aside0.mk hi153_1
         have HC153_1 := Aside0.mk hl153_1
         clear hi153_1 hl153_1
         replace p153 := eq_true p153
         replace q153 := eq_true q153
         have hcz20_0 := Zcl BK152.out 0 rfl
         have hfz20_0 := blk_frozen BK152.out 0
         have p154 : 0 ≤ (x5_1 : Int) := of_decide_eq_true Za
         have q154 : x5_1 < (l1_0.length : Int) := of_decide_eq_true Za
         obtain ⟨ad154, A154_1, c154_1, e154, hx154_0, hx154_1, hl154_1, hi154_1⟩ := at_T31 HR1_0.out x5_1 p154 q154
         cases e154
         replace hx154_0 := Zl HB.out hx154_0
         replace hx154_1 := Zl HB.out hx154_1
         have HR154_1 := Aside0.mk hi154_1
         have HC154_1 := Aside0.mk hl154_1
         clear hi154_1 hl154_1
         replace p154 := eq_true p154
         replace q154 := eq_true q154
         have p155 : 0 ≤ (x5_1 : Int) := of_decide_eq_true Za
         have q155 : x5_1 < (l0_0.length : Int) := of_decide_eq_true Za
         obtain ⟨ad155, A155_1, c155_1, e155, hx155_0, hx155_1, hl155_1, hi155_1⟩ := at_T31 HR0_0.out x5_1 p155 q155
         obtain rfl : ad153 = ad155 := (by injection e155)
         replace hx155_0 := Zl HB.out hx155_0
         replace hx155_1 := Zl HB.out hx155_1
         have HR155_1 := Aside0.mk hi155_1
         have HC155_1 := Aside0.mk hl155_1
         clear hi155_1 hl155_1
         replace p155 := eq_true p155
         replace q155 := eq_true q155
         have ea_ := Option.some.inj (hx153_1.symm.trans hx155_1)
         injection ea_ with ea_ en_ ec_
         subst ea_
         subst ec_
         clear en_
         have p156 : 0 ≤ (x5_1 : Int) := of_decide_eq_true Za
         have q156 : x5_1 < (l1_0.length : Int) := of_decide_eq_true Za
         obtain ⟨ad156, A156_1, c156_1, e156, hx156_0, hx156_1, hl156_1, hi156_1⟩ := at_T31 HR1_0.out x5_1 p156 q156
         obtain rfl : ad154 = ad156 := (by injection e156)
         replace hx156_0 := Zl HB.out hx156_0
         replace hx156_1 := Zl HB.out hx156_1
         have HR156_1 := Aside0.mk hi156_1
         have HC156_1 := Aside0.mk hl156_1
         clear hi156_1 hl156_1
         replace p156 := eq_true p156
         replace q156 := eq_true q156
         have ea_ := Option.some.inj (hx154_1.symm.trans hx156_1)
         injection ea_ with ea_ en_ ec_
         subst ea_
         subst ec_
         clear en_
         go_wp2_with (first | (go_at_call 25; (with_reducible refine (debuggerref25_Ints.calls k1 _ _ ((rd_T31 l0_0 x5_1).f1) _ _ ((rd_T31 l1_0 x5_1).f1) false _ ?side1 ?side2 ?side3 ?side4 A13.out).mono ?_); (case side1 => exact Zc (Kd.C_below HR155_1.out HB.out)); (case side2 => exact HC155_1.out); (case side3 => exact Zc (Kd.C_below HR156_1.out HB.out)); (case side4 => exact HC156_1.out); rintro e w' ⟨rfl, ⟨nd, rfl⟩⟩; (try first | exact ⟨rfl, _, World.drewN_drewN _ _ _⟩ | exact ⟨rfl, _, Eq.trans (World.drewN_drewN _ _ _) (congrArg (World.drewN _) (Nat.add_assoc _ _ _))⟩)))
         repeat (go_quiet (first | (go_at_call 25; (with_reducible refine (debuggerref25_Ints.calls k1 _ _ ((rd_T31 l0_0 x5_1).f1) _ _ ((rd_T31 l1_0 x5_1).f1) false _ ?side1 ?side2 ?side3 ?side4 A13.out).mono ?_); (case side1 => exact Zc (Kd.C_below HR155_1.out HB.out)); (case side2 => exact HC155_1.out); (case side3 => exact Zc (Kd.C_below HR156_1.out HB.out)); (case side4 => exact HC156_1.out); rintro e w' ⟨rfl, ⟨nd, rfl⟩⟩; (try first | exact ⟨rfl, _, World.drewN_drewN _ _ _⟩ | exact ⟨rfl, _, Eq.trans (World.drewN_drewN _ _ _) (congrArg (World.drewN _) (Nat.add_assoc _ _ _))⟩))); try go_wp2_with (first | (go_at_call 25; (with_reducible refine (debuggerref25_Ints.calls k1 _ _ ((rd_T31 l0_0 x5_1).f1) _ _ ((rd_T31 l1_0 x5_1).f1) false _ ?side1 ?side2 ?side3 ?side4 A13.out).mono ?_); (case side1 => exact Zc (Kd.C_below HR155_1.out HB.out)); (case side2 => exact HC155_1.out); (case side3 => exact Zc (Kd.C_below HR156_1.out HB.out)); (case side4 => exact HC156_1.out); rintro e w' ⟨rfl, ⟨nd, rfl⟩⟩; (try first | exact ⟨rfl, _, World.drewN_drewN _ _ _⟩ | exact ⟨rfl, _, Eq.trans (World.drewN_drewN _ _ _) (congrArg (World.drewN _) (Nat.add_assoc _ _ _))⟩))))
         go_ret
         exact ⟨by first | rfl | (simp [errW_none, errW_some] <;> rfl) | (simp [*, errW_none, errW_some] <;> rfl), Zh2 HB.out GE151.out GE152.out⟩
       ·rw [if_neg c12] at H
        have c12b0 : (((rd_T31 l0_0 x5_1).f0) == ((rd_T31 l1_0 x5_1).f0)) = false := beq_eq_false_iff_ne.mpr c12
        have c12b1 : (((rd_T31 l0_0 x5_1).f0) != ((rd_T31 l1_0 x5_1).f0)) = true := bne_iff_ne.mpr c12
        obtain rfl := Option.some.inj H
        have hnb21 := NB151_152.out
        have hnc21 := NB152_151.out
        have hcz22_0 := Zcl BK151.out 0 rfl
        have hfz22_0 := blk_frozen BK151.out 0
        have p153 : 0 ≤ (x5_1 : Int) := of_decide_eq_true Za
        have q153 : x5_1 < (l0_0.length : Int) := of_decide_eq_true Za
        obtain ⟨ad153, A153_1, c153_1, e153, hx153_0, hx153_1, hl153_1, hi153_1⟩ := at_T31 HR0_0.out x5_1 p153 q153
        cases e153
        replace hx153_0 := Zl HB.out hx153_0
        replace hx153_1 := Zl HB.out hx153_1
        have HR153_1 := Aside0.mk hi153_1
        have HC153_1 := Aside0.mk hl153_1
        clear hi153_1 hl153_1
        replace p153 := eq_true p153
        replace q153 := eq_true q153
        have hcz23_0 := Zcl BK152.out 0 rfl
        have hfz23_0 := blk_frozen BK152.out 0
        have p154 : 0 ≤ (x5_1 : Int) := of_decide_eq_true Za
        have q154 : x5_1 < (l1_0.length : Int) := of_decide_eq_true Za
        obtain ⟨ad154, A154_1, c154_1, e154, hx154_0, hx154_1, hl154_1, hi154_1⟩ := at_T31 HR1_0.out x5_1 p154 q154
        cases e154
        replace hx154_0 := Zl HB.out hx154_0
        replace hx154_1 := Zl HB.out hx154_1
        have HR154_1 := Aside0.mk hi154_1
        have HC154_1 := Aside0.mk hl154_1
        clear hi154_1 hl154_1
        replace p154 := eq_true p154
        replace q154 := eq_true q154
        go_wp2
        repeat (go_quiet (fail); try go_wp2)
        go_ret
        exact ⟨by first | rfl | (simp [errW_none, errW_some] <;> rfl) | (simp [*, errW_none, errW_some] <;> rfl), Zh2 HB.out GE151.out GE152.out⟩
      ·rw [if_neg c11] at H
       exact absurd H (by simp)
     ·rw [if_neg c10] at H
      exact absurd H (by simp)
    ·rw [if_neg c9] at H
     have c9b0 : decide (x5_1 < (l0_0.length : Int)) = false := decide_eq_false c9
     clear c9
     obtain rfl := Option.some.inj H
     have hnb24 := NB151_152.out
     have hnc24 := NB152_151.out
     have hcz25_0 := Zcl BK151.out 0 rfl
     have hfz25_0 := blk_frozen BK151.out 0
     go_wp2
     repeat (go_quiet (fail); try go_wp2)
     go_ret
     exact ⟨by first | rfl | (simp [errW_none, errW_some] <;> rfl) | (simp [*, errW_none, errW_some] <;> rfl), Zh2 HB.out GE151.out GE152.out⟩
 ·rw [if_neg c3] at H
  have c3b0 : ((l0_0.length : Int) == (l1_0.length : Int)) = false := beq_eq_false_iff_ne.mpr c3
  have c3b1 : ((l0_0.length : Int) != (l1_0.length : Int)) = true := bne_iff_ne.mpr c3
  have c3b2 : (l0_0.length == l1_0.length) = false := by first | simpa using c3 | (simp at c3 ⊢; omega)
  obtain rfl := Option.some.inj H
  go_enter Try.func16, Try.ntmps16
  go_wp2_with (first | ((with_reducible refine gate_dst (N := 2) rfl ?_); refine box_event ?hg (N := 2) ?hd (cs := #[.slice A0_0 l0_0.length c0_0]) (t := 24) ?hr ?_; (case hd => rfl); (case hg => rfl); (case hr => first | (go_simp; done) | (go_simp; rfl)); intro gb151 hg w26 hbox hb; have n0_ := Zw (below_step (Zh HB.out) hb); have n1_ := Zw (hbox); have n2_ := Zw ((by rw [hg]; exact (below_size (Zh HB.out)) : w.heap.size ≤ gb151)); have n3_ := Zw ((by rw [hg]; exact (below_size (Zh HB.out)) : w.heap.size ≤ gb151)); clear HB; have HB := n0_; have BK151 := n1_; have GW151 := n2_; have GE151 := n3_; clear n0_ n1_ n2_ n3_; clear hb hbox hg) | ((with_reducible refine gate_dst (N := 3) rfl ?_); refine box_event ?hg (N := 3) ?hd (cs := #[.slice A1_0 l1_0.length c1_0]) (t := 24) ?hr ?_; (case hd => rfl); (case hg => rfl); (case hr => first | (go_simp; done) | (go_simp; rfl)); intro gb152 hg w27 hbox hb; have n0_ := Zw (blk_below (g := gb151) (o := .cells #[.slice A0_0 l0_0.length c0_0] 24 (0, 0)) (Zb BK151.out) hb); have n1_ := Zw (below_step (Zh1 HB.out GE151.out) hb); have n2_ := Zw (hbox); have n3_ := Zw ((by rw [hg]; exact (below_size (Zh1 HB.out GE151.out)) : w.heap.size ≤ gb152)); have n4_ := Zw ((by rw [hg]; exact (below_size (Zh1 HB.out GE151.out)) : w.heap.size ≤ gb152)); have n5_ := Zw ((by rw [hg]; exact Nat.ne_of_lt (blk_lt (Zb BK151.out)) : gb151 ≠ gb152)); have n6_ := Zw ((by rw [hg]; exact Nat.ne_of_gt (blk_lt (Zb BK151.out)) : gb152 ≠ gb151)); clear BK151; clear HB; have BK151 := n0_; have HB := n1_; have BK152 := n2_; have GW152 := n3_; have GE152 := n4_; have NB151_152 := n5_; have NB152_151 := n6_; clear n0_ n1_ n2_ n3_ n4_ n5_ n6_; clear hb hbox hg; have hnb28 := NB151_152.out; have hnc28 := NB152_151.out; have hcz29_0 := Zcl BK151.out 0 rfl; have hfz29_0 := blk_frozen BK151.out 0; have hcz30_0 := Zcl BK152.out 0 rfl; have hfz30_0 := blk_frozen BK152.out 0))
  repeat (go_quiet (first | ((with_reducible refine gate_dst (N := 2) rfl ?_); refine box_event ?hg (N := 2) ?hd (cs := #[.slice A0_0 l0_0.length c0_0]) (t := 24) ?hr ?_; (case hd => rfl); (case hg => rfl); (case hr => first | (go_simp; done) | (go_simp; rfl)); intro gb151 hg w26 hbox hb; have n0_ := Zw (below_step (Zh HB.out) hb); have n1_ := Zw (hbox); have n2_ := Zw ((by rw [hg]; exact (below_size (Zh HB.out)) : w.heap.size ≤ gb151)); have n3_ := Zw ((by rw [hg]; exact (below_size (Zh HB.out)) : w.heap.size ≤ gb151)); clear HB; have HB := n0_; have BK151 := n1_; have GW151 := n2_; have GE151 := n3_; clear n0_ n1_ n2_ n3_; clear hb hbox hg) | ((with_reducible refine gate_dst (N := 3) rfl ?_); refine box_event ?hg (N := 3) ?hd (cs := #[.slice A1_0 l1_0.length c1_0]) (t := 24) ?hr ?_; (case hd => rfl); (case hg => rfl); (case hr => first | (go_simp; done) | (go_simp; rfl)); intro gb152 hg w27 hbox hb; have n0_ := Zw (blk_below (g := gb151) (o := .cells #[.slice A0_0 l0_0.length c0_0] 24 (0, 0)) (Zb BK151.out) hb); have n1_ := Zw (below_step (Zh1 HB.out GE151.out) hb); have n2_ := Zw (hbox); have n3_ := Zw ((by rw [hg]; exact (below_size (Zh1 HB.out GE151.out)) : w.heap.size ≤ gb152)); have n4_ := Zw ((by rw [hg]; exact (below_size (Zh1 HB.out GE151.out)) : w.heap.size ≤ gb152)); have n5_ := Zw ((by rw [hg]; exact Nat.ne_of_lt (blk_lt (Zb BK151.out)) : gb151 ≠ gb152)); have n6_ := Zw ((by rw [hg]; exact Nat.ne_of_gt (blk_lt (Zb BK151.out)) : gb152 ≠ gb151)); clear BK151; clear HB; have BK151 := n0_; have HB := n1_; have BK152 := n2_; have GW152 := n3_; have GE152 := n4_; have NB151_152 := n5_; have NB152_151 := n6_; clear n0_ n1_ n2_ n3_ n4_ n5_ n6_; clear hb hbox hg; have hnb28 := NB151_152.out; have hnc28 := NB152_151.out; have hcz29_0 := Zcl BK151.out 0 rfl; have hfz29_0 := blk_frozen BK151.out 0; have hcz30_0 := Zcl BK152.out 0 rfl; have hfz30_0 := blk_frozen BK152.out 0)); try go_wp2_with (first | ((with_reducible refine gate_dst (N := 2) rfl ?_); refine box_event ?hg (N := 2) ?hd (cs := #[.slice A0_0 l0_0.length c0_0]) (t := 24) ?hr ?_; (case hd => rfl); (case hg => rfl); (case hr => first | (go_simp; done) | (go_simp; rfl)); intro gb151 hg w26 hbox hb; have n0_ := Zw (below_step (Zh HB.out) hb); have n1_ := Zw (hbox); have n2_ := Zw ((by rw [hg]; exact (below_size (Zh HB.out)) : w.heap.size ≤ gb151)); have n3_ := Zw ((by rw [hg]; exact (below_size (Zh HB.out)) : w.heap.size ≤ gb151)); clear HB; have HB := n0_; have BK151 := n1_; have GW151 := n2_; have GE151 := n3_; clear n0_ n1_ n2_ n3_; clear hb hbox hg) | ((with_reducible refine gate_dst (N := 3) rfl ?_); refine box_event ?hg (N := 3) ?hd (cs := #[.slice A1_0 l1_0.length c1_0]) (t := 24) ?hr ?_; (case hd => rfl); (case hg => rfl); (case hr => first | (go_simp; done) | (go_simp; rfl)); intro gb152 hg w27 hbox hb; have n0_ := Zw (blk_below (g := gb151) (o := .cells #[.slice A0_0 l0_0.length c0_0] 24 (0, 0)) (Zb BK151.out) hb); have n1_ := Zw (below_step (Zh1 HB.out GE151.out) hb); have n2_ := Zw (hbox); have n3_ := Zw ((by rw [hg]; exact (below_size (Zh1 HB.out GE151.out)) : w.heap.size ≤ gb152)); have n4_ := Zw ((by rw [hg]; exact (below_size (Zh1 HB.out GE151.out)) : w.heap.size ≤ gb152)); have n5_ := Zw ((by rw [hg]; exact Nat.ne_of_lt (blk_lt (Zb BK151.out)) : gb151 ≠ gb152)); have n6_ := Zw ((by rw [hg]; exact Nat.ne_of_gt (blk_lt (Zb BK151.out)) : gb152 ≠ gb151)); clear BK151; clear HB; have BK151 := n0_; have HB := n1_; have BK152 := n2_; have GW152 := n3_; have GE152 := n4_; have NB151_152 := n5_; have NB152_151 := n6_; clear n0_ n1_ n2_ n3_ n4_ n5_ n6_; clear hb hbox hg; have hnb28 := NB151_152.out; have hnc28 := NB152_151.out; have hcz29_0 := Zcl BK151.out 0 rfl; have hfz29_0 := blk_frozen BK151.out 0; have hcz30_0 := Zcl BK152.out 0 rfl; have hfz30_0 := blk_frozen BK152.out 0)))
  go_ret
  exact ⟨by first | rfl | (simp [errW_none, errW_some] <;> rfl) | (simp [*, errW_none, errW_some] <;> rfl), Zh2 HB.out GE151.out GE152.out⟩

end Go.Proofs.Ytpifepaflljolaa.PMem
