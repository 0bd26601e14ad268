-- By wip/xprint.py (a driver of this session's over the kit's print), for this claim.
import Derived.Test.YtpifepaflljolaaPMemx0
import Derived.Test.YtpifepaflljolaaPMemx23
namespace Go.Proofs.Ytpifepaflljolaa.PMem
open Go.RowKit Go.Proofs.YtpifepaflljolaaW.PrintWords Go.Proofs.YtpifepaflljolaaW.PrintLast Go.Proofs.YtpifepaflljolaaW.PrintMore
attribute [local go_sem] max2_int min2_int max_two min_two max_three min_three max_four min_four   -- for this text's walks alone
set_option linter.unusedVariables false
set_option linter.unusedSimpArgs false

/-! ### memory_clone: function 36 -/
def memory_clone.l0 : Nat → List (S31) → Int → Int → List (S31) → Option ((List (S31)))
 | 0, _, _, _, _ => none
 | k + 1, x7, x8, x9, x285000 => if x9 < x8 then (if 0 ≤ x9 then (if x9 < (x7.length : Int) then ((memory_clonePage.f ((rd_T31 x7 x9).f0) ((rd_T31 x7 x9).f1)).bind fun bt287 => (if x285000.length < 4398046511104 then (memory_clone.l0 k x7 x8 (wrap64 (x9 + 1)) (x285000 ++ [(⟨bt287.1, bt287.2⟩ : S31)])) else (none))) else (none)) else (none)) else (some x285000)
def memory_clone.f (k : Nat) (l0_0 : List (S31)) : Option ((List (S31))) := memory_clone.l0 k l0_0 (l0_0.length : Int) 0 ([] : List (S31))
theorem memory_clone.mono_l : ∀ k, (∀ y0 y1 y2 y3, LeO (memory_clone.l0 k y0 y1 y2 y3) (memory_clone.l0 (k + 1) y0 y1 y2 y3))
 | 0 => fun _ _ _ _ r h => by simp [memory_clone.l0] at h
 | k + 1 => by
  have ih0 := memory_clone.mono_l k
  ·intro y0 y1 y2 y3
   unfold memory_clone.l0
   repeat' first
   | (with_reducible exact ih0 _ _ _ _)
   | (with_reducible exact LeO.refl _)
   | (with_reducible exact LeO.none _)
   | (with_reducible refine LeO.ite ?_ ?_)
   | (with_reducible refine LeO.bind ?_ (fun _ => ?_))
   | exact ih0 _ _ _ _
   | exact LeO.none _
   | refine LeO.ite ?_ ?_
   | refine LeO.bind ?_ (fun _ => ?_)
theorem memory_clone.mono : ∀ a0 k, LeO (memory_clone.f k a0) (memory_clone.f (k + 1) a0) := by
 intro a0 k
 have ih0 := memory_clone.mono_l k
 unfold memory_clone.f
 repeat' first
   | (with_reducible exact ih0 _ _ _ _)
   | (with_reducible exact LeO.refl _)
   | (with_reducible exact LeO.none _)
   | (with_reducible refine LeO.ite ?_ ?_)
   | (with_reducible refine LeO.bind ?_ (fun _ => ?_))
   | exact ih0 _ _ _ _
   | exact LeO.none _
   | refine LeO.ite ?_ ?_
   | refine LeO.bind ?_ (fun _ => ?_)
def memory_clone.T5 : Bool × List (List Nat × List Nat) := (true, [([], []), ([0], [0]), ([], []), ([2], [2]), ([3], [3]), ([1, 4, 3], [1, 4]), ([0, 1, 2, 3, 4, 5], []), ([6, 5, 5, 0, 1, 2, 3, 4, 5], [5, 6])])
def memory_clone.B5 : List Nat := [0, 1, 0, 4, 12, 31, 63, 127]
theorem memory_clone.tab5 : rtab .any (opsOf Try.f36 5) = memory_clone.T5 := by kernel_rfl
theorem memory_clone.bits5 : waitsOk memory_clone.T5.2 memory_clone.B5 = true := by kernel_rfl
set_option maxHeartbeats 8000000 in
set_option maxRecDepth 100000 in
theorem memory_clone.calls (k : Nat) (A0_0 : Option Addr) (c0_0 : Nat) (l0_0 : List (S31)) (r : List (S31)) (w : World) (hr0_0 : Kd.C k31 w A0_0 l0_0.length l0_0) (hc0_0 : l0_0.length ≤ c0_0) (h : memory_clone.f k l0_0 = some r) :
  Calls Try.prog 36 #[.agg #[.slice A0_0 l0_0.length c0_0]] w fun e w' => ∃ v0_ : Value, e = .returned (.agg #[v0_]) ∧ Kd.S k31 31 w' w.heap.size (fun _ => True) v0_ r ∧ Below w.heap.size w w' := by
 have hu24 := Try.underlying24
 have hu31 := Try.underlying31
 have HR0_0 := Aside0.mk hr0_0
 have HC0_0 := Aside0.mk hc0_0
 clear hr0_0 hc0_0
 have HB := Zw (Below.refl w.heap.size w)
 have H : (memory_clone.l0 k l0_0 (l0_0.length : Int) 0 ([] : List (S31))) = some r := h
 clear h
 have H' := Aside0.mk H
 clear H
 go_enter Try.func36, Try.ntmps36
 go_wp2_with (first | ((with_reducible refine gate_dst (N := 1) rfl ?_); refine box_event ?hg (N := 1) ?hd (cs := #[.slice A0_0 l0_0.length c0_0]) (t := 24) ?hr ?_; (case hd => rfl); (case hg => rfl); (case hr => first | (go_simp; done) | (go_simp; rfl)); intro gb282 hg w2 hbox hb; have n0_ := Zw (below_step (Zh HB.out) hb); have n1_ := Zw (hbox); have n2_ := Zw ((by rw [hg]; exact (below_size (Zh HB.out)) : w.heap.size ≤ gb282)); have n3_ := Zw ((by rw [hg]; exact (below_size (Zh HB.out)) : w.heap.size ≤ gb282)); clear HB; have HB := n0_; have BK282 := n1_; have GW282 := n2_; have GE282 := n3_; clear n0_ n1_ n2_ n3_; clear hb hbox hg) | ((with_reducible refine gate_dst (N := 2) rfl ?_); refine box_event ?hg (N := 2) ?hd (cs := #[.slice none 0 0]) (t := 24) ?hr ?_; (case hd => rfl); (case hg => rfl); (case hr => first | (go_simp; done) | (go_simp; rfl)); intro gb283 hg w3 hbox hb; have n0_ := Zw (blk_below (g := gb282) (o := .cells #[.slice A0_0 l0_0.length c0_0] 24 (0, 0)) (Zb BK282.out) hb); have n1_ := Zw (below_step (Zh1 HB.out GE282.out) hb); have n2_ := Zw (hbox); have n3_ := Zw ((by rw [hg]; exact (below_size (Zh1 HB.out GE282.out)) : w.heap.size ≤ gb283)); have n4_ := Zw ((by rw [hg]; exact (below_size (Zh1 HB.out GE282.out)) : w.heap.size ≤ gb283)); have n5_ := Zw ((by rw [hg]; exact Nat.ne_of_lt (blk_lt (Zb BK282.out)) : gb282 ≠ gb283)); have n6_ := Zw ((by rw [hg]; exact Nat.ne_of_gt (blk_lt (Zb BK282.out)) : gb283 ≠ gb282)); clear BK282; clear HB; have BK282 := n0_; have HB := n1_; have BK283 := n2_; have GW283 := n3_; have GE283 := n4_; have NB282_283 := n5_; have NB283_282 := n6_; clear n0_ n1_ n2_ n3_ n4_ n5_ n6_; clear hb hbox hg) | ((with_reducible refine gate_dst (N := 3) rfl ?_); refine box_event ?hg (N := 3) ?hd (cs := #[.slice none 0 0]) (t := 24) ?hr ?_; (case hd => rfl); (case hg => rfl); (case hr => first | (go_simp; done) | (go_simp; rfl)); intro gb284 hg w4 hbox hb; have n0_ := Zw (blk_below (g := gb282) (o := .cells #[.slice A0_0 l0_0.length c0_0] 24 (0, 0)) (Zb BK282.out) hb); have n1_ := Zw (blk_below (g := gb283) (o := .cells #[.slice none 0 0] 24 (0, 0)) (Zb BK283.out) hb); have n2_ := Zw (below_step (Zh2 HB.out GE282.out GE283.out) hb); have n3_ := Zw (hbox); have n4_ := Zw ((by rw [hg]; exact (below_size (Zh2 HB.out GE282.out GE283.out)) : w.heap.size ≤ gb284)); have n5_ := Zw ((by rw [hg]; exact (below_size (Zh2 HB.out GE282.out GE283.out)) : w.heap.size ≤ gb284)); have n6_ := Zw ((by rw [hg]; exact Nat.ne_of_lt (blk_lt (Zb BK282.out)) : gb282 ≠ gb284)); have n7_ := Zw ((by rw [hg]; exact Nat.ne_of_gt (blk_lt (Zb BK282.out)) : gb284 ≠ gb282)); have n8_ := Zw ((by rw [hg]; exact Nat.ne_of_lt (blk_lt (Zb BK283.out)) : gb283 ≠ gb284)); have n9_ := Zw ((by rw [hg]; exact Nat.ne_of_gt (blk_lt (Zb BK283.out)) : gb284 ≠ gb283)); clear BK282; clear BK283; clear HB; have BK282 := n0_; have BK283 := n1_; have HB := n2_; have BK284 := n3_; have GW284 := n4_; have GE284 := n5_; have NB282_284 := n6_; have NB284_282 := n7_; have NB283_284 := n8_; have NB284_283 := n9_; clear n0_ n1_ n2_ n3_ n4_ n5_ n6_ n7_ n8_ n9_; clear hb hbox hg; have hnb5 := NB282_283.out; have hnc5 := NB283_282.out; have hnb6 := NB282_284.out; have hnc6 := NB284_282.out; have hcz7_0 := Zcl BK282.out 0 rfl; have hfz7_0 := blk_frozen BK282.out 0))
 go_loopg [9] k (fun kq v9 w' => ∃ (x9_1 : Int) (x285000_1 : List (S31)) (u285000 : Value), v9 = .int .i64 x9_1 ∧ Aside0 (memory_clone.l0 kq l0_0 (l0_0.length : Int) x9_1 x285000_1 = some r) ∧ Aside0 (kq ≤ k) ∧ Aside0 (Kd.S k31 31 w' w.heap.size (fun _ => True) u285000 x285000_1) ∧ Aside0 (w'.heap[gb282]? = some (.cells #[(.slice A0_0 l0_0.length c0_0)] 24 (0, 0))) ∧ Aside0 (w'.heap[gb283]? = some (.cells #[(.slice none 0 0)] 24 (0, 0))) ∧ Aside0 (w'.heap[gb284]? = some (.cells #[u285000] 24 (0, 0))) ∧ Aside0 (Below w.heap.size w w'))
 case atStart => exact ⟨(0), (([] : List (S31))), (.slice none 0 0), (by first | rfl | (simp; done) | (simp [*]; done)), H', ⟨Nat.le_refl _⟩, ⟨by first | exact Kd.S_nil _ _ _ _ _ | exact Kd.N_nil _ _ _ _ _ | exact Kd.V_nil _ _ _ _ _ | exact Kd.Q_nil _ _ _ _ _ | exact Kd.R_nil _ _ _ _ _⟩, ⟨Zb BK282.out⟩, ⟨Zb BK283.out⟩, ⟨Zb BK284.out⟩, ⟨Zh3 HB.out GE282.out GE283.out GE284.out⟩⟩
 case round =>
  clear H'
  try clear p2
  try clear c3
  try clear c5
  try clear c6
  try clear hcz7_0
  try clear hfz7_0
  obtain ⟨x9_1, x285000_1, u285000, rfl, HA, HK1, HO_285000, BK282, BK283, BK284, HB⟩ := hrel
  cases gk with
  | zero => exact absurd HA.out (by simp [memory_clone.l0])
  | succ k1 =>
   have H := HA.out
   clear HA
   simp only [memory_clone.l0] at H
   by_cases c8 : x9_1 < (l0_0.length : Int)
   ·rw [if_pos c8] at H
    have c8b0 : decide (x9_1 < (l0_0.length : Int)) = true := decide_eq_true c8
    clear c8
    by_cases c9 : 0 ≤ x9_1
    ·rw [if_pos c9] at H
     have c9b0 : decide (0 ≤ x9_1) = true := decide_eq_true c9
     clear c9
     by_cases c10 : x9_1 < (l0_0.length : Int)
     ·rw [if_pos c10] at H
      have c10b0 : decide (x9_1 < (l0_0.length : Int)) = true := decide_eq_true c10
      clear c10
      replace H := Option.bind_eq_some_iff.mp H
      obtain ⟨⟨t287, t288⟩, A110, H⟩ := H
      replace H : (if x285000_1.length < 4398046511104 then (memory_clone.l0 k1 l0_0 (l0_0.length : Int) (wrap64 (x9_1 + 1)) (x285000_1 ++ [(⟨t287, t288⟩ : S31)])) else (none)) = some r := H
      have A11 := Aside0.mk A110
      clear A110
      by_cases c12 : x285000_1.length < 4398046511104
      ·rw [if_pos c12] at H
       have LMc12 := Aside0.mk c12
       clear c12
       obtain ⟨y291, hy291⟩ : ∃ y_ : List (S31), y_ = (x285000_1 ++ [(⟨t287, t288⟩ : S31)]) := ⟨_, rfl⟩
       replace H : (memory_clone.l0 k1 l0_0 (l0_0.length : Int) (wrap64 (x9_1 + 1)) y291) = some r := by first | (rw [hy291]; with_reducible exact H) | (have H2_ := (Option.bind_some _ _).symm.trans H; rw [hy291]; with_reducible exact H2_) | (have H2_ := (Option.bind_some _ _).symm.trans H; with_reducible exact H2_) | with_reducible exact H | (rw [hy291]; exact H) | exact H
       have Ny291 := Aside0.mk hy291
       clear hy291
       have H' := Aside0.mk H
       clear H
       have p285 : 0 ≤ (x9_1 : Int) := of_decide_eq_true Za
       have q285 : x9_1 < (l0_0.length : Int) := of_decide_eq_true Za
       obtain ⟨ad285, A285_1, c285_1, e285, hx285_0, hx285_1, hl285_1, hi285_1⟩ := at_T31 HR0_0.out x9_1 p285 q285
       cases e285
       replace hx285_0 := Zl HB.out hx285_0
       replace hx285_1 := Zl HB.out hx285_1
       have HR285_1 := Aside0.mk hi285_1
       have HC285_1 := Aside0.mk hl285_1
       clear hi285_1 hl285_1
       replace p285 := eq_true p285
       replace q285 := eq_true q285
       try go_wp2_with (first | ((with_reducible refine gate_dst (N := 5) rfl ?_); refine box_event ?hg (N := 5) ?hd (cs := #[.int .i64 0, .slice none 0 0]) (t := 31) ?hr ?_; (case hd => rfl); (case hg => rfl); (case hr => first | (go_simp; done) | (go_simp; rfl)); intro gb286 hg w13 hbox hb; have n0_ := Zw (Kd.S_below (Kd.S_elderB (ZS HO_285000.out) gb286 (Nat.le_of_eq hg.symm)) hb); have n1_ := Zw (blk_below (g := gb282) (o := .cells #[.slice (some ad285) l0_0.length c0_0] 24 (0, 0)) (Zb BK282.out) hb); have n2_ := Zw (blk_below (g := gb283) (o := .cells #[.slice none 0 0] 24 (0, 0)) (Zb BK283.out) hb); have n3_ := Zw (blk_below (g := gb284) (o := .cells #[u285000] 24 (0, 0)) (Zb BK284.out) hb); have n4_ := Zw (below_step (Zh3 HB.out GE282.out GE283.out GE284.out) hb); have n5_ := Zw (hbox); have n6_ := Zw ((by rw [hg]; exact (below_size (Zh3 HB.out GE282.out GE283.out GE284.out)) : w.heap.size ≤ gb286)); have n7_ := Zw ((by rw [hg]; exact (below_size (Zh3 HB.out GE282.out GE283.out GE284.out)) : w.heap.size ≤ gb286)); have n8_ := Zw ((by rw [hg]; exact Nat.ne_of_lt (blk_lt (Zb BK282.out)) : gb282 ≠ gb286)); have n9_ := Zw ((by rw [hg]; exact Nat.ne_of_gt (blk_lt (Zb BK282.out)) : gb286 ≠ gb282)); have n10_ := Zw ((by rw [hg]; exact Nat.ne_of_lt (blk_lt (Zb BK283.out)) : gb283 ≠ gb286)); have n11_ := Zw ((by rw [hg]; exact Nat.ne_of_gt (blk_lt (Zb BK283.out)) : gb286 ≠ gb283)); have n12_ := Zw ((by rw [hg]; exact Nat.ne_of_lt (blk_lt (Zb BK284.out)) : gb284 ≠ gb286)); have n13_ := Zw ((by rw [hg]; exact Nat.ne_of_gt (blk_lt (Zb BK284.out)) : gb286 ≠ gb284)); clear HO_285000; clear BK282; clear BK283; clear BK284; clear HB; have HO_285000 := n0_; have BK282 := n1_; have BK283 := n2_; have BK284 := n3_; have HB := n4_; have BK286 := n5_; have GW286 := n6_; have GE286 := n7_; have NB282_286 := n8_; have NB286_282 := n9_; have NB283_286 := n10_; have NB286_283 := n11_; have NB284_286 := n12_; have NB286_284 := n13_; clear n0_ n1_ n2_ n3_ n4_ n5_ n6_ n7_ n8_ n9_ n10_ n11_ n12_ n13_; clear hb hbox hg; have hnb14 := NB286_282.out; have hnc14 := NB282_286.out; have hnb15 := NB286_283.out; have hnc15 := NB283_286.out; have hnb16 := NB286_284.out; have hnc16 := NB284_286.out; have hcz17_0 := Zcl BK286.out 0 rfl; have hcz17_1 := Zcl BK286.out 1 rfl; have hfz17_0 := blk_frozen BK286.out 0; have hfz17_1 := blk_frozen BK286.out 1))
       have n0_ : Aside0 (Kd.S k31 31 ((w13.setCell ⟨gb286, 0, none⟩ (.int .i64 ((rd_T31 l0_0 x9_1).f0))).setCell ⟨gb286, 1, none⟩ (.slice A285_1 ((rd_T31 l0_0 x9_1).f1).length c285_1)) w.heap.size (fun k_ => k_ ≠ gb286) u285000 x285000_1) := ⟨by refine ZSk ?_; exact Kd.S_mono (Kd.S_far (p := ⟨gb286, 1, none⟩) (Kd.S_far (p := ⟨gb286, 0, none⟩) (Kd.S_mono HO_285000.out (fun k_ hk => (⟨hk, hk.2⟩ : _ ∧ k_ ≠ gb286))) (fun _ hk => hk.2) (.int .i64 ((rd_T31 l0_0 x9_1).f0))) (fun _ hk => hk.2) (.slice A285_1 ((rd_T31 l0_0 x9_1).f1).length c285_1)) (fun _ hk => hk.1.2)⟩
       have n1_ : Aside0 (((w13.setCell ⟨gb286, 0, none⟩ (.int .i64 ((rd_T31 l0_0 x9_1).f0))).setCell ⟨gb286, 1, none⟩ (.slice A285_1 ((rd_T31 l0_0 x9_1).f1).length c285_1)).heap[gb282]? = some (.cells #[.slice (some ad285) l0_0.length c0_0] 24 (0, 0))) := ⟨by refine Zbk ?_; refine blk_far ?_ NB282_286.out _; refine Zbk ?_; refine blk_far ?_ NB282_286.out _; refine Zbk ?_; exact BK282.out⟩
       have n2_ : Aside0 (((w13.setCell ⟨gb286, 0, none⟩ (.int .i64 ((rd_T31 l0_0 x9_1).f0))).setCell ⟨gb286, 1, none⟩ (.slice A285_1 ((rd_T31 l0_0 x9_1).f1).length c285_1)).heap[gb283]? = some (.cells #[.slice none 0 0] 24 (0, 0))) := ⟨by refine Zbk ?_; refine blk_far ?_ NB283_286.out _; refine Zbk ?_; refine blk_far ?_ NB283_286.out _; refine Zbk ?_; exact BK283.out⟩
       have n3_ : Aside0 (((w13.setCell ⟨gb286, 0, none⟩ (.int .i64 ((rd_T31 l0_0 x9_1).f0))).setCell ⟨gb286, 1, none⟩ (.slice A285_1 ((rd_T31 l0_0 x9_1).f1).length c285_1)).heap[gb284]? = some (.cells #[u285000] 24 (0, 0))) := ⟨by refine Zbk ?_; refine blk_far ?_ NB284_286.out _; refine Zbk ?_; refine blk_far ?_ NB284_286.out _; refine Zbk ?_; exact BK284.out⟩
       have n4_ : Aside0 (((w13.setCell ⟨gb286, 0, none⟩ (.int .i64 ((rd_T31 l0_0 x9_1).f0))).setCell ⟨gb286, 1, none⟩ (.slice A285_1 ((rd_T31 l0_0 x9_1).f1).length c285_1)).heap[gb286]? = some (.cells #[.int .i64 ((rd_T31 l0_0 x9_1).f0), .slice A285_1 ((rd_T31 l0_0 x9_1).f1).length c285_1] 31 (0, 0))) := ⟨by refine Zbk ?_; refine blk_put (cs := #[.int .i64 ((rd_T31 l0_0 x9_1).f0), .slice none 0 0]) ?_ 1 _ rfl; refine Zbk ?_; refine blk_put (cs := #[.int .i64 0, .slice none 0 0]) ?_ 0 _ rfl; refine Zbk ?_; exact BK286.out⟩
       have n5_ : Aside0 (Below w.heap.size w ((w13.setCell ⟨gb286, 0, none⟩ (.int .i64 ((rd_T31 l0_0 x9_1).f0))).setCell ⟨gb286, 1, none⟩ (.slice A285_1 ((rd_T31 l0_0 x9_1).f1).length c285_1))) := ⟨Zh4 HB.out GE282.out GE283.out GE284.out GE286.out⟩
       (try clear HO_285000)
       (try clear BK282)
       (try clear BK283)
       (try clear BK284)
       (try clear BK286)
       (try clear HB)
       generalize ((w13.setCell ⟨gb286, 0, none⟩ (.int .i64 ((rd_T31 l0_0 x9_1).f0))).setCell ⟨gb286, 1, none⟩ (.slice A285_1 ((rd_T31 l0_0 x9_1).f1).length c285_1)) = w18 at n0_ n1_ n2_ n3_ n4_ n5_ ⊢
       have HO_285000 := n0_
       have BK282 := n1_
       have BK283 := n2_
       have BK284 := n3_
       have BK286 := n4_
       have HB := n5_
       clear n0_ n1_ n2_ n3_ n4_ n5_
       have n0_ := Zw (Kd.S_drew HO_285000.out)
       have n1_ := Zw (blk_drew BK282.out)
       have n2_ := Zw (blk_drew BK283.out)
       have n3_ := Zw (blk_drew BK284.out)
       have n4_ := Zw (blk_drew BK286.out)
       have n5_ := Zw (below_drew1 HB.out)
       clear HO_285000
       clear BK282
       clear BK283
       clear BK284
       clear BK286
       clear HB
       have HO_285000 := n0_
       have BK282 := n1_
       have BK283 := n2_
       have BK284 := n3_
       have BK286 := n4_
       have HB := n5_
       clear n0_ n1_ n2_ n3_ n4_ n5_
       refine start_ (n := 8) (S := fun w' => w'.cell? ⟨gb284, 0, none⟩ = some (u285000) ∧ w'.cell? ⟨gb286, 0, none⟩ = some (.int .i64 ((rd_T31 l0_0 x9_1).f0)) ∧ w'.cell? ⟨gb286, 1, none⟩ = some (.slice A285_1 ((rd_T31 l0_0 x9_1).f1).length c285_1)) (ds := [7]) #[false, false, false, false, false, false, false, false] (by kernel_rfl) rfl rfl ⟨(blk_cell BK284.out 0).trans rfl, (blk_cell BK286.out 0).trans rfl, (blk_cell BK286.out 1).trans rfl⟩ (fun hHeld => ?_); refine with_tabW memory_clone.tab5 memory_clone.bits5 (fun HT_ HW_ => ?_)
       generalize w18.drew = w19 at HO_285000 BK282 BK283 BK284 BK286 HB hHeld ⊢
       refine pure_ (i := 0) (N := some 13) (v := ?_) (a' := ?_) #[true, false, false, false, false, false, false, false] rfl rfl (any_of HT_.out (by kernel_rfl)) (fun _ _ _ h => h) (Or.inl ⟨by rfl, ?_⟩) ?_ ?_
       rotate_left
       ·intro w'
        go_simp
        with_reducible rfl
       rotate_left
       ·simp only [Act.put, zsA, zsZ, zsS, i64_w, i32_w]
        rfl
       refine take_ (i := 1) (N := some 14) (v := ?_) (a' := ?_) #[true, true, false, false, false, false, false, false] rfl rfl (take_ofW HT_.out HW_.out (by kernel_rfl)) (fun _ _ _ h => h) (Or.inl ⟨by rfl, ?_⟩) hHeld ?_ ?_
       rotate_left
       ·rintro w' ⟨s0, s1, s2⟩
        go_simp
        with_reducible rfl
       rotate_left
       ·simp only [Act.put, zsA, zsZ, zsS, i64_w, i32_w]
        rfl
       refine take_ (i := 2) (N := some 15) (v := ?_) (a' := ?_) #[true, true, true, false, false, false, false, false] rfl rfl (take_ofW HT_.out HW_.out (by kernel_rfl)) (fun _ _ _ h => h) (Or.inl ⟨by rfl, ?_⟩) hHeld ?_ ?_
       rotate_left
       ·rintro w' ⟨s0, s1, s2⟩
        go_simp
        with_reducible rfl
       rotate_left
       ·simp only [Act.put, zsA, zsZ, zsS, i64_w, i32_w]
        rfl
       refine one_ (i := 3) (N := some 16) #[true, true, true, true, false, false, false, false] rfl rfl (one_of HT_.out (by kernel_rfl)) (by decide) (fun K hK => ?_)
       refine goes_ Try.func39 (by kernel_rfl) rfl #[.agg #[.int .i64 ((rd_T31 l0_0 x9_1).f0), .slice A285_1 ((rd_T31 l0_0 x9_1).f1).length c285_1]] (by rfl) rfl rfl Zm ?_
       with_reducible refine (memory_clonePage.calls ((rd_T31 l0_0 x9_1).f0) _ _ ((rd_T31 l0_0 x9_1).f1) t287 t288 _ ?side1 ?side2 A11.out).mono ?_
       (case side1 => exact Zc (Kd.C_below HR285_1.out HB.out))
       (case side2 => exact HC285_1.out)
       rintro e w20 ⟨v289, rfl, ho0, hb⟩
       refine ⟨_, rfl, ?_⟩
       have n0_ := Zw (Kd.S_elder' (ZS HO_285000.out) (by first | exact Kd.R_base ho0 | exact Kd.S_base ho0 | exact Kd.R_base ho0 | exact Kd.N_base ho0) hb)
       have n1_ := Zw (Kd.R_lower ho0 (below_size (Zh4 HB.out GE282.out GE283.out GE284.out GE286.out)))
       have n2_ := Zw (blk_below (g := gb282) (o := .cells #[.slice (some ad285) l0_0.length c0_0] 24 (0, 0)) (Zb BK282.out) hb)
       have n3_ := Zw (blk_below (g := gb283) (o := .cells #[.slice none 0 0] 24 (0, 0)) (Zb BK283.out) hb)
       have n4_ := Zw (blk_below (g := gb284) (o := .cells #[u285000] 24 (0, 0)) (Zb BK284.out) hb)
       have n5_ := Zw (blk_below (g := gb286) (o := .cells #[.int .i64 ((rd_T31 l0_0 x9_1).f0), .slice A285_1 ((rd_T31 l0_0 x9_1).f1).length c285_1] 31 (0, 0)) (Zb BK286.out) hb)
       have n6_ := Zw (below_step (Zh4 HB.out GE282.out GE283.out GE284.out GE286.out) hb)
       clear HO_285000
       clear BK282
       clear BK283
       clear BK284
       clear BK286
       clear HB
       have HO_285000 := n0_
       have HO290 := n1_
       have BK282 := n2_
       have BK283 := n3_
       have BK284 := n4_
       have BK286 := n5_
       have HB := n6_
       clear n0_ n1_ n2_ n3_ n4_ n5_ n6_
       (try clear hb)
       (try clear hb2)
       (try clear hk)
       (try clear hi)
       (try clear ho0)
       obtain ⟨Ao22, co22, eo22⟩ := Kd.R_slice HO290.out
       (first | subst eo22 | (injection eo22 with f1_ f2_ f3_; have f4_ := f1_.symm; have f5_ := f3_.symm; clear f1_ f2_ f3_; subst f4_; subst f5_))
       refine hK.out _ _ ⟨(blk_cell BK284.out 0).trans rfl, (blk_cell BK286.out 0).trans rfl, (blk_cell BK286.out 1).trans rfl⟩ (fun hHeld => ?_)
       clear hK K
       refine norm_ (a' := ?_) ?_ ?_
       rotate_left
       ·show Act.put _ (some 16) _ = _
        simp only [Act.put, zsA, zsZ, zsS, i64_w, i32_w]
        rfl
       refine one_ (i := 4) (N := some 17) #[true, true, true, true, true, false, false, false] rfl rfl (one_of HT_.out (by kernel_rfl)) (by decide) (fun K hK => ?_)
       refine value_ (w1 := ?_) (v := ?_) (by rfl) rfl ?_ ?_
       rotate_left 2
       ·go_simp
        constructor
        ·rfl
        ·rfl
       refine hK.out _ _ ⟨(blk_cell (blk_alloc BK284.out _) 0).trans rfl, (blk_cell (blk_alloc BK286.out _) 0).trans rfl, (blk_cell (blk_alloc BK286.out _) 1).trans rfl⟩ (fun hHeld => ?_)
       clear hK K
       refine norm_ (a' := ?_) ?_ ?_
       rotate_left
       ·show Act.put _ (some 17) _ = _
        simp only [Act.put, zsA, zsZ, zsS, i64_w, i32_w]
        rfl
       refine one_ (i := 5) (N := some 18) #[true, true, true, true, true, true, false, false] rfl rfl (one_of HT_.out (by kernel_rfl)) (by decide) (fun K hK => ?_)
       refine Kd.S_append_step k31 (w0 := w) w.heap.size (by rfl) (.tmp 14) (.tmp 17) 22 31 (.agg #[(.int .i64 0), (.slice none 0 0)]) 32 rfl Try.underlying22 info31 rfl (by decide) (by omega) u285000 x285000_1 (⟨t287, t288⟩ : S31) [.int .i64 t287, .slice Ao22 t288.length co22] (fun k_ => k_ ≠ gb286) (fun k_ => some k_ = (.slice Ao22 t288.length co22 : Value).ownBlock) rfl rfl ?aP (fun k_ hk_ => ((Kd.R_mono (ok' := fun k_ => ((fun k_ => k_ ≠ gb286)) k_ ∧ some k_ ≠ (u285000 : Value).ownBlock) (Kd.R_types (Kd.R_apart' (HO290.out) (Kd.S_typed HO_285000.out) (by decide)) BK286.out (by decide)) (fun k_ hk => ⟨hk.2, hk.1.2⟩))).1 k_ hk_.symm) ?aF ?aO ?aB ?aS ?aL ?_
       (case aP => exact k31_mkM _ _ _ (⟨t287, t288⟩ : S31) (Kd.R_mono (Kd.R_tight rfl (Kd.R_mono (ok' := fun k_ => ((fun k_ => k_ ≠ gb286)) k_ ∧ some k_ ≠ (u285000 : Value).ownBlock) (Kd.R_types (Kd.R_apart' (HO290.out) (Kd.S_typed HO_285000.out) (by decide)) BK286.out (by decide)) (fun k_ hk => ⟨hk.2, hk.1.2⟩))) (fun _ h_ => h_)))
       (case aB => exact (Zh4 HB.out GE282.out GE283.out GE284.out GE286.out))
       (case aF => exact (fun k_ hk => Kd.freshB (g := gb286) (o := .cells #[.int .i64 ((rd_T31 l0_0 x9_1).f0), .slice A285_1 ((rd_T31 l0_0 x9_1).f1).length c285_1] 31 (0, 0)) (Zb BK286.out) k_ hk))
       (case aO => exact (by refine ZSk ?_; exact Kd.S_mono HO_285000.out (fun k_ hk => ⟨hk.1, fun e_ => hk.2 e_⟩)))
       (case aS => exact (below_size (Zh4 HB.out GE282.out GE283.out GE284.out GE286.out)))
       (case aL => have := LMc12.out; omega)
       intro v292 w21 ho hb hg hat
       rw [← Ny291.out] at ho
       have n0_ := Zw (blk_grown (g := gb282) (o := .cells #[.slice (some ad285) l0_0.length c0_0] 24 (0, 0)) (Zb BK282.out) hg (Kd.S_ne HO_285000.out BK282.out (by decide)))
       have n1_ := Zw (blk_grown (g := gb283) (o := .cells #[.slice none 0 0] 24 (0, 0)) (Zb BK283.out) hg (Kd.S_ne HO_285000.out BK283.out (by decide)))
       have n2_ := Zw (blk_grown (g := gb284) (o := .cells #[u285000] 24 (0, 0)) (Zb BK284.out) hg (Kd.S_ne HO_285000.out BK284.out (by decide)))
       have n3_ := Zw (blk_grown (g := gb286) (o := .cells #[.int .i64 ((rd_T31 l0_0 x9_1).f0), .slice A285_1 ((rd_T31 l0_0 x9_1).f1).length c285_1] 31 (0, 0)) (Zb BK286.out) hg (Kd.S_away HO_285000.out (fun _ hk => hk.1)))
       have n4_ := Zw (hb)
       have n5_ := Zw (ho)
       clear BK282
       clear BK283
       clear BK284
       clear BK286
       clear HB
       clear HO_285000
       clear HO290
       have BK282 := n0_
       have BK283 := n1_
       have BK284 := n2_
       have BK286 := n3_
       have HB := n4_
       have HO293 := n5_
       clear n0_ n1_ n2_ n3_ n4_ n5_
       clear ho hb hg hat
       obtain ⟨Ao23, co23, eo23⟩ := Kd.S_slice HO293.out
       (first | subst eo23 | (injection eo23 with f1_ f2_ f3_; have f4_ := f1_.symm; have f5_ := f3_.symm; clear f1_ f2_ f3_; subst f4_; subst f5_))
       refine hK.out _ _ ⟨(blk_cell BK284.out 0).trans rfl, (blk_cell BK286.out 0).trans rfl, (blk_cell BK286.out 1).trans rfl⟩ (fun hHeld => ?_)
       clear hK K
       refine norm_ (a' := ?_) ?_ ?_
       rotate_left
       ·show Act.put _ (some 18) _ = _
        simp only [Act.put, zsA, zsZ, zsS, i64_w, i32_w]
        rfl
       refine pure_ (i := 6) (N := some 19) (v := ?_) (a' := ?_) #[true, true, true, true, true, true, true, false] rfl rfl (any_of HT_.out (by kernel_rfl)) (fun _ _ _ h => h) (Or.inl ⟨by rfl, ?_⟩) ?_ ?_
       rotate_left
       ·intro w'
        go_simp
        with_reducible rfl
       rotate_left
       ·simp only [Act.put, zsA, zsZ, zsS, i64_w, i32_w]
        rfl
       refine last_ (i := 7) (N := none) #[true, true, true, true, true, true, true, true] rfl rfl (one_of HT_.out (by kernel_rfl)) (by decide) (fun K hK => ?_)
       have hs24 : w21.cell? ⟨gb284, 0, none⟩ = some (u285000) := (blk_cell BK284.out 0).trans rfl
       have hfs24 := blk_frozen BK284.out 0
       have hns24_0 := NB282_284.out
       have hns24_1 := NB283_284.out
       have hns24_3 := NB286_284.out
       have hms24_0 := NB284_282.out
       have hms24_1 := NB284_283.out
       have hms24_3 := NB284_286.out
       refine skip_ (w1 := ?_) (by rfl) rfl ?_ ?_
       rotate_left
       ·go_simp
        rfl
       refine hK.out _ _ ?_
       clear hK K
       refine done_ (done_of HT_.out (by kernel_rfl)) ?_
       try go_wp2
       go_roundg k1
       case measure => have := HK1.out; omega
       case rel => exact ⟨(wrap64 (x9_1 + 1)), (y291), (.slice Ao23 y291.length co23), (by first | rfl | (simp; done) | (simp [*]; done)), H', ⟨by have := HK1.out; omega⟩, ⟨by refine ZSk ?_; exact Kd.S_mono (Kd.S_far (p := ⟨gb284, 0, none⟩) (Kd.S_types HO293.out BK284.out (by decide)) (fun _ hk => hk.2) (.slice Ao23 y291.length co23)) (fun _ hk => trivial)⟩, ⟨by refine Zbk ?_; refine blk_far ?_ NB282_284.out _; refine Zbk ?_; exact BK282.out⟩, ⟨by refine Zbk ?_; refine blk_far ?_ NB283_284.out _; refine Zbk ?_; exact BK283.out⟩, ⟨by refine Zbk ?_; refine blk_put (cs := #[u285000]) ?_ 0 _ rfl; refine Zbk ?_; exact BK284.out⟩, ⟨Zh4 HB.out GE282.out GE283.out GE284.out GE286.out⟩⟩
      ·rw [if_neg c12] at H
       exact absurd H (by simp)
     ·rw [if_neg c10] at H
      exact absurd H (by simp)
    ·rw [if_neg c9] at H
     exact absurd H (by simp)
   ·rw [if_neg c8] at H
    have c8b0 : decide (x9_1 < (l0_0.length : Int)) = false := decide_eq_false c8
    clear c8
    obtain rfl := Option.some.inj H
    have hnb25 := NB284_282.out
    have hnc25 := NB282_284.out
    have hnb26 := NB284_283.out
    have hnc26 := NB283_284.out
    have hcz27_0 := Zcl BK284.out 0 rfl
    have hfz27_0 := blk_frozen BK284.out 0
    obtain ⟨Ao28, co28, eo28⟩ := Kd.S_slice HO_285000.out
    subst eo28
    have hnb29 := NB283_282.out
    have hnc29 := NB282_283.out
    have hcz30_0 := Zcl BK283.out 0 rfl
    have hfz30_0 := blk_frozen BK283.out 0
    go_wp2
    refine bodyPost_ret (results_cell_row rfl _ _ gb283 24 #[.slice Ao28 x285000_1.length co28] (0, 0) _ rfl (by refine Zbk ?_; refine blk_put (cs := #[.slice none 0 0]) ?_ 0 _ rfl; refine Zbk ?_; exact BK283.out) Try.underlying24 rfl (by kernel_rfl)) rfl ?_
    exact ⟨_, by first | rfl | (simp [errW_none, errW_some] <;> rfl) | (simp [*, errW_none, errW_some] <;> rfl), by refine ZSk ?_; exact Kd.S_mono (Kd.S_far (p := ⟨gb283, 0, none⟩) (Kd.S_types HO_285000.out BK283.out (by decide)) (fun _ hk => hk.2) (.slice Ao28 x285000_1.length co28)) (fun _ hk => trivial), Zh3 HB.out GE282.out GE283.out GE284.out⟩

end Go.Proofs.Ytpifepaflljolaa.PMem
