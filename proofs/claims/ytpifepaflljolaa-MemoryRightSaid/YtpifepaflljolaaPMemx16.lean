-- By wip/xprint.py (a driver of this session's over the kit's print), for this claim.
import Derived.Test.YtpifepaflljolaaPMemx0
import Derived.Test.YtpifepaflljolaaPMemx15
namespace Go.Proofs.Ytpifepaflljolaa.PMem
open Go.RowKit Go.Proofs.YtpifepaflljolaaW.PrintWords Go.Proofs.YtpifepaflljolaaW.PrintLast Go.Proofs.YtpifepaflljolaaW.PrintMore
attribute [local go_sem] max2_int min2_int max_two min_two max_three min_three max_four min_four   -- for this text's walks alone
set_option linter.unusedVariables false
set_option linter.unusedSimpArgs false

/-! ### debuggerref25_Without: function 29 -/
def debuggerref25_Without.l0 : Nat → Int → Int → List (S31) → List (S31) → Option ((List (S31)))
 | 0, _, _, _, _ => none
 | k + 1, x1, x7, x197000, x198000 => if x7 < (x197000.length : Int) then (if 0 ≤ x7 then (if ((rd_T31 x197000 x7).f0) = x1 then (debuggerref25_Without.l0 k x1 (wrap64 (x7 + 1)) x197000 x198000) else (if x198000.length < 4398046511104 then (debuggerref25_Without.l0 k x1 (wrap64 (x7 + 1)) x197000 (x198000 ++ [(⟨(rd_T31 x197000 x7).f0, (rd_T31 x197000 x7).f1⟩ : S31)])) else (none))) else (none)) else (some x198000)
def debuggerref25_Without.f (k : Nat) (l0_0 : List (S31)) (a1 : Int) : Option ((List (S31))) := (debuggerref25_Copy.f k l0_0).bind fun t193 => (debuggerref25_Without.l0 k a1 0 t193 ([] : List (S31)))
theorem debuggerref25_Without.mono_l : ∀ k, (∀ y0 y1 y2 y3, LeO (debuggerref25_Without.l0 k y0 y1 y2 y3) (debuggerref25_Without.l0 (k + 1) y0 y1 y2 y3))
 | 0 => fun _ _ _ _ r h => by simp [debuggerref25_Without.l0] at h
 | k + 1 => by
  have ih0 := debuggerref25_Without.mono_l k
  ·intro y0 y1 y2 y3
   unfold debuggerref25_Without.l0
   repeat' first
   | (with_reducible exact ih0 _ _ _ _)
   | (with_reducible exact debuggerref25_Copy.mono _ _)
   | (with_reducible exact LeO.refl _)
   | (with_reducible exact LeO.none _)
   | (with_reducible refine LeO.ite ?_ ?_)
   | (with_reducible refine LeO.bind ?_ (fun _ => ?_))
   | exact ih0 _ _ _ _
   | exact debuggerref25_Copy.mono _ _
   | exact LeO.none _
   | refine LeO.ite ?_ ?_
   | refine LeO.bind ?_ (fun _ => ?_)
theorem debuggerref25_Without.mono : ∀ a0 a1 k, LeO (debuggerref25_Without.f k a0 a1) (debuggerref25_Without.f (k + 1) a0 a1) := by
 intro a0 a1 k
 have ih0 := debuggerref25_Without.mono_l k
 unfold debuggerref25_Without.f
 repeat' first
   | (with_reducible exact ih0 _ _ _ _)
   | (with_reducible exact debuggerref25_Copy.mono _ _)
   | (with_reducible exact LeO.refl _)
   | (with_reducible exact LeO.none _)
   | (with_reducible refine LeO.ite ?_ ?_)
   | (with_reducible refine LeO.bind ?_ (fun _ => ?_))
   | exact ih0 _ _ _ _
   | exact debuggerref25_Copy.mono _ _
   | exact LeO.none _
   | refine LeO.ite ?_ ?_
   | refine LeO.bind ?_ (fun _ => ?_)
def debuggerref25_Without.T7 : Bool × List (List Nat × List Nat) := (true, [([], []), ([0], [0]), ([], []), ([2], [2]), ([], []), ([3, 4], [3, 4]), ([5], [5]), ([6], [6]), ([1, 7], [1, 7]), ([0, 1, 2, 3, 4, 5, 6, 7, 8], []), ([9, 8, 8, 0, 1, 2, 3, 4, 5, 6, 7, 8], [8, 9])])
def debuggerref25_Without.B7 : List Nat := [0, 1, 0, 4, 0, 28, 60, 124, 255, 511, 1023]
theorem debuggerref25_Without.tab7 : rtab .any (opsOf Try.f29 7) = debuggerref25_Without.T7 := by kernel_rfl
theorem debuggerref25_Without.bits7 : waitsOk debuggerref25_Without.T7.2 debuggerref25_Without.B7 = true := by kernel_rfl
set_option maxHeartbeats 8000000 in
set_option maxRecDepth 100000 in
theorem debuggerref25_Without.calls (k : Nat) (A0_0 : Option Addr) (c0_0 : Nat) (l0_0 : List (S31)) (a1 : Int) (r : List (S31)) (w : World) (hr0_0 : Kd.C k31 w A0_0 l0_0.length l0_0) (hc0_0 : l0_0.length ≤ c0_0) (h : debuggerref25_Without.f k l0_0 a1 = some r) :
  Calls Try.prog 29 #[.agg #[.slice A0_0 l0_0.length c0_0], .int .i64 a1] w fun e w' => ∃ v0_ : Value, e = .returned (.agg #[v0_]) ∧ Kd.N k31 31 w' w.heap.size (fun k_ => (w.heap.size ≤ k_)) v0_ r ∧ Below w.heap.size w w' := by
 have hu24 := Try.underlying24
 have hu31 := Try.underlying31
 have HR0_0 := Aside0.mk hr0_0
 have HC0_0 := Aside0.mk hc0_0
 clear hr0_0 hc0_0
 have HB := Zw (Below.refl w.heap.size w)
 have H : ((debuggerref25_Copy.f k l0_0).bind fun t193 => (debuggerref25_Without.l0 k a1 0 t193 ([] : List (S31)))) = some r := h
 clear h
 replace H := Option.bind_eq_some_iff.mp H
 obtain ⟨t193, A30, H⟩ := H
 replace H : (debuggerref25_Without.l0 k a1 0 t193 ([] : List (S31))) = some r := H
 have A3 := Aside0.mk A30
 clear A30
 have H' := Aside0.mk H
 clear H
 go_enter Try.func29, Try.ntmps29
 go_wp2_with (first | ((with_reducible refine gate_dst (N := 2) rfl ?_); refine box_event ?hg (N := 2) ?hd (cs := #[.slice A0_0 l0_0.length c0_0]) (t := 24) ?hr ?_; (case hd => rfl); (case hg => rfl); (case hr => first | (go_simp; done) | (go_simp; rfl)); intro gb191 hg w4 hbox hb; have n0_ := Zw (below_step (Zh HB.out) hb); have n1_ := Zw (hbox); have n2_ := Zw ((by rw [hg]; exact (below_size (Zh HB.out)) : w.heap.size ≤ gb191)); have n3_ := Zw ((by rw [hg]; exact (below_size (Zh HB.out)) : w.heap.size ≤ gb191)); clear HB; have HB := n0_; have BK191 := n1_; have GW191 := n2_; have GE191 := n3_; clear n0_ n1_ n2_ n3_; clear hb hbox hg) | ((with_reducible refine gate_dst (N := 4) rfl ?_); refine box_event ?hg (N := 4) ?hd (cs := #[.slice none 0 0]) (t := 24) ?hr ?_; (case hd => rfl); (case hg => rfl); (case hr => first | (go_simp; done) | (go_simp; rfl)); intro gb192 hg w5 hbox hb; have n0_ := Zw (blk_below (g := gb191) (o := .cells #[.slice A0_0 l0_0.length c0_0] 24 (0, 0)) (Zb BK191.out) hb); have n1_ := Zw (below_step (Zh1 HB.out GE191.out) hb); have n2_ := Zw (hbox); have n3_ := Zw ((by rw [hg]; exact (below_size (Zh1 HB.out GE191.out)) : w.heap.size ≤ gb192)); have n4_ := Zw ((by rw [hg]; exact (below_size (Zh1 HB.out GE191.out)) : w.heap.size ≤ gb192)); have n5_ := Zw ((by rw [hg]; exact Nat.ne_of_lt (blk_lt (Zb BK191.out)) : gb191 ≠ gb192)); have n6_ := Zw ((by rw [hg]; exact Nat.ne_of_gt (blk_lt (Zb BK191.out)) : gb192 ≠ gb191)); clear BK191; clear HB; have BK191 := n0_; have HB := n1_; have BK192 := n2_; have GW192 := n3_; have GE192 := n4_; have NB191_192 := n5_; have NB192_191 := n6_; clear n0_ n1_ n2_ n3_ n4_ n5_ n6_; clear hb hbox hg; have hnb6 := NB191_192.out; have hnc6 := NB192_191.out; have hcz7_0 := Zcl BK191.out 0 rfl; have hfz7_0 := blk_frozen BK191.out 0) | ((with_reducible refine gate_callee (f := 37) rfl ?_); refine goesL_ (some 9) rfl rfl Try.func37 (by kernel_rfl) rfl #[.agg #[.slice A0_0 l0_0.length c0_0]] rfl Zm ?_; (with_reducible refine (debuggerref25_Copy.calls k _ _ l0_0 t193 _ ?side1 ?side2 A3.out).mono ?_); (case side1 => exact Zc (Kd.C_below HR0_0.out HB.out)); (case side2 => exact HC0_0.out); rintro e w8 ⟨v194, rfl, ho0, hb⟩; refine ⟨_, rfl, ?_⟩; have n0_ := Zw (Kd.N_lower (Kd.N_mono (ok' := fun k_ => (w.heap.size ≤ k_) ∧ k_ ≠ gb191 ∧ k_ ≠ gb192) (Kd.S_N (Kd.S_bound ho0)) (fun k_ hk_ => ⟨(Nat.le_trans (below_size (Zh2 HB.out GE191.out GE192.out)) hk_.2.1), (Kd.freshB (g := gb191) (o := .cells #[.slice A0_0 l0_0.length c0_0] 24 (0, 0)) (Zb BK191.out) k_ hk_.2.1), (Kd.freshB (g := gb192) (o := .cells #[.slice none 0 0] 24 (0, 0)) (Zb BK192.out) k_ hk_.2.1)⟩)) (below_size (Zh2 HB.out GE191.out GE192.out))); have n1_ := Zw (blk_below (g := gb191) (o := .cells #[.slice A0_0 l0_0.length c0_0] 24 (0, 0)) (Zb BK191.out) hb); have n2_ := Zw (blk_below (g := gb192) (o := .cells #[.slice none 0 0] 24 (0, 0)) (Zb BK192.out) hb); have n3_ := Zw (below_step (Zh2 HB.out GE191.out GE192.out) hb); clear BK191; clear BK192; clear HB; have HO195 := n0_; have BK191 := n1_; have BK192 := n2_; have HB := n3_; clear n0_ n1_ n2_ n3_; (try clear hb); (try clear hb2); (try clear hk); (try clear hi); (try clear ho0)) | ((with_reducible refine gate_dst (N := 5) rfl ?_); refine box_event ?hg (N := 5) ?hd (cs := #[.slice none 0 0]) (t := 24) ?hr ?_; (case hd => rfl); (case hg => rfl); (case hr => first | (go_simp; done) | (go_simp; rfl)); intro gb196 hg w9 hbox hb; have n0_ := Zw (Kd.N_below (Kd.N_elderB (ZN HO195.out) gb196 (Nat.le_of_eq hg.symm)) hb); have n1_ := Zw (blk_below (g := gb191) (o := .cells #[.slice A0_0 l0_0.length c0_0] 24 (0, 0)) (Zb BK191.out) hb); have n2_ := Zw (blk_below (g := gb192) (o := .cells #[.slice none 0 0] 24 (0, 0)) (Zb BK192.out) hb); have n3_ := Zw (below_step (Zh2 HB.out GE191.out GE192.out) hb); have n4_ := Zw (hbox); have n5_ := Zw ((by rw [hg]; exact (below_size (Zh2 HB.out GE191.out GE192.out)) : w.heap.size ≤ gb196)); have n6_ := Zw ((by rw [hg]; exact (below_size (Zh2 HB.out GE191.out GE192.out)) : w.heap.size ≤ gb196)); have n7_ := Zw ((by rw [hg]; exact Nat.ne_of_lt (blk_lt (Zb BK191.out)) : gb191 ≠ gb196)); have n8_ := Zw ((by rw [hg]; exact Nat.ne_of_gt (blk_lt (Zb BK191.out)) : gb196 ≠ gb191)); have n9_ := Zw ((by rw [hg]; exact Nat.ne_of_lt (blk_lt (Zb BK192.out)) : gb192 ≠ gb196)); have n10_ := Zw ((by rw [hg]; exact Nat.ne_of_gt (blk_lt (Zb BK192.out)) : gb196 ≠ gb192)); clear HO195; clear BK191; clear BK192; clear HB; have HO195 := n0_; have BK191 := n1_; have BK192 := n2_; have HB := n3_; have BK196 := n4_; have GW196 := n5_; have GE196 := n6_; have NB191_196 := n7_; have NB196_191 := n8_; have NB192_196 := n9_; have NB196_192 := n10_; clear n0_ n1_ n2_ n3_ n4_ n5_ n6_ n7_ n8_ n9_ n10_; clear hb hbox hg; obtain ⟨Ao10, co10, eo10⟩ := Kd.N_slice HO195.out; subst eo10; have hnb11 := NB196_191.out; have hnc11 := NB191_196.out; have hnb12 := NB196_192.out; have hnc12 := NB192_196.out; have hcz13_0 := Zcl BK196.out 0 rfl; have hfz13_0 := blk_frozen BK196.out 0) | ((with_reducible refine gate_dst (N := 6) rfl ?_); refine box_event ?hg (N := 6) ?hd (cs := #[.slice none 0 0]) (t := 24) ?hr ?_; (case hd => rfl); (case hg => rfl); (case hr => first | (go_simp; done) | (go_simp; rfl)); intro gb197 hg w14 hbox hb; have n0_ := Zw (Kd.N_below (Kd.N_elderB (by refine ZNk ?_; exact (Kd.N_mono (Kd.N_far (p := ⟨gb196, 0, none⟩) (Kd.N_mono HO195.out (fun k_ hk => (⟨hk, hk.2⟩ : _ ∧ k_ ≠ gb196))) (fun _ hk => hk.2) (.slice Ao10 t193.length co10)) (fun _ h_ => h_.1))) gb197 (Nat.le_of_eq hg.symm)) hb); have n1_ := Zw (blk_below (g := gb191) (o := .cells #[.slice A0_0 l0_0.length c0_0] 24 (0, 0)) (by refine Zbk ?_; refine blk_far ?_ NB191_196.out _; refine Zbk ?_; exact BK191.out) hb); have n2_ := Zw (blk_below (g := gb192) (o := .cells #[.slice none 0 0] 24 (0, 0)) (by refine Zbk ?_; refine blk_far ?_ NB192_196.out _; refine Zbk ?_; exact BK192.out) hb); have n3_ := Zw (blk_below (g := gb196) (o := .cells #[.slice Ao10 t193.length co10] 24 (0, 0)) (by refine Zbk ?_; refine blk_put (cs := #[.slice none 0 0]) ?_ 0 _ rfl; refine Zbk ?_; exact BK196.out) hb); have n4_ := Zw (below_step (Zh3 HB.out GE191.out GE192.out GE196.out) hb); have n5_ := Zw (hbox); have n6_ := Zw ((by rw [hg]; exact (below_size (Zh3 HB.out GE191.out GE192.out GE196.out)) : w.heap.size ≤ gb197)); have n7_ := Zw ((by rw [hg]; exact (below_size (Zh3 HB.out GE191.out GE192.out GE196.out)) : w.heap.size ≤ gb197)); have n8_ := Zw ((by rw [hg]; exact Nat.ne_of_lt (blk_lt (g := gb191) (o := .cells #[.slice A0_0 l0_0.length c0_0] 24 (0, 0)) (by refine Zbk ?_; refine blk_far ?_ NB191_196.out _; refine Zbk ?_; exact BK191.out)) : gb191 ≠ gb197)); have n9_ := Zw ((by rw [hg]; exact Nat.ne_of_gt (blk_lt (g := gb191) (o := .cells #[.slice A0_0 l0_0.length c0_0] 24 (0, 0)) (by refine Zbk ?_; refine blk_far ?_ NB191_196.out _; refine Zbk ?_; exact BK191.out)) : gb197 ≠ gb191)); have n10_ := Zw ((by rw [hg]; exact Nat.ne_of_lt (blk_lt (g := gb192) (o := .cells #[.slice none 0 0] 24 (0, 0)) (by refine Zbk ?_; refine blk_far ?_ NB192_196.out _; refine Zbk ?_; exact BK192.out)) : gb192 ≠ gb197)); have n11_ := Zw ((by rw [hg]; exact Nat.ne_of_gt (blk_lt (g := gb192) (o := .cells #[.slice none 0 0] 24 (0, 0)) (by refine Zbk ?_; refine blk_far ?_ NB192_196.out _; refine Zbk ?_; exact BK192.out)) : gb197 ≠ gb192)); have n12_ := Zw ((by rw [hg]; exact Nat.ne_of_lt (blk_lt (g := gb196) (o := .cells #[.slice Ao10 t193.length co10] 24 (0, 0)) (by refine Zbk ?_; refine blk_put (cs := #[.slice none 0 0]) ?_ 0 _ rfl; refine Zbk ?_; exact BK196.out)) : gb196 ≠ gb197)); have n13_ := Zw ((by rw [hg]; exact Nat.ne_of_gt (blk_lt (g := gb196) (o := .cells #[.slice Ao10 t193.length co10] 24 (0, 0)) (by refine Zbk ?_; refine blk_put (cs := #[.slice none 0 0]) ?_ 0 _ rfl; refine Zbk ?_; exact BK196.out)) : gb197 ≠ gb196)); clear HO195; clear BK191; clear BK192; clear BK196; clear HB; have HO195 := n0_; have BK191 := n1_; have BK192 := n2_; have BK196 := n3_; have HB := n4_; have BK197 := n5_; have GW197 := n6_; have GE197 := n7_; have NB191_197 := n8_; have NB197_191 := n9_; have NB192_197 := n10_; have NB197_192 := n11_; have NB196_197 := n12_; have NB197_196 := n13_; clear n0_ n1_ n2_ n3_ n4_ n5_ n6_ n7_ n8_ n9_ n10_ n11_ n12_ n13_; clear hb hbox hg))
 go_loopg [7] k (fun kq v7 w' => ∃ (x7_1 : Int) (x198000_1 : List (S31)) (u198000 : Value), v7 = .int .i64 x7_1 ∧ Aside0 (debuggerref25_Without.l0 kq a1 x7_1 t193 x198000_1 = some r) ∧ Aside0 (kq ≤ k) ∧ Aside0 (Kd.N k31 31 w' w.heap.size (fun k_ => (w.heap.size ≤ k_) ∧ some k_ ≠ (u198000 : Value).ownBlock ∧ k_ ≠ gb191 ∧ k_ ≠ gb192 ∧ k_ ≠ gb196 ∧ k_ ≠ gb197) (.slice Ao10 t193.length co10) t193) ∧ Aside0 (Kd.N k31 31 w' w.heap.size (fun k_ => (w.heap.size ≤ k_) ∧ some k_ ≠ ((.slice Ao10 t193.length co10) : Value).ownBlock ∧ k_ ≠ gb191 ∧ k_ ≠ gb192 ∧ k_ ≠ gb196 ∧ k_ ≠ gb197) u198000 x198000_1) ∧ Aside0 (w'.heap[gb191]? = some (.cells #[(.slice A0_0 l0_0.length c0_0)] 24 (0, 0))) ∧ Aside0 (w'.heap[gb192]? = some (.cells #[(.slice none 0 0)] 24 (0, 0))) ∧ Aside0 (w'.heap[gb196]? = some (.cells #[(.slice Ao10 t193.length co10)] 24 (0, 0))) ∧ Aside0 (w'.heap[gb197]? = some (.cells #[u198000] 24 (0, 0))) ∧ Aside0 (Below w.heap.size w w'))
 case atStart => exact ⟨(0), (([] : List (S31))), (.slice none 0 0), (by first | rfl | (simp; done) | (simp [*]; done)), H', ⟨Nat.le_refl _⟩, ⟨by refine ZNk ?_; exact Kd.N_mono HO195.out (fun _ hk => ⟨hk.1.1.1, ⟨(by simp [Value.ownBlock]), ⟨hk.1.1.2.1, ⟨hk.1.1.2.2, ⟨hk.1.2, hk.2⟩⟩⟩⟩⟩)⟩, ⟨by first | exact Kd.S_nil _ _ _ _ _ | exact Kd.N_nil _ _ _ _ _ | exact Kd.V_nil _ _ _ _ _ | exact Kd.Q_nil _ _ _ _ _ | exact Kd.R_nil _ _ _ _ _⟩, ⟨Zb BK191.out⟩, ⟨Zb BK192.out⟩, ⟨Zb BK196.out⟩, ⟨Zb BK197.out⟩, ⟨Zh4 HB.out GE191.out GE192.out GE196.out GE197.out⟩⟩
 case round =>
  clear H'
  try clear c1
  try clear c2
  try clear p2
  try clear c3
  try clear c6
  try clear c11
  try clear c12
  try clear hcz13_0
  try clear hcz7_0
  try clear hfz13_0
  try clear hfz7_0
  obtain ⟨x7_1, x198000_1, u198000, rfl, HA, HK1, HO_197000, HO_198000, BK191, BK192, BK196, BK197, HB⟩ := hrel
  cases gk with
  | zero => exact absurd HA.out (by simp [debuggerref25_Without.l0])
  | succ k1 =>
   have H := HA.out
   clear HA
   simp only [debuggerref25_Without.l0] at H
   by_cases c15 : x7_1 < (t193.length : Int)
   ·rw [if_pos c15] at H
    have c15b0 : decide (x7_1 < (t193.length : Int)) = true := decide_eq_true c15
    clear c15
    by_cases c16 : 0 ≤ x7_1
    ·rw [if_pos c16] at H
     have c16b0 : decide (0 ≤ x7_1) = true := decide_eq_true c16
     clear c16
     by_cases c17 : ((rd_T31 t193 x7_1).f0) = a1
     ·rw [if_pos c17] at H
      have c17b0 : (((rd_T31 t193 x7_1).f0) == a1) = true := beq_iff_eq.mpr c17
      have c17b1 : (((rd_T31 t193 x7_1).f0) != a1) = false := bne_eq_false_iff_eq.mpr c17
      clear c17
      have H' := Aside0.mk H
      clear H
      have hnb18 := NB196_191.out
      have hnc18 := NB191_196.out
      have hnb19 := NB196_192.out
      have hnc19 := NB192_196.out
      have hnb20 := NB196_197.out
      have hnc20 := NB197_196.out
      have hcz21_0 := Zcl BK196.out 0 rfl
      have hfz21_0 := blk_frozen BK196.out 0
      have p198 : 0 ≤ (x7_1 : Int) := of_decide_eq_true Za
      have q198 : x7_1 < (t193.length : Int) := of_decide_eq_true Za
      obtain ⟨ad198, A198_1, c198_1, e198, hx198_0, hx198_1, hl198_1, hi198_1⟩ := at_T31 (Kd.N_reads' HO_197000.out).2.2 x7_1 p198 q198
      cases e198
      obtain ⟨ce198, hce198, hMe198, hcc198⟩ := Kd.N_get HO_197000.out z31 x7_1 p198 (by first | exact q198 | exact of_decide_eq_true Za | (have e_ := (Kd.N_reads' HO_197000.out).1; omega))
      obtain ⟨ua198_1, uc198_1, rfl, ul198_1, ge198_1⟩ := k31_openF hMe198
      have hv198_1 := hcc198 1 _ rfl
      rw [add_field _ _ 1 (by omega)] at hv198_1
      replace hv198_1 := Option.some.inj (hv198_1.symm.trans hx198_1)
      injection hv198_1 with hva_ hvn_ hvc_
      rw [hva_] at ge198_1
      rw [hvc_] at ul198_1
      have HL198_1 := Zw (show Kd.V (Kd.int .i64) 3 _ w.heap.size _ _ ((rd_T31 t193 x7_1).f1) from Kd.V_mk ul198_1 ge198_1)
      clear hva_ hvn_ hvc_ ge198_1 ul198_1
      clear hcc198 hce198
      have HR198_1 := Aside0.mk hi198_1
      have HC198_1 := Aside0.mk hl198_1
      clear hi198_1 hl198_1
      replace p198 := eq_true p198
      replace q198 := eq_true q198
      go_wp2
      go_roundg k1
      case measure => have := HK1.out; omega
      case rel => exact ⟨(wrap64 (x7_1 + 1)), (x198000_1), (u198000), (by first | rfl | (simp; done) | (simp [*]; done)), H', ⟨by have := HK1.out; omega⟩, ⟨ZN HO_197000.out⟩, ⟨ZN HO_198000.out⟩, ⟨Zb BK191.out⟩, ⟨Zb BK192.out⟩, ⟨Zb BK196.out⟩, ⟨Zb BK197.out⟩, ⟨Zh4 HB.out GE191.out GE192.out GE196.out GE197.out⟩⟩
     ·rw [if_neg c17] at H
      have c17b0 : (((rd_T31 t193 x7_1).f0) == a1) = false := beq_eq_false_iff_ne.mpr c17
      have c17b1 : (((rd_T31 t193 x7_1).f0) != a1) = true := bne_iff_ne.mpr c17
      by_cases c22 : x198000_1.length < 4398046511104
      ·rw [if_pos c22] at H
       have LMc22 := Aside0.mk c22
       clear c22
       obtain ⟨y200, hy200⟩ : ∃ y_ : List (S31), y_ = (x198000_1 ++ [(⟨(rd_T31 t193 x7_1).f0, (rd_T31 t193 x7_1).f1⟩ : S31)]) := ⟨_, rfl⟩
       replace H : (debuggerref25_Without.l0 k1 a1 (wrap64 (x7_1 + 1)) t193 y200) = some r := by first | (rw [hy200]; with_reducible exact H) | (have H2_ := (Option.bind_some _ _).symm.trans H; rw [hy200]; with_reducible exact H2_) | (have H2_ := (Option.bind_some _ _).symm.trans H; with_reducible exact H2_) | with_reducible exact H | (rw [hy200]; exact H) | exact H
       have Ny200 := Aside0.mk hy200
       clear hy200
       have H' := Aside0.mk H
       clear H
       have hnb23 := NB196_191.out
       have hnc23 := NB191_196.out
       have hnb24 := NB196_192.out
       have hnc24 := NB192_196.out
       have hnb25 := NB196_197.out
       have hnc25 := NB197_196.out
       have hcz26_0 := Zcl BK196.out 0 rfl
       have hfz26_0 := blk_frozen BK196.out 0
       have p198 : 0 ≤ (x7_1 : Int) := of_decide_eq_true Za
       have q198 : x7_1 < (t193.length : Int) := of_decide_eq_true Za
       obtain ⟨ad198, A198_1, c198_1, e198, hx198_0, hx198_1, hl198_1, hi198_1⟩ := at_T31 (Kd.N_reads' HO_197000.out).2.2 x7_1 p198 q198
       cases e198
       obtain ⟨ce198, hce198, hMe198, hcc198⟩ := Kd.N_get HO_197000.out z31 x7_1 p198 (by first | exact q198 | exact of_decide_eq_true Za | (have e_ := (Kd.N_reads' HO_197000.out).1; omega))
       obtain ⟨ua198_1, uc198_1, rfl, ul198_1, ge198_1⟩ := k31_openF hMe198
       have hv198_1 := hcc198 1 _ rfl
       rw [add_field _ _ 1 (by omega)] at hv198_1
       replace hv198_1 := Option.some.inj (hv198_1.symm.trans hx198_1)
       injection hv198_1 with hva_ hvn_ hvc_
       rw [hva_] at ge198_1
       rw [hvc_] at ul198_1
       have HL198_1 := Zw (show Kd.V (Kd.int .i64) 3 _ w.heap.size _ _ ((rd_T31 t193 x7_1).f1) from Kd.V_mk ul198_1 ge198_1)
       clear hva_ hvn_ hvc_ ge198_1 ul198_1
       clear hcc198 hce198
       have HR198_1 := Aside0.mk hi198_1
       have HC198_1 := Aside0.mk hl198_1
       clear hi198_1 hl198_1
       replace p198 := eq_true p198
       replace q198 := eq_true q198
       try go_wp2
       have n0_ := Zw (Kd.N_drew HO_197000.out)
       have n1_ := Zw (Kd.N_drew HO_198000.out)
       have n2_ := Zw (Kd.V_drew HL198_1.out)
       have n3_ := Zw (blk_drew BK191.out)
       have n4_ := Zw (blk_drew BK192.out)
       have n5_ := Zw (blk_drew BK196.out)
       have n6_ := Zw (blk_drew BK197.out)
       have n7_ := Zw (Kd.C_drew HR198_1.out)
       have n8_ := Zw (below_drew1 HB.out)
       clear HO_197000
       clear HO_198000
       clear HL198_1
       clear BK191
       clear BK192
       clear BK196
       clear BK197
       clear HR198_1
       clear HB
       have HO_197000 := n0_
       have HO_198000 := n1_
       have HL198_1 := n2_
       have BK191 := n3_
       have BK192 := n4_
       have BK196 := n5_
       have BK197 := n6_
       have HR198_1 := n7_
       have HB := n8_
       clear n0_ n1_ n2_ n3_ n4_ n5_ n6_ n7_ n8_
       have p199 : 0 ≤ (x7_1 : Int) := of_decide_eq_true Za
       have q199 : x7_1 < (t193.length : Int) := of_decide_eq_true Za
       obtain ⟨ad199, A199_1, c199_1, e199, hx199_0, hx199_1, hl199_1, hi199_1⟩ := at_T31 (Kd.N_reads' HO_197000.out).2.2 x7_1 p199 q199
       obtain rfl : ad198 = ad199 := (by injection e199)
       obtain ⟨ce199, hce199, hMe199, hcc199⟩ := Kd.N_get HO_197000.out z31 x7_1 p199 (by first | exact q199 | exact of_decide_eq_true Za | (have e_ := (Kd.N_reads' HO_197000.out).1; omega))
       obtain ⟨ua199_1, uc199_1, rfl, ul199_1, ge199_1⟩ := k31_openF hMe199
       have hv199_1 := hcc199 1 _ rfl
       rw [add_field _ _ 1 (by omega)] at hv199_1
       replace hv199_1 := Option.some.inj (hv199_1.symm.trans hx199_1)
       injection hv199_1 with hva_ hvn_ hvc_
       rw [hva_] at ge199_1
       rw [hvc_] at ul199_1
       have HL199_1 := Zw (show Kd.V (Kd.int .i64) 3 _ w.heap.size _ _ ((rd_T31 t193 x7_1).f1) from Kd.V_mk ul199_1 ge199_1)
       clear hva_ hvn_ hvc_ ge199_1 ul199_1
       clear hcc199 hce199
       have HR199_1 := Aside0.mk hi199_1
       have HC199_1 := Aside0.mk hl199_1
       clear hi199_1 hl199_1
       replace p199 := eq_true p199
       replace q199 := eq_true q199
       refine start_ (n := 11) (S := fun w' => w'.cell? ⟨gb197, 0, none⟩ = some (u198000) ∧ w'.cell? ⟨gb196, 0, none⟩ = some (.slice (some ad198) t193.length co10) ∧ w'.cell? (ad198.add ((x7_1).toNat * 2)) = some (.int .i64 ((rd_T31 t193 x7_1).f0)) ∧ w'.cell? ⟨(ad198.add ((x7_1).toNat * 2)).block, (ad198.add ((x7_1).toNat * 2)).off + 1, none⟩ = some (.slice A199_1 ((rd_T31 t193 x7_1).f1).length c199_1)) (ds := [8, 10]) #[false, false, false, false, false, false, false, false, false, false, false] (by kernel_rfl) rfl rfl ⟨(blk_cell BK197.out 0).trans rfl, (blk_cell BK196.out 0).trans rfl, hx199_0, hx199_1⟩ (fun hHeld => ?_); refine with_tabW debuggerref25_Without.tab7 debuggerref25_Without.bits7 (fun HT_ HW_ => ?_)
       generalize wr.drew = w27 at HO_197000 HO_198000 HL198_1 BK191 BK192 BK196 BK197 HR198_1 HB HL199_1 HR199_1 hx199_0 hx199_1 hHeld ⊢
       refine pure_ (i := 0) (N := some 25) (v := ?_) (a' := ?_) #[true, false, false, false, false, false, false, false, false, false, false] rfl rfl (any_of HT_.out (by kernel_rfl)) (fun _ _ _ h => h) (Or.inl ⟨by rfl, ?_⟩) ?_ ?_
       rotate_left
       ·intro w'
        go_simp
        with_reducible rfl
       rotate_left
       ·simp only [Act.put, zsA, zsZ, zsS, i64_w, i32_w]
        rfl
       refine pure_ (i := 2) (N := some 27) (v := ?_) (a' := ?_) #[true, false, true, false, false, false, false, false, false, false, false] rfl rfl (any_of HT_.out (by kernel_rfl)) (fun _ _ _ h => h) (Or.inl ⟨by rfl, ?_⟩) ?_ ?_
       rotate_left
       ·intro w'
        go_simp
        with_reducible rfl
       rotate_left
       ·simp only [Act.put, zsA, zsZ, zsS, i64_w, i32_w]
        rfl
       refine pure_ (i := 4) (N := some 29) (v := ?_) (a' := ?_) #[true, false, true, false, true, false, false, false, false, false, false] rfl rfl (any_of HT_.out (by kernel_rfl)) (fun _ _ _ h => h) (Or.inl ⟨by rfl, ?_⟩) ?_ ?_
       rotate_left
       ·intro w'
        go_simp
        with_reducible rfl
       rotate_left
       ·simp only [Act.put, zsA, zsZ, zsS, i64_w, i32_w]
        rfl
       refine take_ (i := 1) (N := some 26) (v := ?_) (a' := ?_) #[true, true, true, false, true, false, false, false, false, false, false] rfl rfl (take_ofW HT_.out HW_.out (by kernel_rfl)) (fun _ _ _ h => h) (Or.inl ⟨by rfl, ?_⟩) hHeld ?_ ?_
       rotate_left
       ·rintro w' ⟨s0, s1, s2, s3⟩
        go_simp
        with_reducible rfl
       rotate_left
       ·simp only [Act.put, zsA, zsZ, zsS, i64_w, i32_w]
        rfl
       refine take_ (i := 3) (N := some 28) (v := ?_) (a' := ?_) #[true, true, true, true, true, false, false, false, false, false, false] rfl rfl (take_ofW HT_.out HW_.out (by kernel_rfl)) (fun _ _ _ h => h) (Or.inl ⟨by rfl, ?_⟩) hHeld ?_ ?_
       rotate_left
       ·rintro w' ⟨s0, s1, s2, s3⟩
        go_simp
        with_reducible rfl
       rotate_left
       ·simp only [Act.put, zsA, zsZ, zsS, i64_w, i32_w]
        rfl
       refine pure_ (i := 5) (N := some 30) (v := ?_) (a' := ?_) #[true, true, true, true, true, true, false, false, false, false, false] rfl rfl (any_of HT_.out (by kernel_rfl)) (fun _ _ _ h => h) (Or.inl ⟨by rfl, ?_⟩) ?_ ?_
       rotate_left
       ·intro w'
        go_simp
        with_reducible rfl
       rotate_left
       ·simp only [Act.put, zsA, zsZ, zsS, i64_w, i32_w]
        rfl
       refine take_ (i := 6) (N := some 31) (v := ?_) (a' := ?_) #[true, true, true, true, true, true, true, false, false, false, false] rfl rfl (take_ofW HT_.out HW_.out (by kernel_rfl)) (fun _ _ _ h => h) (Or.inl ⟨by rfl, ?_⟩) hHeld ?_ ?_
       rotate_left
       ·rintro w' ⟨s0, s1, s2, s3⟩
        go_simp
        with_reducible rfl
       rotate_left
       ·simp only [Act.put, zsA, zsZ, zsS, i64_w, i32_w]
        rfl
       refine one_ (i := 7) (N := some 32) #[true, true, true, true, true, true, true, true, false, false, false] rfl rfl (one_of HT_.out (by kernel_rfl)) (by decide) (fun K hK => ?_)
       refine value_ (w1 := ?_) (v := ?_) (by rfl) rfl ?_ ?_
       rotate_left 2
       ·go_simp
        constructor
        ·rfl
        ·rfl
       refine hK.out _ _ ⟨(blk_cell (blk_alloc BK197.out _) 0).trans rfl, (blk_cell (blk_alloc BK196.out _) 0).trans rfl, (World.cell?_alloc_lt _ _ _ (World.block_lt_of_cell? _ _ (hHeld.2.2.1))).trans (hHeld.2.2.1), (World.cell?_alloc_lt _ _ _ (World.block_lt_of_cell? _ _ (hHeld.2.2.2))).trans (hHeld.2.2.2)⟩ (fun hHeld => ?_)
       clear hK K
       refine norm_ (a' := ?_) ?_ ?_
       rotate_left
       ·show Act.put _ (some 32) _ = _
        simp only [Act.put, zsA, zsZ, zsS, i64_w, i32_w]
        rfl
       refine last_ (i := 8) (N := some 33) #[true, true, true, true, true, true, true, true, true, false, false] rfl rfl (one_of HT_.out (by kernel_rfl)) (by decide) (fun K hK => ?_)
       refine Kd.N_append_step k31 (w0 := w) w.heap.size (by rfl) (.tmp 26) (.tmp 32) 22 31 (.agg #[(.int .i64 0), (.slice none 0 0)]) 32 rfl Try.underlying22 info31 rfl (by decide) (by omega) u198000 x198000_1 (⟨(rd_T31 t193 x7_1).f0, (rd_T31 t193 x7_1).f1⟩ : S31) [.int .i64 ((rd_T31 t193 x7_1).f0), .slice A199_1 ((rd_T31 t193 x7_1).f1).length c199_1] (fun k_ => (w.heap.size ≤ k_) ∧ some k_ ≠ (.slice (some ad198) t193.length co10 : Value).ownBlock ∧ k_ ≠ gb191 ∧ k_ ≠ gb192 ∧ k_ ≠ gb196 ∧ k_ ≠ gb197) (fun k_ => ((fun k_ => (w.heap.size ≤ k_) ∧ some k_ ≠ (.slice (some ad198) t193.length co10 : Value).ownBlock ∧ k_ ≠ gb191 ∧ k_ ≠ gb192 ∧ k_ ≠ gb196 ∧ k_ ≠ gb197)) k_ ∧ some k_ ≠ (u198000 : Value).ownBlock) rfl rfl ?aP (fun _ hk => hk) ?aF ?aO ?aB ?aS ?aL ?_
       (case aP => exact (k31_mkF _ _ (⟨(rd_T31 t193 x7_1).f0, (rd_T31 t193 x7_1).f1⟩ : S31) (Kd.V_reads' (Kd.V_mono (ok' := (fun k_ => ((fun k_ => (w.heap.size ≤ k_) ∧ some k_ ≠ (.slice (some ad198) t193.length co10 : Value).ownBlock ∧ k_ ≠ gb191 ∧ k_ ≠ gb192 ∧ k_ ≠ gb196 ∧ k_ ≠ gb197)) k_ ∧ some k_ ≠ (u198000 : Value).ownBlock)) (HL199_1.out) (fun k_ hk => ⟨⟨hk.1.1, ⟨hk.2, ⟨hk.1.2.2.1, ⟨hk.1.2.2.2.1, ⟨hk.1.2.2.2.2.1, hk.1.2.2.2.2.2⟩⟩⟩⟩⟩, hk.1.2.1⟩))).2.1 (Kd.V_F (Kd.V_mono (ok' := (fun k_ => ((fun k_ => (w.heap.size ≤ k_) ∧ some k_ ≠ (.slice (some ad198) t193.length co10 : Value).ownBlock ∧ k_ ≠ gb191 ∧ k_ ≠ gb192 ∧ k_ ≠ gb196 ∧ k_ ≠ gb197)) k_ ∧ some k_ ≠ (u198000 : Value).ownBlock)) (HL199_1.out) (fun k_ hk => ⟨⟨hk.1.1, ⟨hk.2, ⟨hk.1.2.2.1, ⟨hk.1.2.2.2.1, ⟨hk.1.2.2.2.2.1, hk.1.2.2.2.2.2⟩⟩⟩⟩⟩, hk.1.2.1⟩)))))
       (case aB => exact (Zh4 HB.out GE191.out GE192.out GE196.out GE197.out))
       (case aF => exact (fun k_ hk => ⟨(Nat.le_trans (below_size (Zh4 HB.out GE191.out GE192.out GE196.out GE197.out)) hk), Kd.fresh' (Kd.N_lt (ZN HO_197000.out)) k_ hk, Kd.freshB (g := gb191) (o := .cells #[.slice A0_0 l0_0.length c0_0] 24 (0, 0)) (Zb BK191.out) k_ hk, Kd.freshB (g := gb192) (o := .cells #[.slice none 0 0] 24 (0, 0)) (Zb BK192.out) k_ hk, Kd.freshB (g := gb196) (o := .cells #[.slice (some ad198) t193.length co10] 24 (0, 0)) (Zb BK196.out) k_ hk, Kd.freshB (g := gb197) (o := .cells #[u198000] 24 (0, 0)) (Zb BK197.out) k_ hk⟩))
       (case aO => exact (ZN HO_198000.out))
       (case aS => exact (below_size (Zh4 HB.out GE191.out GE192.out GE196.out GE197.out)))
       (case aL => have := LMc22.out; omega)
       intro v201 w28 ho hb hg hat
       rw [← Ny200.out] at ho
       have n0_ := Zw (Kd.N_afterv (ok := (fun k_ => (w.heap.size ≤ k_) ∧ k_ ≠ gb191 ∧ k_ ≠ gb192 ∧ k_ ≠ gb196 ∧ k_ ≠ gb197)) (by refine ZNk ?_; exact Kd.N_mono HO_197000.out (fun _ hk => ⟨⟨hk.1, ⟨hk.2.2.1, ⟨hk.2.2.2.1, ⟨hk.2.2.2.2.1, hk.2.2.2.2.2⟩⟩⟩⟩, hk.2.1⟩)) hg hat)
       have n1_ := Zw (blk_grown (g := gb191) (o := .cells #[.slice A0_0 l0_0.length c0_0] 24 (0, 0)) (Zb BK191.out) hg (Kd.N_ne HO_198000.out BK191.out (by decide)))
       have n2_ := Zw (blk_grown (g := gb192) (o := .cells #[.slice none 0 0] 24 (0, 0)) (Zb BK192.out) hg (Kd.N_ne HO_198000.out BK192.out (by decide)))
       have n3_ := Zw (blk_grown (g := gb196) (o := .cells #[.slice (some ad198) t193.length co10] 24 (0, 0)) (Zb BK196.out) hg (Kd.N_ne HO_198000.out BK196.out (by decide)))
       have n4_ := Zw (blk_grown (g := gb197) (o := .cells #[u198000] 24 (0, 0)) (Zb BK197.out) hg (Kd.N_ne HO_198000.out BK197.out (by decide)))
       have n5_ := Zw (Kd.V_afterv (ok := (fun k_ => (w.heap.size ≤ k_) ∧ some k_ ≠ (.slice (some ad198) t193.length co10 : Value).ownBlock ∧ k_ ≠ gb191 ∧ k_ ≠ gb192 ∧ k_ ≠ gb196 ∧ k_ ≠ gb197)) (by (with_reducible repeat (first | apply Kd.V_alloc | apply Kd.V_drewN | apply Kd.V_drew)); exact Kd.V_mono HL198_1.out (fun _ hk => ⟨⟨hk.1.1, ⟨hk.2, ⟨hk.1.2.2.1, ⟨hk.1.2.2.2.1, ⟨hk.1.2.2.2.2.1, hk.1.2.2.2.2.2⟩⟩⟩⟩⟩, hk.1.2.1⟩)) hg hat)
       have n6_ := Zw (Kd.V_afterv (ok := (fun k_ => (w.heap.size ≤ k_) ∧ some k_ ≠ (.slice (some ad198) t193.length co10 : Value).ownBlock ∧ k_ ≠ gb191 ∧ k_ ≠ gb192 ∧ k_ ≠ gb196 ∧ k_ ≠ gb197)) (by (with_reducible repeat (first | apply Kd.V_alloc | apply Kd.V_drewN | apply Kd.V_drew)); exact Kd.V_mono HL199_1.out (fun _ hk => ⟨⟨hk.1.1, ⟨hk.2, ⟨hk.1.2.2.1, ⟨hk.1.2.2.2.1, ⟨hk.1.2.2.2.2.1, hk.1.2.2.2.2.2⟩⟩⟩⟩⟩, hk.1.2.1⟩)) hg hat)
       have n7_ := Zw (hb)
       have n8_ := Zw (ho)
       clear HO_197000
       clear BK191
       clear BK192
       clear BK196
       clear BK197
       clear HL198_1
       clear HL199_1
       clear HB
       clear HO_198000
       have HO_197000 := n0_
       have BK191 := n1_
       have BK192 := n2_
       have BK196 := n3_
       have BK197 := n4_
       have HL198_1 := n5_
       have HL199_1 := n6_
       have HB := n7_
       have HO202 := n8_
       clear n0_ n1_ n2_ n3_ n4_ n5_ n6_ n7_ n8_
       clear ho hb hg hat
       obtain ⟨Ao29, co29, eo29⟩ := Kd.N_slice HO202.out
       (first | subst eo29 | (injection eo29 with f1_ f2_ f3_; have f4_ := f1_.symm; have f5_ := f3_.symm; clear f1_ f2_ f3_; subst f4_; subst f5_))
       refine hK.out _ _ ?_
       clear hK K
       refine norm_ (a' := ?_) ?_ ?_
       rotate_left
       ·show Act.put _ (some 33) _ = _
        simp only [Act.put, zsA, zsZ, zsS, i64_w, i32_w]
        rfl
       refine pure_ (i := 9) (N := some 34) (v := ?_) (a' := ?_) #[true, true, true, true, true, true, true, true, true, true, false] rfl rfl (any_of HT_.out (by kernel_rfl)) (fun _ _ _ h => h) (Or.inl ⟨by rfl, ?_⟩) ?_ ?_
       rotate_left
       ·intro w'
        go_simp
        with_reducible rfl
       rotate_left
       ·simp only [Act.put, zsA, zsZ, zsS, i64_w, i32_w]
        rfl
       refine last_ (i := 10) (N := none) #[true, true, true, true, true, true, true, true, true, true, true] rfl rfl (one_of HT_.out (by kernel_rfl)) (by decide) (fun K hK => ?_)
       have hs30 : w28.cell? ⟨gb197, 0, none⟩ = some (u198000) := (blk_cell BK197.out 0).trans rfl
       have hfs30 := blk_frozen BK197.out 0
       have hns30_0 := NB191_197.out
       have hns30_1 := NB192_197.out
       have hns30_2 := NB196_197.out
       have hms30_0 := NB197_191.out
       have hms30_1 := NB197_192.out
       have hms30_2 := NB197_196.out
       refine skip_ (w1 := ?_) (by rfl) rfl ?_ ?_
       rotate_left
       ·go_simp
        rfl
       refine hK.out _ _ ?_
       clear hK K
       refine done_ (done_of HT_.out (by kernel_rfl)) ?_
       try go_wp2
       go_roundg k1
       case measure => have := HK1.out; omega
       case rel => exact ⟨(wrap64 (x7_1 + 1)), (y200), (.slice Ao29 y200.length co29), (by first | rfl | (simp; done) | (simp [*]; done)), H', ⟨by have := HK1.out; omega⟩, ⟨by refine ZNk ?_; exact Kd.N_mono (Kd.N_far (p := ⟨gb197, 0, none⟩) (Kd.N_mono HO_197000.out (fun k_ hk => (⟨hk, hk.1.2.2.2.2⟩ : _ ∧ k_ ≠ gb197))) (fun _ hk => hk.2) (.slice Ao29 y200.length co29)) (fun _ hk => ⟨hk.1.1.1, ⟨hk.1.2, ⟨hk.1.1.2.1, ⟨hk.1.1.2.2.1, ⟨hk.1.1.2.2.2.1, hk.1.1.2.2.2.2⟩⟩⟩⟩⟩)⟩, ⟨by refine ZNk ?_; exact Kd.N_mono (Kd.N_far (p := ⟨gb197, 0, none⟩) (Kd.N_mono HO202.out (fun k_ hk => (⟨hk, hk.2.2.2.2.2⟩ : _ ∧ k_ ≠ gb197))) (fun _ hk => hk.2) (.slice Ao29 y200.length co29)) (fun _ hk => ⟨hk.1.1, ⟨hk.1.2.1, ⟨hk.1.2.2.1, ⟨hk.1.2.2.2.1, ⟨hk.1.2.2.2.2.1, hk.1.2.2.2.2.2⟩⟩⟩⟩⟩)⟩, ⟨by refine Zbk ?_; refine blk_far ?_ NB191_197.out _; refine Zbk ?_; exact BK191.out⟩, ⟨by refine Zbk ?_; refine blk_far ?_ NB192_197.out _; refine Zbk ?_; exact BK192.out⟩, ⟨by refine Zbk ?_; refine blk_far ?_ NB196_197.out _; refine Zbk ?_; exact BK196.out⟩, ⟨by refine Zbk ?_; refine blk_put (cs := #[u198000]) ?_ 0 _ rfl; refine Zbk ?_; exact BK197.out⟩, ⟨Zh4 HB.out GE191.out GE192.out GE196.out GE197.out⟩⟩
      ·rw [if_neg c22] at H
       exact absurd H (by simp)
    ·rw [if_neg c16] at H
     exact absurd H (by simp)
   ·rw [if_neg c15] at H
    have c15b0 : decide (x7_1 < (t193.length : Int)) = false := decide_eq_false c15
    clear c15
    obtain rfl := Option.some.inj H
    have hnb31 := NB196_191.out
    have hnc31 := NB191_196.out
    have hnb32 := NB196_192.out
    have hnc32 := NB192_196.out
    have hnb33 := NB196_197.out
    have hnc33 := NB197_196.out
    have hcz34_0 := Zcl BK196.out 0 rfl
    have hfz34_0 := blk_frozen BK196.out 0
    have hnb35 := NB197_191.out
    have hnc35 := NB191_197.out
    have hnb36 := NB197_192.out
    have hnc36 := NB192_197.out
    have hcz37_0 := Zcl BK197.out 0 rfl
    have hfz37_0 := blk_frozen BK197.out 0
    obtain ⟨Ao38, co38, eo38⟩ := Kd.N_slice HO_198000.out
    subst eo38
    have hnb39 := NB192_191.out
    have hnc39 := NB191_192.out
    have hcz40_0 := Zcl BK192.out 0 rfl
    have hfz40_0 := blk_frozen BK192.out 0
    go_wp2
    refine bodyPost_ret (results_cell_row rfl _ _ gb192 24 #[.slice Ao38 x198000_1.length co38] (0, 0) _ rfl (by refine Zbk ?_; refine blk_put (cs := #[.slice none 0 0]) ?_ 0 _ rfl; refine Zbk ?_; exact BK192.out) Try.underlying24 rfl (by kernel_rfl)) rfl ?_
    exact ⟨_, by first | rfl | (simp [errW_none, errW_some] <;> rfl) | (simp [*, errW_none, errW_some] <;> rfl), by refine ZNk ?_; exact Kd.N_mono (Kd.N_far (p := ⟨gb192, 0, none⟩) (Kd.N_mono HO_198000.out (fun k_ hk => (⟨hk, hk.2.2.2.1⟩ : _ ∧ k_ ≠ gb192))) (fun _ hk => hk.2) (.slice Ao38 x198000_1.length co38)) (fun _ hk => hk.1.1), Zh4 HB.out GE191.out GE192.out GE196.out GE197.out⟩

end Go.Proofs.Ytpifepaflljolaa.PMem
