-- By wip/xprint.py (a driver of this session's over the kit's print), for this claim.
import Derived.Test.YtpifepaflljolaaPMemx0
import Derived.Test.YtpifepaflljolaaPMemx23
namespace Go.Proofs.Ytpifepaflljolaa.PMem
open Go.RowKit Go.Proofs.YtpifepaflljolaaW.PrintWords Go.Proofs.YtpifepaflljolaaW.PrintLast Go.Proofs.YtpifepaflljolaaW.PrintMore
attribute [local go_sem] max2_int min2_int max_two min_two max_three min_three max_four min_four   -- for this text's walks alone
set_option linter.unusedVariables false
set_option linter.unusedSimpArgs false

/-! ### memory_Without: function 28 -/
def memory_Without.l0 : Nat → Int → List (S31) → Int → Int → List (S31) → Option ((List (S31)))
 | 0, _, _, _, _, _ => none
 | k + 1, x1, x9, x10, x11, x420000 => if x11 < x10 then (if 0 ≤ x11 then (if x11 < (x9.length : Int) then (if ((rd_T31 x9 x11).f0) = x1 then (memory_Without.l0 k x1 x9 x10 (wrap64 (x11 + 1)) x420000) else ((memory_clonePage.f ((rd_T31 x9 x11).f0) ((rd_T31 x9 x11).f1)).bind fun bt422 => (if x420000.length < 4398046511104 then (memory_Without.l0 k x1 x9 x10 (wrap64 (x11 + 1)) (x420000 ++ [(⟨bt422.1, bt422.2⟩ : S31)])) else (none)))) else (none)) else (none)) else (some x420000)
def memory_Without.f (k : Nat) (l0_0 : List (S31)) (a1 : Int) : Option ((List (S31))) := memory_Without.l0 k a1 l0_0 (l0_0.length : Int) 0 ([] : List (S31))
theorem memory_Without.mono_l : ∀ k, (∀ y0 y1 y2 y3 y4, LeO (memory_Without.l0 k y0 y1 y2 y3 y4) (memory_Without.l0 (k + 1) y0 y1 y2 y3 y4))
 | 0 => fun _ _ _ _ _ r h => by simp [memory_Without.l0] at h
 | k + 1 => by
  have ih0 := memory_Without.mono_l k
  ·intro y0 y1 y2 y3 y4
   unfold memory_Without.l0
   repeat' first
   | (with_reducible exact ih0 _ _ _ _ _)
   | (with_reducible exact LeO.refl _)
   | (with_reducible exact LeO.none _)
   | (with_reducible refine LeO.ite ?_ ?_)
   | (with_reducible refine LeO.bind ?_ (fun _ => ?_))
   | exact ih0 _ _ _ _ _
   | exact LeO.none _
   | refine LeO.ite ?_ ?_
   | refine LeO.bind ?_ (fun _ => ?_)
theorem memory_Without.mono : ∀ a0 a1 k, LeO (memory_Without.f k a0 a1) (memory_Without.f (k + 1) a0 a1) := by
 intro a0 a1 k
 have ih0 := memory_Without.mono_l k
 unfold memory_Without.f
 repeat' first
   | (with_reducible exact ih0 _ _ _ _ _)
   | (with_reducible exact LeO.refl _)
   | (with_reducible exact LeO.none _)
   | (with_reducible refine LeO.ite ?_ ?_)
   | (with_reducible refine LeO.bind ?_ (fun _ => ?_))
   | exact ih0 _ _ _ _ _
   | exact LeO.none _
   | refine LeO.ite ?_ ?_
   | refine LeO.bind ?_ (fun _ => ?_)
def memory_Without.T6 : Bool × List (List Nat × List Nat) := (true, [([], []), ([0], [0]), ([], []), ([2], [2]), ([3], [3]), ([1, 4, 3], [1, 4]), ([0, 1, 2, 3, 4, 5], []), ([6, 5, 5, 0, 1, 2, 3, 4, 5], [5, 6])])
def memory_Without.B6 : List Nat := [0, 1, 0, 4, 12, 31, 63, 127]
theorem memory_Without.tab6 : rtab .any (opsOf Try.f28 6) = memory_Without.T6 := by kernel_rfl
theorem memory_Without.bits6 : waitsOk memory_Without.T6.2 memory_Without.B6 = true := by kernel_rfl
set_option maxHeartbeats 8000000 in
set_option maxRecDepth 100000 in
theorem memory_Without.calls (k : Nat) (A0_0 : Option Addr) (c0_0 : Nat) (l0_0 : List (S31)) (a1 : Int) (r : List (S31)) (w : World) (hr0_0 : Kd.C k31 w A0_0 l0_0.length l0_0) (hc0_0 : l0_0.length ≤ c0_0) (h : memory_Without.f k l0_0 a1 = some r) :
  Calls Try.prog 28 #[.agg #[.slice A0_0 l0_0.length c0_0], .int .i64 a1] w fun e w' => ∃ v0_ : Value, e = .returned (.agg #[v0_]) ∧ Kd.S k31 31 w' w.heap.size (fun _ => True) v0_ r ∧ Below w.heap.size w w' := by
 have hu24 := Try.underlying24
 have hu31 := Try.underlying31
 have HR0_0 := Aside0.mk hr0_0
 have HC0_0 := Aside0.mk hc0_0
 clear hr0_0 hc0_0
 have HB := Zw (Below.refl w.heap.size w)
 have H : (memory_Without.l0 k a1 l0_0 (l0_0.length : Int) 0 ([] : List (S31))) = some r := h
 clear h
 have H' := Aside0.mk H
 clear H
 go_enter Try.func28, Try.ntmps28
 go_wp2_with (first | ((with_reducible refine gate_dst (N := 2) rfl ?_); refine box_event ?hg (N := 2) ?hd (cs := #[.slice A0_0 l0_0.length c0_0]) (t := 24) ?hr ?_; (case hd => rfl); (case hg => rfl); (case hr => first | (go_simp; done) | (go_simp; rfl)); intro gb417 hg w3 hbox hb; have n0_ := Zw (below_step (Zh HB.out) hb); have n1_ := Zw (hbox); have n2_ := Zw ((by rw [hg]; exact (below_size (Zh HB.out)) : w.heap.size ≤ gb417)); have n3_ := Zw ((by rw [hg]; exact (below_size (Zh HB.out)) : w.heap.size ≤ gb417)); clear HB; have HB := n0_; have BK417 := n1_; have GW417 := n2_; have GE417 := n3_; clear n0_ n1_ n2_ n3_; clear hb hbox hg) | ((with_reducible refine gate_dst (N := 4) rfl ?_); refine box_event ?hg (N := 4) ?hd (cs := #[.slice none 0 0]) (t := 24) ?hr ?_; (case hd => rfl); (case hg => rfl); (case hr => first | (go_simp; done) | (go_simp; rfl)); intro gb418 hg w4 hbox hb; have n0_ := Zw (blk_below (g := gb417) (o := .cells #[.slice A0_0 l0_0.length c0_0] 24 (0, 0)) (Zb BK417.out) hb); have n1_ := Zw (below_step (Zh1 HB.out GE417.out) hb); have n2_ := Zw (hbox); have n3_ := Zw ((by rw [hg]; exact (below_size (Zh1 HB.out GE417.out)) : w.heap.size ≤ gb418)); have n4_ := Zw ((by rw [hg]; exact (below_size (Zh1 HB.out GE417.out)) : w.heap.size ≤ gb418)); have n5_ := Zw ((by rw [hg]; exact Nat.ne_of_lt (blk_lt (Zb BK417.out)) : gb417 ≠ gb418)); have n6_ := Zw ((by rw [hg]; exact Nat.ne_of_gt (blk_lt (Zb BK417.out)) : gb418 ≠ gb417)); clear BK417; clear HB; have BK417 := n0_; have HB := n1_; have BK418 := n2_; have GW418 := n3_; have GE418 := n4_; have NB417_418 := n5_; have NB418_417 := n6_; clear n0_ n1_ n2_ n3_ n4_ n5_ n6_; clear hb hbox hg) | ((with_reducible refine gate_dst (N := 5) rfl ?_); refine box_event ?hg (N := 5) ?hd (cs := #[.slice none 0 0]) (t := 24) ?hr ?_; (case hd => rfl); (case hg => rfl); (case hr => first | (go_simp; done) | (go_simp; rfl)); intro gb419 hg w5 hbox hb; have n0_ := Zw (blk_below (g := gb417) (o := .cells #[.slice A0_0 l0_0.length c0_0] 24 (0, 0)) (Zb BK417.out) hb); have n1_ := Zw (blk_below (g := gb418) (o := .cells #[.slice none 0 0] 24 (0, 0)) (Zb BK418.out) hb); have n2_ := Zw (below_step (Zh2 HB.out GE417.out GE418.out) hb); have n3_ := Zw (hbox); have n4_ := Zw ((by rw [hg]; exact (below_size (Zh2 HB.out GE417.out GE418.out)) : w.heap.size ≤ gb419)); have n5_ := Zw ((by rw [hg]; exact (below_size (Zh2 HB.out GE417.out GE418.out)) : w.heap.size ≤ gb419)); have n6_ := Zw ((by rw [hg]; exact Nat.ne_of_lt (blk_lt (Zb BK417.out)) : gb417 ≠ gb419)); have n7_ := Zw ((by rw [hg]; exact Nat.ne_of_gt (blk_lt (Zb BK417.out)) : gb419 ≠ gb417)); have n8_ := Zw ((by rw [hg]; exact Nat.ne_of_lt (blk_lt (Zb BK418.out)) : gb418 ≠ gb419)); have n9_ := Zw ((by rw [hg]; exact Nat.ne_of_gt (blk_lt (Zb BK418.out)) : gb419 ≠ gb418)); clear BK417; clear BK418; clear HB; have BK417 := n0_; have BK418 := n1_; have HB := n2_; have BK419 := n3_; have GW419 := n4_; have GE419 := n5_; have NB417_419 := n6_; have NB419_417 := n7_; have NB418_419 := n8_; have NB419_418 := n9_; clear n0_ n1_ n2_ n3_ n4_ n5_ n6_ n7_ n8_ n9_; clear hb hbox hg; have hnb6 := NB417_418.out; have hnc6 := NB418_417.out; have hnb7 := NB417_419.out; have hnc7 := NB419_417.out; have hcz8_0 := Zcl BK417.out 0 rfl; have hfz8_0 := blk_frozen BK417.out 0))
 go_loopg [11] k (fun kq v11 w' => ∃ (x11_1 : Int) (x420000_1 : List (S31)) (u420000 : Value), v11 = .int .i64 x11_1 ∧ Aside0 (memory_Without.l0 kq a1 l0_0 (l0_0.length : Int) x11_1 x420000_1 = some r) ∧ Aside0 (kq ≤ k) ∧ Aside0 (Kd.S k31 31 w' w.heap.size (fun _ => True) u420000 x420000_1) ∧ Aside0 (w'.heap[gb417]? = some (.cells #[(.slice A0_0 l0_0.length c0_0)] 24 (0, 0))) ∧ Aside0 (w'.heap[gb418]? = some (.cells #[(.slice none 0 0)] 24 (0, 0))) ∧ Aside0 (w'.heap[gb419]? = some (.cells #[u420000] 24 (0, 0))) ∧ Aside0 (Below w.heap.size w w'))
 case atStart => exact ⟨(0), (([] : List (S31))), (.slice none 0 0), (by first | rfl | (simp; done) | (simp [*]; done)), H', ⟨Nat.le_refl _⟩, ⟨by first | exact Kd.S_nil _ _ _ _ _ | exact Kd.N_nil _ _ _ _ _ | exact Kd.V_nil _ _ _ _ _ | exact Kd.Q_nil _ _ _ _ _ | exact Kd.R_nil _ _ _ _ _⟩, ⟨Zb BK417.out⟩, ⟨Zb BK418.out⟩, ⟨Zb BK419.out⟩, ⟨Zh3 HB.out GE417.out GE418.out GE419.out⟩⟩
 case round =>
  clear H'
  try clear c2
  try clear p2
  try clear c6
  try clear c7
  try clear hcz8_0
  try clear hfz8_0
  obtain ⟨x11_1, x420000_1, u420000, rfl, HA, HK1, HO_420000, BK417, BK418, BK419, HB⟩ := hrel
  cases gk with
  | zero => exact absurd HA.out (by simp [memory_Without.l0])
  | succ k1 =>
   have H := HA.out
   clear HA
   simp only [memory_Without.l0] at H
   by_cases c9 : x11_1 < (l0_0.length : Int)
   ·rw [if_pos c9] at H
    have c9b0 : decide (x11_1 < (l0_0.length : Int)) = true := decide_eq_true c9
    clear c9
    by_cases c10 : 0 ≤ x11_1
    ·rw [if_pos c10] at H
     have c10b0 : decide (0 ≤ x11_1) = true := decide_eq_true c10
     clear c10
     by_cases c11 : x11_1 < (l0_0.length : Int)
     ·rw [if_pos c11] at H
      have c11b0 : decide (x11_1 < (l0_0.length : Int)) = true := decide_eq_true c11
      clear c11
      by_cases c12 : ((rd_T31 l0_0 x11_1).f0) = a1
      ·rw [if_pos c12] at H
       have c12b0 : (((rd_T31 l0_0 x11_1).f0) == a1) = true := beq_iff_eq.mpr c12
       have c12b1 : (((rd_T31 l0_0 x11_1).f0) != a1) = false := bne_eq_false_iff_eq.mpr c12
       clear c12
       have H' := Aside0.mk H
       clear H
       have p420 : 0 ≤ (x11_1 : Int) := of_decide_eq_true Za
       have q420 : x11_1 < (l0_0.length : Int) := of_decide_eq_true Za
       obtain ⟨ad420, A420_1, c420_1, e420, hx420_0, hx420_1, hl420_1, hi420_1⟩ := at_T31 HR0_0.out x11_1 p420 q420
       cases e420
       replace hx420_0 := Zl HB.out hx420_0
       replace hx420_1 := Zl HB.out hx420_1
       have HR420_1 := Aside0.mk hi420_1
       have HC420_1 := Aside0.mk hl420_1
       clear hi420_1 hl420_1
       replace p420 := eq_true p420
       replace q420 := eq_true q420
       go_wp2_with (first | ((with_reducible refine gate_dst (N := 7) rfl ?_); refine box_event ?hg (N := 7) ?hd (cs := #[.int .i64 0, .slice none 0 0]) (t := 31) ?hr ?_; (case hd => rfl); (case hg => rfl); (case hr => first | (go_simp; done) | (go_simp; rfl)); intro gb421 hg w13 hbox hb; have n0_ := Zw (Kd.S_below (Kd.S_elderB (ZS HO_420000.out) gb421 (Nat.le_of_eq hg.symm)) hb); have n1_ := Zw (blk_below (g := gb417) (o := .cells #[.slice (some ad420) l0_0.length c0_0] 24 (0, 0)) (Zb BK417.out) hb); have n2_ := Zw (blk_below (g := gb418) (o := .cells #[.slice none 0 0] 24 (0, 0)) (Zb BK418.out) hb); have n3_ := Zw (blk_below (g := gb419) (o := .cells #[u420000] 24 (0, 0)) (Zb BK419.out) hb); have n4_ := Zw (below_step (Zh3 HB.out GE417.out GE418.out GE419.out) hb); have n5_ := Zw (hbox); have n6_ := Zw ((by rw [hg]; exact (below_size (Zh3 HB.out GE417.out GE418.out GE419.out)) : w.heap.size ≤ gb421)); have n7_ := Zw ((by rw [hg]; exact (below_size (Zh3 HB.out GE417.out GE418.out GE419.out)) : w.heap.size ≤ gb421)); have n8_ := Zw ((by rw [hg]; exact Nat.ne_of_lt (blk_lt (Zb BK417.out)) : gb417 ≠ gb421)); have n9_ := Zw ((by rw [hg]; exact Nat.ne_of_gt (blk_lt (Zb BK417.out)) : gb421 ≠ gb417)); have n10_ := Zw ((by rw [hg]; exact Nat.ne_of_lt (blk_lt (Zb BK418.out)) : gb418 ≠ gb421)); have n11_ := Zw ((by rw [hg]; exact Nat.ne_of_gt (blk_lt (Zb BK418.out)) : gb421 ≠ gb418)); have n12_ := Zw ((by rw [hg]; exact Nat.ne_of_lt (blk_lt (Zb BK419.out)) : gb419 ≠ gb421)); have n13_ := Zw ((by rw [hg]; exact Nat.ne_of_gt (blk_lt (Zb BK419.out)) : gb421 ≠ gb419)); clear HO_420000; clear BK417; clear BK418; clear BK419; clear HB; have HO_420000 := n0_; have BK417 := n1_; have BK418 := n2_; have BK419 := n3_; have HB := n4_; have BK421 := n5_; have GW421 := n6_; have GE421 := n7_; have NB417_421 := n8_; have NB421_417 := n9_; have NB418_421 := n10_; have NB421_418 := n11_; have NB419_421 := n12_; have NB421_419 := n13_; clear n0_ n1_ n2_ n3_ n4_ n5_ n6_ n7_ n8_ n9_ n10_ n11_ n12_ n13_; clear hb hbox hg; have hnb14 := NB421_417.out; have hnc14 := NB417_421.out; have hnb15 := NB421_418.out; have hnc15 := NB418_421.out; have hnb16 := NB421_419.out; have hnc16 := NB419_421.out; have hcz17_0 := Zcl BK421.out 0 rfl; have hcz17_1 := Zcl BK421.out 1 rfl; have hfz17_0 := blk_frozen BK421.out 0; have hfz17_1 := blk_frozen BK421.out 1))
       go_roundg k1
       case measure => have := HK1.out; omega
       case rel => exact ⟨(wrap64 (x11_1 + 1)), (x420000_1), (u420000), (by first | rfl | (simp; done) | (simp [*]; done)), H', ⟨by have := HK1.out; omega⟩, ⟨by refine ZSk ?_; exact Kd.S_mono (Kd.S_far (p := ⟨gb421, 1, none⟩) (Kd.S_far (p := ⟨gb421, 0, none⟩) (Kd.S_mono HO_420000.out (fun k_ hk => (⟨hk, hk.2⟩ : _ ∧ k_ ≠ gb421))) (fun _ hk => hk.2) (.int .i64 ((rd_T31 l0_0 x11_1).f0))) (fun _ hk => hk.2) (.slice A420_1 ((rd_T31 l0_0 x11_1).f1).length c420_1)) (fun _ hk => trivial)⟩, ⟨by refine Zbk ?_; refine blk_far ?_ NB417_421.out _; refine Zbk ?_; refine blk_far ?_ NB417_421.out _; refine Zbk ?_; exact BK417.out⟩, ⟨by refine Zbk ?_; refine blk_far ?_ NB418_421.out _; refine Zbk ?_; refine blk_far ?_ NB418_421.out _; refine Zbk ?_; exact BK418.out⟩, ⟨by refine Zbk ?_; refine blk_far ?_ NB419_421.out _; refine Zbk ?_; refine blk_far ?_ NB419_421.out _; refine Zbk ?_; exact BK419.out⟩, ⟨Zh4 HB.out GE417.out GE418.out GE419.out GE421.out⟩⟩
      ·rw [if_neg c12] at H
       have c12b0 : (((rd_T31 l0_0 x11_1).f0) == a1) = false := beq_eq_false_iff_ne.mpr c12
       have c12b1 : (((rd_T31 l0_0 x11_1).f0) != a1) = true := bne_iff_ne.mpr c12
       replace H := Option.bind_eq_some_iff.mp H
       obtain ⟨⟨t422, t423⟩, A180, H⟩ := H
       replace H : (if x420000_1.length < 4398046511104 then (memory_Without.l0 k1 a1 l0_0 (l0_0.length : Int) (wrap64 (x11_1 + 1)) (x420000_1 ++ [(⟨t422, t423⟩ : S31)])) else (none)) = some r := H
       have A18 := Aside0.mk A180
       clear A180
       by_cases c19 : x420000_1.length < 4398046511104
       ·rw [if_pos c19] at H
        have LMc19 := Aside0.mk c19
        clear c19
        obtain ⟨y426, hy426⟩ : ∃ y_ : List (S31), y_ = (x420000_1 ++ [(⟨t422, t423⟩ : S31)]) := ⟨_, rfl⟩
        replace H : (memory_Without.l0 k1 a1 l0_0 (l0_0.length : Int) (wrap64 (x11_1 + 1)) y426) = some r := by first | (rw [hy426]; with_reducible exact H) | (have H2_ := (Option.bind_some _ _).symm.trans H; rw [hy426]; with_reducible exact H2_) | (have H2_ := (Option.bind_some _ _).symm.trans H; with_reducible exact H2_) | with_reducible exact H | (rw [hy426]; exact H) | exact H
        have Ny426 := Aside0.mk hy426
        clear hy426
        have H' := Aside0.mk H
        clear H
        have p420 : 0 ≤ (x11_1 : Int) := of_decide_eq_true Za
        have q420 : x11_1 < (l0_0.length : Int) := of_decide_eq_true Za
        obtain ⟨ad420, A420_1, c420_1, e420, hx420_0, hx420_1, hl420_1, hi420_1⟩ := at_T31 HR0_0.out x11_1 p420 q420
        cases e420
        replace hx420_0 := Zl HB.out hx420_0
        replace hx420_1 := Zl HB.out hx420_1
        have HR420_1 := Aside0.mk hi420_1
        have HC420_1 := Aside0.mk hl420_1
        clear hi420_1 hl420_1
        replace p420 := eq_true p420
        replace q420 := eq_true q420
        try go_wp2_with (first | ((with_reducible refine gate_dst (N := 7) rfl ?_); refine box_event ?hg (N := 7) ?hd (cs := #[.int .i64 0, .slice none 0 0]) (t := 31) ?hr ?_; (case hd => rfl); (case hg => rfl); (case hr => first | (go_simp; done) | (go_simp; rfl)); intro gb421 hg w20 hbox hb; have n0_ := Zw (Kd.S_below (Kd.S_elderB (ZS HO_420000.out) gb421 (Nat.le_of_eq hg.symm)) hb); have n1_ := Zw (blk_below (g := gb417) (o := .cells #[.slice (some ad420) l0_0.length c0_0] 24 (0, 0)) (Zb BK417.out) hb); have n2_ := Zw (blk_below (g := gb418) (o := .cells #[.slice none 0 0] 24 (0, 0)) (Zb BK418.out) hb); have n3_ := Zw (blk_below (g := gb419) (o := .cells #[u420000] 24 (0, 0)) (Zb BK419.out) hb); have n4_ := Zw (below_step (Zh3 HB.out GE417.out GE418.out GE419.out) hb); have n5_ := Zw (hbox); have n6_ := Zw ((by rw [hg]; exact (below_size (Zh3 HB.out GE417.out GE418.out GE419.out)) : w.heap.size ≤ gb421)); have n7_ := Zw ((by rw [hg]; exact (below_size (Zh3 HB.out GE417.out GE418.out GE419.out)) : w.heap.size ≤ gb421)); have n8_ := Zw ((by rw [hg]; exact Nat.ne_of_lt (blk_lt (Zb BK417.out)) : gb417 ≠ gb421)); have n9_ := Zw ((by rw [hg]; exact Nat.ne_of_gt (blk_lt (Zb BK417.out)) : gb421 ≠ gb417)); have n10_ := Zw ((by rw [hg]; exact Nat.ne_of_lt (blk_lt (Zb BK418.out)) : gb418 ≠ gb421)); have n11_ := Zw ((by rw [hg]; exact Nat.ne_of_gt (blk_lt (Zb BK418.out)) : gb421 ≠ gb418)); have n12_ := Zw ((by rw [hg]; exact Nat.ne_of_lt (blk_lt (Zb BK419.out)) : gb419 ≠ gb421)); have n13_ := Zw ((by rw [hg]; exact Nat.ne_of_gt (blk_lt (Zb BK419.out)) : gb421 ≠ gb419)); clear HO_420000; clear BK417; clear BK418; clear BK419; clear HB; have HO_420000 := n0_; have BK417 := n1_; have BK418 := n2_; have BK419 := n3_; have HB := n4_; have BK421 := n5_; have GW421 := n6_; have GE421 := n7_; have NB417_421 := n8_; have NB421_417 := n9_; have NB418_421 := n10_; have NB421_418 := n11_; have NB419_421 := n12_; have NB421_419 := n13_; clear n0_ n1_ n2_ n3_ n4_ n5_ n6_ n7_ n8_ n9_ n10_ n11_ n12_ n13_; clear hb hbox hg; have hnb21 := NB421_417.out; have hnc21 := NB417_421.out; have hnb22 := NB421_418.out; have hnc22 := NB418_421.out; have hnb23 := NB421_419.out; have hnc23 := NB419_421.out; have hcz24_0 := Zcl BK421.out 0 rfl; have hcz24_1 := Zcl BK421.out 1 rfl; have hfz24_0 := blk_frozen BK421.out 0; have hfz24_1 := blk_frozen BK421.out 1))
        have n0_ : Aside0 (Kd.S k31 31 ((w20.setCell ⟨gb421, 0, none⟩ (.int .i64 ((rd_T31 l0_0 x11_1).f0))).setCell ⟨gb421, 1, none⟩ (.slice A420_1 ((rd_T31 l0_0 x11_1).f1).length c420_1)) w.heap.size (fun k_ => k_ ≠ gb421) u420000 x420000_1) := ⟨by refine ZSk ?_; exact Kd.S_mono (Kd.S_far (p := ⟨gb421, 1, none⟩) (Kd.S_far (p := ⟨gb421, 0, none⟩) (Kd.S_mono HO_420000.out (fun k_ hk => (⟨hk, hk.2⟩ : _ ∧ k_ ≠ gb421))) (fun _ hk => hk.2) (.int .i64 ((rd_T31 l0_0 x11_1).f0))) (fun _ hk => hk.2) (.slice A420_1 ((rd_T31 l0_0 x11_1).f1).length c420_1)) (fun _ hk => hk.1.2)⟩
        have n1_ : Aside0 (((w20.setCell ⟨gb421, 0, none⟩ (.int .i64 ((rd_T31 l0_0 x11_1).f0))).setCell ⟨gb421, 1, none⟩ (.slice A420_1 ((rd_T31 l0_0 x11_1).f1).length c420_1)).heap[gb417]? = some (.cells #[.slice (some ad420) l0_0.length c0_0] 24 (0, 0))) := ⟨by refine Zbk ?_; refine blk_far ?_ NB417_421.out _; refine Zbk ?_; refine blk_far ?_ NB417_421.out _; refine Zbk ?_; exact BK417.out⟩
        have n2_ : Aside0 (((w20.setCell ⟨gb421, 0, none⟩ (.int .i64 ((rd_T31 l0_0 x11_1).f0))).setCell ⟨gb421, 1, none⟩ (.slice A420_1 ((rd_T31 l0_0 x11_1).f1).length c420_1)).heap[gb418]? = some (.cells #[.slice none 0 0] 24 (0, 0))) := ⟨by refine Zbk ?_; refine blk_far ?_ NB418_421.out _; refine Zbk ?_; refine blk_far ?_ NB418_421.out _; refine Zbk ?_; exact BK418.out⟩
        have n3_ : Aside0 (((w20.setCell ⟨gb421, 0, none⟩ (.int .i64 ((rd_T31 l0_0 x11_1).f0))).setCell ⟨gb421, 1, none⟩ (.slice A420_1 ((rd_T31 l0_0 x11_1).f1).length c420_1)).heap[gb419]? = some (.cells #[u420000] 24 (0, 0))) := ⟨by refine Zbk ?_; refine blk_far ?_ NB419_421.out _; refine Zbk ?_; refine blk_far ?_ NB419_421.out _; refine Zbk ?_; exact BK419.out⟩
        have n4_ : Aside0 (((w20.setCell ⟨gb421, 0, none⟩ (.int .i64 ((rd_T31 l0_0 x11_1).f0))).setCell ⟨gb421, 1, none⟩ (.slice A420_1 ((rd_T31 l0_0 x11_1).f1).length c420_1)).heap[gb421]? = some (.cells #[.int .i64 ((rd_T31 l0_0 x11_1).f0), .slice A420_1 ((rd_T31 l0_0 x11_1).f1).length c420_1] 31 (0, 0))) := ⟨by refine Zbk ?_; refine blk_put (cs := #[.int .i64 ((rd_T31 l0_0 x11_1).f0), .slice none 0 0]) ?_ 1 _ rfl; refine Zbk ?_; refine blk_put (cs := #[.int .i64 0, .slice none 0 0]) ?_ 0 _ rfl; refine Zbk ?_; exact BK421.out⟩
        have n5_ : Aside0 (Below w.heap.size w ((w20.setCell ⟨gb421, 0, none⟩ (.int .i64 ((rd_T31 l0_0 x11_1).f0))).setCell ⟨gb421, 1, none⟩ (.slice A420_1 ((rd_T31 l0_0 x11_1).f1).length c420_1))) := ⟨Zh4 HB.out GE417.out GE418.out GE419.out GE421.out⟩
        (try clear HO_420000)
        (try clear BK417)
        (try clear BK418)
        (try clear BK419)
        (try clear BK421)
        (try clear HB)
        generalize ((w20.setCell ⟨gb421, 0, none⟩ (.int .i64 ((rd_T31 l0_0 x11_1).f0))).setCell ⟨gb421, 1, none⟩ (.slice A420_1 ((rd_T31 l0_0 x11_1).f1).length c420_1)) = w25 at n0_ n1_ n2_ n3_ n4_ n5_ ⊢
        have HO_420000 := n0_
        have BK417 := n1_
        have BK418 := n2_
        have BK419 := n3_
        have BK421 := n4_
        have HB := n5_
        clear n0_ n1_ n2_ n3_ n4_ n5_
        have n0_ := Zw (Kd.S_drew HO_420000.out)
        have n1_ := Zw (blk_drew BK417.out)
        have n2_ := Zw (blk_drew BK418.out)
        have n3_ := Zw (blk_drew BK419.out)
        have n4_ := Zw (blk_drew BK421.out)
        have n5_ := Zw (below_drew1 HB.out)
        clear HO_420000
        clear BK417
        clear BK418
        clear BK419
        clear BK421
        clear HB
        have HO_420000 := n0_
        have BK417 := n1_
        have BK418 := n2_
        have BK419 := n3_
        have BK421 := n4_
        have HB := n5_
        clear n0_ n1_ n2_ n3_ n4_ n5_
        refine start_ (n := 8) (S := fun w' => w'.cell? ⟨gb419, 0, none⟩ = some (u420000) ∧ w'.cell? ⟨gb421, 0, none⟩ = some (.int .i64 ((rd_T31 l0_0 x11_1).f0)) ∧ w'.cell? ⟨gb421, 1, none⟩ = some (.slice A420_1 ((rd_T31 l0_0 x11_1).f1).length c420_1)) (ds := [7]) #[false, false, false, false, false, false, false, false] (by kernel_rfl) rfl rfl ⟨(blk_cell BK419.out 0).trans rfl, (blk_cell BK421.out 0).trans rfl, (blk_cell BK421.out 1).trans rfl⟩ (fun hHeld => ?_); refine with_tabW memory_Without.tab6 memory_Without.bits6 (fun HT_ HW_ => ?_)
        generalize w25.drew = w26 at HO_420000 BK417 BK418 BK419 BK421 HB hHeld ⊢
        refine pure_ (i := 0) (N := some 19) (v := ?_) (a' := ?_) #[true, false, false, false, false, false, false, false] rfl rfl (any_of HT_.out (by kernel_rfl)) (fun _ _ _ h => h) (Or.inl ⟨by rfl, ?_⟩) ?_ ?_
        rotate_left
        ·intro w'
         go_simp
         with_reducible rfl
        rotate_left
        ·simp only [Act.put, zsA, zsZ, zsS, i64_w, i32_w]
         rfl
        refine take_ (i := 1) (N := some 20) (v := ?_) (a' := ?_) #[true, true, false, false, false, false, false, false] rfl rfl (take_ofW HT_.out HW_.out (by kernel_rfl)) (fun _ _ _ h => h) (Or.inl ⟨by rfl, ?_⟩) hHeld ?_ ?_
        rotate_left
        ·rintro w' ⟨s0, s1, s2⟩
         go_simp
         with_reducible rfl
        rotate_left
        ·simp only [Act.put, zsA, zsZ, zsS, i64_w, i32_w]
         rfl
        refine take_ (i := 2) (N := some 21) (v := ?_) (a' := ?_) #[true, true, true, false, false, false, false, false] rfl rfl (take_ofW HT_.out HW_.out (by kernel_rfl)) (fun _ _ _ h => h) (Or.inl ⟨by rfl, ?_⟩) hHeld ?_ ?_
        rotate_left
        ·rintro w' ⟨s0, s1, s2⟩
         go_simp
         with_reducible rfl
        rotate_left
        ·simp only [Act.put, zsA, zsZ, zsS, i64_w, i32_w]
         rfl
        refine one_ (i := 3) (N := some 22) #[true, true, true, true, false, false, false, false] rfl rfl (one_of HT_.out (by kernel_rfl)) (by decide) (fun K hK => ?_)
        refine goes_ Try.func39 (by kernel_rfl) rfl #[.agg #[.int .i64 ((rd_T31 l0_0 x11_1).f0), .slice A420_1 ((rd_T31 l0_0 x11_1).f1).length c420_1]] (by rfl) rfl rfl Zm ?_
        with_reducible refine (memory_clonePage.calls ((rd_T31 l0_0 x11_1).f0) _ _ ((rd_T31 l0_0 x11_1).f1) t422 t423 _ ?side1 ?side2 A18.out).mono ?_
        (case side1 => exact Zc (Kd.C_below HR420_1.out HB.out))
        (case side2 => exact HC420_1.out)
        rintro e w27 ⟨v424, rfl, ho0, hb⟩
        refine ⟨_, rfl, ?_⟩
        have n0_ := Zw (Kd.S_elder' (ZS HO_420000.out) (by first | exact Kd.R_base ho0 | exact Kd.S_base ho0 | exact Kd.R_base ho0 | exact Kd.N_base ho0) hb)
        have n1_ := Zw (Kd.R_lower ho0 (below_size (Zh4 HB.out GE417.out GE418.out GE419.out GE421.out)))
        have n2_ := Zw (blk_below (g := gb417) (o := .cells #[.slice (some ad420) l0_0.length c0_0] 24 (0, 0)) (Zb BK417.out) hb)
        have n3_ := Zw (blk_below (g := gb418) (o := .cells #[.slice none 0 0] 24 (0, 0)) (Zb BK418.out) hb)
        have n4_ := Zw (blk_below (g := gb419) (o := .cells #[u420000] 24 (0, 0)) (Zb BK419.out) hb)
        have n5_ := Zw (blk_below (g := gb421) (o := .cells #[.int .i64 ((rd_T31 l0_0 x11_1).f0), .slice A420_1 ((rd_T31 l0_0 x11_1).f1).length c420_1] 31 (0, 0)) (Zb BK421.out) hb)
        have n6_ := Zw (below_step (Zh4 HB.out GE417.out GE418.out GE419.out GE421.out) hb)
        clear HO_420000
        clear BK417
        clear BK418
        clear BK419
        clear BK421
        clear HB
        have HO_420000 := n0_
        have HO425 := n1_
        have BK417 := n2_
        have BK418 := n3_
        have BK419 := n4_
        have BK421 := n5_
        have HB := n6_
        clear n0_ n1_ n2_ n3_ n4_ n5_ n6_
        (try clear hb)
        (try clear hb2)
        (try clear hk)
        (try clear hi)
        (try clear ho0)
        obtain ⟨Ao29, co29, eo29⟩ := Kd.R_slice HO425.out
        (first | subst eo29 | (injection eo29 with f1_ f2_ f3_; have f4_ := f1_.symm; have f5_ := f3_.symm; clear f1_ f2_ f3_; subst f4_; subst f5_))
        refine hK.out _ _ ⟨(blk_cell BK419.out 0).trans rfl, (blk_cell BK421.out 0).trans rfl, (blk_cell BK421.out 1).trans rfl⟩ (fun hHeld => ?_)
        clear hK K
        refine norm_ (a' := ?_) ?_ ?_
        rotate_left
        ·show Act.put _ (some 22) _ = _
         simp only [Act.put, zsA, zsZ, zsS, i64_w, i32_w]
         rfl
        refine one_ (i := 4) (N := some 23) #[true, true, true, true, true, false, false, false] rfl rfl (one_of HT_.out (by kernel_rfl)) (by decide) (fun K hK => ?_)
        refine value_ (w1 := ?_) (v := ?_) (by rfl) rfl ?_ ?_
        rotate_left 2
        ·go_simp
         constructor
         ·rfl
         ·rfl
        refine hK.out _ _ ⟨(blk_cell (blk_alloc BK419.out _) 0).trans rfl, (blk_cell (blk_alloc BK421.out _) 0).trans rfl, (blk_cell (blk_alloc BK421.out _) 1).trans rfl⟩ (fun hHeld => ?_)
        clear hK K
        refine norm_ (a' := ?_) ?_ ?_
        rotate_left
        ·show Act.put _ (some 23) _ = _
         simp only [Act.put, zsA, zsZ, zsS, i64_w, i32_w]
         rfl
        refine one_ (i := 5) (N := some 24) #[true, true, true, true, true, true, false, false] rfl rfl (one_of HT_.out (by kernel_rfl)) (by decide) (fun K hK => ?_)
        refine Kd.S_append_step k31 (w0 := w) w.heap.size (by rfl) (.tmp 20) (.tmp 23) 22 31 (.agg #[(.int .i64 0), (.slice none 0 0)]) 32 rfl Try.underlying22 info31 rfl (by decide) (by omega) u420000 x420000_1 (⟨t422, t423⟩ : S31) [.int .i64 t422, .slice Ao29 t423.length co29] (fun k_ => k_ ≠ gb421) (fun k_ => some k_ = (.slice Ao29 t423.length co29 : Value).ownBlock) rfl rfl ?aP (fun k_ hk_ => ((Kd.R_mono (ok' := fun k_ => ((fun k_ => k_ ≠ gb421)) k_ ∧ some k_ ≠ (u420000 : Value).ownBlock) (Kd.R_types (Kd.R_apart' (HO425.out) (Kd.S_typed HO_420000.out) (by decide)) BK421.out (by decide)) (fun k_ hk => ⟨hk.2, hk.1.2⟩))).1 k_ hk_.symm) ?aF ?aO ?aB ?aS ?aL ?_
        (case aP => exact k31_mkM _ _ _ (⟨t422, t423⟩ : S31) (Kd.R_mono (Kd.R_tight rfl (Kd.R_mono (ok' := fun k_ => ((fun k_ => k_ ≠ gb421)) k_ ∧ some k_ ≠ (u420000 : Value).ownBlock) (Kd.R_types (Kd.R_apart' (HO425.out) (Kd.S_typed HO_420000.out) (by decide)) BK421.out (by decide)) (fun k_ hk => ⟨hk.2, hk.1.2⟩))) (fun _ h_ => h_)))
        (case aB => exact (Zh4 HB.out GE417.out GE418.out GE419.out GE421.out))
        (case aF => exact (fun k_ hk => Kd.freshB (g := gb421) (o := .cells #[.int .i64 ((rd_T31 l0_0 x11_1).f0), .slice A420_1 ((rd_T31 l0_0 x11_1).f1).length c420_1] 31 (0, 0)) (Zb BK421.out) k_ hk))
        (case aO => exact (by refine ZSk ?_; exact Kd.S_mono HO_420000.out (fun k_ hk => ⟨hk.1, fun e_ => hk.2 e_⟩)))
        (case aS => exact (below_size (Zh4 HB.out GE417.out GE418.out GE419.out GE421.out)))
        (case aL => have := LMc19.out; omega)
        intro v427 w28 ho hb hg hat
        rw [← Ny426.out] at ho
        have n0_ := Zw (blk_grown (g := gb417) (o := .cells #[.slice (some ad420) l0_0.length c0_0] 24 (0, 0)) (Zb BK417.out) hg (Kd.S_ne HO_420000.out BK417.out (by decide)))
        have n1_ := Zw (blk_grown (g := gb418) (o := .cells #[.slice none 0 0] 24 (0, 0)) (Zb BK418.out) hg (Kd.S_ne HO_420000.out BK418.out (by decide)))
        have n2_ := Zw (blk_grown (g := gb419) (o := .cells #[u420000] 24 (0, 0)) (Zb BK419.out) hg (Kd.S_ne HO_420000.out BK419.out (by decide)))
        have n3_ := Zw (blk_grown (g := gb421) (o := .cells #[.int .i64 ((rd_T31 l0_0 x11_1).f0), .slice A420_1 ((rd_T31 l0_0 x11_1).f1).length c420_1] 31 (0, 0)) (Zb BK421.out) hg (Kd.S_away HO_420000.out (fun _ hk => hk.1)))
        have n4_ := Zw (hb)
        have n5_ := Zw (ho)
        clear BK417
        clear BK418
        clear BK419
        clear BK421
        clear HB
        clear HO_420000
        clear HO425
        have BK417 := n0_
        have BK418 := n1_
        have BK419 := n2_
        have BK421 := n3_
        have HB := n4_
        have HO428 := n5_
        clear n0_ n1_ n2_ n3_ n4_ n5_
        clear ho hb hg hat
        obtain ⟨Ao30, co30, eo30⟩ := Kd.S_slice HO428.out
        (first | subst eo30 | (injection eo30 with f1_ f2_ f3_; have f4_ := f1_.symm; have f5_ := f3_.symm; clear f1_ f2_ f3_; subst f4_; subst f5_))
        refine hK.out _ _ ⟨(blk_cell BK419.out 0).trans rfl, (blk_cell BK421.out 0).trans rfl, (blk_cell BK421.out 1).trans rfl⟩ (fun hHeld => ?_)
        clear hK K
        refine norm_ (a' := ?_) ?_ ?_
        rotate_left
        ·show Act.put _ (some 24) _ = _
         simp only [Act.put, zsA, zsZ, zsS, i64_w, i32_w]
         rfl
        refine pure_ (i := 6) (N := some 25) (v := ?_) (a' := ?_) #[true, true, true, true, true, true, true, false] rfl rfl (any_of HT_.out (by kernel_rfl)) (fun _ _ _ h => h) (Or.inl ⟨by rfl, ?_⟩) ?_ ?_
        rotate_left
        ·intro w'
         go_simp
         with_reducible rfl
        rotate_left
        ·simp only [Act.put, zsA, zsZ, zsS, i64_w, i32_w]
         rfl
        refine last_ (i := 7) (N := none) #[true, true, true, true, true, true, true, true] rfl rfl (one_of HT_.out (by kernel_rfl)) (by decide) (fun K hK => ?_)
        have hs31 : w28.cell? ⟨gb419, 0, none⟩ = some (u420000) := (blk_cell BK419.out 0).trans rfl
        have hfs31 := blk_frozen BK419.out 0
        have hns31_0 := NB417_419.out
        have hns31_1 := NB418_419.out
        have hns31_3 := NB421_419.out
        have hms31_0 := NB419_417.out
        have hms31_1 := NB419_418.out
        have hms31_3 := NB419_421.out
        refine skip_ (w1 := ?_) (by rfl) rfl ?_ ?_
        rotate_left
        ·go_simp
         rfl
        refine hK.out _ _ ?_
        clear hK K
        refine done_ (done_of HT_.out (by kernel_rfl)) ?_
        try go_wp2
        go_roundg k1
        case measure => have := HK1.out; omega
        case rel => exact ⟨(wrap64 (x11_1 + 1)), (y426), (.slice Ao30 y426.length co30), (by first | rfl | (simp; done) | (simp [*]; done)), H', ⟨by have := HK1.out; omega⟩, ⟨by refine ZSk ?_; exact Kd.S_mono (Kd.S_far (p := ⟨gb419, 0, none⟩) (Kd.S_types HO428.out BK419.out (by decide)) (fun _ hk => hk.2) (.slice Ao30 y426.length co30)) (fun _ hk => trivial)⟩, ⟨by refine Zbk ?_; refine blk_far ?_ NB417_419.out _; refine Zbk ?_; exact BK417.out⟩, ⟨by refine Zbk ?_; refine blk_far ?_ NB418_419.out _; refine Zbk ?_; exact BK418.out⟩, ⟨by refine Zbk ?_; refine blk_put (cs := #[u420000]) ?_ 0 _ rfl; refine Zbk ?_; exact BK419.out⟩, ⟨Zh4 HB.out GE417.out GE418.out GE419.out GE421.out⟩⟩
       ·rw [if_neg c19] at H
        exact absurd H (by simp)
     ·rw [if_neg c11] at H
      exact absurd H (by simp)
    ·rw [if_neg c10] at H
     exact absurd H (by simp)
   ·rw [if_neg c9] at H
    have c9b0 : decide (x11_1 < (l0_0.length : Int)) = false := decide_eq_false c9
    clear c9
    obtain rfl := Option.some.inj H
    have hnb32 := NB419_417.out
    have hnc32 := NB417_419.out
    have hnb33 := NB419_418.out
    have hnc33 := NB418_419.out
    have hcz34_0 := Zcl BK419.out 0 rfl
    have hfz34_0 := blk_frozen BK419.out 0
    obtain ⟨Ao35, co35, eo35⟩ := Kd.S_slice HO_420000.out
    subst eo35
    have hnb36 := NB418_417.out
    have hnc36 := NB417_418.out
    have hcz37_0 := Zcl BK418.out 0 rfl
    have hfz37_0 := blk_frozen BK418.out 0
    go_wp2
    refine bodyPost_ret (results_cell_row rfl _ _ gb418 24 #[.slice Ao35 x420000_1.length co35] (0, 0) _ rfl (by refine Zbk ?_; refine blk_put (cs := #[.slice none 0 0]) ?_ 0 _ rfl; refine Zbk ?_; exact BK418.out) Try.underlying24 rfl (by kernel_rfl)) rfl ?_
    exact ⟨_, by first | rfl | (simp [errW_none, errW_some] <;> rfl) | (simp [*, errW_none, errW_some] <;> rfl), by refine ZSk ?_; exact Kd.S_mono (Kd.S_far (p := ⟨gb418, 0, none⟩) (Kd.S_types HO_420000.out BK418.out (by decide)) (fun _ hk => hk.2) (.slice Ao35 x420000_1.length co35)) (fun _ hk => trivial), Zh3 HB.out GE417.out GE418.out GE419.out⟩

end Go.Proofs.Ytpifepaflljolaa.PMem
