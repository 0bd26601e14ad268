-- By wip/xprint.py (a driver of this session's over the kit's print), for this claim.
import Derived.Test.YtpifepaflljolaaPMemx0
namespace Go.Proofs.Ytpifepaflljolaa.PMem
open Go.RowKit Go.Proofs.YtpifepaflljolaaW.PrintWords Go.Proofs.YtpifepaflljolaaW.PrintLast Go.Proofs.YtpifepaflljolaaW.PrintMore
attribute [local go_sem] max2_int min2_int max_two min_two max_three min_three max_four min_four   -- for this text's walks alone
set_option linter.unusedVariables false
set_option linter.unusedSimpArgs false

/-! ### memory_Of: function 17 -/
def memory_Of.l0 : Nat → List Int → Int → List (S31) → Option ((List (S31)))
 | 0, _, _, _ => none
 | k + 1, x0, x4, x109000 => if x4 < (x0.length : Int) then (if 64 ≤ 35184372088832 then (if 0 ≤ x4 then (if x4 ≤ (x0.length : Int) then (if x109000.length < 4398046511104 then (memory_Of.l0 k x0 (wrap64 (x4 + 64)) (x109000 ++ [(⟨x4, (cpy (x0.drop (x4 : Int).toNat) (List.replicate 64 0))⟩ : S31)])) else (none)) else (none)) else (none)) else (none)) else (some x109000)
def memory_Of.f (k : Nat) (l0 : List Int) : Option ((List (S31))) := if (l0.length : Int) > 1048576 then (some ([] : List (S31))) else (memory_Of.l0 k l0 0 ([] : List (S31)))
theorem memory_Of.mono_l : ∀ k, (∀ y0 y1 y2, LeO (memory_Of.l0 k y0 y1 y2) (memory_Of.l0 (k + 1) y0 y1 y2))
 | 0 => fun _ _ _ r h => by simp [memory_Of.l0] at h
 | k + 1 => by
  have ih0 := memory_Of.mono_l k
  ·intro y0 y1 y2
   unfold memory_Of.l0
   repeat' first
   | (with_reducible exact ih0 _ _ _)
   | (with_reducible exact LeO.refl _)
   | (with_reducible exact LeO.none _)
   | (with_reducible refine LeO.ite ?_ ?_)
   | (with_reducible refine LeO.bind ?_ (fun _ => ?_))
   | exact ih0 _ _ _
   | exact LeO.none _
   | refine LeO.ite ?_ ?_
   | refine LeO.bind ?_ (fun _ => ?_)
theorem memory_Of.mono : ∀ a0 k, LeO (memory_Of.f k a0) (memory_Of.f (k + 1) a0) := by
 intro a0 k
 have ih0 := memory_Of.mono_l k
 unfold memory_Of.f
 repeat' first
   | (with_reducible exact ih0 _ _ _)
   | (with_reducible exact LeO.refl _)
   | (with_reducible exact LeO.none _)
   | (with_reducible refine LeO.ite ?_ ?_)
   | (with_reducible refine LeO.bind ?_ (fun _ => ?_))
   | exact ih0 _ _ _
   | exact LeO.none _
   | refine LeO.ite ?_ ?_
   | refine LeO.bind ?_ (fun _ => ?_)
set_option maxHeartbeats 8000000 in
set_option maxRecDepth 100000 in
theorem memory_Of.calls (k : Nat) (A0 : Option Addr) (c0 : Nat) (l0 : List Int) (r : List (S31)) (w : World) (hr0 : Kd.C (Kd.int .i64) w A0 l0.length l0) (hc0 : l0.length ≤ c0) (h : memory_Of.f k l0 = some r) :
  Calls Try.prog 17 #[.slice A0 l0.length c0] w fun e w' => ∃ v0_ : Value, e = .returned (.agg #[v0_]) ∧ Kd.S k31 31 w' w.heap.size (fun _ => True) v0_ r ∧ Below w.heap.size w w' := by
 have hu24 := Try.underlying24
 have hu31 := Try.underlying31
 have HR0 := Aside0.mk hr0
 have HC0 := Aside0.mk hc0
 clear hr0 hc0
 have HB := Zw (Below.refl w.heap.size w)
 have H : (if (l0.length : Int) > 1048576 then (some ([] : List (S31))) else (memory_Of.l0 k l0 0 ([] : List (S31)))) = some r := h
 clear h
 by_cases c2 : (l0.length : Int) > 1048576
 ·rw [if_pos c2] at H
  have c2b0 : decide (1048576 < (l0.length : Int)) = true := decide_eq_true c2
  have c2b1 : decide (1048576 < l0.length) = true := decide_eq_true (by omega)
  clear c2
  obtain rfl := Option.some.inj H
  go_enter Try.func17, Try.ntmps17
  go_wp2_with (first | ((with_reducible refine gate_dst (N := 2) rfl ?_); refine box_event ?hg (N := 2) ?hd (cs := #[.slice none 0 0]) (t := 24) ?hr ?_; (case hd => rfl); (case hg => rfl); (case hr => first | (go_simp; done) | (go_simp; rfl)); intro gb107 hg w3 hbox hb; have n0_ := Zw (below_step (Zh HB.out) hb); have n1_ := Zw (hbox); have n2_ := Zw ((by rw [hg]; exact (below_size (Zh HB.out)) : w.heap.size ≤ gb107)); have n3_ := Zw ((by rw [hg]; exact (below_size (Zh HB.out)) : w.heap.size ≤ gb107)); clear HB; have HB := n0_; have BK107 := n1_; have GW107 := n2_; have GE107 := n3_; clear n0_ n1_ n2_ n3_; clear hb hbox hg) | ((with_reducible refine gate_dst (N := 3) rfl ?_); refine box_event ?hg (N := 3) ?hd (cs := #[.slice none 0 0]) (t := 24) ?hr ?_; (case hd => rfl); (case hg => rfl); (case hr => first | (go_simp; done) | (go_simp; rfl)); intro gb108 hg w4 hbox hb; have n0_ := Zw (blk_below (g := gb107) (o := .cells #[.slice none 0 0] 24 (0, 0)) (Zb BK107.out) hb); have n1_ := Zw (below_step (Zh1 HB.out GE107.out) hb); have n2_ := Zw (hbox); have n3_ := Zw ((by rw [hg]; exact (below_size (Zh1 HB.out GE107.out)) : w.heap.size ≤ gb108)); have n4_ := Zw ((by rw [hg]; exact (below_size (Zh1 HB.out GE107.out)) : w.heap.size ≤ gb108)); have n5_ := Zw ((by rw [hg]; exact Nat.ne_of_lt (blk_lt (Zb BK107.out)) : gb107 ≠ gb108)); have n6_ := Zw ((by rw [hg]; exact Nat.ne_of_gt (blk_lt (Zb BK107.out)) : gb108 ≠ gb107)); clear BK107; clear HB; have BK107 := n0_; have HB := n1_; have BK108 := n2_; have GW108 := n3_; have GE108 := n4_; have NB107_108 := n5_; have NB108_107 := n6_; clear n0_ n1_ n2_ n3_ n4_ n5_ n6_; clear hb hbox hg; have hnb5 := NB108_107.out; have hnc5 := NB107_108.out; have hcz6_0 := Zcl BK108.out 0 rfl; have hfz6_0 := blk_frozen BK108.out 0; have hcz7_0 := Zcl BK107.out 0 rfl; have hfz7_0 := blk_frozen BK107.out 0))
  refine bodyPost_ret (results_cell_row rfl _ _ gb107 24 #[.slice none 0 0] (0, 0) _ rfl (by refine Zbk ?_; refine blk_put (cs := #[.slice none 0 0]) ?_ 0 _ rfl; refine Zbk ?_; exact BK107.out) Try.underlying24 rfl (by kernel_rfl)) rfl ?_
  exact ⟨_, by first | rfl | (simp [errW_none, errW_some] <;> rfl) | (simp [*, errW_none, errW_some] <;> rfl), by first | exact Kd.S_nil _ _ _ _ _ | exact Kd.N_nil _ _ _ _ _ | exact Kd.V_nil _ _ _ _ _ | exact Kd.Q_nil _ _ _ _ _ | exact Kd.R_nil _ _ _ _ _, Zh2 HB.out GE107.out GE108.out⟩
 ·rw [if_neg c2] at H
  have c2b0 : decide (1048576 < (l0.length : Int)) = false := decide_eq_false c2
  have c2b1 : decide (1048576 < l0.length) = false := decide_eq_false (by omega)
  clear c2
  have H' := Aside0.mk H
  clear H
  go_enter Try.func17, Try.ntmps17
  go_wp2_with (first | ((with_reducible refine gate_dst (N := 2) rfl ?_); refine box_event ?hg (N := 2) ?hd (cs := #[.slice none 0 0]) (t := 24) ?hr ?_; (case hd => rfl); (case hg => rfl); (case hr => first | (go_simp; done) | (go_simp; rfl)); intro gb107 hg w8 hbox hb; have n0_ := Zw (below_step (Zh HB.out) hb); have n1_ := Zw (hbox); have n2_ := Zw ((by rw [hg]; exact (below_size (Zh HB.out)) : w.heap.size ≤ gb107)); have n3_ := Zw ((by rw [hg]; exact (below_size (Zh HB.out)) : w.heap.size ≤ gb107)); clear HB; have HB := n0_; have BK107 := n1_; have GW107 := n2_; have GE107 := n3_; clear n0_ n1_ n2_ n3_; clear hb hbox hg) | ((with_reducible refine gate_dst (N := 3) rfl ?_); refine box_event ?hg (N := 3) ?hd (cs := #[.slice none 0 0]) (t := 24) ?hr ?_; (case hd => rfl); (case hg => rfl); (case hr => first | (go_simp; done) | (go_simp; rfl)); intro gb108 hg w9 hbox hb; have n0_ := Zw (blk_below (g := gb107) (o := .cells #[.slice none 0 0] 24 (0, 0)) (Zb BK107.out) hb); have n1_ := Zw (below_step (Zh1 HB.out GE107.out) hb); have n2_ := Zw (hbox); have n3_ := Zw ((by rw [hg]; exact (below_size (Zh1 HB.out GE107.out)) : w.heap.size ≤ gb108)); have n4_ := Zw ((by rw [hg]; exact (below_size (Zh1 HB.out GE107.out)) : w.heap.size ≤ gb108)); have n5_ := Zw ((by rw [hg]; exact Nat.ne_of_lt (blk_lt (Zb BK107.out)) : gb107 ≠ gb108)); have n6_ := Zw ((by rw [hg]; exact Nat.ne_of_gt (blk_lt (Zb BK107.out)) : gb108 ≠ gb107)); clear BK107; clear HB; have BK107 := n0_; have HB := n1_; have BK108 := n2_; have GW108 := n3_; have GE108 := n4_; have NB107_108 := n5_; have NB108_107 := n6_; clear n0_ n1_ n2_ n3_ n4_ n5_ n6_; clear hb hbox hg))
  go_loopg [4] k (fun kq v4 w' => ∃ (x4_1 : Int) (x109000_1 : List (S31)) (u109000 : Value), v4 = .int .i64 x4_1 ∧ Aside0 (memory_Of.l0 kq l0 x4_1 x109000_1 = some r) ∧ Aside0 (kq ≤ k) ∧ Aside0 (Kd.S k31 31 w' w.heap.size (fun _ => True) u109000 x109000_1) ∧ Aside0 (w'.heap[gb107]? = some (.cells #[(.slice none 0 0)] 24 (0, 0))) ∧ Aside0 (w'.heap[gb108]? = some (.cells #[u109000] 24 (0, 0))) ∧ Aside0 (Below w.heap.size w w'))
  case atStart => exact ⟨(0), (([] : List (S31))), (.slice none 0 0), (by first | rfl | (simp; done) | (simp [*]; done)), H', ⟨Nat.le_refl _⟩, ⟨by first | exact Kd.S_nil _ _ _ _ _ | exact Kd.N_nil _ _ _ _ _ | exact Kd.V_nil _ _ _ _ _ | exact Kd.Q_nil _ _ _ _ _ | exact Kd.R_nil _ _ _ _ _⟩, ⟨Zb BK107.out⟩, ⟨Zb BK108.out⟩, ⟨Zh2 HB.out GE107.out GE108.out⟩⟩
  case round =>
   clear H'
   try clear c1
   try clear c2
   try clear c2b0
   try clear c2b1
   try clear p2
   try clear c5
   try clear hcz6_0
   try clear hcz7_0
   try clear hfz6_0
   try clear hfz7_0
   obtain ⟨x4_1, x109000_1, u109000, rfl, HA, HK1, HO_109000, BK107, BK108, HB⟩ := hrel
   cases gk with
   | zero => exact absurd HA.out (by simp [memory_Of.l0])
   | succ k1 =>
    have H := HA.out
    clear HA
    simp only [memory_Of.l0] at H
    by_cases c10 : x4_1 < (l0.length : Int)
    ·rw [if_pos c10] at H
     have c10b0 : decide (x4_1 < (l0.length : Int)) = true := decide_eq_true c10
     clear c10
     by_cases c11 : 64 ≤ 35184372088832
     ·rw [if_pos c11] at H
      have c11b0 := eq_true c11
      have c11b1 : decide (64 ≤ 35184372088832) = true := decide_eq_true c11
      clear c11
      obtain ⟨y109, hy109⟩ : ∃ y_ : List Int, y_ = (List.replicate 64 0) := ⟨_, rfl⟩
      replace H : (if 0 ≤ x4_1 then (if x4_1 ≤ (l0.length : Int) then (if x109000_1.length < 4398046511104 then (memory_Of.l0 k1 l0 (wrap64 (x4_1 + 64)) (x109000_1 ++ [(⟨x4_1, (cpy (l0.drop (x4_1 : Int).toNat) y109)⟩ : S31)])) else (none)) else (none)) else (none)) = some r := by first | (rw [hy109]; with_reducible exact H) | (have H2_ := (Option.bind_some _ _).symm.trans H; rw [hy109]; with_reducible exact H2_) | (have H2_ := (Option.bind_some _ _).symm.trans H; with_reducible exact H2_) | with_reducible exact H | (rw [hy109]; exact H) | exact H
      have Ny109 := Aside0.mk hy109
      clear hy109
      by_cases c12 : 0 ≤ x4_1
      ·rw [if_pos c12] at H
       have c12b0 := eq_true c12
       have c12b1 : decide (0 ≤ x4_1) = true := decide_eq_true c12
       clear c12
       by_cases c13 : x4_1 ≤ (l0.length : Int)
       ·rw [if_pos c13] at H
        have c13b0 := eq_true c13
        have c13b1 : decide (x4_1 ≤ (l0.length : Int)) = true := decide_eq_true c13
        clear c13
        obtain ⟨y114, hy114⟩ : ∃ y_ : List Int, y_ = (cpy (l0.drop (x4_1 : Int).toNat) y109) := ⟨_, rfl⟩
        replace H : (if x109000_1.length < 4398046511104 then (memory_Of.l0 k1 l0 (wrap64 (x4_1 + 64)) (x109000_1 ++ [(⟨x4_1, y114⟩ : S31)])) else (none)) = some r := by first | (rw [hy114]; with_reducible exact H) | (have H2_ := (Option.bind_some _ _).symm.trans H; rw [hy114]; with_reducible exact H2_) | (have H2_ := (Option.bind_some _ _).symm.trans H; with_reducible exact H2_) | with_reducible exact H | (rw [hy114]; exact H) | exact H
        have Ny114 := Aside0.mk hy114
        clear hy114
        by_cases c14 : x109000_1.length < 4398046511104
        ·rw [if_pos c14] at H
         have LMc14 := Aside0.mk c14
         clear c14
         obtain ⟨y115, hy115⟩ : ∃ y_ : List (S31), y_ = (x109000_1 ++ [(⟨x4_1, y114⟩ : S31)]) := ⟨_, rfl⟩
         replace H : (memory_Of.l0 k1 l0 (wrap64 (x4_1 + 64)) y115) = some r := by first | (rw [hy115]; with_reducible exact H) | (have H2_ := (Option.bind_some _ _).symm.trans H; rw [hy115]; with_reducible exact H2_) | (have H2_ := (Option.bind_some _ _).symm.trans H; with_reducible exact H2_) | with_reducible exact H | (rw [hy115]; exact H) | exact H
         have Ny115 := Aside0.mk hy115
         clear hy115
         have H' := Aside0.mk H
         clear H
         try go_wp2_with (first | ((with_reducible refine gate_dst (N := 17) rfl ?_); refine Kd.R_make (Kd.int .i64) _ 3 rfl (N := 17) rfl 25 _ _ rfl 64 rfl rfl Try.underlying25 (.int .i64 0) 8 info3 rfl (by decide) (by omega) 0 (ok := fun _ => True) (okp := fun _ => True) rfl (fun _ hk => hk) trivial (by omega) (by omega) (Below.refl _ _) (Nat.le_refl _) ?_; intro v110 w15 ho16 hb hg_ hnew_; clear hg_ hnew_; (first | rw [← Ny109.out] at ho16 | (simp only [Int.reduceToNat] at ho16; rw [← Ny109.out] at ho16)); have n0_ := Zw (Kd.S_elder' (ZS HO_109000.out) (by first | exact Kd.R_base ho16 | exact Kd.S_base ho16 | exact Kd.R_base ho16 | exact Kd.N_base ho16) hb); have n1_ := Zw (Kd.R_lower ho16 (below_size (Zh2 HB.out GE107.out GE108.out))); have n2_ := Zw (blk_below (g := gb107) (o := .cells #[.slice none 0 0] 24 (0, 0)) (Zb BK107.out) hb); have n3_ := Zw (blk_below (g := gb108) (o := .cells #[u109000] 24 (0, 0)) (Zb BK108.out) hb); have n4_ := Zw (below_step (Zh2 HB.out GE107.out GE108.out) hb); clear HO_109000; clear BK107; clear BK108; clear HB; have HO_109000 := n0_; have HO111 := n1_; have BK107 := n2_; have BK108 := n3_; have HB := n4_; clear n0_ n1_ n2_ n3_ n4_; clear hb ho16; obtain ⟨Ao17, co17, eo17⟩ := Kd.R_slice HO111.out; subst eo17) | ((with_reducible refine gate_dst (N := 5) rfl ?_); refine box_event ?hg (N := 5) ?hd (cs := #[.int .i64 0, .slice none 0 0]) (t := 31) ?hr ?_; (case hd => rfl); (case hg => rfl); (case hr => first | (go_simp; done) | (go_simp; rfl)); intro gb112 hg w18 hbox hb; have n0_ := Zw (Kd.S_below (Kd.S_elderB (ZS HO_109000.out) gb112 (Nat.le_of_eq hg.symm)) hb); have n1_ := Zw (Kd.R_below (ZR HO111.out) hb); have n2_ := Zw (blk_below (g := gb107) (o := .cells #[.slice none 0 0] 24 (0, 0)) (Zb BK107.out) hb); have n3_ := Zw (blk_below (g := gb108) (o := .cells #[u109000] 24 (0, 0)) (Zb BK108.out) hb); have n4_ := Zw (below_step (Zh2 HB.out GE107.out GE108.out) hb); have n5_ := Zw (hbox); have n6_ := Zw ((by rw [hg]; exact (below_size (Zh2 HB.out GE107.out GE108.out)) : w.heap.size ≤ gb112)); have n7_ := Zw ((by rw [hg]; exact (below_size (Zh2 HB.out GE107.out GE108.out)) : w.heap.size ≤ gb112)); have n8_ := Zw ((by rw [hg]; exact Nat.ne_of_lt (blk_lt (Zb BK107.out)) : gb107 ≠ gb112)); have n9_ := Zw ((by rw [hg]; exact Nat.ne_of_gt (blk_lt (Zb BK107.out)) : gb112 ≠ gb107)); have n10_ := Zw ((by rw [hg]; exact Nat.ne_of_lt (blk_lt (Zb BK108.out)) : gb108 ≠ gb112)); have n11_ := Zw ((by rw [hg]; exact Nat.ne_of_gt (blk_lt (Zb BK108.out)) : gb112 ≠ gb108)); clear HO_109000; clear HO111; clear BK107; clear BK108; clear HB; have HO_109000 := n0_; have HO111 := n1_; have BK107 := n2_; have BK108 := n3_; have HB := n4_; have BK112 := n5_; have GW112 := n6_; have GE112 := n7_; have NB107_112 := n8_; have NB112_107 := n9_; have NB108_112 := n10_; have NB112_108 := n11_; clear n0_ n1_ n2_ n3_ n4_ n5_ n6_ n7_ n8_ n9_ n10_ n11_; clear hb hbox hg; have hnb19 := NB112_107.out; have hnc19 := NB107_112.out; have hnb20 := NB112_108.out; have hnc20 := NB108_112.out; have hcz21_0 := Zcl BK112.out 0 rfl; have hcz21_1 := Zcl BK112.out 1 rfl; have hfz21_0 := blk_frozen BK112.out 0; have hfz21_1 := blk_frozen BK112.out 1))
         have n0_ : Aside0 (Kd.S k31 31 ((w18.setCell ⟨gb112, 0, none⟩ (.int .i64 x4_1)).setCell ⟨gb112, 1, none⟩ (.slice Ao17 y109.length co17)) w.heap.size (fun k_ => some k_ ≠ (.slice Ao17 y109.length co17 : Value).ownBlock ∧ k_ ≠ gb112) u109000 x109000_1) := ⟨by refine ZSk ?_; exact Kd.S_mono (Kd.S_far (p := ⟨gb112, 1, none⟩) (Kd.S_far (p := ⟨gb112, 0, none⟩) (Kd.S_mono HO_109000.out (fun k_ hk => (⟨hk, hk.2⟩ : _ ∧ k_ ≠ gb112))) (fun _ hk => hk.2) (.int .i64 x4_1)) (fun _ hk => hk.2) (.slice Ao17 y109.length co17)) (fun _ hk => ⟨hk.1.1.2, hk.1.2⟩)⟩
         have n1_ : Aside0 (Kd.R (Kd.int .i64) 3 ((w18.setCell ⟨gb112, 0, none⟩ (.int .i64 x4_1)).setCell ⟨gb112, 1, none⟩ (.slice Ao17 y109.length co17)) w.heap.size (fun _ => True) (.slice Ao17 y109.length co17) y109) := ⟨by refine ZRk ?_; exact Kd.R_mono (Kd.R_far (p := ⟨gb112, 1, none⟩) (Kd.R_far (p := ⟨gb112, 0, none⟩) (Kd.R_types HO111.out BK112.out (by decide)) (fun _ hk => hk.2) (.int .i64 x4_1)) (fun _ hk => hk.2) (.slice Ao17 y109.length co17)) (fun _ hk => trivial)⟩
         have n2_ : Aside0 (((w18.setCell ⟨gb112, 0, none⟩ (.int .i64 x4_1)).setCell ⟨gb112, 1, none⟩ (.slice Ao17 y109.length co17)).heap[gb107]? = some (.cells #[.slice none 0 0] 24 (0, 0))) := ⟨by refine Zbk ?_; refine blk_far ?_ NB107_112.out _; refine Zbk ?_; refine blk_far ?_ NB107_112.out _; refine Zbk ?_; exact BK107.out⟩
         have n3_ : Aside0 (((w18.setCell ⟨gb112, 0, none⟩ (.int .i64 x4_1)).setCell ⟨gb112, 1, none⟩ (.slice Ao17 y109.length co17)).heap[gb108]? = some (.cells #[u109000] 24 (0, 0))) := ⟨by refine Zbk ?_; refine blk_far ?_ NB108_112.out _; refine Zbk ?_; refine blk_far ?_ NB108_112.out _; refine Zbk ?_; exact BK108.out⟩
         have n4_ : Aside0 (((w18.setCell ⟨gb112, 0, none⟩ (.int .i64 x4_1)).setCell ⟨gb112, 1, none⟩ (.slice Ao17 y109.length co17)).heap[gb112]? = some (.cells #[.int .i64 x4_1, .slice Ao17 y109.length co17] 31 (0, 0))) := ⟨by refine Zbk ?_; refine blk_put (cs := #[.int .i64 x4_1, .slice none 0 0]) ?_ 1 _ rfl; refine Zbk ?_; refine blk_put (cs := #[.int .i64 0, .slice none 0 0]) ?_ 0 _ rfl; refine Zbk ?_; exact BK112.out⟩
         have n5_ : Aside0 (Below w.heap.size w ((w18.setCell ⟨gb112, 0, none⟩ (.int .i64 x4_1)).setCell ⟨gb112, 1, none⟩ (.slice Ao17 y109.length co17))) := ⟨Zh3 HB.out GE107.out GE108.out GE112.out⟩
         (try clear HO_109000)
         (try clear HO111)
         (try clear BK107)
         (try clear BK108)
         (try clear BK112)
         (try clear HB)
         generalize ((w18.setCell ⟨gb112, 0, none⟩ (.int .i64 x4_1)).setCell ⟨gb112, 1, none⟩ (.slice Ao17 y109.length co17)) = w22 at n0_ n1_ n2_ n3_ n4_ n5_ ⊢
         have HO_109000 := n0_
         have HO111 := n1_
         have BK107 := n2_
         have BK108 := n3_
         have BK112 := n4_
         have HB := n5_
         clear n0_ n1_ n2_ n3_ n4_ n5_
         have n0_ := Zw (Kd.S_drew HO_109000.out)
         have n1_ := Zw (Kd.R_drew HO111.out)
         have n2_ := Zw (blk_drew BK107.out)
         have n3_ := Zw (blk_drew BK108.out)
         have n4_ := Zw (blk_drew BK112.out)
         have n5_ := Zw (below_drew1 HB.out)
         clear HO_109000
         clear HO111
         clear BK107
         clear BK108
         clear BK112
         clear HB
         have HO_109000 := n0_
         have HO111 := n1_
         have BK107 := n2_
         have BK108 := n3_
         have BK112 := n4_
         have HB := n5_
         clear n0_ n1_ n2_ n3_ n4_ n5_
         obtain ⟨i024, hi024, _, hsz24, _⟩ := info_parts info3
         obtain ⟨A24, hcut24, hA24, hC24⟩ := print_drop_of (P := Try.prog) (Value.int .i64) 0 25 3 .i64 Try.underlying25 hi024 hsz24 A0 c0 l0 x4_1 (of_decide_eq_true Za) (of_decide_eq_true Za) HC0.out
         have HR113 := Zw (Kd.C_of_reads (h1 := fun _ => rfl) (hA24 _ (Kd.reads_of_C HR0.out)))
         have HC113 := Aside0.mk hC24
         clear hA24 hC24 hi024 hsz24
         refine start_ (n := 6) (S := fun w' => w'.cell? ⟨gb112, 0, none⟩ = some (.int .i64 x4_1) ∧ w'.cell? ⟨gb112, 1, none⟩ = some (.slice Ao17 y109.length co17)) (ds := []) #[false, false, false, false, false, false] (by kernel_rfl) rfl rfl ⟨(blk_cell BK112.out 0).trans rfl, (blk_cell BK112.out 1).trans rfl⟩ (fun hHeld => ?_)
         generalize w22.drew = w23 at HO_109000 HO111 BK107 BK108 BK112 HB HR113 hHeld ⊢
         refine pure_ (i := 0) (N := some 19) (v := ?_) (a' := ?_) #[true, false, false, false, false, false] rfl rfl (by kernel_rfl) (fun _ _ _ h => h) (Or.inl ⟨by rfl, ?_⟩) ?_ ?_
         rotate_left
         ·intro w'
          go_simp
          with_reducible rfl
         rotate_left
         ·simp only [Act.put, zsA, zsZ, zsS, i64_w, i32_w]
          rfl
         refine pure_ (i := 2) (N := some 21) (v := ?_) (a' := ?_) #[true, false, true, false, false, false] rfl rfl (by kernel_rfl) (fun _ _ _ h => h) (Or.inl ⟨by rfl, ?_⟩) ?_ ?_
         rotate_left
         ·intro w'
          go_simp
          with_reducible rfl
         rotate_left
         ·simp only [Act.put, zsA, zsZ, zsS, i64_w, i32_w]
          rfl
         refine pure_ (i := 3) (N := some 22) (v := ?_) (a' := ?_) #[true, false, true, true, false, false] rfl rfl (by kernel_rfl) (fun _ _ _ h => h) (Or.inl ⟨by rfl, ?_⟩) ?_ ?_
         rotate_left
         ·intro w'
          go_simp
          with_reducible rfl
         rotate_left
         ·simp only [Act.put, zsA, zsZ, zsS, i64_w, i32_w]
          rfl
         refine pure_ (i := 4) (N := some 23) (v := ?_) (a' := ?_) #[true, false, true, true, true, false] rfl rfl (by kernel_rfl) (fun _ _ _ h => h) (Or.inl ⟨by rfl, ?_⟩) ?_ ?_
         rotate_left
         ·intro w'
          go_simp
          with_reducible rfl
         rotate_left
         ·simp only [Act.put, zsA, zsZ, zsS, i64_w, i32_w]
          rfl
         refine take_ (i := 1) (N := some 20) (v := ?_) (a' := ?_) #[true, true, true, true, true, false] rfl rfl (by kernel_rfl) (fun _ _ _ h => h) (Or.inl ⟨by rfl, ?_⟩) hHeld ?_ ?_
         rotate_left
         ·rintro w' ⟨s0, s1⟩
          go_simp
          with_reducible rfl
         rotate_left
         ·simp only [Act.put, zsA, zsZ, zsS, i64_w, i32_w]
          rfl
         refine one_ (i := 5) (N := some 24) #[true, true, true, true, true, true] rfl rfl (by kernel_rfl) (by decide) (fun K hK => ?_)
         refine R_copy_step (k := .i64) (w0 := w) w.heap.size (by rfl) (.tmp 20) (.tmp 23) 25 25 3 rfl Try.underlying25 info3 (.slice Ao17 y109.length co17) y109 (l0.drop (x4_1 : Int).toNat) _ _ _ (fun _ => True) rfl rfl ?aO ?aR ?aB ?aS ?_
         (case aB => exact (Zh3 HB.out GE107.out GE108.out GE112.out))
         (case aO => exact (ZR HO111.out))
         (case aR => first | (rw [← show (l0.drop (x4_1 : Int).toNat).length = (l0.length - x4_1.toNat) from List.length_drop]; repeat (first | exact (Kd.C_below HR113.out HB.out) | (with_reducible refine Kd.C_alloc ?_ _) | (with_reducible refine Kd.C_drewN ?_ _) | (with_reducible refine Kd.C_drew ?_))) | (repeat (first | exact (Kd.C_below HR113.out HB.out) | (with_reducible refine Kd.C_alloc ?_ _) | (with_reducible refine Kd.C_drewN ?_ _) | (with_reducible refine Kd.C_drew ?_))))
         (case aS => exact (below_size (Zh3 HB.out GE107.out GE108.out GE112.out)))
         intro w25 hp_ hb hg
         rw [← Ny114.out] at hp_
         have n0_ := Zw (Kd.S_after (v := (.slice Ao17 y109.length co17)) (v1 := (.slice Ao17 y109.length co17)) (ok := (fun k_ => k_ ≠ gb112)) (by refine ZSk ?_; exact Kd.S_mono HO_109000.out (fun _ hk => ⟨hk.2, hk.1⟩)) hg (.inl rfl))
         have n1_ := Zw (blk_grown (g := gb107) (o := .cells #[.slice none 0 0] 24 (0, 0)) (Zb BK107.out) hg (Kd.R_ne HO111.out BK107.out (by decide)))
         have n2_ := Zw (blk_grown (g := gb108) (o := .cells #[u109000] 24 (0, 0)) (Zb BK108.out) hg (Kd.R_ne HO111.out BK108.out (by decide)))
         have n3_ := Zw (hp_)
         have n4_ := Zw (blk_grown (g := gb112) (o := .cells #[.int .i64 x4_1, .slice Ao17 y109.length co17] 31 (0, 0)) (Zb BK112.out) hg (Kd.R_ne HO111.out BK112.out (by decide)))
         have n5_ := Zw (hb)
         clear HO_109000
         clear BK107
         clear BK108
         clear HO111
         clear BK112
         clear HB
         have HO_109000 := n0_
         have BK107 := n1_
         have BK108 := n2_
         have HO111 := n3_
         have BK112 := n4_
         have HB := n5_
         clear n0_ n1_ n2_ n3_ n4_ n5_
         clear hp_ hb hg
         refine hK.out _ _ ⟨(blk_cell BK112.out 0).trans rfl, (blk_cell BK112.out 1).trans rfl⟩ (fun hHeld => ?_)
         clear hK K
         refine norm_ (a' := ?_) ?_ ?_
         rotate_left
         ·show Act.put _ (some 24) _ = _
          simp only [Act.put, zsA, zsZ, zsS, i64_w, i32_w]
          rfl
         refine done_ (by kernel_rfl) ?_
         have hnb27 := NB108_107.out
         have hnc27 := NB107_108.out
         have hcz28_0 := Zcl BK108.out 0 rfl
         have hfz28_0 := blk_frozen BK108.out 0
         have hcz29_0 := Zcl BK112.out 0 rfl
         have hcz29_1 := Zcl BK112.out 1 rfl
         have hfz29_0 := blk_frozen BK112.out 0
         have hfz29_1 := blk_frozen BK112.out 1
         try go_wp2_with (first | ((with_reducible refine gate_builtin (b := .append) (xs := #[(.tmp 26), .tmp 28]) rfl ?_); at_builtin; refine Kd.S_append k31 (w0 := w) w.heap.size rfl (.tmp 26) (.tmp 28) 22 31 (.agg #[(.int .i64 0), (.slice none 0 0)]) 32 rfl Try.underlying22 info31 rfl (by decide) (by omega) u109000 x109000_1 (⟨x4_1, y114⟩ : S31) [.int .i64 x4_1, .slice Ao17 y109.length co17] (fun k_ => k_ ≠ gb112) (fun k_ => some k_ = (.slice Ao17 y109.length co17 : Value).ownBlock) rfl rfl ?aP (fun k_ hk_ => ((Kd.R_mono (ok' := fun k_ => ((fun k_ => k_ ≠ gb112)) k_ ∧ some k_ ≠ (u109000 : Value).ownBlock) (Kd.R_types (Kd.R_apart' (HO111.out) (Kd.S_typed HO_109000.out) (by decide)) BK112.out (by decide)) (fun k_ hk => ⟨hk.2, hk.1.2⟩))).1 k_ hk_.symm) ?aF ?aO ?aB ?aS ?aL ?_; (case aP => exact k31_mkM _ _ _ (⟨x4_1, y114⟩ : S31) (Kd.R_mono (Kd.R_tight rfl (Kd.R_mono (ok' := fun k_ => ((fun k_ => k_ ≠ gb112)) k_ ∧ some k_ ≠ (u109000 : Value).ownBlock) (Kd.R_types (Kd.R_apart' (HO111.out) (Kd.S_typed HO_109000.out) (by decide)) BK112.out (by decide)) (fun k_ hk => ⟨hk.2, hk.1.2⟩))) (fun _ h_ => h_))); (case aB => exact (Zh3 HB.out GE107.out GE108.out GE112.out)); (case aF => exact (fun k_ hk => Kd.freshB (g := gb112) (o := .cells #[.int .i64 x4_1, .slice Ao17 y109.length co17] 31 (0, 0)) (Zb BK112.out) k_ hk)); (case aO => exact (by refine ZSk ?_; exact Kd.S_mono HO_109000.out (fun k_ hk => ⟨hk.1, fun e_ => hk.2 e_⟩))); (case aS => exact (below_size (Zh3 HB.out GE107.out GE108.out GE112.out))); (case aL => have := LMc14.out; omega); intro v116 w30 ho hb hg hat; rw [← Ny115.out] at ho; have n0_ := Zw (blk_grown (g := gb107) (o := .cells #[.slice none 0 0] 24 (0, 0)) (Zb BK107.out) hg (Kd.S_ne HO_109000.out BK107.out (by decide))); have n1_ := Zw (blk_grown (g := gb108) (o := .cells #[u109000] 24 (0, 0)) (Zb BK108.out) hg (Kd.S_ne HO_109000.out BK108.out (by decide))); have n2_ := Zw (blk_grown (g := gb112) (o := .cells #[.int .i64 x4_1, .slice Ao17 y109.length co17] 31 (0, 0)) (Zb BK112.out) hg (Kd.S_away HO_109000.out (fun _ hk => hk.1))); have n3_ := Zw (hb); have n4_ := Zw (ho); clear BK107; clear BK108; clear BK112; clear HB; clear HO_109000; clear HO111; have BK107 := n0_; have BK108 := n1_; have BK112 := n2_; have HB := n3_; have HO117 := n4_; clear n0_ n1_ n2_ n3_ n4_; clear ho hb hg hat; obtain ⟨Ao31, co31, eo31⟩ := Kd.S_slice HO117.out; subst eo31; have hcz32_0 := Zcl BK108.out 0 rfl; have hfz32_0 := blk_frozen BK108.out 0))
         go_roundg k1
         case measure => have := HK1.out; omega
         case rel => exact ⟨(wrap64 (x4_1 + 64)), (y115), (.slice Ao31 y115.length co31), (by first | rfl | (simp; done) | (simp [*]; done)), H', ⟨by have := HK1.out; omega⟩, ⟨by refine ZSk ?_; exact Kd.S_mono (Kd.S_far (p := ⟨gb108, 0, none⟩) (Kd.S_types HO117.out BK108.out (by decide)) (fun _ hk => hk.2) (.slice Ao31 y115.length co31)) (fun _ hk => trivial)⟩, ⟨by refine Zbk ?_; refine blk_far ?_ NB107_108.out _; refine Zbk ?_; exact BK107.out⟩, ⟨by refine Zbk ?_; refine blk_put (cs := #[u109000]) ?_ 0 _ rfl; refine Zbk ?_; exact BK108.out⟩, ⟨Zh3 HB.out GE107.out GE108.out GE112.out⟩⟩
        ·rw [if_neg c14] at H
         exact absurd H (by simp)
       ·rw [if_neg c13] at H
        exact absurd H (by simp)
      ·rw [if_neg c12] at H
       exact absurd H (by simp)
     ·rw [if_neg c11] at H
      exact absurd H (by simp)
    ·rw [if_neg c10] at H
     have c10b0 : decide (x4_1 < (l0.length : Int)) = false := decide_eq_false c10
     clear c10
     obtain rfl := Option.some.inj H
     have hnb33 := NB108_107.out
     have hnc33 := NB107_108.out
     have hcz34_0 := Zcl BK108.out 0 rfl
     have hfz34_0 := blk_frozen BK108.out 0
     obtain ⟨Ao35, co35, eo35⟩ := Kd.S_slice HO_109000.out
     subst eo35
     have hcz36_0 := Zcl BK107.out 0 rfl
     have hfz36_0 := blk_frozen BK107.out 0
     go_wp2
     refine bodyPost_ret (results_cell_row rfl _ _ gb107 24 #[.slice Ao35 x109000_1.length co35] (0, 0) _ rfl (by refine Zbk ?_; refine blk_put (cs := #[.slice none 0 0]) ?_ 0 _ rfl; refine Zbk ?_; exact BK107.out) Try.underlying24 rfl (by kernel_rfl)) rfl ?_
     exact ⟨_, by first | rfl | (simp [errW_none, errW_some] <;> rfl) | (simp [*, errW_none, errW_some] <;> rfl), by refine ZSk ?_; exact Kd.S_mono (Kd.S_far (p := ⟨gb107, 0, none⟩) (Kd.S_types HO_109000.out BK107.out (by decide)) (fun _ hk => hk.2) (.slice Ao35 x109000_1.length co35)) (fun _ hk => trivial), Zh2 HB.out GE107.out GE108.out⟩

end Go.Proofs.Ytpifepaflljolaa.PMem
