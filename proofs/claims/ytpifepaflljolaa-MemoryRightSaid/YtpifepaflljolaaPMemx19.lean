-- By wip/xprint.py (a driver of this session's over the kit's print), for this claim.
import Derived.Test.YtpifepaflljolaaPMemx0
import Derived.Test.YtpifepaflljolaaPMemx14
import Derived.Test.YtpifepaflljolaaPMemx18
namespace Go.Proofs.Ytpifepaflljolaa.PMem
open Go.RowKit Go.Proofs.YtpifepaflljolaaW.PrintWords Go.Proofs.YtpifepaflljolaaW.PrintLast Go.Proofs.YtpifepaflljolaaW.PrintMore
attribute [local go_sem] max2_int min2_int max_two min_two max_three min_three max_four min_four   -- for this text's walks alone
set_option linter.unusedVariables false
set_option linter.unusedSimpArgs false

/-! ### debuggerlaw25_some: function 12 -/
mutual
def debuggerlaw25_some.l0 : Nat → List Int → Int → List (S31) → Option ((List (S31)))
 | 0, _, _, _ => none
 | k + 1, x0, x4, x237000 => if x4 < (x0.length : Int) then (debuggerlaw25_some.j1 k x0 x4 (decide (x4 < 8)) x237000) else (debuggerlaw25_some.j1 k x0 x4 false x237000)
def debuggerlaw25_some.j1 : Nat → List Int → Int → Bool → List (S31) → Option ((List (S31)))
 | 0, _, _, _, _ => none
 | k + 1, x0, x4, x13, x237000 => if x13 = true then (if 0 ≤ x4 then (if x4 < (x0.length : Int) then ((debuggerkit_Mod.f (rd x0 x4) 12).bind fun t238 => (if 64 ≤ 35184372088832 then ((some (List.replicate 64 0 : List Int)).bind fun y239 => ((debuggerkit_Mod.f (rd x0 x4) 7).bind fun t244 => (if 0 ≤ t244 then (if t244 < (y239.length : Int) then ((debuggerref25_Add.f k x237000 (wrap64 (t238 * 64)) (y239.set (t244 : Int).toNat (rd x0 x4))).bind fun bt247 => (debuggerlaw25_some.l0 k x0 (wrap64 (x4 + 1)) bt247.1)) else (none)) else (none)))) else (none))) else (none)) else (none)) else (some x237000)
end
def debuggerlaw25_some.f (k : Nat) (l0 : List Int) : Option ((List (S31))) := debuggerlaw25_some.l0 k l0 0 ([] : List (S31))
theorem debuggerlaw25_some.mono_l : ∀ k, (∀ y0 y1 y2, LeO (debuggerlaw25_some.l0 k y0 y1 y2) (debuggerlaw25_some.l0 (k + 1) y0 y1 y2)) ∧ (∀ y0 y1 y2 y3, LeO (debuggerlaw25_some.j1 k y0 y1 y2 y3) (debuggerlaw25_some.j1 (k + 1) y0 y1 y2 y3))
 | 0 => ⟨fun _ _ _ r h => by simp [debuggerlaw25_some.l0] at h, fun _ _ _ _ r h => by simp [debuggerlaw25_some.j1] at h⟩
 | k + 1 => by
  obtain ⟨ih0, ih1⟩ := debuggerlaw25_some.mono_l k
  refine ⟨?_, ?_⟩
  ·intro y0 y1 y2
   unfold debuggerlaw25_some.l0
   repeat' first
   | (with_reducible exact ih0 _ _ _)
   | (with_reducible exact ih1 _ _ _ _)
   | (with_reducible exact debuggerref25_Add.mono _ _ _ _)
   | (with_reducible exact LeO.refl _)
   | (with_reducible exact LeO.none _)
   | (with_reducible refine LeO.ite ?_ ?_)
   | (with_reducible refine LeO.bind ?_ (fun _ => ?_))
   | exact ih0 _ _ _
   | exact ih1 _ _ _ _
   | exact debuggerref25_Add.mono _ _ _ _
   | exact LeO.none _
   | refine LeO.ite ?_ ?_
   | refine LeO.bind ?_ (fun _ => ?_)
  ·intro y0 y1 y2 y3
   unfold debuggerlaw25_some.j1
   repeat' first
   | (with_reducible exact ih0 _ _ _)
   | (with_reducible exact ih1 _ _ _ _)
   | (with_reducible exact debuggerref25_Add.mono _ _ _ _)
   | (with_reducible exact LeO.refl _)
   | (with_reducible exact LeO.none _)
   | (with_reducible refine LeO.ite ?_ ?_)
   | (with_reducible refine LeO.bind ?_ (fun _ => ?_))
   | exact ih0 _ _ _
   | exact ih1 _ _ _ _
   | exact debuggerref25_Add.mono _ _ _ _
   | exact LeO.none _
   | refine LeO.ite ?_ ?_
   | refine LeO.bind ?_ (fun _ => ?_)
theorem debuggerlaw25_some.mono : ∀ a0 k, LeO (debuggerlaw25_some.f k a0) (debuggerlaw25_some.f (k + 1) a0) := by
 intro a0 k
 obtain ⟨ih0, ih1⟩ := debuggerlaw25_some.mono_l k
 unfold debuggerlaw25_some.f
 repeat' first
   | (with_reducible exact ih0 _ _ _)
   | (with_reducible exact ih1 _ _ _ _)
   | (with_reducible exact debuggerref25_Add.mono _ _ _ _)
   | (with_reducible exact LeO.refl _)
   | (with_reducible exact LeO.none _)
   | (with_reducible refine LeO.ite ?_ ?_)
   | (with_reducible refine LeO.bind ?_ (fun _ => ?_))
   | exact ih0 _ _ _
   | exact ih1 _ _ _ _
   | exact debuggerref25_Add.mono _ _ _ _
   | exact LeO.none _
   | refine LeO.ite ?_ ?_
   | refine LeO.bind ?_ (fun _ => ?_)
def debuggerlaw25_some.T5 : Bool × List (List Nat × List Nat) := (true, [([], []), ([], []), ([0, 1], [0, 1]), ([2], [2]), ([3], [3]), ([4], [4]), ([], []), ([5, 6], [5, 6]), ([], []), ([8, 7, 4, 0, 1, 2, 3, 4, 5, 6, 7, 8], [7, 8])])
def debuggerlaw25_some.B5 : List Nat := [0, 0, 3, 7, 15, 31, 0, 127, 0, 511]
theorem debuggerlaw25_some.tab5 : rtab .any (opsOf Try.f12 5) = debuggerlaw25_some.T5 := by kernel_rfl
theorem debuggerlaw25_some.bits5 : waitsOk debuggerlaw25_some.T5.2 debuggerlaw25_some.B5 = true := by kernel_rfl
def debuggerlaw25_some.T6 : Bool × List (List Nat × List Nat) := (true, [([], []), ([0], [0]), ([], []), ([], []), ([2, 3], [2, 3]), ([4], [4]), ([5], [5]), ([], []), ([], []), ([7, 8], [7, 8]), ([9], [9]), ([1, 6, 0, 1, 2, 3, 4, 5, 6, 7, 8, 9, 10], [1, 6]), ([11, 10, 6, 0, 1, 2, 3, 4, 5, 6, 7, 8, 9, 10], [10, 11])])
def debuggerlaw25_some.B6 : List Nat := [0, 1, 0, 0, 12, 28, 60, 0, 0, 384, 896, 2047, 4095]
theorem debuggerlaw25_some.tab6 : rtab .any (opsOf Try.f12 6) = debuggerlaw25_some.T6 := by kernel_rfl
theorem debuggerlaw25_some.bits6 : waitsOk debuggerlaw25_some.T6.2 debuggerlaw25_some.B6 = true := by kernel_rfl
set_option maxHeartbeats 8000000 in
set_option maxRecDepth 100000 in
theorem debuggerlaw25_some.calls (k : Nat) (A0 : Option Addr) (c0 : Nat) (l0 : List Int) (r : List (S31)) (w : World) (hr0 : Kd.C (Kd.int .i64) w A0 l0.length l0) (hc0 : l0.length ≤ c0) (h : debuggerlaw25_some.f k l0 = some r) :
  Calls Try.prog 12 #[.slice A0 l0.length c0] w fun e w' => ∃ v0_ : Value, e = .returned (.agg #[v0_]) ∧ Kd.N k31 31 w' w.heap.size (fun k_ => (w.heap.size ≤ k_)) v0_ r ∧ Below w.heap.size w w' := by
 have hu24 := Try.underlying24
 have hu31 := Try.underlying31
 have HR0 := Aside0.mk hr0
 have HC0 := Aside0.mk hc0
 clear hr0 hc0
 have HB := Zw (Below.refl w.heap.size w)
 have H : (debuggerlaw25_some.l0 k l0 0 ([] : List (S31))) = some r := h
 clear h
 have H' := Aside0.mk H
 clear H
 go_enter Try.func12, Try.ntmps12
 go_wp2_with (first | ((with_reducible refine gate_dst (N := 2) rfl ?_); refine box_event ?hg (N := 2) ?hd (cs := #[.slice none 0 0]) (t := 24) ?hr ?_; (case hd => rfl); (case hg => rfl); (case hr => first | (go_simp; done) | (go_simp; rfl)); intro gb235 hg w2 hbox hb; have n0_ := Zw (below_step (Zh HB.out) hb); have n1_ := Zw (hbox); have n2_ := Zw ((by rw [hg]; exact (below_size (Zh HB.out)) : w.heap.size ≤ gb235)); have n3_ := Zw ((by rw [hg]; exact (below_size (Zh HB.out)) : w.heap.size ≤ gb235)); clear HB; have HB := n0_; have BK235 := n1_; have GW235 := n2_; have GE235 := n3_; clear n0_ n1_ n2_ n3_; clear hb hbox hg) | ((with_reducible refine gate_dst (N := 3) rfl ?_); refine box_event ?hg (N := 3) ?hd (cs := #[.slice none 0 0]) (t := 24) ?hr ?_; (case hd => rfl); (case hg => rfl); (case hr => first | (go_simp; done) | (go_simp; rfl)); intro gb236 hg w3 hbox hb; have n0_ := Zw (blk_below (g := gb235) (o := .cells #[.slice none 0 0] 24 (0, 0)) (Zb BK235.out) hb); have n1_ := Zw (below_step (Zh1 HB.out GE235.out) hb); have n2_ := Zw (hbox); have n3_ := Zw ((by rw [hg]; exact (below_size (Zh1 HB.out GE235.out)) : w.heap.size ≤ gb236)); have n4_ := Zw ((by rw [hg]; exact (below_size (Zh1 HB.out GE235.out)) : w.heap.size ≤ gb236)); have n5_ := Zw ((by rw [hg]; exact Nat.ne_of_lt (blk_lt (Zb BK235.out)) : gb235 ≠ gb236)); have n6_ := Zw ((by rw [hg]; exact Nat.ne_of_gt (blk_lt (Zb BK235.out)) : gb236 ≠ gb235)); clear BK235; clear HB; have BK235 := n0_; have HB := n1_; have BK236 := n2_; have GW236 := n3_; have GE236 := n4_; have NB235_236 := n5_; have NB236_235 := n6_; clear n0_ n1_ n2_ n3_ n4_ n5_ n6_; clear hb hbox hg))
 go_loopg [4] k (fun kq v4 w' => ∃ (x4_1 : Int) (x237000_1 : List (S31)) (u237000 : Value), v4 = .int .i64 x4_1 ∧ Aside0 (debuggerlaw25_some.l0 kq l0 x4_1 x237000_1 = some r) ∧ Aside0 (kq ≤ k) ∧ Aside0 (Kd.N k31 31 w' w.heap.size (fun k_ => (w.heap.size ≤ k_) ∧ k_ ≠ gb235 ∧ k_ ≠ gb236) u237000 x237000_1) ∧ Aside0 (w'.heap[gb235]? = some (.cells #[(.slice none 0 0)] 24 (0, 0))) ∧ Aside0 (w'.heap[gb236]? = some (.cells #[u237000] 24 (0, 0))) ∧ Aside0 (Below w.heap.size w w'))
 case atStart => exact ⟨(0), (([] : List (S31))), (.slice none 0 0), (by first | rfl | (simp; done) | (simp [*]; done)), H', ⟨Nat.le_refl _⟩, ⟨by first | exact Kd.S_nil _ _ _ _ _ | exact Kd.N_nil _ _ _ _ _ | exact Kd.V_nil _ _ _ _ _ | exact Kd.Q_nil _ _ _ _ _ | exact Kd.R_nil _ _ _ _ _⟩, ⟨Zb BK235.out⟩, ⟨Zb BK236.out⟩, ⟨Zh2 HB.out GE235.out GE236.out⟩⟩
 case round =>
  clear H'
  try clear c1
  try clear p2
  obtain ⟨x4_1, x237000_1, u237000, rfl, HA, HK1, HO_237000, BK235, BK236, HB⟩ := hrel
  cases gk with
  | zero => exact absurd HA.out (by simp [debuggerlaw25_some.l0])
  | succ k1 =>
   have H := HA.out
   clear HA
   simp only [debuggerlaw25_some.l0] at H
   have HC4 := Aside0.mk H
   clear H
   go_upto_region 3 with (fail)
   go_cut [13] (fun v13 wc => ∃ (kq : Nat) (x13_3 : Bool), v13 = .bool x13_3 ∧ Aside0 (debuggerlaw25_some.j1 kq l0 x4_1 x13_3 x237000_1 = some r) ∧ Aside0 (kq ≤ k1) ∧ Aside0 (Kd.N k31 31 wc w.heap.size (fun k_ => (w.heap.size ≤ k_) ∧ k_ ≠ gb235 ∧ k_ ≠ gb236) u237000 x237000_1) ∧ Aside0 (wc.heap[gb235]? = some (.cells #[(.slice none 0 0)] 24 (0, 0))) ∧ Aside0 (wc.heap[gb236]? = some (.cells #[u237000] 24 (0, 0))) ∧ Aside0 (Below w.heap.size w wc))
   case first =>
    have H := HC4.out
    clear HC4
    by_cases c5 : x4_1 < (l0.length : Int)
    ·rw [if_pos c5] at H
     have c5b0 : decide (x4_1 < (l0.length : Int)) = true := decide_eq_true c5
     clear c5
     (first | rw [c5b0] | (simp only [i64_w, i32_w]; rw [c5b0]) | skip)
     have H' := Aside0.mk H
     clear H
     go_wp2
     go_meet
     case rel => exact ⟨_, (decide (x4_1 < 8)), (by first | rfl | (simp; done) | (simp [*]; done)), H', ⟨by have := HK1.out; first | omega | exact Nat.le_refl _⟩, ⟨ZN HO_237000.out⟩, ⟨Zb BK235.out⟩, ⟨Zb BK236.out⟩, ⟨Zh2 HB.out GE235.out GE236.out⟩⟩
    ·rw [if_neg c5] at H
     have c5b0 : decide (x4_1 < (l0.length : Int)) = false := decide_eq_false c5
     clear c5
     (first | rw [c5b0] | (simp only [i64_w, i32_w]; rw [c5b0]) | skip)
     have H' := Aside0.mk H
     clear H
     go_wp2
     go_meet
     case rel => exact ⟨_, (false), (by first | rfl | (simp; done) | (simp [*]; done)), H', ⟨by have := HK1.out; first | omega | exact Nat.le_refl _⟩, ⟨ZN HO_237000.out⟩, ⟨Zb BK235.out⟩, ⟨Zb BK236.out⟩, ⟨Zh2 HB.out GE235.out GE236.out⟩⟩
   case rest =>
    clear HC4
    try clear c1
    try clear p2
    try clear c5
    try clear c5b0
    try clear p2
    obtain ⟨kq, x13_3, rfl, HA, HJ3, HO_237000, BK235, BK236, HB⟩ := hcut
    cases kq with
    | zero => exact absurd HA.out (by simp [debuggerlaw25_some.j1])
    | succ kj3 =>
     have H := HA.out
     clear HA
     simp only [debuggerlaw25_some.j1] at H
     by_cases c6 : x13_3 = true
     ·subst c6
      have H1 : (if 0 ≤ x4_1 then (if x4_1 < (l0.length : Int) then ((debuggerkit_Mod.f (rd l0 x4_1) 12).bind fun t238 => (if 64 ≤ 35184372088832 then ((some (List.replicate 64 0 : List Int)).bind fun y239 => ((debuggerkit_Mod.f (rd l0 x4_1) 7).bind fun t244 => (if 0 ≤ t244 then (if t244 < (y239.length : Int) then ((debuggerref25_Add.f kj3 x237000_1 (wrap64 (t238 * 64)) (y239.set (t244 : Int).toNat (rd l0 x4_1))).bind fun bt247 => (debuggerlaw25_some.l0 kj3 l0 (wrap64 (x4_1 + 1)) bt247.1)) else (none)) else (none)))) else (none))) else (none)) else (none)) = some r := by rw [if_pos rfl] at H; exact H
      clear H
      have H := H1
      clear H1
      by_cases c7 : 0 ≤ x4_1
      ·rw [if_pos c7] at H
       have c7b0 : decide (0 ≤ x4_1) = true := decide_eq_true c7
       clear c7
       by_cases c8 : x4_1 < (l0.length : Int)
       ·rw [if_pos c8] at H
        have c8b0 : decide (x4_1 < (l0.length : Int)) = true := decide_eq_true c8
        clear c8
        replace H := Option.bind_eq_some_iff.mp H
        obtain ⟨t238, A90, H⟩ := H
        replace H : (if 64 ≤ 35184372088832 then ((some (List.replicate 64 0 : List Int)).bind fun y239 => ((debuggerkit_Mod.f (rd l0 x4_1) 7).bind fun t244 => (if 0 ≤ t244 then (if t244 < (y239.length : Int) then ((debuggerref25_Add.f kj3 x237000_1 (wrap64 (t238 * 64)) (y239.set (t244 : Int).toNat (rd l0 x4_1))).bind fun bt247 => (debuggerlaw25_some.l0 kj3 l0 (wrap64 (x4_1 + 1)) bt247.1)) else (none)) else (none)))) else (none)) = some r := H
        have A9 := Aside0.mk A90
        clear A90
        by_cases c10 : 64 ≤ 35184372088832
        ·rw [if_pos c10] at H
         have c10b0 := eq_true c10
         have c10b1 : decide (64 ≤ 35184372088832) = true := decide_eq_true c10
         clear c10
         obtain ⟨y239, hy239⟩ : ∃ y_ : List Int, y_ = (List.replicate 64 0) := ⟨_, rfl⟩
         replace H : ((debuggerkit_Mod.f (rd l0 x4_1) 7).bind fun t244 => (if 0 ≤ t244 then (if t244 < (y239.length : Int) then ((debuggerref25_Add.f kj3 x237000_1 (wrap64 (t238 * 64)) (y239.set (t244 : Int).toNat (rd l0 x4_1))).bind fun bt247 => (debuggerlaw25_some.l0 kj3 l0 (wrap64 (x4_1 + 1)) bt247.1)) else (none)) else (none))) = some r := by first | (rw [hy239]; with_reducible exact H) | (have H2_ := (Option.bind_some _ _).symm.trans H; rw [hy239]; with_reducible exact H2_) | (have H2_ := (Option.bind_some _ _).symm.trans H; with_reducible exact H2_) | with_reducible exact H | (rw [hy239]; exact H) | exact H
         have Ny239 := Aside0.mk hy239
         clear hy239
         replace H := Option.bind_eq_some_iff.mp H
         obtain ⟨t244, A110, H⟩ := H
         replace H : (if 0 ≤ t244 then (if t244 < (y239.length : Int) then ((debuggerref25_Add.f kj3 x237000_1 (wrap64 (t238 * 64)) (y239.set (t244 : Int).toNat (rd l0 x4_1))).bind fun bt247 => (debuggerlaw25_some.l0 kj3 l0 (wrap64 (x4_1 + 1)) bt247.1)) else (none)) else (none)) = some r := H
         have A11 := Aside0.mk A110
         clear A110
         by_cases c12 : 0 ≤ t244
         ·rw [if_pos c12] at H
          have c12b0 : decide (0 ≤ t244) = true := decide_eq_true c12
          clear c12
          by_cases c13 : t244 < (y239.length : Int)
          ·rw [if_pos c13] at H
           have c13b0 : decide (t244 < (y239.length : Int)) = true := decide_eq_true c13
           clear c13
           obtain ⟨y246, hy246⟩ : ∃ y_ : List Int, y_ = (y239.set (t244 : Int).toNat (rd l0 x4_1)) := ⟨_, rfl⟩
           replace H : ((debuggerref25_Add.f kj3 x237000_1 (wrap64 (t238 * 64)) y246).bind fun bt247 => (debuggerlaw25_some.l0 kj3 l0 (wrap64 (x4_1 + 1)) bt247.1)) = some r := by first | (rw [hy246]; with_reducible exact H) | (have H2_ := (Option.bind_some _ _).symm.trans H; rw [hy246]; with_reducible exact H2_) | (have H2_ := (Option.bind_some _ _).symm.trans H; with_reducible exact H2_) | with_reducible exact H | (rw [hy246]; exact H) | exact H
           have Ny246 := Aside0.mk hy246
           clear hy246
           replace H := Option.bind_eq_some_iff.mp H
           obtain ⟨⟨t247, t250⟩, A150, H⟩ := H
           replace H : (debuggerlaw25_some.l0 kj3 l0 (wrap64 (x4_1 + 1)) t247) = some r := H
           have A15 := Aside0.mk A150
           clear A150
           have H' := Aside0.mk H
           clear H
           try go_wp2
           have n0_ := Zw (Kd.N_drew HO_237000.out)
           have n1_ := Zw (blk_drew BK235.out)
           have n2_ := Zw (blk_drew BK236.out)
           have n3_ := Zw (below_drew1 HB.out)
           clear HO_237000
           clear BK235
           clear BK236
           clear HB
           have HO_237000 := n0_
           have BK235 := n1_
           have BK236 := n2_
           have HB := n3_
           clear n0_ n1_ n2_ n3_
           have p237 : 0 ≤ (x4_1 : Int) := of_decide_eq_true Za
           have q237 : x4_1 < (l0.length : Int) := of_decide_eq_true Za
           obtain ⟨ad237, e237, hx237_0⟩ := Kd.at_int HR0.out x4_1 p237 q237
           have hw237_0 := hx237_0
           cases e237
           replace hx237_0 := Zl HB.out hx237_0
           replace p237 := eq_true p237
           replace q237 := eq_true q237
           refine start_ (n := 10) (S := fun w' => w'.cell? (ad237.add (x4_1).toNat) = some (.int .i64 (rd l0 x4_1))) (ds := []) #[false, false, false, false, false, false, false, false, false, false] (by kernel_rfl) rfl rfl (((HB.out.cell (World.block_lt_of_cell? w _ hw237_0)).trans hw237_0)) (fun hHeld => ?_); refine with_tabW debuggerlaw25_some.tab5 debuggerlaw25_some.bits5 (fun HT_ HW_ => ?_)
           generalize wc.drew = w16 at HO_237000 BK235 BK236 HB hx237_0 hHeld ⊢
           refine pure_ (i := 0) (N := some 16) (v := ?_) (a' := ?_) #[true, false, false, false, false, false, false, false, false, false] rfl rfl (any_of HT_.out (by kernel_rfl)) (fun _ _ _ h => h) (Or.inl ⟨by rfl, ?_⟩) ?_ ?_
           rotate_left
           ·intro w'
            go_simp
            with_reducible rfl
           rotate_left
           ·simp only [Act.put, zsA, zsZ, zsS, i64_w, i32_w]
            rfl
           refine pure_ (i := 1) (N := some 17) (v := ?_) (a' := ?_) #[true, true, false, false, false, false, false, false, false, false] rfl rfl (any_of HT_.out (by kernel_rfl)) (fun _ _ _ h => h) (Or.inl ⟨by rfl, ?_⟩) ?_ ?_
           rotate_left
           ·intro w'
            go_simp
            with_reducible rfl
           rotate_left
           ·simp only [Act.put, zsA, zsZ, zsS, i64_w, i32_w]
            rfl
           refine pure_ (i := 2) (N := some 18) (v := ?_) (a' := ?_) #[true, true, true, false, false, false, false, false, false, false] rfl rfl (any_of HT_.out (by kernel_rfl)) (fun _ _ _ h => h) (Or.inl ⟨by rfl, ?_⟩) ?_ ?_
           rotate_left
           ·intro w'
            go_simp
            with_reducible rfl
           rotate_left
           ·simp only [Act.put, zsA, zsZ, zsS, i64_w, i32_w]
            rfl
           refine take_ (i := 3) (N := some 19) (v := ?_) (a' := ?_) #[true, true, true, true, false, false, false, false, false, false] rfl rfl (take_ofW HT_.out HW_.out (by kernel_rfl)) (fun _ _ _ h => h) (Or.inl ⟨by rfl, ?_⟩) hHeld ?_ ?_
           rotate_left
           ·intro w' s0
            go_simp
            with_reducible rfl
           rotate_left
           ·simp only [Act.put, zsA, zsZ, zsS, i64_w, i32_w]
            rfl
           refine join_ (σ := Value × Nat) 1 #[true, true, true, true, true, true, true, true, true, false] (fun s_ => [(20, .int .i64 t238), (22, s_.1), (5, .pointer (some ⟨s_.2, 0, none⟩)), (21, .int .i64 (wrap64 (t238 * 64))), (23, .agg #[.int .i64 (wrap64 (t238 * 64)), s_.1])]) (fun s_ w' => (w'.cell? (ad237.add (x4_1).toNat) = some (.int .i64 (rd l0 x4_1))) ∧ (Kd.R (Kd.int .i64) 3 w' w.heap.size (fun k_ => (w.heap.size ≤ k_)) s_.1 y239) ∧ (Kd.N k31 31 w' w.heap.size (fun k_ => (w.heap.size ≤ k_) ∧ some k_ ≠ (s_.1 : Value).ownBlock ∧ k_ ≠ gb235 ∧ k_ ≠ gb236 ∧ k_ ≠ s_.2) u237000 x237000_1) ∧ (w'.heap[gb235]? = some (.cells #[.slice none 0 0] 24 (0, 0))) ∧ (w'.heap[gb236]? = some (.cells #[u237000] 24 (0, 0))) ∧ (w'.heap[s_.2]? = some (.cells #[.int .i64 0, .slice none 0 0] 31 (0, 0))) ∧ (w.heap.size ≤ s_.2) ∧ (w.heap.size ≤ s_.2) ∧ (gb235 ≠ s_.2) ∧ (s_.2 ≠ gb235) ∧ (gb236 ≠ s_.2) ∧ (s_.2 ≠ gb236) ∧ (Below w.heap.size w w')) ?_ ?_
           rotate_left
           ·intro hJ4_6_8
            refine join_ (σ := Value) 2 #[true, true, true, true, true, true, true, true, false, false] (fun s_ => [(20, .int .i64 t238), (22, s_), (21, .int .i64 (wrap64 (t238 * 64))), (23, .agg #[.int .i64 (wrap64 (t238 * 64)), s_])]) (fun s_ w' => (w'.cell? (ad237.add (x4_1).toNat) = some (.int .i64 (rd l0 x4_1))) ∧ (Kd.R (Kd.int .i64) 3 w' w.heap.size (fun k_ => (w.heap.size ≤ k_)) s_ y239) ∧ (Kd.N k31 31 w' w.heap.size (fun k_ => (w.heap.size ≤ k_) ∧ some k_ ≠ (s_ : Value).ownBlock ∧ k_ ≠ gb235 ∧ k_ ≠ gb236) u237000 x237000_1) ∧ (w'.heap[gb235]? = some (.cells #[.slice none 0 0] 24 (0, 0))) ∧ (w'.heap[gb236]? = some (.cells #[u237000] 24 (0, 0))) ∧ (Below w.heap.size w w')) ?_ ?_
            rotate_left
            ·intro hJ4_6
             refine join_ (σ := Nat) 3 #[true, true, true, true, true, true, false, false, true, false] (fun s_ => [(20, .int .i64 t238), (5, .pointer (some ⟨s_, 0, none⟩)), (21, .int .i64 (wrap64 (t238 * 64)))]) (fun s_ w' => (w'.cell? (ad237.add (x4_1).toNat) = some (.int .i64 (rd l0 x4_1))) ∧ (Kd.N k31 31 w' w.heap.size (fun k_ => (w.heap.size ≤ k_) ∧ k_ ≠ gb235 ∧ k_ ≠ gb236 ∧ k_ ≠ s_) u237000 x237000_1) ∧ (w'.heap[gb235]? = some (.cells #[.slice none 0 0] 24 (0, 0))) ∧ (w'.heap[gb236]? = some (.cells #[u237000] 24 (0, 0))) ∧ (w'.heap[s_]? = some (.cells #[.int .i64 0, .slice none 0 0] 31 (0, 0))) ∧ (w.heap.size ≤ s_) ∧ (w.heap.size ≤ s_) ∧ (gb235 ≠ s_) ∧ (s_ ≠ gb235) ∧ (gb236 ≠ s_) ∧ (s_ ≠ gb236) ∧ (Below w.heap.size w w')) ?_ ?_
             rotate_left
             ·intro hJ4_8
              refine join_ (σ := Value × Nat) 4 #[true, true, true, true, false, false, true, false, true, false] (fun s_ => [(22, s_.1), (5, .pointer (some ⟨s_.2, 0, none⟩))]) (fun s_ w' => (w'.cell? (ad237.add (x4_1).toNat) = some (.int .i64 (rd l0 x4_1))) ∧ (Kd.R (Kd.int .i64) 3 w' w.heap.size (fun k_ => (w.heap.size ≤ k_)) s_.1 y239) ∧ (Kd.N k31 31 w' w.heap.size (fun k_ => (w.heap.size ≤ k_) ∧ some k_ ≠ (s_.1 : Value).ownBlock ∧ k_ ≠ gb235 ∧ k_ ≠ gb236 ∧ k_ ≠ s_.2) u237000 x237000_1) ∧ (w'.heap[gb235]? = some (.cells #[.slice none 0 0] 24 (0, 0))) ∧ (w'.heap[gb236]? = some (.cells #[u237000] 24 (0, 0))) ∧ (w'.heap[s_.2]? = some (.cells #[.int .i64 0, .slice none 0 0] 31 (0, 0))) ∧ (w.heap.size ≤ s_.2) ∧ (w.heap.size ≤ s_.2) ∧ (gb235 ≠ s_.2) ∧ (s_.2 ≠ gb235) ∧ (gb236 ≠ s_.2) ∧ (s_.2 ≠ gb236) ∧ (Below w.heap.size w w')) ?_ ?_
              rotate_left
              ·intro hJ6_8
               refine join_ (σ := Unit) 4 #[true, true, true, true, true, true, false, false, false, false] (fun s_ => [(20, .int .i64 t238), (21, .int .i64 (wrap64 (t238 * 64)))]) (fun s_ w' => (w'.cell? (ad237.add (x4_1).toNat) = some (.int .i64 (rd l0 x4_1))) ∧ (Kd.N k31 31 w' w.heap.size (fun k_ => (w.heap.size ≤ k_) ∧ k_ ≠ gb235 ∧ k_ ≠ gb236) u237000 x237000_1) ∧ (w'.heap[gb235]? = some (.cells #[.slice none 0 0] 24 (0, 0))) ∧ (w'.heap[gb236]? = some (.cells #[u237000] 24 (0, 0))) ∧ (Below w.heap.size w w')) ?_ ?_
               rotate_left
               ·intro hJ4
                refine join_ (σ := Value) 5 #[true, true, true, true, false, false, true, false, false, false] (fun s_ => [(22, s_)]) (fun s_ w' => (w'.cell? (ad237.add (x4_1).toNat) = some (.int .i64 (rd l0 x4_1))) ∧ (Kd.R (Kd.int .i64) 3 w' w.heap.size (fun k_ => (w.heap.size ≤ k_)) s_ y239) ∧ (Kd.N k31 31 w' w.heap.size (fun k_ => (w.heap.size ≤ k_) ∧ some k_ ≠ (s_ : Value).ownBlock ∧ k_ ≠ gb235 ∧ k_ ≠ gb236) u237000 x237000_1) ∧ (w'.heap[gb235]? = some (.cells #[.slice none 0 0] 24 (0, 0))) ∧ (w'.heap[gb236]? = some (.cells #[u237000] 24 (0, 0))) ∧ (Below w.heap.size w w')) ?_ ?_
                rotate_left
                ·intro hJ6
                 refine join_ (σ := Nat) 5 #[true, true, true, true, false, false, false, false, true, false] (fun s_ => [(5, .pointer (some ⟨s_, 0, none⟩))]) (fun s_ w' => (w'.cell? (ad237.add (x4_1).toNat) = some (.int .i64 (rd l0 x4_1))) ∧ (Kd.N k31 31 w' w.heap.size (fun k_ => (w.heap.size ≤ k_) ∧ k_ ≠ gb235 ∧ k_ ≠ gb236 ∧ k_ ≠ s_) u237000 x237000_1) ∧ (w'.heap[gb235]? = some (.cells #[.slice none 0 0] 24 (0, 0))) ∧ (w'.heap[gb236]? = some (.cells #[u237000] 24 (0, 0))) ∧ (w'.heap[s_]? = some (.cells #[.int .i64 0, .slice none 0 0] 31 (0, 0))) ∧ (w.heap.size ≤ s_) ∧ (w.heap.size ≤ s_) ∧ (gb235 ≠ s_) ∧ (s_ ≠ gb235) ∧ (gb236 ≠ s_) ∧ (s_ ≠ gb236) ∧ (Below w.heap.size w w')) ?_ ?_
                 rotate_left
                 ·intro hJ8
                  refine three_ (i := 4) (j := 6) (k := 8) (Ni := some 20) (Nj := some 22) (Nk := some 5) #[true, true, true, true, true, false, false, false, false, false] #[true, true, true, true, false, false, true, false, false, false] #[true, true, true, true, false, false, false, false, true, false] rfl rfl rfl rfl rfl rfl (three_of HT_.out (by kernel_rfl)) (by decide) (by decide) (by decide) (fun K hK => ?_) (fun K hK => ?_) (fun K hK => ?_)
                  ·skip
                   refine goes_ Try.func13 (by kernel_rfl) rfl #[.int .i64 (rd l0 x4_1), .int .i64 12] (by rfl) rfl rfl Zm ?_
                   with_reducible refine (debuggerkit_Mod.calls (rd l0 x4_1) 12 t238 _ A9.out).mono ?_
                   rintro e w17 ⟨rfl, hb⟩
                   refine ⟨_, rfl, ?_⟩
                   have n0_ := Zw (Kd.N_below (ZN HO_237000.out) hb)
                   have n1_ := Zw (blk_below (g := gb235) (o := .cells #[.slice none 0 0] 24 (0, 0)) (Zb BK235.out) hb)
                   have n2_ := Zw (blk_below (g := gb236) (o := .cells #[u237000] 24 (0, 0)) (Zb BK236.out) hb)
                   have n3_ := Zw (below_step (Zh2 HB.out GE235.out GE236.out) hb)
                   clear HO_237000
                   clear BK235
                   clear BK236
                   clear HB
                   have HO_237000 := n0_
                   have BK235 := n1_
                   have BK236 := n2_
                   have HB := n3_
                   clear n0_ n1_ n2_ n3_
                   (try clear hb)
                   (try clear hb2)
                   (try clear hk)
                   (try clear hi)
                   refine hK.out _ _ (((HB.out.cell (World.block_lt_of_cell? w _ hw237_0)).trans hw237_0)) (fun hHeld => ?_)
                   clear hK K
                   refine norm_ (a' := ?_) ?_ ?_
                   rotate_left
                   ·show Act.put _ (some 20) _ = _
                    simp only [Act.put, zsA, zsZ, zsS, i64_w, i32_w]
                    rfl
                   refine pure_ (i := 5) (N := some 21) (v := ?_) (a' := ?_) #[true, true, true, true, true, true, false, false, false, false] rfl rfl (any_of HT_.out (by kernel_rfl)) (fun _ _ _ h => h) (Or.inl ⟨by rfl, ?_⟩) ?_ ?_
                   rotate_left
                   ·intro w'
                    go_simp
                    with_reducible rfl
                   rotate_left
                   ·simp only [Act.put, zsA, zsZ, zsS, i64_w, i32_w]
                    rfl
                   exact norm_ (by first | (simp only [putAll, Act.put, zsA, zsZ, zsS]; done) | (simp only [putAll, Act.put, zsA, zsZ, zsS]; rfl)) (hJ4 () _ ⟨hHeld, (ZN HO_237000.out), (Zb BK235.out), (Zb BK236.out), (Zh2 HB.out GE235.out GE236.out)⟩)
                  ·skip
                   refine Kd.R_make_step (Kd.int .i64) _ 3 (by rfl) (N := 22) rfl 25 _ _ rfl 64 rfl rfl Try.underlying25 (.int .i64 0) 8 info3 rfl (by decide) (by omega) 0 (ok := fun _ => True) (okp := fun _ => True) rfl (fun _ hk => hk) trivial (by omega) (by omega) (Below.refl _ _) (Nat.le_refl _) ?_
                   intro v240 w17 ho18 hb hg_ hnew_
                   clear hg_ hnew_
                   (first | rw [← Ny239.out] at ho18 | (simp only [Int.reduceToNat] at ho18; rw [← Ny239.out] at ho18))
                   have n0_ := Zw (Kd.N_elder' (ZN HO_237000.out) (by first | exact Kd.R_base ho18 | exact Kd.S_base ho18 | exact Kd.R_base ho18 | exact Kd.N_base ho18) hb)
                   have n1_ := Zw (Kd.R_lower (Kd.R_newM (M := fun k_ => (w.heap.size ≤ k_)) ho18 (below_size (Zh2 HB.out GE235.out GE236.out)) (fun k_ h_ => h_)) (below_size (Zh2 HB.out GE235.out GE236.out)))
                   have n2_ := Zw (blk_below (g := gb235) (o := .cells #[.slice none 0 0] 24 (0, 0)) (Zb BK235.out) hb)
                   have n3_ := Zw (blk_below (g := gb236) (o := .cells #[u237000] 24 (0, 0)) (Zb BK236.out) hb)
                   have n4_ := Zw (below_step (Zh2 HB.out GE235.out GE236.out) hb)
                   clear HO_237000
                   clear BK235
                   clear BK236
                   clear HB
                   have HO_237000 := n0_
                   have HO241 := n1_
                   have BK235 := n2_
                   have BK236 := n3_
                   have HB := n4_
                   clear n0_ n1_ n2_ n3_ n4_
                   clear hb ho18
                   refine hK.out _ _ (((HB.out.cell (World.block_lt_of_cell? w _ hw237_0)).trans hw237_0)) (fun hHeld => ?_)
                   clear hK K
                   refine norm_ (a' := ?_) ?_ ?_
                   rotate_left
                   ·show Act.put _ (some 22) _ = _
                    simp only [Act.put, zsA, zsZ, zsS, i64_w, i32_w]
                    rfl
                   exact norm_ (by first | (simp only [putAll, Act.put, zsA, zsZ, zsS]; done) | (simp only [putAll, Act.put, zsA, zsZ, zsS]; rfl)) (hJ6 (v240) _ ⟨hHeld, (by refine ZRk ?_; exact Kd.R_mono HO241.out (fun _ hk => hk.1)), (by refine ZNk ?_; exact Kd.N_mono HO_237000.out (fun _ hk => ⟨hk.1.1, ⟨hk.2, ⟨hk.1.2.1, hk.1.2.2⟩⟩⟩)), (Zb BK235.out), (Zb BK236.out), (Zh2 HB.out GE235.out GE236.out)⟩)
                  ·skip
                   refine box_step ?hg (N := 5) ?hd (cs := #[.int .i64 0, .slice none 0 0]) (t := 31) ?hr ?_; (case hd => rfl); (case hg => rfl); (case hr => first | (go_simp; done) | (go_simp; rfl))
                   intro gb242 hg w17 hbox hb
                   have n0_ := Zw (Kd.N_below (Kd.N_elderB (ZN HO_237000.out) gb242 (Nat.le_of_eq hg.symm)) hb)
                   have n1_ := Zw (blk_below (g := gb235) (o := .cells #[.slice none 0 0] 24 (0, 0)) (Zb BK235.out) hb)
                   have n2_ := Zw (blk_below (g := gb236) (o := .cells #[u237000] 24 (0, 0)) (Zb BK236.out) hb)
                   have n3_ := Zw (below_step (Zh2 HB.out GE235.out GE236.out) hb)
                   have n4_ := Zw (hbox)
                   have n5_ := Zw ((by rw [hg]; exact (below_size (Zh2 HB.out GE235.out GE236.out)) : w.heap.size ≤ gb242))
                   have n6_ := Zw ((by rw [hg]; exact (below_size (Zh2 HB.out GE235.out GE236.out)) : w.heap.size ≤ gb242))
                   have n7_ := Zw ((by rw [hg]; exact Nat.ne_of_lt (blk_lt (Zb BK235.out)) : gb235 ≠ gb242))
                   have n8_ := Zw ((by rw [hg]; exact Nat.ne_of_gt (blk_lt (Zb BK235.out)) : gb242 ≠ gb235))
                   have n9_ := Zw ((by rw [hg]; exact Nat.ne_of_lt (blk_lt (Zb BK236.out)) : gb236 ≠ gb242))
                   have n10_ := Zw ((by rw [hg]; exact Nat.ne_of_gt (blk_lt (Zb BK236.out)) : gb242 ≠ gb236))
                   clear HO_237000
                   clear BK235
                   clear BK236
                   clear HB
                   have HO_237000 := n0_
                   have BK235 := n1_
                   have BK236 := n2_
                   have HB := n3_
                   have BK242 := n4_
                   have GW242 := n5_
                   have GE242 := n6_
                   have NB235_242 := n7_
                   have NB242_235 := n8_
                   have NB236_242 := n9_
                   have NB242_236 := n10_
                   clear n0_ n1_ n2_ n3_ n4_ n5_ n6_ n7_ n8_ n9_ n10_
                   clear hb hbox hg
                   refine hK.out _ _ (((HB.out.cell (World.block_lt_of_cell? w _ hw237_0)).trans hw237_0)) (fun hHeld => ?_)
                   clear hK K
                   refine norm_ (a' := ?_) ?_ ?_
                   rotate_left
                   ·show Act.put _ (some 5) _ = _
                    simp only [Act.put, zsA, zsZ, zsS, i64_w, i32_w]
                    rfl
                   exact norm_ (by first | (simp only [putAll, Act.put, zsA, zsZ, zsS]; done) | (simp only [putAll, Act.put, zsA, zsZ, zsS]; rfl)) (hJ8 (gb242) _ ⟨hHeld, (by refine ZNk ?_; exact Kd.N_mono HO_237000.out (fun _ hk => ⟨hk.1.1, ⟨hk.1.2.1, ⟨hk.1.2.2, hk.2⟩⟩⟩)), (Zb BK235.out), (Zb BK236.out), (Zb BK242.out), GW242.out, GE242.out, NB235_242.out, NB242_235.out, NB236_242.out, NB242_236.out, (Zh3 HB.out GE235.out GE236.out GE242.out)⟩)
                 ·skip
                  rintro gb242 w18 ⟨hS_, h0_, h1_, h2_, h3_, h4_, h5_, h6_, h7_, h8_, h9_, h10_⟩
                  have n0_ : Aside0 (Kd.N k31 31 w18 w.heap.size (fun k_ => (w.heap.size ≤ k_) ∧ k_ ≠ gb235 ∧ k_ ≠ gb236 ∧ k_ ≠ gb242) u237000 x237000_1) := ⟨h0_⟩
                  have n1_ : Aside0 (w18.heap[gb235]? = some (.cells #[.slice none 0 0] 24 (0, 0))) := ⟨h1_⟩
                  have n2_ : Aside0 (w18.heap[gb236]? = some (.cells #[u237000] 24 (0, 0))) := ⟨h2_⟩
                  have n3_ : Aside0 (w18.heap[gb242]? = some (.cells #[.int .i64 0, .slice none 0 0] 31 (0, 0))) := ⟨h3_⟩
                  have n4_ : Aside0 (w.heap.size ≤ gb242) := ⟨h4_⟩
                  have n5_ : Aside0 (w.heap.size ≤ gb242) := ⟨h5_⟩
                  have n6_ : Aside0 (gb235 ≠ gb242) := ⟨h6_⟩
                  have n7_ : Aside0 (gb242 ≠ gb235) := ⟨h7_⟩
                  have n8_ : Aside0 (gb236 ≠ gb242) := ⟨h8_⟩
                  have n9_ : Aside0 (gb242 ≠ gb236) := ⟨h9_⟩
                  have n10_ : Aside0 (Below w.heap.size w w18) := ⟨h10_⟩
                  clear HO_237000
                  clear BK235
                  clear BK236
                  clear HB
                  clear h0_ h1_ h2_ h3_ h4_ h5_ h6_ h7_ h8_ h9_ h10_
                  have HO_237000 := n0_
                  have BK235 := n1_
                  have BK236 := n2_
                  have BK242 := n3_
                  have GW242 := n4_
                  have GE242 := n5_
                  have NB235_242 := n6_
                  have NB242_235 := n7_
                  have NB236_242 := n8_
                  have NB242_236 := n9_
                  have HB := n10_
                  clear n0_ n1_ n2_ n3_ n4_ n5_ n6_ n7_ n8_ n9_ n10_
                  have hHeld : w18.cell? (ad237.add (x4_1).toNat) = some (.int .i64 (rd l0 x4_1)) := hS_
                  refine norm_ (a' := ?_) ?_ ?_
                  rotate_left
                  ·simp only [putAll, Act.put, zsA, zsZ, zsS]
                   rfl
                  refine two_ (i := 4) (j := 6) (Ni := some 20) (Nj := some 22) #[true, true, true, true, true, false, false, false, true, false] #[true, true, true, true, false, false, true, false, true, false] rfl rfl rfl rfl (two_of HT_.out (by kernel_rfl)) (by decide) (by decide) (fun K hK => ?_) (fun K hK => ?_)
                  ·skip
                   refine goes_ Try.func13 (by kernel_rfl) rfl #[.int .i64 (rd l0 x4_1), .int .i64 12] (by rfl) rfl rfl Zm ?_
                   with_reducible refine (debuggerkit_Mod.calls (rd l0 x4_1) 12 t238 _ A9.out).mono ?_
                   rintro e w19 ⟨rfl, hb⟩
                   refine ⟨_, rfl, ?_⟩
                   have n0_ := Zw (Kd.N_below (ZN HO_237000.out) hb)
                   have n1_ := Zw (blk_below (g := gb235) (o := .cells #[.slice none 0 0] 24 (0, 0)) (Zb BK235.out) hb)
                   have n2_ := Zw (blk_below (g := gb236) (o := .cells #[u237000] 24 (0, 0)) (Zb BK236.out) hb)
                   have n3_ := Zw (blk_below (g := gb242) (o := .cells #[.int .i64 0, .slice none 0 0] 31 (0, 0)) (Zb BK242.out) hb)
                   have n4_ := Zw (below_step (Zh3 HB.out GE235.out GE236.out GE242.out) hb)
                   clear HO_237000
                   clear BK235
                   clear BK236
                   clear BK242
                   clear HB
                   have HO_237000 := n0_
                   have BK235 := n1_
                   have BK236 := n2_
                   have BK242 := n3_
                   have HB := n4_
                   clear n0_ n1_ n2_ n3_ n4_
                   (try clear hb)
                   (try clear hb2)
                   (try clear hk)
                   (try clear hi)
                   refine hK.out _ _ (((HB.out.cell (World.block_lt_of_cell? w _ hw237_0)).trans hw237_0)) (fun hHeld => ?_)
                   clear hK K
                   refine norm_ (a' := ?_) ?_ ?_
                   rotate_left
                   ·show Act.put _ (some 20) _ = _
                    simp only [Act.put, zsA, zsZ, zsS, i64_w, i32_w]
                    rfl
                   refine pure_ (i := 5) (N := some 21) (v := ?_) (a' := ?_) #[true, true, true, true, true, true, false, false, true, false] rfl rfl (any_of HT_.out (by kernel_rfl)) (fun _ _ _ h => h) (Or.inl ⟨by rfl, ?_⟩) ?_ ?_
                   rotate_left
                   ·intro w'
                    go_simp
                    with_reducible rfl
                   rotate_left
                   ·simp only [Act.put, zsA, zsZ, zsS, i64_w, i32_w]
                    rfl
                   exact norm_ (by first | (simp only [putAll, Act.put, zsA, zsZ, zsS]; done) | (simp only [putAll, Act.put, zsA, zsZ, zsS]; rfl)) (hJ4_8 (gb242) _ ⟨hHeld, (ZN HO_237000.out), (Zb BK235.out), (Zb BK236.out), (Zb BK242.out), GW242.out, GE242.out, NB235_242.out, NB242_235.out, NB236_242.out, NB242_236.out, (Zh3 HB.out GE235.out GE236.out GE242.out)⟩)
                  ·skip
                   refine Kd.R_make_step (Kd.int .i64) _ 3 (by rfl) (N := 22) rfl 25 _ _ rfl 64 rfl rfl Try.underlying25 (.int .i64 0) 8 info3 rfl (by decide) (by omega) 0 (ok := fun _ => True) (okp := fun _ => True) rfl (fun _ hk => hk) trivial (by omega) (by omega) (Below.refl _ _) (Nat.le_refl _) ?_
                   intro v240 w19 ho20 hb hg_ hnew_
                   clear hg_ hnew_
                   (first | rw [← Ny239.out] at ho20 | (simp only [Int.reduceToNat] at ho20; rw [← Ny239.out] at ho20))
                   have n0_ := Zw (Kd.N_elder' (ZN HO_237000.out) (by first | exact Kd.R_base ho20 | exact Kd.S_base ho20 | exact Kd.R_base ho20 | exact Kd.N_base ho20) hb)
                   have n1_ := Zw (Kd.R_lower (Kd.R_newM (M := fun k_ => (w.heap.size ≤ k_)) ho20 (below_size (Zh3 HB.out GE235.out GE236.out GE242.out)) (fun k_ h_ => h_)) (below_size (Zh3 HB.out GE235.out GE236.out GE242.out)))
                   have n2_ := Zw (blk_below (g := gb235) (o := .cells #[.slice none 0 0] 24 (0, 0)) (Zb BK235.out) hb)
                   have n3_ := Zw (blk_below (g := gb236) (o := .cells #[u237000] 24 (0, 0)) (Zb BK236.out) hb)
                   have n4_ := Zw (blk_below (g := gb242) (o := .cells #[.int .i64 0, .slice none 0 0] 31 (0, 0)) (Zb BK242.out) hb)
                   have n5_ := Zw (below_step (Zh3 HB.out GE235.out GE236.out GE242.out) hb)
                   clear HO_237000
                   clear BK235
                   clear BK236
                   clear BK242
                   clear HB
                   have HO_237000 := n0_
                   have HO241 := n1_
                   have BK235 := n2_
                   have BK236 := n3_
                   have BK242 := n4_
                   have HB := n5_
                   clear n0_ n1_ n2_ n3_ n4_ n5_
                   clear hb ho20
                   refine hK.out _ _ (((HB.out.cell (World.block_lt_of_cell? w _ hw237_0)).trans hw237_0)) (fun hHeld => ?_)
                   clear hK K
                   refine norm_ (a' := ?_) ?_ ?_
                   rotate_left
                   ·show Act.put _ (some 22) _ = _
                    simp only [Act.put, zsA, zsZ, zsS, i64_w, i32_w]
                    rfl
                   exact norm_ (by first | (simp only [putAll, Act.put, zsA, zsZ, zsS]; done) | (simp only [putAll, Act.put, zsA, zsZ, zsS]; rfl)) (hJ6_8 (v240, gb242) _ ⟨hHeld, (by refine ZRk ?_; exact Kd.R_mono HO241.out (fun _ hk => hk.1)), (by refine ZNk ?_; exact Kd.N_mono HO_237000.out (fun _ hk => ⟨hk.1.1, ⟨hk.2, ⟨hk.1.2.1, ⟨hk.1.2.2.1, hk.1.2.2.2⟩⟩⟩⟩)), (Zb BK235.out), (Zb BK236.out), (Zb BK242.out), GW242.out, GE242.out, NB235_242.out, NB242_235.out, NB236_242.out, NB242_236.out, (Zh3 HB.out GE235.out GE236.out GE242.out)⟩)
                ·skip
                 rintro v240 w19 ⟨hS_, h0_, h1_, h2_, h3_, h4_⟩
                 have n0_ : Aside0 (Kd.R (Kd.int .i64) 3 w19 w.heap.size (fun k_ => (w.heap.size ≤ k_)) v240 y239) := ⟨h0_⟩
                 have n1_ : Aside0 (Kd.N k31 31 w19 w.heap.size (fun k_ => (w.heap.size ≤ k_) ∧ some k_ ≠ (v240 : Value).ownBlock ∧ k_ ≠ gb235 ∧ k_ ≠ gb236) u237000 x237000_1) := ⟨h1_⟩
                 have n2_ : Aside0 (w19.heap[gb235]? = some (.cells #[.slice none 0 0] 24 (0, 0))) := ⟨h2_⟩
                 have n3_ : Aside0 (w19.heap[gb236]? = some (.cells #[u237000] 24 (0, 0))) := ⟨h3_⟩
                 have n4_ : Aside0 (Below w.heap.size w w19) := ⟨h4_⟩
                 clear HO_237000
                 clear BK235
                 clear BK236
                 clear HB
                 clear h0_ h1_ h2_ h3_ h4_
                 have HO241 := n0_
                 have HO_237000 := n1_
                 have BK235 := n2_
                 have BK236 := n3_
                 have HB := n4_
                 clear n0_ n1_ n2_ n3_ n4_
                 have hHeld : w19.cell? (ad237.add (x4_1).toNat) = some (.int .i64 (rd l0 x4_1)) := hS_
                 refine norm_ (a' := ?_) ?_ ?_
                 rotate_left
                 ·simp only [putAll, Act.put, zsA, zsZ, zsS]
                  rfl
                 refine two_ (i := 4) (j := 8) (Ni := some 20) (Nj := some 5) #[true, true, true, true, true, false, true, false, false, false] #[true, true, true, true, false, false, true, false, true, false] rfl rfl rfl rfl (two_of HT_.out (by kernel_rfl)) (by decide) (by decide) (fun K hK => ?_) (fun K hK => ?_)
                 ·skip
                  refine goes_ Try.func13 (by kernel_rfl) rfl #[.int .i64 (rd l0 x4_1), .int .i64 12] (by rfl) rfl rfl Zm ?_
                  with_reducible refine (debuggerkit_Mod.calls (rd l0 x4_1) 12 t238 _ A9.out).mono ?_
                  rintro e w20 ⟨rfl, hb⟩
                  refine ⟨_, rfl, ?_⟩
                  have n0_ := Zw (Kd.N_below (ZN HO_237000.out) hb)
                  have n1_ := Zw (Kd.R_below (ZR HO241.out) hb)
                  have n2_ := Zw (blk_below (g := gb235) (o := .cells #[.slice none 0 0] 24 (0, 0)) (Zb BK235.out) hb)
                  have n3_ := Zw (blk_below (g := gb236) (o := .cells #[u237000] 24 (0, 0)) (Zb BK236.out) hb)
                  have n4_ := Zw (below_step (Zh2 HB.out GE235.out GE236.out) hb)
                  clear HO_237000
                  clear HO241
                  clear BK235
                  clear BK236
                  clear HB
                  have HO_237000 := n0_
                  have HO241 := n1_
                  have BK235 := n2_
                  have BK236 := n3_
                  have HB := n4_
                  clear n0_ n1_ n2_ n3_ n4_
                  (try clear hb)
                  (try clear hb2)
                  (try clear hk)
                  (try clear hi)
                  obtain ⟨Ao21, co21, eo21⟩ := Kd.R_slice HO241.out
                  (first | subst eo21 | (injection eo21 with f1_ f2_ f3_; have f4_ := f1_.symm; have f5_ := f3_.symm; clear f1_ f2_ f3_; subst f4_; subst f5_))
                  refine hK.out _ _ (((HB.out.cell (World.block_lt_of_cell? w _ hw237_0)).trans hw237_0)) (fun hHeld => ?_)
                  clear hK K
                  refine norm_ (a' := ?_) ?_ ?_
                  rotate_left
                  ·show Act.put _ (some 20) _ = _
                   simp only [Act.put, zsA, zsZ, zsS, i64_w, i32_w]
                   rfl
                  refine pure_ (i := 5) (N := some 21) (v := ?_) (a' := ?_) #[true, true, true, true, true, true, true, false, false, false] rfl rfl (any_of HT_.out (by kernel_rfl)) (fun _ _ _ h => h) (Or.inl ⟨by rfl, ?_⟩) ?_ ?_
                  rotate_left
                  ·intro w'
                   go_simp
                   with_reducible rfl
                  rotate_left
                  ·simp only [Act.put, zsA, zsZ, zsS, i64_w, i32_w]
                   rfl
                  refine pure_ (i := 7) (N := some 23) (v := ?_) (a' := ?_) #[true, true, true, true, true, true, true, true, false, false] rfl rfl (any_of HT_.out (by kernel_rfl)) (fun _ _ _ h => h) (Or.inl ⟨by rfl, ?_⟩) ?_ ?_
                  rotate_left
                  ·intro w'
                   go_simp
                   with_reducible rfl
                  rotate_left
                  ·simp only [Act.put, zsA, zsZ, zsS, i64_w, i32_w]
                   rfl
                  exact norm_ (by first | (simp only [putAll, Act.put, zsA, zsZ, zsS]; done) | (simp only [putAll, Act.put, zsA, zsZ, zsS]; rfl)) (hJ4_6 (.slice Ao21 y239.length co21) _ ⟨hHeld, (ZR HO241.out), (ZN HO_237000.out), (Zb BK235.out), (Zb BK236.out), (Zh2 HB.out GE235.out GE236.out)⟩)
                 ·skip
                  refine box_step ?hg (N := 5) ?hd (cs := #[.int .i64 0, .slice none 0 0]) (t := 31) ?hr ?_; (case hd => rfl); (case hg => rfl); (case hr => first | (go_simp; done) | (go_simp; rfl))
                  intro gb242 hg w20 hbox hb
                  have n0_ := Zw (Kd.N_below (Kd.N_elderB (ZN HO_237000.out) gb242 (Nat.le_of_eq hg.symm)) hb)
                  have n1_ := Zw (Kd.R_below (ZR HO241.out) hb)
                  have n2_ := Zw (blk_below (g := gb235) (o := .cells #[.slice none 0 0] 24 (0, 0)) (Zb BK235.out) hb)
                  have n3_ := Zw (blk_below (g := gb236) (o := .cells #[u237000] 24 (0, 0)) (Zb BK236.out) hb)
                  have n4_ := Zw (below_step (Zh2 HB.out GE235.out GE236.out) hb)
                  have n5_ := Zw (hbox)
                  have n6_ := Zw ((by rw [hg]; exact (below_size (Zh2 HB.out GE235.out GE236.out)) : w.heap.size ≤ gb242))
                  have n7_ := Zw ((by rw [hg]; exact (below_size (Zh2 HB.out GE235.out GE236.out)) : w.heap.size ≤ gb242))
                  have n8_ := Zw ((by rw [hg]; exact Nat.ne_of_lt (blk_lt (Zb BK235.out)) : gb235 ≠ gb242))
                  have n9_ := Zw ((by rw [hg]; exact Nat.ne_of_gt (blk_lt (Zb BK235.out)) : gb242 ≠ gb235))
                  have n10_ := Zw ((by rw [hg]; exact Nat.ne_of_lt (blk_lt (Zb BK236.out)) : gb236 ≠ gb242))
                  have n11_ := Zw ((by rw [hg]; exact Nat.ne_of_gt (blk_lt (Zb BK236.out)) : gb242 ≠ gb236))
                  clear HO_237000
                  clear HO241
                  clear BK235
                  clear BK236
                  clear HB
                  have HO_237000 := n0_
                  have HO241 := n1_
                  have BK235 := n2_
                  have BK236 := n3_
                  have HB := n4_
                  have BK242 := n5_
                  have GW242 := n6_
                  have GE242 := n7_
                  have NB235_242 := n8_
                  have NB242_235 := n9_
                  have NB236_242 := n10_
                  have NB242_236 := n11_
                  clear n0_ n1_ n2_ n3_ n4_ n5_ n6_ n7_ n8_ n9_ n10_ n11_
                  clear hb hbox hg
                  refine hK.out _ _ (((HB.out.cell (World.block_lt_of_cell? w _ hw237_0)).trans hw237_0)) (fun hHeld => ?_)
                  clear hK K
                  refine norm_ (a' := ?_) ?_ ?_
                  rotate_left
                  ·show Act.put _ (some 5) _ = _
                   simp only [Act.put, zsA, zsZ, zsS, i64_w, i32_w]
                   rfl
                  exact norm_ (by first | (simp only [putAll, Act.put, zsA, zsZ, zsS]; done) | (simp only [putAll, Act.put, zsA, zsZ, zsS]; rfl)) (hJ6_8 (v240, gb242) _ ⟨hHeld, (ZR HO241.out), (by refine ZNk ?_; exact Kd.N_mono HO_237000.out (fun _ hk => ⟨hk.1.1, ⟨hk.1.2.1, ⟨hk.1.2.2.1, ⟨hk.1.2.2.2, hk.2⟩⟩⟩⟩)), (Zb BK235.out), (Zb BK236.out), (Zb BK242.out), GW242.out, GE242.out, NB235_242.out, NB242_235.out, NB236_242.out, NB242_236.out, (Zh3 HB.out GE235.out GE236.out GE242.out)⟩)
               ·skip
                rintro _ w18 ⟨hS_, h0_, h1_, h2_, h3_⟩
                have n0_ : Aside0 (Kd.N k31 31 w18 w.heap.size (fun k_ => (w.heap.size ≤ k_) ∧ k_ ≠ gb235 ∧ k_ ≠ gb236) u237000 x237000_1) := ⟨h0_⟩
                have n1_ : Aside0 (w18.heap[gb235]? = some (.cells #[.slice none 0 0] 24 (0, 0))) := ⟨h1_⟩
                have n2_ : Aside0 (w18.heap[gb236]? = some (.cells #[u237000] 24 (0, 0))) := ⟨h2_⟩
                have n3_ : Aside0 (Below w.heap.size w w18) := ⟨h3_⟩
                clear HO_237000
                clear BK235
                clear BK236
                clear HB
                clear h0_ h1_ h2_ h3_
                have HO_237000 := n0_
                have BK235 := n1_
                have BK236 := n2_
                have HB := n3_
                clear n0_ n1_ n2_ n3_
                have hHeld : w18.cell? (ad237.add (x4_1).toNat) = some (.int .i64 (rd l0 x4_1)) := hS_
                refine norm_ (a' := ?_) ?_ ?_
                rotate_left
                ·simp only [putAll, Act.put, zsA, zsZ, zsS]
                 rfl
                refine two_ (i := 6) (j := 8) (Ni := some 22) (Nj := some 5) #[true, true, true, true, true, true, true, false, false, false] #[true, true, true, true, true, true, false, false, true, false] rfl rfl rfl rfl (two_of HT_.out (by kernel_rfl)) (by decide) (by decide) (fun K hK => ?_) (fun K hK => ?_)
                ·skip
                 refine Kd.R_make_step (Kd.int .i64) _ 3 (by rfl) (N := 22) rfl 25 _ _ rfl 64 rfl rfl Try.underlying25 (.int .i64 0) 8 info3 rfl (by decide) (by omega) 0 (ok := fun _ => True) (okp := fun _ => True) rfl (fun _ hk => hk) trivial (by omega) (by omega) (Below.refl _ _) (Nat.le_refl _) ?_
                 intro v240 w19 ho20 hb hg_ hnew_
                 clear hg_ hnew_
                 (first | rw [← Ny239.out] at ho20 | (simp only [Int.reduceToNat] at ho20; rw [← Ny239.out] at ho20))
                 have n0_ := Zw (Kd.N_elder' (ZN HO_237000.out) (by first | exact Kd.R_base ho20 | exact Kd.S_base ho20 | exact Kd.R_base ho20 | exact Kd.N_base ho20) hb)
                 have n1_ := Zw (Kd.R_lower (Kd.R_newM (M := fun k_ => (w.heap.size ≤ k_)) ho20 (below_size (Zh2 HB.out GE235.out GE236.out)) (fun k_ h_ => h_)) (below_size (Zh2 HB.out GE235.out GE236.out)))
                 have n2_ := Zw (blk_below (g := gb235) (o := .cells #[.slice none 0 0] 24 (0, 0)) (Zb BK235.out) hb)
                 have n3_ := Zw (blk_below (g := gb236) (o := .cells #[u237000] 24 (0, 0)) (Zb BK236.out) hb)
                 have n4_ := Zw (below_step (Zh2 HB.out GE235.out GE236.out) hb)
                 clear HO_237000
                 clear BK235
                 clear BK236
                 clear HB
                 have HO_237000 := n0_
                 have HO241 := n1_
                 have BK235 := n2_
                 have BK236 := n3_
                 have HB := n4_
                 clear n0_ n1_ n2_ n3_ n4_
                 clear hb ho20
                 obtain ⟨Ao21, co21, eo21⟩ := Kd.R_slice HO241.out
                 (first | subst eo21 | (injection eo21 with f1_ f2_ f3_; have f4_ := f1_.symm; have f5_ := f3_.symm; clear f1_ f2_ f3_; subst f4_; subst f5_))
                 refine hK.out _ _ (((HB.out.cell (World.block_lt_of_cell? w _ hw237_0)).trans hw237_0)) (fun hHeld => ?_)
                 clear hK K
                 refine norm_ (a' := ?_) ?_ ?_
                 rotate_left
                 ·show Act.put _ (some 22) _ = _
                  simp only [Act.put, zsA, zsZ, zsS, i64_w, i32_w]
                  rfl
                 refine pure_ (i := 7) (N := some 23) (v := ?_) (a' := ?_) #[true, true, true, true, true, true, true, true, false, false] rfl rfl (any_of HT_.out (by kernel_rfl)) (fun _ _ _ h => h) (Or.inl ⟨by rfl, ?_⟩) ?_ ?_
                 rotate_left
                 ·intro w'
                  go_simp
                  with_reducible rfl
                 rotate_left
                 ·simp only [Act.put, zsA, zsZ, zsS, i64_w, i32_w]
                  rfl
                 exact norm_ (by first | (simp only [putAll, Act.put, zsA, zsZ, zsS]; done) | (simp only [putAll, Act.put, zsA, zsZ, zsS]; rfl)) (hJ4_6 (.slice Ao21 y239.length co21) _ ⟨hHeld, (by refine ZRk ?_; exact Kd.R_mono HO241.out (fun _ hk => hk.1)), (by refine ZNk ?_; exact Kd.N_mono HO_237000.out (fun _ hk => ⟨hk.1.1, ⟨hk.2, ⟨hk.1.2.1, hk.1.2.2⟩⟩⟩)), (Zb BK235.out), (Zb BK236.out), (Zh2 HB.out GE235.out GE236.out)⟩)
                ·skip
                 refine box_step ?hg (N := 5) ?hd (cs := #[.int .i64 0, .slice none 0 0]) (t := 31) ?hr ?_; (case hd => rfl); (case hg => rfl); (case hr => first | (go_simp; done) | (go_simp; rfl))
                 intro gb242 hg w19 hbox hb
                 have n0_ := Zw (Kd.N_below (Kd.N_elderB (ZN HO_237000.out) gb242 (Nat.le_of_eq hg.symm)) hb)
                 have n1_ := Zw (blk_below (g := gb235) (o := .cells #[.slice none 0 0] 24 (0, 0)) (Zb BK235.out) hb)
                 have n2_ := Zw (blk_below (g := gb236) (o := .cells #[u237000] 24 (0, 0)) (Zb BK236.out) hb)
                 have n3_ := Zw (below_step (Zh2 HB.out GE235.out GE236.out) hb)
                 have n4_ := Zw (hbox)
                 have n5_ := Zw ((by rw [hg]; exact (below_size (Zh2 HB.out GE235.out GE236.out)) : w.heap.size ≤ gb242))
                 have n6_ := Zw ((by rw [hg]; exact (below_size (Zh2 HB.out GE235.out GE236.out)) : w.heap.size ≤ gb242))
                 have n7_ := Zw ((by rw [hg]; exact Nat.ne_of_lt (blk_lt (Zb BK235.out)) : gb235 ≠ gb242))
                 have n8_ := Zw ((by rw [hg]; exact Nat.ne_of_gt (blk_lt (Zb BK235.out)) : gb242 ≠ gb235))
                 have n9_ := Zw ((by rw [hg]; exact Nat.ne_of_lt (blk_lt (Zb BK236.out)) : gb236 ≠ gb242))
                 have n10_ := Zw ((by rw [hg]; exact Nat.ne_of_gt (blk_lt (Zb BK236.out)) : gb242 ≠ gb236))
                 clear HO_237000
                 clear BK235
                 clear BK236
                 clear HB
                 have HO_237000 := n0_
                 have BK235 := n1_
                 have BK236 := n2_
                 have HB := n3_
                 have BK242 := n4_
                 have GW242 := n5_
                 have GE242 := n6_
                 have NB235_242 := n7_
                 have NB242_235 := n8_
                 have NB236_242 := n9_
                 have NB242_236 := n10_
                 clear n0_ n1_ n2_ n3_ n4_ n5_ n6_ n7_ n8_ n9_ n10_
                 clear hb hbox hg
                 refine hK.out _ _ (((HB.out.cell (World.block_lt_of_cell? w _ hw237_0)).trans hw237_0)) (fun hHeld => ?_)
                 clear hK K
                 refine norm_ (a' := ?_) ?_ ?_
                 rotate_left
                 ·show Act.put _ (some 5) _ = _
                  simp only [Act.put, zsA, zsZ, zsS, i64_w, i32_w]
                  rfl
                 exact norm_ (by first | (simp only [putAll, Act.put, zsA, zsZ, zsS]; done) | (simp only [putAll, Act.put, zsA, zsZ, zsS]; rfl)) (hJ4_8 (gb242) _ ⟨hHeld, (by refine ZNk ?_; exact Kd.N_mono HO_237000.out (fun _ hk => ⟨hk.1.1, ⟨hk.1.2.1, ⟨hk.1.2.2, hk.2⟩⟩⟩)), (Zb BK235.out), (Zb BK236.out), (Zb BK242.out), GW242.out, GE242.out, NB235_242.out, NB242_235.out, NB236_242.out, NB242_236.out, (Zh3 HB.out GE235.out GE236.out GE242.out)⟩)
              ·skip
               rintro ⟨v240, gb242⟩ w20 ⟨hS_, h0_, h1_, h2_, h3_, h4_, h5_, h6_, h7_, h8_, h9_, h10_, h11_⟩
               have n0_ : Aside0 (Kd.R (Kd.int .i64) 3 w20 w.heap.size (fun k_ => (w.heap.size ≤ k_)) v240 y239) := ⟨h0_⟩
               have n1_ : Aside0 (Kd.N k31 31 w20 w.heap.size (fun k_ => (w.heap.size ≤ k_) ∧ some k_ ≠ (v240 : Value).ownBlock ∧ k_ ≠ gb235 ∧ k_ ≠ gb236 ∧ k_ ≠ gb242) u237000 x237000_1) := ⟨h1_⟩
               have n2_ : Aside0 (w20.heap[gb235]? = some (.cells #[.slice none 0 0] 24 (0, 0))) := ⟨h2_⟩
               have n3_ : Aside0 (w20.heap[gb236]? = some (.cells #[u237000] 24 (0, 0))) := ⟨h3_⟩
               have n4_ : Aside0 (w20.heap[gb242]? = some (.cells #[.int .i64 0, .slice none 0 0] 31 (0, 0))) := ⟨h4_⟩
               have n5_ : Aside0 (w.heap.size ≤ gb242) := ⟨h5_⟩
               have n6_ : Aside0 (w.heap.size ≤ gb242) := ⟨h6_⟩
               have n7_ : Aside0 (gb235 ≠ gb242) := ⟨h7_⟩
               have n8_ : Aside0 (gb242 ≠ gb235) := ⟨h8_⟩
               have n9_ : Aside0 (gb236 ≠ gb242) := ⟨h9_⟩
               have n10_ : Aside0 (gb242 ≠ gb236) := ⟨h10_⟩
               have n11_ : Aside0 (Below w.heap.size w w20) := ⟨h11_⟩
               clear HO_237000
               clear BK235
               clear BK236
               clear HB
               clear h0_ h1_ h2_ h3_ h4_ h5_ h6_ h7_ h8_ h9_ h10_ h11_
               have HO241 := n0_
               have HO_237000 := n1_
               have BK235 := n2_
               have BK236 := n3_
               have BK242 := n4_
               have GW242 := n5_
               have GE242 := n6_
               have NB235_242 := n7_
               have NB242_235 := n8_
               have NB236_242 := n9_
               have NB242_236 := n10_
               have HB := n11_
               clear n0_ n1_ n2_ n3_ n4_ n5_ n6_ n7_ n8_ n9_ n10_ n11_
               have hHeld : w20.cell? (ad237.add (x4_1).toNat) = some (.int .i64 (rd l0 x4_1)) := hS_
               refine norm_ (a' := ?_) ?_ ?_
               rotate_left
               ·simp only [putAll, Act.put, zsA, zsZ, zsS]
                rfl
               refine one_ (i := 4) (N := some 20) #[true, true, true, true, true, false, true, false, true, false] rfl rfl (one_of HT_.out (by kernel_rfl)) (by decide) (fun K hK => ?_)
               refine goes_ Try.func13 (by kernel_rfl) rfl #[.int .i64 (rd l0 x4_1), .int .i64 12] (by rfl) rfl rfl Zm ?_
               with_reducible refine (debuggerkit_Mod.calls (rd l0 x4_1) 12 t238 _ A9.out).mono ?_
               rintro e w21 ⟨rfl, hb⟩
               refine ⟨_, rfl, ?_⟩
               have n0_ := Zw (Kd.N_below (ZN HO_237000.out) hb)
               have n1_ := Zw (Kd.R_below (ZR HO241.out) hb)
               have n2_ := Zw (blk_below (g := gb235) (o := .cells #[.slice none 0 0] 24 (0, 0)) (Zb BK235.out) hb)
               have n3_ := Zw (blk_below (g := gb236) (o := .cells #[u237000] 24 (0, 0)) (Zb BK236.out) hb)
               have n4_ := Zw (blk_below (g := gb242) (o := .cells #[.int .i64 0, .slice none 0 0] 31 (0, 0)) (Zb BK242.out) hb)
               have n5_ := Zw (below_step (Zh3 HB.out GE235.out GE236.out GE242.out) hb)
               clear HO_237000
               clear HO241
               clear BK235
               clear BK236
               clear BK242
               clear HB
               have HO_237000 := n0_
               have HO241 := n1_
               have BK235 := n2_
               have BK236 := n3_
               have BK242 := n4_
               have HB := n5_
               clear n0_ n1_ n2_ n3_ n4_ n5_
               (try clear hb)
               (try clear hb2)
               (try clear hk)
               (try clear hi)
               obtain ⟨Ao22, co22, eo22⟩ := Kd.R_slice HO241.out
               (first | subst eo22 | (injection eo22 with f1_ f2_ f3_; have f4_ := f1_.symm; have f5_ := f3_.symm; clear f1_ f2_ f3_; subst f4_; subst f5_))
               refine hK.out _ _ (((HB.out.cell (World.block_lt_of_cell? w _ hw237_0)).trans hw237_0)) (fun hHeld => ?_)
               clear hK K
               refine norm_ (a' := ?_) ?_ ?_
               rotate_left
               ·show Act.put _ (some 20) _ = _
                simp only [Act.put, zsA, zsZ, zsS, i64_w, i32_w]
                rfl
               refine pure_ (i := 5) (N := some 21) (v := ?_) (a' := ?_) #[true, true, true, true, true, true, true, false, true, false] rfl rfl (any_of HT_.out (by kernel_rfl)) (fun _ _ _ h => h) (Or.inl ⟨by rfl, ?_⟩) ?_ ?_
               rotate_left
               ·intro w'
                go_simp
                with_reducible rfl
               rotate_left
               ·simp only [Act.put, zsA, zsZ, zsS, i64_w, i32_w]
                rfl
               refine pure_ (i := 7) (N := some 23) (v := ?_) (a' := ?_) #[true, true, true, true, true, true, true, true, true, false] rfl rfl (any_of HT_.out (by kernel_rfl)) (fun _ _ _ h => h) (Or.inl ⟨by rfl, ?_⟩) ?_ ?_
               rotate_left
               ·intro w'
                go_simp
                with_reducible rfl
               rotate_left
               ·simp only [Act.put, zsA, zsZ, zsS, i64_w, i32_w]
                rfl
               exact norm_ (by first | (simp only [putAll, Act.put, zsA, zsZ, zsS]; done) | (simp only [putAll, Act.put, zsA, zsZ, zsS]; rfl)) (hJ4_6_8 (.slice Ao22 y239.length co22, gb242) _ ⟨hHeld, (ZR HO241.out), (ZN HO_237000.out), (Zb BK235.out), (Zb BK236.out), (Zb BK242.out), GW242.out, GE242.out, NB235_242.out, NB242_235.out, NB236_242.out, NB242_236.out, (Zh3 HB.out GE235.out GE236.out GE242.out)⟩)
             ·skip
              rintro gb242 w19 ⟨hS_, h0_, h1_, h2_, h3_, h4_, h5_, h6_, h7_, h8_, h9_, h10_⟩
              have n0_ : Aside0 (Kd.N k31 31 w19 w.heap.size (fun k_ => (w.heap.size ≤ k_) ∧ k_ ≠ gb235 ∧ k_ ≠ gb236 ∧ k_ ≠ gb242) u237000 x237000_1) := ⟨h0_⟩
              have n1_ : Aside0 (w19.heap[gb235]? = some (.cells #[.slice none 0 0] 24 (0, 0))) := ⟨h1_⟩
              have n2_ : Aside0 (w19.heap[gb236]? = some (.cells #[u237000] 24 (0, 0))) := ⟨h2_⟩
              have n3_ : Aside0 (w19.heap[gb242]? = some (.cells #[.int .i64 0, .slice none 0 0] 31 (0, 0))) := ⟨h3_⟩
              have n4_ : Aside0 (w.heap.size ≤ gb242) := ⟨h4_⟩
              have n5_ : Aside0 (w.heap.size ≤ gb242) := ⟨h5_⟩
              have n6_ : Aside0 (gb235 ≠ gb242) := ⟨h6_⟩
              have n7_ : Aside0 (gb242 ≠ gb235) := ⟨h7_⟩
              have n8_ : Aside0 (gb236 ≠ gb242) := ⟨h8_⟩
              have n9_ : Aside0 (gb242 ≠ gb236) := ⟨h9_⟩
              have n10_ : Aside0 (Below w.heap.size w w19) := ⟨h10_⟩
              clear HO_237000
              clear BK235
              clear BK236
              clear HB
              clear h0_ h1_ h2_ h3_ h4_ h5_ h6_ h7_ h8_ h9_ h10_
              have HO_237000 := n0_
              have BK235 := n1_
              have BK236 := n2_
              have BK242 := n3_
              have GW242 := n4_
              have GE242 := n5_
              have NB235_242 := n6_
              have NB242_235 := n7_
              have NB236_242 := n8_
              have NB242_236 := n9_
              have HB := n10_
              clear n0_ n1_ n2_ n3_ n4_ n5_ n6_ n7_ n8_ n9_ n10_
              have hHeld : w19.cell? (ad237.add (x4_1).toNat) = some (.int .i64 (rd l0 x4_1)) := hS_
              refine norm_ (a' := ?_) ?_ ?_
              rotate_left
              ·simp only [putAll, Act.put, zsA, zsZ, zsS]
               rfl
              refine one_ (i := 6) (N := some 22) #[true, true, true, true, true, true, true, false, true, false] rfl rfl (one_of HT_.out (by kernel_rfl)) (by decide) (fun K hK => ?_)
              refine Kd.R_make_step (Kd.int .i64) _ 3 (by rfl) (N := 22) rfl 25 _ _ rfl 64 rfl rfl Try.underlying25 (.int .i64 0) 8 info3 rfl (by decide) (by omega) 0 (ok := fun _ => True) (okp := fun _ => True) rfl (fun _ hk => hk) trivial (by omega) (by omega) (Below.refl _ _) (Nat.le_refl _) ?_
              intro v240 w20 ho21 hb hg_ hnew_
              clear hg_ hnew_
              (first | rw [← Ny239.out] at ho21 | (simp only [Int.reduceToNat] at ho21; rw [← Ny239.out] at ho21))
              have n0_ := Zw (Kd.N_elder' (ZN HO_237000.out) (by first | exact Kd.R_base ho21 | exact Kd.S_base ho21 | exact Kd.R_base ho21 | exact Kd.N_base ho21) hb)
              have n1_ := Zw (Kd.R_lower (Kd.R_newM (M := fun k_ => (w.heap.size ≤ k_)) ho21 (below_size (Zh3 HB.out GE235.out GE236.out GE242.out)) (fun k_ h_ => h_)) (below_size (Zh3 HB.out GE235.out GE236.out GE242.out)))
              have n2_ := Zw (blk_below (g := gb235) (o := .cells #[.slice none 0 0] 24 (0, 0)) (Zb BK235.out) hb)
              have n3_ := Zw (blk_below (g := gb236) (o := .cells #[u237000] 24 (0, 0)) (Zb BK236.out) hb)
              have n4_ := Zw (blk_below (g := gb242) (o := .cells #[.int .i64 0, .slice none 0 0] 31 (0, 0)) (Zb BK242.out) hb)
              have n5_ := Zw (below_step (Zh3 HB.out GE235.out GE236.out GE242.out) hb)
              clear HO_237000
              clear BK235
              clear BK236
              clear BK242
              clear HB
              have HO_237000 := n0_
              have HO241 := n1_
              have BK235 := n2_
              have BK236 := n3_
              have BK242 := n4_
              have HB := n5_
              clear n0_ n1_ n2_ n3_ n4_ n5_
              clear hb ho21
              obtain ⟨Ao22, co22, eo22⟩ := Kd.R_slice HO241.out
              (first | subst eo22 | (injection eo22 with f1_ f2_ f3_; have f4_ := f1_.symm; have f5_ := f3_.symm; clear f1_ f2_ f3_; subst f4_; subst f5_))
              refine hK.out _ _ (((HB.out.cell (World.block_lt_of_cell? w _ hw237_0)).trans hw237_0)) (fun hHeld => ?_)
              clear hK K
              refine norm_ (a' := ?_) ?_ ?_
              rotate_left
              ·show Act.put _ (some 22) _ = _
               simp only [Act.put, zsA, zsZ, zsS, i64_w, i32_w]
               rfl
              refine pure_ (i := 7) (N := some 23) (v := ?_) (a' := ?_) #[true, true, true, true, true, true, true, true, true, false] rfl rfl (any_of HT_.out (by kernel_rfl)) (fun _ _ _ h => h) (Or.inl ⟨by rfl, ?_⟩) ?_ ?_
              rotate_left
              ·intro w'
               go_simp
               with_reducible rfl
              rotate_left
              ·simp only [Act.put, zsA, zsZ, zsS, i64_w, i32_w]
               rfl
              exact norm_ (by first | (simp only [putAll, Act.put, zsA, zsZ, zsS]; done) | (simp only [putAll, Act.put, zsA, zsZ, zsS]; rfl)) (hJ4_6_8 (.slice Ao22 y239.length co22, gb242) _ ⟨hHeld, (by refine ZRk ?_; exact Kd.R_mono HO241.out (fun _ hk => hk.1)), (by refine ZNk ?_; exact Kd.N_mono HO_237000.out (fun _ hk => ⟨hk.1.1, ⟨hk.2, ⟨hk.1.2.1, ⟨hk.1.2.2.1, hk.1.2.2.2⟩⟩⟩⟩)), (Zb BK235.out), (Zb BK236.out), (Zb BK242.out), GW242.out, GE242.out, NB235_242.out, NB242_235.out, NB236_242.out, NB242_236.out, (Zh3 HB.out GE235.out GE236.out GE242.out)⟩)
            ·skip
             rintro v240 w21 ⟨hS_, h0_, h1_, h2_, h3_, h4_⟩
             have n0_ : Aside0 (Kd.R (Kd.int .i64) 3 w21 w.heap.size (fun k_ => (w.heap.size ≤ k_)) v240 y239) := ⟨h0_⟩
             have n1_ : Aside0 (Kd.N k31 31 w21 w.heap.size (fun k_ => (w.heap.size ≤ k_) ∧ some k_ ≠ (v240 : Value).ownBlock ∧ k_ ≠ gb235 ∧ k_ ≠ gb236) u237000 x237000_1) := ⟨h1_⟩
             have n2_ : Aside0 (w21.heap[gb235]? = some (.cells #[.slice none 0 0] 24 (0, 0))) := ⟨h2_⟩
             have n3_ : Aside0 (w21.heap[gb236]? = some (.cells #[u237000] 24 (0, 0))) := ⟨h3_⟩
             have n4_ : Aside0 (Below w.heap.size w w21) := ⟨h4_⟩
             clear HO_237000
             clear BK235
             clear BK236
             clear HB
             clear h0_ h1_ h2_ h3_ h4_
             have HO241 := n0_
             have HO_237000 := n1_
             have BK235 := n2_
             have BK236 := n3_
             have HB := n4_
             clear n0_ n1_ n2_ n3_ n4_
             have hHeld : w21.cell? (ad237.add (x4_1).toNat) = some (.int .i64 (rd l0 x4_1)) := hS_
             obtain ⟨Ao22, co22, eo22⟩ := Kd.R_slice HO241.out
             (first | subst eo22 | (injection eo22 with f1_ f2_ f3_; have f4_ := f1_.symm; have f5_ := f3_.symm; clear f1_ f2_ f3_; subst f4_; subst f5_))
             refine norm_ (a' := ?_) ?_ ?_
             rotate_left
             ·simp only [putAll, Act.put, zsA, zsZ, zsS]
              rfl
             refine one_ (i := 8) (N := some 5) #[true, true, true, true, true, true, true, true, true, false] rfl rfl (one_of HT_.out (by kernel_rfl)) (by decide) (fun K hK => ?_)
             refine box_step ?hg (N := 5) ?hd (cs := #[.int .i64 0, .slice none 0 0]) (t := 31) ?hr ?_; (case hd => rfl); (case hg => rfl); (case hr => first | (go_simp; done) | (go_simp; rfl))
             intro gb242 hg w23 hbox hb
             have n0_ := Zw (Kd.N_below (Kd.N_elderB (ZN HO_237000.out) gb242 (Nat.le_of_eq hg.symm)) hb)
             have n1_ := Zw (Kd.R_below (ZR HO241.out) hb)
             have n2_ := Zw (blk_below (g := gb235) (o := .cells #[.slice none 0 0] 24 (0, 0)) (Zb BK235.out) hb)
             have n3_ := Zw (blk_below (g := gb236) (o := .cells #[u237000] 24 (0, 0)) (Zb BK236.out) hb)
             have n4_ := Zw (below_step (Zh2 HB.out GE235.out GE236.out) hb)
             have n5_ := Zw (hbox)
             have n6_ := Zw ((by rw [hg]; exact (below_size (Zh2 HB.out GE235.out GE236.out)) : w.heap.size ≤ gb242))
             have n7_ := Zw ((by rw [hg]; exact (below_size (Zh2 HB.out GE235.out GE236.out)) : w.heap.size ≤ gb242))
             have n8_ := Zw ((by rw [hg]; exact Nat.ne_of_lt (blk_lt (Zb BK235.out)) : gb235 ≠ gb242))
             have n9_ := Zw ((by rw [hg]; exact Nat.ne_of_gt (blk_lt (Zb BK235.out)) : gb242 ≠ gb235))
             have n10_ := Zw ((by rw [hg]; exact Nat.ne_of_lt (blk_lt (Zb BK236.out)) : gb236 ≠ gb242))
             have n11_ := Zw ((by rw [hg]; exact Nat.ne_of_gt (blk_lt (Zb BK236.out)) : gb242 ≠ gb236))
             clear HO_237000
             clear HO241
             clear BK235
             clear BK236
             clear HB
             have HO_237000 := n0_
             have HO241 := n1_
             have BK235 := n2_
             have BK236 := n3_
             have HB := n4_
             have BK242 := n5_
             have GW242 := n6_
             have GE242 := n7_
             have NB235_242 := n8_
             have NB242_235 := n9_
             have NB236_242 := n10_
             have NB242_236 := n11_
             clear n0_ n1_ n2_ n3_ n4_ n5_ n6_ n7_ n8_ n9_ n10_ n11_
             clear hb hbox hg
             refine hK.out _ _ (((HB.out.cell (World.block_lt_of_cell? w _ hw237_0)).trans hw237_0)) (fun hHeld => ?_)
             clear hK K
             refine norm_ (a' := ?_) ?_ ?_
             rotate_left
             ·show Act.put _ (some 5) _ = _
              simp only [Act.put, zsA, zsZ, zsS, i64_w, i32_w]
              rfl
             exact norm_ (by first | (simp only [putAll, Act.put, zsA, zsZ, zsS]; done) | (simp only [putAll, Act.put, zsA, zsZ, zsS]; rfl)) (hJ4_6_8 (.slice Ao22 y239.length co22, gb242) _ ⟨hHeld, (ZR HO241.out), (by refine ZNk ?_; exact Kd.N_mono HO_237000.out (fun _ hk => ⟨hk.1.1, ⟨hk.1.2.1, ⟨hk.1.2.2.1, ⟨hk.1.2.2.2, hk.2⟩⟩⟩⟩)), (Zb BK235.out), (Zb BK236.out), (Zb BK242.out), GW242.out, GE242.out, NB235_242.out, NB242_235.out, NB236_242.out, NB242_236.out, (Zh3 HB.out GE235.out GE236.out GE242.out)⟩)
           rintro ⟨v240, gb242⟩ w22 ⟨hS_, h0_, h1_, h2_, h3_, h4_, h5_, h6_, h7_, h8_, h9_, h10_, h11_⟩
           have n0_ : Aside0 (Kd.R (Kd.int .i64) 3 w22 w.heap.size (fun k_ => (w.heap.size ≤ k_)) v240 y239) := ⟨h0_⟩
           have n1_ : Aside0 (Kd.N k31 31 w22 w.heap.size (fun k_ => (w.heap.size ≤ k_) ∧ some k_ ≠ (v240 : Value).ownBlock ∧ k_ ≠ gb235 ∧ k_ ≠ gb236 ∧ k_ ≠ gb242) u237000 x237000_1) := ⟨h1_⟩
           have n2_ : Aside0 (w22.heap[gb235]? = some (.cells #[.slice none 0 0] 24 (0, 0))) := ⟨h2_⟩
           have n3_ : Aside0 (w22.heap[gb236]? = some (.cells #[u237000] 24 (0, 0))) := ⟨h3_⟩
           have n4_ : Aside0 (w22.heap[gb242]? = some (.cells #[.int .i64 0, .slice none 0 0] 31 (0, 0))) := ⟨h4_⟩
           have n5_ : Aside0 (w.heap.size ≤ gb242) := ⟨h5_⟩
           have n6_ : Aside0 (w.heap.size ≤ gb242) := ⟨h6_⟩
           have n7_ : Aside0 (gb235 ≠ gb242) := ⟨h7_⟩
           have n8_ : Aside0 (gb242 ≠ gb235) := ⟨h8_⟩
           have n9_ : Aside0 (gb236 ≠ gb242) := ⟨h9_⟩
           have n10_ : Aside0 (gb242 ≠ gb236) := ⟨h10_⟩
           have n11_ : Aside0 (Below w.heap.size w w22) := ⟨h11_⟩
           clear HO_237000
           clear BK235
           clear BK236
           clear HB
           clear h0_ h1_ h2_ h3_ h4_ h5_ h6_ h7_ h8_ h9_ h10_ h11_
           have HO241 := n0_
           have HO_237000 := n1_
           have BK235 := n2_
           have BK236 := n3_
           have BK242 := n4_
           have GW242 := n5_
           have GE242 := n6_
           have NB235_242 := n7_
           have NB242_235 := n8_
           have NB236_242 := n9_
           have NB242_236 := n10_
           have HB := n11_
           clear n0_ n1_ n2_ n3_ n4_ n5_ n6_ n7_ n8_ n9_ n10_ n11_
           have hHeld : w22.cell? (ad237.add (x4_1).toNat) = some (.int .i64 (rd l0 x4_1)) := hS_
           obtain ⟨Ao23, co23, eo23⟩ := Kd.R_slice HO241.out
           (first | subst eo23 | (injection eo23 with f1_ f2_ f3_; have f4_ := f1_.symm; have f5_ := f3_.symm; clear f1_ f2_ f3_; subst f4_; subst f5_))
           refine norm_ (a' := ?_) ?_ ?_
           rotate_left
           ·simp only [putAll, Act.put, zsA, zsZ, zsS]
            rfl
           refine one_ (i := 9) (N := none) #[true, true, true, true, true, true, true, true, true, true] rfl rfl (one_of HT_.out (by kernel_rfl)) (by decide) (fun K hK => ?_)
           have hs24 : w22.cell? ⟨gb242, 0, none⟩ = some (.int .i64 0) := (blk_cell BK242.out 0).trans rfl
           have hfs24 := blk_frozen BK242.out 0
           have hns24_0 := NB235_242.out
           have hns24_1 := NB236_242.out
           have hms24_0 := NB242_235.out
           have hms24_1 := NB242_236.out
           have hs25 : w22.cell? ⟨gb242, 1, none⟩ = some (.slice none 0 0) := (blk_cell BK242.out 1).trans rfl
           have hfs25 := blk_frozen BK242.out 1
           have hns25_0 := NB235_242.out
           have hns25_1 := NB236_242.out
           have hms25_0 := NB242_235.out
           have hms25_1 := NB242_236.out
           refine skip_ (w1 := ?_) (by rfl) rfl ?_ ?_
           rotate_left
           ·go_simp
            rfl
           refine hK.out _ _ (((cell_far (p := ⟨gb242, _, none⟩) (by first | exact Nat.ne_of_lt (Nat.lt_of_lt_of_le (by have := World.block_lt_of_cell? _ _ hw237_0; first | rwa [add_block] at this | exact this) GW242.out) | (rw [add_block]; exact Nat.ne_of_lt (Nat.lt_of_lt_of_le (by have := World.block_lt_of_cell? _ _ hw237_0; first | rwa [add_block] at this | exact this) GW242.out)) | (show (Addr.add _ _).block ≠ _; rw [add_block]; exact Nat.ne_of_lt (Nat.lt_of_lt_of_le (by have := World.block_lt_of_cell? _ _ hw237_0; first | rwa [add_block] at this | exact this) GW242.out)) | (dsimp only; exact Nat.ne_of_lt (Nat.lt_of_lt_of_le (by have := World.block_lt_of_cell? _ _ hw237_0; first | rwa [add_block] at this | exact this) GW242.out))) _).trans (((cell_far (p := ⟨gb242, _, none⟩) (by first | exact Nat.ne_of_lt (Nat.lt_of_lt_of_le (by have := World.block_lt_of_cell? _ _ hw237_0; first | rwa [add_block] at this | exact this) GW242.out) | (rw [add_block]; exact Nat.ne_of_lt (Nat.lt_of_lt_of_le (by have := World.block_lt_of_cell? _ _ hw237_0; first | rwa [add_block] at this | exact this) GW242.out)) | (show (Addr.add _ _).block ≠ _; rw [add_block]; exact Nat.ne_of_lt (Nat.lt_of_lt_of_le (by have := World.block_lt_of_cell? _ _ hw237_0; first | rwa [add_block] at this | exact this) GW242.out)) | (dsimp only; exact Nat.ne_of_lt (Nat.lt_of_lt_of_le (by have := World.block_lt_of_cell? _ _ hw237_0; first | rwa [add_block] at this | exact this) GW242.out))) _).trans (hHeld))))) (fun hHeld => ?_)
           clear hK K
           refine done_ (done_of HT_.out (by kernel_rfl)) ?_
           try go_wp2
           have n0_ : Aside0 (Kd.N k31 31 ((w22.setCell ⟨gb242, 0, none⟩ (.int .i64 (wrap64 (t238 * 64)))).setCell ⟨gb242, 1, none⟩ (.slice Ao23 y239.length co23)) w.heap.size (fun k_ => (w.heap.size ≤ k_) ∧ some k_ ≠ (.slice Ao23 y239.length co23 : Value).ownBlock ∧ k_ ≠ gb235 ∧ k_ ≠ gb236 ∧ k_ ≠ gb242) u237000 x237000_1) := ⟨by refine ZNk ?_; exact Kd.N_mono (Kd.N_far (p := ⟨gb242, 1, none⟩) (Kd.N_far (p := ⟨gb242, 0, none⟩) (Kd.N_mono HO_237000.out (fun k_ hk => (⟨hk, hk.2.2.2.2⟩ : _ ∧ k_ ≠ gb242))) (fun _ hk => hk.2) (.int .i64 (wrap64 (t238 * 64)))) (fun _ hk => hk.2) (.slice Ao23 y239.length co23)) (fun _ hk => ⟨hk.1.1, ⟨hk.1.2.1, ⟨hk.1.2.2.1, ⟨hk.1.2.2.2.1, hk.1.2.2.2.2⟩⟩⟩⟩)⟩
           have n1_ : Aside0 (Kd.R (Kd.int .i64) 3 ((w22.setCell ⟨gb242, 0, none⟩ (.int .i64 (wrap64 (t238 * 64)))).setCell ⟨gb242, 1, none⟩ (.slice Ao23 y239.length co23)) w.heap.size (fun k_ => (w.heap.size ≤ k_)) (.slice Ao23 y239.length co23) y239) := ⟨by refine ZRk ?_; exact Kd.R_mono (Kd.R_far (p := ⟨gb242, 1, none⟩) (Kd.R_far (p := ⟨gb242, 0, none⟩) (Kd.R_types HO241.out BK242.out (by decide)) (fun _ hk => hk.2) (.int .i64 (wrap64 (t238 * 64)))) (fun _ hk => hk.2) (.slice Ao23 y239.length co23)) (fun _ hk => hk.1)⟩
           have n2_ : Aside0 (((w22.setCell ⟨gb242, 0, none⟩ (.int .i64 (wrap64 (t238 * 64)))).setCell ⟨gb242, 1, none⟩ (.slice Ao23 y239.length co23)).heap[gb235]? = some (.cells #[.slice none 0 0] 24 (0, 0))) := ⟨by refine Zbk ?_; refine blk_far ?_ NB235_242.out _; refine Zbk ?_; refine blk_far ?_ NB235_242.out _; refine Zbk ?_; exact BK235.out⟩
           have n3_ : Aside0 (((w22.setCell ⟨gb242, 0, none⟩ (.int .i64 (wrap64 (t238 * 64)))).setCell ⟨gb242, 1, none⟩ (.slice Ao23 y239.length co23)).heap[gb236]? = some (.cells #[u237000] 24 (0, 0))) := ⟨by refine Zbk ?_; refine blk_far ?_ NB236_242.out _; refine Zbk ?_; refine blk_far ?_ NB236_242.out _; refine Zbk ?_; exact BK236.out⟩
           have n4_ : Aside0 (((w22.setCell ⟨gb242, 0, none⟩ (.int .i64 (wrap64 (t238 * 64)))).setCell ⟨gb242, 1, none⟩ (.slice Ao23 y239.length co23)).heap[gb242]? = some (.cells #[.int .i64 (wrap64 (t238 * 64)), .slice Ao23 y239.length co23] 31 (0, 0))) := ⟨by refine Zbk ?_; refine blk_put (cs := #[.int .i64 (wrap64 (t238 * 64)), .slice none 0 0]) ?_ 1 _ rfl; refine Zbk ?_; refine blk_put (cs := #[.int .i64 0, .slice none 0 0]) ?_ 0 _ rfl; refine Zbk ?_; exact BK242.out⟩
           have n5_ : Aside0 (Below w.heap.size w ((w22.setCell ⟨gb242, 0, none⟩ (.int .i64 (wrap64 (t238 * 64)))).setCell ⟨gb242, 1, none⟩ (.slice Ao23 y239.length co23))) := ⟨Zh3 HB.out GE235.out GE236.out GE242.out⟩
           (try clear HO_237000)
           (try clear HO241)
           (try clear BK235)
           (try clear BK236)
           (try clear BK242)
           (try clear HB)
           generalize ((w22.setCell ⟨gb242, 0, none⟩ (.int .i64 (wrap64 (t238 * 64)))).setCell ⟨gb242, 1, none⟩ (.slice Ao23 y239.length co23)) = w26 at n0_ n1_ n2_ n3_ n4_ n5_ ⊢
           have HO_237000 := n0_
           have HO241 := n1_
           have BK235 := n2_
           have BK236 := n3_
           have BK242 := n4_
           have HB := n5_
           clear n0_ n1_ n2_ n3_ n4_ n5_
           have n0_ := Zw (Kd.N_drew HO_237000.out)
           have n1_ := Zw (Kd.R_drew HO241.out)
           have n2_ := Zw (blk_drew BK235.out)
           have n3_ := Zw (blk_drew BK236.out)
           have n4_ := Zw (blk_drew BK242.out)
           have n5_ := Zw (below_drew1 HB.out)
           clear HO_237000
           clear HO241
           clear BK235
           clear BK236
           clear BK242
           clear HB
           have HO_237000 := n0_
           have HO241 := n1_
           have BK235 := n2_
           have BK236 := n3_
           have BK242 := n4_
           have HB := n5_
           clear n0_ n1_ n2_ n3_ n4_ n5_
           have p243 : 0 ≤ (x4_1 : Int) := of_decide_eq_true Za
           have q243 : x4_1 < (l0.length : Int) := of_decide_eq_true Za
           obtain ⟨ad243, e243, hx243_0⟩ := Kd.at_int HR0.out x4_1 p243 q243
           have hw243_0 := hx243_0
           obtain rfl : ad237 = ad243 := (by injection e243)
           replace hx243_0 := Zl HB.out hx243_0
           replace p243 := eq_true p243
           replace q243 := eq_true q243
           have p245 : 0 ≤ (x4_1 : Int) := of_decide_eq_true Za
           have q245 : x4_1 < (l0.length : Int) := of_decide_eq_true Za
           obtain ⟨ad245, e245, hx245_0⟩ := Kd.at_int HR0.out x4_1 p245 q245
           have hw245_0 := hx245_0
           obtain rfl : ad237 = ad245 := (by injection e245)
           replace hx245_0 := Zl HB.out hx245_0
           replace p245 := eq_true p245
           replace q245 := eq_true q245
           refine start_ (n := 13) (S := fun w' => w'.cell? ⟨gb242, 0, none⟩ = some (.int .i64 (wrap64 (t238 * 64))) ∧ w'.cell? ⟨gb242, 1, none⟩ = some (.slice Ao23 y239.length co23) ∧ w'.cell? (ad237.add (x4_1).toNat) = some (.int .i64 (rd l0 x4_1)) ∧ w'.cell? (ad237.add (x4_1).toNat) = some (.int .i64 (rd l0 x4_1))) (ds := [12]) #[false, false, false, false, false, false, false, false, false, false, false, false, false] (by kernel_rfl) rfl rfl ⟨(blk_cell BK242.out 0).trans rfl, (blk_cell BK242.out 1).trans rfl, ((HB.out.cell (World.block_lt_of_cell? w _ hw243_0)).trans hw243_0), ((HB.out.cell (World.block_lt_of_cell? w _ hw245_0)).trans hw245_0)⟩ (fun hHeld => ?_); refine with_tabW debuggerlaw25_some.tab6 debuggerlaw25_some.bits6 (fun HT_ HW_ => ?_)
           generalize w26.drew = w27 at HO_237000 HO241 BK235 BK236 BK242 HB hx243_0 hx245_0 hHeld ⊢
           refine pure_ (i := 0) (N := some 24) (v := ?_) (a' := ?_) #[true, false, false, false, false, false, false, false, false, false, false, false, false] rfl rfl (any_of HT_.out (by kernel_rfl)) (fun _ _ _ h => h) (Or.inl ⟨by rfl, ?_⟩) ?_ ?_
           rotate_left
           ·intro w'
            go_simp
            with_reducible rfl
           rotate_left
           ·simp only [Act.put, zsA, zsZ, zsS, i64_w, i32_w]
            rfl
           refine pure_ (i := 2) (N := some 26) (v := ?_) (a' := ?_) #[true, false, true, false, false, false, false, false, false, false, false, false, false] rfl rfl (any_of HT_.out (by kernel_rfl)) (fun _ _ _ h => h) (Or.inl ⟨by rfl, ?_⟩) ?_ ?_
           rotate_left
           ·intro w'
            go_simp
            with_reducible rfl
           rotate_left
           ·simp only [Act.put, zsA, zsZ, zsS, i64_w, i32_w]
            rfl
           refine pure_ (i := 3) (N := some 27) (v := ?_) (a' := ?_) #[true, false, true, true, false, false, false, false, false, false, false, false, false] rfl rfl (any_of HT_.out (by kernel_rfl)) (fun _ _ _ h => h) (Or.inl ⟨by rfl, ?_⟩) ?_ ?_
           rotate_left
           ·intro w'
            go_simp
            with_reducible rfl
           rotate_left
           ·simp only [Act.put, zsA, zsZ, zsS, i64_w, i32_w]
            rfl
           refine pure_ (i := 4) (N := some 28) (v := ?_) (a' := ?_) #[true, false, true, true, true, false, false, false, false, false, false, false, false] rfl rfl (any_of HT_.out (by kernel_rfl)) (fun _ _ _ h => h) (Or.inl ⟨by rfl, ?_⟩) ?_ ?_
           rotate_left
           ·intro w'
            go_simp
            with_reducible rfl
           rotate_left
           ·simp only [Act.put, zsA, zsZ, zsS, i64_w, i32_w]
            rfl
           refine pure_ (i := 7) (N := some 31) (v := ?_) (a' := ?_) #[true, false, true, true, true, false, false, true, false, false, false, false, false] rfl rfl (any_of HT_.out (by kernel_rfl)) (fun _ _ _ h => h) (Or.inl ⟨by rfl, ?_⟩) ?_ ?_
           rotate_left
           ·intro w'
            go_simp
            with_reducible rfl
           rotate_left
           ·simp only [Act.put, zsA, zsZ, zsS, i64_w, i32_w]
            rfl
           refine pure_ (i := 8) (N := some 32) (v := ?_) (a' := ?_) #[true, false, true, true, true, false, false, true, true, false, false, false, false] rfl rfl (any_of HT_.out (by kernel_rfl)) (fun _ _ _ h => h) (Or.inl ⟨by rfl, ?_⟩) ?_ ?_
           rotate_left
           ·intro w'
            go_simp
            with_reducible rfl
           rotate_left
           ·simp only [Act.put, zsA, zsZ, zsS, i64_w, i32_w]
            rfl
           refine pure_ (i := 9) (N := some 33) (v := ?_) (a' := ?_) #[true, false, true, true, true, false, false, true, true, true, false, false, false] rfl rfl (any_of HT_.out (by kernel_rfl)) (fun _ _ _ h => h) (Or.inl ⟨by rfl, ?_⟩) ?_ ?_
           rotate_left
           ·intro w'
            go_simp
            with_reducible rfl
           rotate_left
           ·simp only [Act.put, zsA, zsZ, zsS, i64_w, i32_w]
            rfl
           refine take_ (i := 1) (N := some 25) (v := ?_) (a' := ?_) #[true, true, true, true, true, false, false, true, true, true, false, false, false] rfl rfl (take_ofW HT_.out HW_.out (by kernel_rfl)) (fun _ _ _ h => h) (Or.inl ⟨by rfl, ?_⟩) hHeld ?_ ?_
           rotate_left
           ·rintro w' ⟨s0, s1, s2, s3⟩
            go_simp
            with_reducible rfl
           rotate_left
           ·simp only [Act.put, zsA, zsZ, zsS, i64_w, i32_w]
            rfl
           refine take_ (i := 5) (N := some 29) (v := ?_) (a' := ?_) #[true, true, true, true, true, true, false, true, true, true, false, false, false] rfl rfl (take_ofW HT_.out HW_.out (by kernel_rfl)) (fun _ _ _ h => h) (Or.inl ⟨by rfl, ?_⟩) hHeld ?_ ?_
           rotate_left
           ·rintro w' ⟨s0, s1, s2, s3⟩
            go_simp
            with_reducible rfl
           rotate_left
           ·simp only [Act.put, zsA, zsZ, zsS, i64_w, i32_w]
            rfl
           refine take_ (i := 10) (N := some 34) (v := ?_) (a' := ?_) #[true, true, true, true, true, true, false, true, true, true, true, false, false] rfl rfl (take_ofW HT_.out HW_.out (by kernel_rfl)) (fun _ _ _ h => h) (Or.inl ⟨by rfl, ?_⟩) hHeld ?_ ?_
           rotate_left
           ·rintro w' ⟨s0, s1, s2, s3⟩
            go_simp
            with_reducible rfl
           rotate_left
           ·simp only [Act.put, zsA, zsZ, zsS, i64_w, i32_w]
            rfl
           refine one_ (i := 6) (N := some 30) #[true, true, true, true, true, true, true, true, true, true, true, false, false] rfl rfl (one_of HT_.out (by kernel_rfl)) (by decide) (fun K hK => ?_)
           refine goes_ Try.func13 (by kernel_rfl) rfl #[.int .i64 (rd l0 x4_1), .int .i64 7] (by rfl) rfl rfl Zm ?_
           with_reducible refine (debuggerkit_Mod.calls (rd l0 x4_1) 7 t244 _ A11.out).mono ?_
           rintro e w28 ⟨rfl, hb⟩
           refine ⟨_, rfl, ?_⟩
           have n0_ := Zw (Kd.N_below (ZN HO_237000.out) hb)
           have n1_ := Zw (Kd.R_below (ZR HO241.out) hb)
           have n2_ := Zw (blk_below (g := gb235) (o := .cells #[.slice none 0 0] 24 (0, 0)) (Zb BK235.out) hb)
           have n3_ := Zw (blk_below (g := gb236) (o := .cells #[u237000] 24 (0, 0)) (Zb BK236.out) hb)
           have n4_ := Zw (blk_below (g := gb242) (o := .cells #[.int .i64 (wrap64 (t238 * 64)), .slice Ao23 y239.length co23] 31 (0, 0)) (Zb BK242.out) hb)
           have n5_ := Zw (below_step (Zh3 HB.out GE235.out GE236.out GE242.out) hb)
           clear HO_237000
           clear HO241
           clear BK235
           clear BK236
           clear BK242
           clear HB
           have HO_237000 := n0_
           have HO241 := n1_
           have BK235 := n2_
           have BK236 := n3_
           have BK242 := n4_
           have HB := n5_
           clear n0_ n1_ n2_ n3_ n4_ n5_
           (try clear hb)
           (try clear hb2)
           (try clear hk)
           (try clear hi)
           have p14 : 0 ≤ (t244 : Int) := of_decide_eq_true Za
           have q14 : (t244 : Int) < ((y239.length : Int) : Int) := of_decide_eq_true Za
           obtain ⟨go14, co14, eo14, gb14, gl14, cl14, HG14⟩ := Kd.R_form HO241.out (by omega)
           (first | cases eo14 | (injection eo14 with ea_ en_ ec_; (first | subst ea_ | (injection ea_ with ea_; subst ea_)); subst ec_; clear en_))
           have GB14 := Aside0.mk gb14
           have GG14 := Aside0.mk HG14
           clear gb14 gl14 HG14
           obtain ⟨hx14_0, hf14_0⟩ := Kd.R_celln 0 HO241.out (t244 : Int) p14 q14
           replace p14 := eq_true p14
           replace q14 := eq_true q14
           have HP29 := Kd.R_putn HO241.out (t244 : Int) (rd l0 x4_1)
           rw [← Ny246.out] at HP29
           have HQ29 := Aside0.mk HP29
           clear HP29
           refine hK.out _ _ ⟨(blk_cell BK242.out 0).trans rfl, (blk_cell BK242.out 1).trans rfl, ((HB.out.cell (World.block_lt_of_cell? w _ hw243_0)).trans hw243_0), ((HB.out.cell (World.block_lt_of_cell? w _ hw245_0)).trans hw245_0)⟩ (fun hHeld => ?_)
           clear hK K
           refine norm_ (a' := ?_) ?_ ?_
           rotate_left
           ·show Act.put _ (some 30) _ = _
            simp only [Act.put, zsA, zsZ, zsS, i64_w, i32_w]
            rfl
           refine pure_ (i := 11) (N := some 35) (v := ?_) (a' := ?_) #[true, true, true, true, true, true, true, true, true, true, true, true, false] rfl rfl (any_of HT_.out (by kernel_rfl)) (fun _ _ _ h => h) (Or.inl ⟨by rfl, ?_⟩) ?_ ?_
           rotate_left
           ·intro w'
            go_simp
            with_reducible rfl
           rotate_left
           ·simp only [Act.put, zsA, zsZ, zsS, i64_w, i32_w]
            rfl
           refine last_ (i := 12) (N := none) #[true, true, true, true, true, true, true, true, true, true, true, true, true] rfl rfl (one_of HT_.out (by kernel_rfl)) (by decide) (fun K hK => ?_)
           refine skip_ (w1 := ?_) (by rfl) rfl ?_ ?_
           rotate_left
           ·go_simp
            rfl
           refine hK.out _ _ ?_
           clear hK K
           refine done_ (done_of HT_.out (by kernel_rfl)) ?_
           have n0_ : Aside0 (Kd.N k31 31 (w28.setCell ⟨go14, (t244 : Int).toNat, none⟩ (.int .i64 (rd l0 x4_1))) w.heap.size (fun k_ => (w.heap.size ≤ k_) ∧ some k_ ≠ (.slice (some ⟨go14, 0, none⟩) y239.length co23 : Value).ownBlock ∧ k_ ≠ gb235 ∧ k_ ≠ gb236 ∧ k_ ≠ gb242) u237000 x237000_1) := ⟨by refine ZNk ?_; exact Kd.N_mono (Kd.N_far (p := ⟨go14, (t244 : Int).toNat, none⟩) (Kd.N_mono HO_237000.out (fun k_ hk => (⟨hk, fun e_ => hk.2.1 (by rw [e_]; rfl)⟩ : _ ∧ k_ ≠ go14))) (fun _ hk => hk.2) (.int .i64 (rd l0 x4_1))) (fun _ hk => ⟨hk.1.1, ⟨hk.1.2.1, ⟨hk.1.2.2.1, ⟨hk.1.2.2.2.1, hk.1.2.2.2.2⟩⟩⟩⟩)⟩
           have n1_ : Aside0 (Kd.R (Kd.int .i64) 3 (w28.setCell ⟨go14, (t244 : Int).toNat, none⟩ (.int .i64 (rd l0 x4_1))) w.heap.size (fun k_ => (w.heap.size ≤ k_)) (.slice (some ⟨go14, 0, none⟩) y239.length co23) y246) := ⟨ZR HQ29.out⟩
           have n2_ : Aside0 ((w28.setCell ⟨go14, (t244 : Int).toNat, none⟩ (.int .i64 (rd l0 x4_1))).heap[gb235]? = some (.cells #[.slice none 0 0] 24 (0, 0))) := ⟨by refine Zbk ?_; refine blk_far ?_ (by have h_ := Kd.R_ne HO241.out BK235.out (by decide); intro e_; exact h_ (by rw [e_]; rfl)) _; refine Zbk ?_; exact BK235.out⟩
           have n3_ : Aside0 ((w28.setCell ⟨go14, (t244 : Int).toNat, none⟩ (.int .i64 (rd l0 x4_1))).heap[gb236]? = some (.cells #[u237000] 24 (0, 0))) := ⟨by refine Zbk ?_; refine blk_far ?_ (by have h_ := Kd.R_ne HO241.out BK236.out (by decide); intro e_; exact h_ (by rw [e_]; rfl)) _; refine Zbk ?_; exact BK236.out⟩
           have n4_ : Aside0 ((w28.setCell ⟨go14, (t244 : Int).toNat, none⟩ (.int .i64 (rd l0 x4_1))).heap[gb242]? = some (.cells #[.int .i64 (wrap64 (t238 * 64)), .slice (some ⟨go14, 0, none⟩) y239.length co23] 31 (0, 0))) := ⟨by refine Zbk ?_; refine blk_far ?_ (by have h_ := Kd.R_ne HO241.out BK242.out (by decide); intro e_; exact h_ (by rw [e_]; rfl)) _; refine Zbk ?_; exact BK242.out⟩
           have n5_ : Aside0 (Below w.heap.size w (w28.setCell ⟨go14, (t244 : Int).toNat, none⟩ (.int .i64 (rd l0 x4_1)))) := ⟨Zh4 HB.out GB14.out GE235.out GE236.out GE242.out⟩
           (try clear HO_237000)
           (try clear HO241)
           (try clear BK235)
           (try clear BK236)
           (try clear BK242)
           (try clear HB)
           generalize (w28.setCell ⟨go14, (t244 : Int).toNat, none⟩ (.int .i64 (rd l0 x4_1))) = w30 at n0_ n1_ n2_ n3_ n4_ n5_ ⊢
           have HO_237000 := n0_
           have HO241 := n1_
           have BK235 := n2_
           have BK236 := n3_
           have BK242 := n4_
           have HB := n5_
           clear n0_ n1_ n2_ n3_ n4_ n5_
           have hnb31 := NB236_235.out
           have hnc31 := NB235_236.out
           have hnb32 := NB236_242.out
           have hnc32 := NB242_236.out
           have hcz33_0 := Zcl BK236.out 0 rfl
           have hfz33_0 := blk_frozen BK236.out 0
           have hnb34 := NB242_235.out
           have hnc34 := NB235_242.out
           have hcz35_0 := Zcl BK242.out 0 rfl
           have hcz35_1 := Zcl BK242.out 1 rfl
           have hfz35_0 := blk_frozen BK242.out 0
           have hfz35_1 := blk_frozen BK242.out 1
           obtain ⟨Ao36, co36, eo36⟩ := Kd.N_slice HO_237000.out
           subst eo36
           try go_wp2_with (first | ((with_reducible refine gate_callee (f := 27) rfl ?_); refine goesL_ (some 39) rfl rfl Try.func27 (by kernel_rfl) rfl #[.agg #[.slice Ao36 x237000_1.length co36], .agg #[.int .i64 (wrap64 (t238 * 64)), .slice (some ⟨go14, 0, none⟩) y246.length co23]] rfl (by (try simp only [List.map_toArray, List.map_cons, List.map_nil]); first | done | (rw [show y246.length = y239.length from (Kd.R_reads' HO241.out).1.symm] <;> rfl) | rfl | (simp only [List.length_drop, List.length_take]; rfl)) ?_; (with_reducible refine (debuggerref25_Add.calls kj3 _ _ x237000_1 (wrap64 (t238 * 64)) _ _ y246 t247 t250 _ ?side1 ?side2 ?side3 ?side4 A15.out).mono ?_); (case side1 => exact Zc ((Kd.N_reads' HO_237000.out).2.2)); (case side2 => exact (Kd.N_reads' HO_237000.out).2.1); (case side3 => exact Zc ((Kd.R_reads' HO241.out).2.2)); (case side4 => rw [show y246.length = y239.length from (Kd.R_reads' HO241.out).1.symm]; exact (Kd.R_reads' HO241.out).2.1); rintro e w37 ⟨v248, rfl, ho0, hb⟩; refine ⟨_, rfl, ?_⟩; have n0_ := Zw (Kd.N_elder' (ZN HO_237000.out) (by first | exact Kd.N_base ho0 | exact Kd.S_base ho0 | exact Kd.R_base ho0 | exact Kd.N_base ho0) hb); have n1_ := Zw (Kd.R_below (ZR HO241.out) hb); have n2_ := Zw (Kd.N_lower (Kd.N_mono (ok' := fun k_ => (w.heap.size ≤ k_) ∧ some k_ ≠ (.slice Ao36 x237000_1.length co36 : Value).ownBlock ∧ some k_ ≠ (.slice (some ⟨go14, 0, none⟩) y239.length co23 : Value).ownBlock ∧ k_ ≠ gb235 ∧ k_ ≠ gb236 ∧ k_ ≠ gb242) ho0 (fun k_ hk_ => ⟨(Nat.le_trans (below_size (Zh3 HB.out GE235.out GE236.out GE242.out)) hk_), (Kd.fresh' (Kd.N_lt (ZN HO_237000.out)) k_ hk_), (Kd.fresh' (Kd.R_lt (ZR HO241.out)) k_ hk_), (Kd.freshB (g := gb235) (o := .cells #[.slice none 0 0] 24 (0, 0)) (Zb BK235.out) k_ hk_), (Kd.freshB (g := gb236) (o := .cells #[.slice Ao36 x237000_1.length co36] 24 (0, 0)) (Zb BK236.out) k_ hk_), (Kd.freshB (g := gb242) (o := .cells #[.int .i64 (wrap64 (t238 * 64)), .slice (some ⟨go14, 0, none⟩) y239.length co23] 31 (0, 0)) (Zb BK242.out) k_ hk_)⟩)) (below_size (Zh3 HB.out GE235.out GE236.out GE242.out))); have n3_ := Zw (blk_below (g := gb235) (o := .cells #[.slice none 0 0] 24 (0, 0)) (Zb BK235.out) hb); have n4_ := Zw (blk_below (g := gb236) (o := .cells #[.slice Ao36 x237000_1.length co36] 24 (0, 0)) (Zb BK236.out) hb); have n5_ := Zw (blk_below (g := gb242) (o := .cells #[.int .i64 (wrap64 (t238 * 64)), .slice (some ⟨go14, 0, none⟩) y239.length co23] 31 (0, 0)) (Zb BK242.out) hb); have n6_ := Zw (below_step (Zh3 HB.out GE235.out GE236.out GE242.out) hb); clear HO_237000; clear HO241; clear BK235; clear BK236; clear BK242; clear HB; have HO_237000 := n0_; have HO241 := n1_; have HO249 := n2_; have BK235 := n3_; have BK236 := n4_; have BK242 := n5_; have HB := n6_; clear n0_ n1_ n2_ n3_ n4_ n5_ n6_; (try clear hb); (try clear hb2); (try clear hk); (try clear hi); (try clear ho0); obtain ⟨Ao38, co38, eo38⟩ := Kd.N_slice HO249.out; subst eo38; have hcz39_0 := Zcl BK236.out 0 rfl; have hfz39_0 := blk_frozen BK236.out 0))
           go_roundg kj3
           case measure => have := HK1.out; have := HJ3.out; omega
           case rel => exact ⟨(wrap64 (x4_1 + 1)), (t247), (.slice Ao38 t247.length co38), (by first | rfl | (simp; done) | (simp [*]; done)), H', ⟨by have := HK1.out; have := HJ3.out; omega⟩, ⟨by refine ZNk ?_; exact Kd.N_mono (Kd.N_far (p := ⟨gb236, 0, none⟩) (Kd.N_mono HO249.out (fun k_ hk => (⟨hk, hk.2.2.2.2.1⟩ : _ ∧ k_ ≠ gb236))) (fun _ hk => hk.2) (.slice Ao38 t247.length co38)) (fun _ hk => ⟨hk.1.1, ⟨hk.1.2.2.2.1, hk.1.2.2.2.2.1⟩⟩)⟩, ⟨by refine Zbk ?_; refine blk_far ?_ NB235_236.out _; refine Zbk ?_; exact BK235.out⟩, ⟨by refine Zbk ?_; refine blk_put (cs := #[.slice Ao36 x237000_1.length co36]) ?_ 0 _ rfl; refine Zbk ?_; exact BK236.out⟩, ⟨Zh3 HB.out GE235.out GE236.out GE242.out⟩⟩
          ·rw [if_neg c13] at H
           exact absurd H (by simp)
         ·rw [if_neg c12] at H
          exact absurd H (by simp)
        ·rw [if_neg c10] at H
         exact absurd H (by simp)
       ·rw [if_neg c8] at H
        exact absurd H (by simp)
      ·rw [if_neg c7] at H
       exact absurd H (by simp)
     ·replace c6 := Bool.eq_false_iff.mpr c6
      subst c6
      have H1 : (some x237000_1) = some r := by rw [if_neg (show ¬ (false = true) by decide)] at H; exact H
      clear H
      have H := H1
      clear H1
      obtain rfl := Option.some.inj H
      have hnb40 := NB236_235.out
      have hnc40 := NB235_236.out
      have hcz41_0 := Zcl BK236.out 0 rfl
      have hfz41_0 := blk_frozen BK236.out 0
      obtain ⟨Ao42, co42, eo42⟩ := Kd.N_slice HO_237000.out
      subst eo42
      have hcz43_0 := Zcl BK235.out 0 rfl
      have hfz43_0 := blk_frozen BK235.out 0
      go_wp2
      refine bodyPost_ret (results_cell_row rfl _ _ gb235 24 #[.slice Ao42 x237000_1.length co42] (0, 0) _ rfl (by refine Zbk ?_; refine blk_put (cs := #[.slice none 0 0]) ?_ 0 _ rfl; refine Zbk ?_; exact BK235.out) Try.underlying24 rfl (by kernel_rfl)) rfl ?_
      exact ⟨_, by first | rfl | (simp [errW_none, errW_some] <;> rfl) | (simp [*, errW_none, errW_some] <;> rfl), by refine ZNk ?_; exact Kd.N_mono (Kd.N_far (p := ⟨gb235, 0, none⟩) (Kd.N_mono HO_237000.out (fun k_ hk => (⟨hk, hk.2.1⟩ : _ ∧ k_ ≠ gb235))) (fun _ hk => hk.2) (.slice Ao42 x237000_1.length co42)) (fun _ hk => hk.1.1), Zh2 HB.out GE235.out GE236.out⟩

end Go.Proofs.Ytpifepaflljolaa.PMem
