-- By wip/xprint.py (a driver of this session's over the kit's print), for this claim.
import Derived.Test.YtpifepaflljolaaPMemx0
import Derived.Test.YtpifepaflljolaaPMemx32
namespace Go.Proofs.Ytpifepaflljolaa.PMem
open Go.RowKit Go.Proofs.YtpifepaflljolaaW.PrintWords Go.Proofs.YtpifepaflljolaaW.PrintLast Go.Proofs.YtpifepaflljolaaW.PrintMore
attribute [local go_sem] max2_int min2_int max_two min_two max_three min_three max_four min_four   -- for this text's walks alone
set_option linter.unusedVariables false
set_option linter.unusedSimpArgs false

/-! ### memory_Changed: function 30 -/
mutual
def memory_Changed.l0 : Nat → List Int → Int → Int → List (S31) → List (S31) → Option (List Int)
 | 0, _, _, _, _, _ => none
 | k + 1, x5, x6, x7, x434000, x435000 => if x6 < (x434000.length : Int) then (memory_Changed.j1 k x5 x6 x7 true x434000 x435000) else (memory_Changed.j1 k x5 x6 x7 (decide (x7 < (x435000.length : Int))) x434000 x435000)
def memory_Changed.j1 : Nat → List Int → Int → Int → Bool → List (S31) → List (S31) → Option (List Int)
 | 0, _, _, _, _, _, _ => none
 | k + 1, x5, x6, x7, x19, x434000, x435000 => if x19 = true then (if x7 = (x435000.length : Int) then (memory_Changed.j2 k x5 x6 x7 true x434000 x435000) else (if x6 < (x434000.length : Int) then (if 0 ≤ x6 then (if 0 ≤ x7 then (if x7 < (x435000.length : Int) then (memory_Changed.j2 k x5 x6 x7 (decide (((rd_T31 x434000 x6).f0) < ((rd_T31 x435000 x7).f0))) x434000 x435000) else (none)) else (none)) else (none)) else (memory_Changed.j2 k x5 x6 x7 false x434000 x435000))) else (some x5)
def memory_Changed.j2 : Nat → List Int → Int → Int → Bool → List (S31) → List (S31) → Option (List Int)
 | 0, _, _, _, _, _, _ => none
 | k + 1, x5, x6, x7, x45, x434000, x435000 => if x45 = true then (if 0 ≤ x6 then (if x6 < (x434000.length : Int) then (if x5.length < 17592186044416 then (memory_Changed.l0 k (x5 ++ [(rd_T31 x434000 x6).f0]) (wrap64 (x6 + 1)) x7 x434000 x435000) else (none)) else (none)) else (none)) else (if x6 = (x434000.length : Int) then (memory_Changed.j3 k x5 x6 x7 true x434000 x435000) else (if 0 ≤ x7 then (if x7 < (x435000.length : Int) then (if 0 ≤ x6 then (if x6 < (x434000.length : Int) then (memory_Changed.j3 k x5 x6 x7 (decide (((rd_T31 x435000 x7).f0) < ((rd_T31 x434000 x6).f0))) x434000 x435000) else (none)) else (none)) else (none)) else (none)))
def memory_Changed.j3 : Nat → List Int → Int → Int → Bool → List (S31) → List (S31) → Option (List Int)
 | 0, _, _, _, _, _, _ => none
 | k + 1, x5, x6, x7, x84, x434000, x435000 => if x84 = true then (if 0 ≤ x7 then (if x7 < (x435000.length : Int) then (if x5.length < 17592186044416 then (memory_Changed.l0 k (x5 ++ [(rd_T31 x435000 x7).f0]) x6 (wrap64 (x7 + 1)) x434000 x435000) else (none)) else (none)) else (none)) else (if 0 ≤ x6 then (if x6 < (x434000.length : Int) then (if 0 ≤ x7 then (if x7 < (x435000.length : Int) then ((memory_same.f k ((rd_T31 x434000 x6).f0) ((rd_T31 x434000 x6).f1) ((rd_T31 x435000 x7).f0) ((rd_T31 x435000 x7).f1)).bind fun t449 => (if t449 = true then (memory_Changed.l0 k x5 (wrap64 (x6 + 1)) (wrap64 (x7 + 1)) x434000 x435000) else (if x5.length < 17592186044416 then (memory_Changed.l0 k (x5 ++ [(rd_T31 x434000 x6).f0]) (wrap64 (x6 + 1)) (wrap64 (x7 + 1)) x434000 x435000) else (none)))) else (none)) else (none)) else (none)) else (none))
end
def memory_Changed.f (k : Nat) (l0_0 : List (S31)) (l1_0 : List (S31)) : Option (List Int) := memory_Changed.l0 k ([] : List Int) 0 0 l0_0 l1_0
theorem memory_Changed.mono_l : ∀ k, (∀ y0 y1 y2 y3 y4, LeO (memory_Changed.l0 k y0 y1 y2 y3 y4) (memory_Changed.l0 (k + 1) y0 y1 y2 y3 y4)) ∧ (∀ y0 y1 y2 y3 y4 y5, LeO (memory_Changed.j1 k y0 y1 y2 y3 y4 y5) (memory_Changed.j1 (k + 1) y0 y1 y2 y3 y4 y5)) ∧ (∀ y0 y1 y2 y3 y4 y5, LeO (memory_Changed.j2 k y0 y1 y2 y3 y4 y5) (memory_Changed.j2 (k + 1) y0 y1 y2 y3 y4 y5)) ∧ (∀ y0 y1 y2 y3 y4 y5, LeO (memory_Changed.j3 k y0 y1 y2 y3 y4 y5) (memory_Changed.j3 (k + 1) y0 y1 y2 y3 y4 y5))
 | 0 => ⟨fun _ _ _ _ _ r h => by simp [memory_Changed.l0] at h, fun _ _ _ _ _ _ r h => by simp [memory_Changed.j1] at h, fun _ _ _ _ _ _ r h => by simp [memory_Changed.j2] at h, fun _ _ _ _ _ _ r h => by simp [memory_Changed.j3] at h⟩
 | k + 1 => by
  obtain ⟨ih0, ih1, ih2, ih3⟩ := memory_Changed.mono_l k
  refine ⟨?_, ?_, ?_, ?_⟩
  ·intro y0 y1 y2 y3 y4
   unfold memory_Changed.l0
   repeat' first
   | (with_reducible exact ih0 _ _ _ _ _)
   | (with_reducible exact ih1 _ _ _ _ _ _)
   | (with_reducible exact ih2 _ _ _ _ _ _)
   | (with_reducible exact ih3 _ _ _ _ _ _)
   | (with_reducible exact memory_same.mono _ _ _ _ _)
   | (with_reducible exact LeO.refl _)
   | (with_reducible exact LeO.none _)
   | (with_reducible refine LeO.ite ?_ ?_)
   | (with_reducible refine LeO.bind ?_ (fun _ => ?_))
   | exact ih0 _ _ _ _ _
   | exact ih1 _ _ _ _ _ _
   | exact ih2 _ _ _ _ _ _
   | exact ih3 _ _ _ _ _ _
   | exact memory_same.mono _ _ _ _ _
   | exact LeO.none _
   | refine LeO.ite ?_ ?_
   | refine LeO.bind ?_ (fun _ => ?_)
  ·intro y0 y1 y2 y3 y4 y5
   unfold memory_Changed.j1
   repeat' first
   | (with_reducible exact ih0 _ _ _ _ _)
   | (with_reducible exact ih1 _ _ _ _ _ _)
   | (with_reducible exact ih2 _ _ _ _ _ _)
   | (with_reducible exact ih3 _ _ _ _ _ _)
   | (with_reducible exact memory_same.mono _ _ _ _ _)
   | (with_reducible exact LeO.refl _)
   | (with_reducible exact LeO.none _)
   | (with_reducible refine LeO.ite ?_ ?_)
   | (with_reducible refine LeO.bind ?_ (fun _ => ?_))
   | exact ih0 _ _ _ _ _
   | exact ih1 _ _ _ _ _ _
   | exact ih2 _ _ _ _ _ _
   | exact ih3 _ _ _ _ _ _
   | exact memory_same.mono _ _ _ _ _
   | exact LeO.none _
   | refine LeO.ite ?_ ?_
   | refine LeO.bind ?_ (fun _ => ?_)
  ·intro y0 y1 y2 y3 y4 y5
   unfold memory_Changed.j2
   repeat' first
   | (with_reducible exact ih0 _ _ _ _ _)
   | (with_reducible exact ih1 _ _ _ _ _ _)
   | (with_reducible exact ih2 _ _ _ _ _ _)
   | (with_reducible exact ih3 _ _ _ _ _ _)
   | (with_reducible exact memory_same.mono _ _ _ _ _)
   | (with_reducible exact LeO.refl _)
   | (with_reducible exact LeO.none _)
   | (with_reducible refine LeO.ite ?_ ?_)
   | (with_reducible refine LeO.bind ?_ (fun _ => ?_))
   | exact ih0 _ _ _ _ _
   | exact ih1 _ _ _ _ _ _
   | exact ih2 _ _ _ _ _ _
   | exact ih3 _ _ _ _ _ _
   | exact memory_same.mono _ _ _ _ _
   | exact LeO.none _
   | refine LeO.ite ?_ ?_
   | refine LeO.bind ?_ (fun _ => ?_)
  ·intro y0 y1 y2 y3 y4 y5
   unfold memory_Changed.j3
   repeat' first
   | (with_reducible exact ih0 _ _ _ _ _)
   | (with_reducible exact ih1 _ _ _ _ _ _)
   | (with_reducible exact ih2 _ _ _ _ _ _)
   | (with_reducible exact ih3 _ _ _ _ _ _)
   | (with_reducible exact memory_same.mono _ _ _ _ _)
   | (with_reducible exact LeO.refl _)
   | (with_reducible exact LeO.none _)
   | (with_reducible refine LeO.ite ?_ ?_)
   | (with_reducible refine LeO.bind ?_ (fun _ => ?_))
   | exact ih0 _ _ _ _ _
   | exact ih1 _ _ _ _ _ _
   | exact ih2 _ _ _ _ _ _
   | exact ih3 _ _ _ _ _ _
   | exact memory_same.mono _ _ _ _ _
   | exact LeO.none _
   | refine LeO.ite ?_ ?_
   | refine LeO.bind ?_ (fun _ => ?_)
theorem memory_Changed.mono : ∀ a0 a1 k, LeO (memory_Changed.f k a0 a1) (memory_Changed.f (k + 1) a0 a1) := by
 intro a0 a1 k
 obtain ⟨ih0, ih1, ih2, ih3⟩ := memory_Changed.mono_l k
 unfold memory_Changed.f
 repeat' first
   | (with_reducible exact ih0 _ _ _ _ _)
   | (with_reducible exact ih1 _ _ _ _ _ _)
   | (with_reducible exact ih2 _ _ _ _ _ _)
   | (with_reducible exact ih3 _ _ _ _ _ _)
   | (with_reducible exact memory_same.mono _ _ _ _ _)
   | (with_reducible exact LeO.refl _)
   | (with_reducible exact LeO.none _)
   | (with_reducible refine LeO.ite ?_ ?_)
   | (with_reducible refine LeO.bind ?_ (fun _ => ?_))
   | exact ih0 _ _ _ _ _
   | exact ih1 _ _ _ _ _ _
   | exact ih2 _ _ _ _ _ _
   | exact ih3 _ _ _ _ _ _
   | exact memory_same.mono _ _ _ _ _
   | exact LeO.none _
   | refine LeO.ite ?_ ?_
   | refine LeO.bind ?_ (fun _ => ?_)
def memory_Changed.T4 : Bool × List (List Nat × List Nat) := (true, [([], []), ([0], [0]), ([], []), ([1, 2], [1, 2]), ([3], [3]), ([], []), ([5], [5]), ([], []), ([6, 7], [6, 7]), ([8], [8]), ([4, 9], [4, 9]), ([10], [10])])
def memory_Changed.B4 : List Nat := [0, 1, 0, 7, 15, 0, 32, 0, 224, 480, 1023, 2047]
theorem memory_Changed.tab4 : rtab .any (opsOf Try.f30 4) = memory_Changed.T4 := by kernel_rfl
theorem memory_Changed.bits4 : waitsOk memory_Changed.T4.2 memory_Changed.B4 = true := by kernel_rfl
def memory_Changed.T8 : Bool × List (List Nat × List Nat) := (true, [([], []), ([], []), ([1], [1]), ([2], [2]), ([0, 3], [0, 3]), ([4], [4]), ([5], [5]), ([5], [5]), ([7, 5], [5, 7]), ([8, 5], [5, 8]), ([6, 9, 5], [5, 6, 9]), ([10, 5, 5], [5, 10]), ([11], [11]), ([12, 11], [11, 12]), ([11], [11]), ([13, 14, 11], [11, 13, 14]), ([15, 11], [11, 15]), ([16, 11], [11, 16]), ([11], [11]), ([18, 11], [11, 18]), ([11], [11]), ([19, 20, 11], [11, 19, 20]), ([21, 11], [11, 21]), ([22, 11], [11, 22]), ([17, 23, 11], [11, 17, 23]), ([11, 24, 5], [5, 11, 24]), ([5, 25], [5, 25]), ([26, 11], [26])])
def memory_Changed.B8 : List Nat := [0, 0, 2, 6, 15, 31, 63, 63, 191, 447, 1023, 2047, 4095, 8191, 4095, 32767, 65535, 131071, 4095, 266239, 4095, 1839103, 3936255, 8130559, 16777215, 33554431, 67108863, 134217727]
theorem memory_Changed.tab8 : rtab .any (opsOf Try.f30 8) = memory_Changed.T8 := by kernel_rfl
theorem memory_Changed.bits8 : waitsOk memory_Changed.T8.2 memory_Changed.B8 = true := by kernel_rfl
def memory_Changed.T11 : Bool × List (List Nat × List Nat) := (true, [([], []), ([], []), ([1], [1]), ([2], [2]), ([0, 3], [0, 3]), ([4], [4]), ([5], [5]), ([6, 5], [5, 6]), ([5], [5]), ([7, 8, 5], [5, 7, 8]), ([9, 5], [5, 9]), ([10, 5], [5, 10]), ([5], [5]), ([12, 5], [5, 12]), ([5], [5]), ([13, 14, 5], [5, 13, 14]), ([15, 5], [5, 15]), ([16, 5], [5, 16]), ([11, 17, 5], [5, 11, 17]), ([5, 18], [5, 18]), ([19, 5], [19])])
def memory_Changed.B11 : List Nat := [0, 0, 2, 6, 15, 31, 63, 127, 63, 511, 1023, 2047, 63, 4159, 63, 28735, 61503, 127039, 262143, 524287, 1048575]
theorem memory_Changed.tab11 : rtab .any (opsOf Try.f30 11) = memory_Changed.T11 := by kernel_rfl
theorem memory_Changed.bits11 : waitsOk memory_Changed.T11.2 memory_Changed.B11 = true := by kernel_rfl
set_option maxHeartbeats 8000000 in
set_option maxRecDepth 100000 in
theorem memory_Changed.calls (k : Nat) (A0_0 : Option Addr) (c0_0 : Nat) (l0_0 : List (S31)) (A1_0 : Option Addr) (c1_0 : Nat) (l1_0 : List (S31)) (r : List Int) (w : World) (hr0_0 : Kd.C k31 w A0_0 l0_0.length l0_0) (hc0_0 : l0_0.length ≤ c0_0) (hr1_0 : Kd.C k31 w A1_0 l1_0.length l1_0) (hc1_0 : l1_0.length ≤ c1_0) (h : memory_Changed.f k l0_0 l1_0 = some r) :
  Calls Try.prog 30 #[.agg #[.slice A0_0 l0_0.length c0_0], .agg #[.slice A1_0 l1_0.length c1_0]] w fun e w' => ∃ v0_ : Value, e = .returned (v0_) ∧ Kd.R (Kd.int .i64) 3 w' w.heap.size (fun _ => True) v0_ r ∧ Below w.heap.size w w' := by
 have hu24 := Try.underlying24
 have hu31 := Try.underlying31
 have HR0_0 := Aside0.mk hr0_0
 have HC0_0 := Aside0.mk hc0_0
 clear hr0_0 hc0_0
 have HR1_0 := Aside0.mk hr1_0
 have HC1_0 := Aside0.mk hc1_0
 clear hr1_0 hc1_0
 have HB := Zw (Below.refl w.heap.size w)
 have H : (memory_Changed.l0 k ([] : List Int) 0 0 l0_0 l1_0) = some r := h
 clear h
 have H' := Aside0.mk H
 clear H
 go_enter Try.func30, Try.ntmps30
 go_wp2_with (first | ((with_reducible refine gate_dst (N := 2) rfl ?_); (try (refine gate_guard (by rfl) ?_; dsimp only)); refine box_event ?hg (N := 2) ?hd (cs := #[.slice A0_0 l0_0.length c0_0]) (t := 24) ?hr ?_; (case hd => rfl); (case hg => rfl); (case hr => first | (go_simp; done) | (go_simp; rfl)); intro gb433 hg w3 hbox hb; have n0_ := Zw (below_step (Zh HB.out) hb); have n1_ := Zw (hbox); have n2_ := Zw ((by rw [hg]; exact (below_size (Zh HB.out)) : w.heap.size ≤ gb433)); have n3_ := Zw ((by rw [hg]; exact (below_size (Zh HB.out)) : w.heap.size ≤ gb433)); clear HB; have HB := n0_; have BK433 := n1_; have GW433 := n2_; have GE433 := n3_; clear n0_ n1_ n2_ n3_; clear hb hbox hg) | ((with_reducible refine gate_dst (N := 3) rfl ?_); (try (refine gate_guard (by rfl) ?_; dsimp only)); refine box_event ?hg (N := 3) ?hd (cs := #[.slice A1_0 l1_0.length c1_0]) (t := 24) ?hr ?_; (case hd => rfl); (case hg => rfl); (case hr => first | (go_simp; done) | (go_simp; rfl)); intro gb434 hg w4 hbox hb; have n0_ := Zw (blk_below (g := gb433) (o := .cells #[.slice A0_0 l0_0.length c0_0] 24 (0, 0)) (Zb BK433.out) hb); have n1_ := Zw (below_step (Zh1 HB.out GE433.out) hb); have n2_ := Zw (hbox); have n3_ := Zw ((by rw [hg]; exact (below_size (Zh1 HB.out GE433.out)) : w.heap.size ≤ gb434)); have n4_ := Zw ((by rw [hg]; exact (below_size (Zh1 HB.out GE433.out)) : w.heap.size ≤ gb434)); have n5_ := Zw ((by rw [hg]; exact Nat.ne_of_lt (blk_lt (Zb BK433.out)) : gb433 ≠ gb434)); have n6_ := Zw ((by rw [hg]; exact Nat.ne_of_gt (blk_lt (Zb BK433.out)) : gb434 ≠ gb433)); clear BK433; clear HB; have BK433 := n0_; have HB := n1_; have BK434 := n2_; have GW434 := n3_; have GE434 := n4_; have NB433_434 := n5_; have NB434_433 := n6_; clear n0_ n1_ n2_ n3_ n4_ n5_ n6_; clear hb hbox hg))
 go_loopg [5, 6, 7] k (fun kq v5 v6 v7 w' => ∃ (x5_1 : List Int) (x6_1 : Int) (x7_1 : Int), v6 = .int .i64 x6_1 ∧ v7 = .int .i64 x7_1 ∧ Aside0 (memory_Changed.l0 kq x5_1 x6_1 x7_1 l0_0 l1_0 = some r) ∧ Aside0 (kq ≤ k) ∧ Aside0 (Kd.R (Kd.int .i64) 3 w' w.heap.size (fun _ => True) v5 x5_1) ∧ Aside0 (w'.heap[gb433]? = some (.cells #[(.slice A0_0 l0_0.length c0_0)] 24 (0, 0))) ∧ Aside0 (w'.heap[gb434]? = some (.cells #[(.slice A1_0 l1_0.length c1_0)] 24 (0, 0))) ∧ Aside0 (Below w.heap.size w w'))
 case atStart => exact ⟨(([] : List Int)), (0), (0), (by first | rfl | (simp; done) | (simp [*]; done)), (by first | rfl | (simp; done) | (simp [*]; done)), H', ⟨Nat.le_refl _⟩, ⟨by first | exact Kd.R_nil _ _ _ _ _ | exact Kd.N_nil _ _ _ _ _ | exact Kd.V_nil _ _ _ _ _ | exact Kd.Q_nil _ _ _ _ _ | exact Kd.S_nil _ _ _ _ _⟩, ⟨Zb BK433.out⟩, ⟨Zb BK434.out⟩, ⟨Zh2 HB.out GE433.out GE434.out⟩⟩
 case round =>
  clear H'
  try clear c1
  try clear p2
  try clear c3
  obtain ⟨x5_1, x6_1, x7_1, rfl, rfl, HA, HK1, HO_5, BK433, BK434, HB⟩ := hrel
  cases gk with
  | zero => exact absurd HA.out (by simp [memory_Changed.l0])
  | succ k1 =>
   have H := HA.out
   clear HA
   simp only [memory_Changed.l0] at H
   have HC5 := Aside0.mk H
   clear H
   go_upto_region 3 with (fail)
   go_cut [19] (fun v19 wc => ∃ (kq : Nat) (x19_4 : Bool), v19 = .bool x19_4 ∧ Aside0 (memory_Changed.j1 kq x5_1 x6_1 x7_1 x19_4 l0_0 l1_0 = some r) ∧ Aside0 (kq ≤ k1) ∧ Aside0 (Kd.R (Kd.int .i64) 3 wc w.heap.size (fun _ => True) u5 x5_1) ∧ Aside0 (wc.heap[gb433]? = some (.cells #[(.slice A0_0 l0_0.length c0_0)] 24 (0, 0))) ∧ Aside0 (wc.heap[gb434]? = some (.cells #[(.slice A1_0 l1_0.length c1_0)] 24 (0, 0))) ∧ Aside0 (Below w.heap.size w wc))
   case first =>
    have H := HC5.out
    clear HC5
    by_cases c6 : x6_1 < (l0_0.length : Int)
    ·rw [if_pos c6] at H
     have c6b0 : decide (x6_1 < (l0_0.length : Int)) = true := decide_eq_true c6
     clear c6
     (first | rw [c6b0] | (simp only [i64_w, i32_w]; rw [c6b0]) | skip)
     have H' := Aside0.mk H
     clear H
     have hnb7 := NB433_434.out
     have hnc7 := NB434_433.out
     have hcz8_0 := Zcl BK433.out 0 rfl
     have hfz8_0 := blk_frozen BK433.out 0
     go_wp2
     go_meet
     case rel => exact ⟨_, (true), (by first | rfl | (simp; done) | (simp [*]; done)), H', ⟨by have := HK1.out; first | omega | exact Nat.le_refl _⟩, ⟨ZR HO_5.out⟩, ⟨Zb BK433.out⟩, ⟨Zb BK434.out⟩, ⟨Zh2 HB.out GE433.out GE434.out⟩⟩
    ·rw [if_neg c6] at H
     have c6b0 : decide (x6_1 < (l0_0.length : Int)) = false := decide_eq_false c6
     clear c6
     (first | rw [c6b0] | (simp only [i64_w, i32_w]; rw [c6b0]) | skip)
     have H' := Aside0.mk H
     clear H
     have hnb9 := NB433_434.out
     have hnc9 := NB434_433.out
     have hcz10_0 := Zcl BK433.out 0 rfl
     have hfz10_0 := blk_frozen BK433.out 0
     have hcz11_0 := Zcl BK434.out 0 rfl
     have hfz11_0 := blk_frozen BK434.out 0
     go_wp2
     go_meet
     case rel => exact ⟨_, (decide (x7_1 < (l1_0.length : Int))), (by first | rfl | (simp; done) | (simp [*]; done)), H', ⟨by have := HK1.out; first | omega | exact Nat.le_refl _⟩, ⟨ZR HO_5.out⟩, ⟨Zb BK433.out⟩, ⟨Zb BK434.out⟩, ⟨Zh2 HB.out GE433.out GE434.out⟩⟩
   case rest =>
    clear HC5
    try clear c1
    try clear p2
    try clear c3
    try clear c6
    try clear c6b0
    try clear c7
    try clear c9
    try clear hcz10_0
    try clear hcz11_0
    try clear hcz8_0
    try clear hfz10_0
    try clear hfz11_0
    try clear hfz8_0
    try clear p2
    obtain ⟨kq, x19_4, rfl, HA, HJ4, HO_5, BK433, BK434, HB⟩ := hcut
    cases kq with
    | zero => exact absurd HA.out (by simp [memory_Changed.j1])
    | succ kj4 =>
     have H := HA.out
     clear HA
     simp only [memory_Changed.j1] at H
     by_cases c12 : x19_4 = true
     ·subst c12
      have H1 : (if x7_1 = (l1_0.length : Int) then (memory_Changed.j2 kj4 x5_1 x6_1 x7_1 true l0_0 l1_0) else (if x6_1 < (l0_0.length : Int) then (if 0 ≤ x6_1 then (if 0 ≤ x7_1 then (if x7_1 < (l1_0.length : Int) then (memory_Changed.j2 kj4 x5_1 x6_1 x7_1 (decide (((rd_T31 l0_0 x6_1).f0) < ((rd_T31 l1_0 x7_1).f0))) l0_0 l1_0) else (none)) else (none)) else (none)) else (memory_Changed.j2 kj4 x5_1 x6_1 x7_1 false l0_0 l1_0))) = some r := by rw [if_pos rfl] at H; exact H
      clear H
      have H := H1
      clear H1
      have HC13 := Aside0.mk H
      clear H
      go_upto_region 8 with (fail)
      go_cut [45] (fun v45 wc => ∃ (kq : Nat) (x45_12 : Bool), v45 = .bool x45_12 ∧ Aside0 (memory_Changed.j2 kq x5_1 x6_1 x7_1 x45_12 l0_0 l1_0 = some r) ∧ Aside0 (kq ≤ kj4) ∧ Aside0 (Kd.R (Kd.int .i64) 3 wc w.heap.size (fun _ => True) u5 x5_1) ∧ Aside0 (wc.heap[gb433]? = some (.cells #[(.slice A0_0 l0_0.length c0_0)] 24 (0, 0))) ∧ Aside0 (wc.heap[gb434]? = some (.cells #[(.slice A1_0 l1_0.length c1_0)] 24 (0, 0))) ∧ Aside0 (Below w.heap.size w wc))
      case first =>
       have H := HC13.out
       clear HC13
       by_cases c14 : x7_1 = (l1_0.length : Int)
       ·rw [if_pos c14] at H
        have c14b0 : (x7_1 == (l1_0.length : Int)) = true := beq_iff_eq.mpr c14
        have c14b1 : (x7_1 != (l1_0.length : Int)) = false := bne_eq_false_iff_eq.mpr c14
        clear c14
        (first | rw [c14b0] | (simp only [i64_w, i32_w]; rw [c14b0]) | skip)
        have H' := Aside0.mk H
        clear H
        try go_wp2
        have n0_ := Zw (Kd.R_drew HO_5.out)
        have n1_ := Zw (blk_drew BK433.out)
        have n2_ := Zw (blk_drew BK434.out)
        have n3_ := Zw (below_drew1 HB.out)
        clear HO_5
        clear BK433
        clear BK434
        clear HB
        have HO_5 := n0_
        have BK433 := n1_
        have BK434 := n2_
        have HB := n3_
        clear n0_ n1_ n2_ n3_
        refine start_ (n := 28) (S := fun w' => w'.cell? ⟨gb434, 0, none⟩ = some (.slice A1_0 l1_0.length c1_0)) (ds := []) #[false, false, false, false, false, false, false, false, false, false, false, false, false, false, false, false, false, false, false, false, false, false, false, false, false, false, false, false] (by kernel_rfl) rfl rfl ((blk_cell BK434.out 0).trans rfl) (fun hHeld => ?_); refine with_tabW memory_Changed.tab8 memory_Changed.bits8 (fun HT_ HW_ => ?_)
        generalize wc.drew = w15 at HO_5 BK433 BK434 HB hHeld ⊢
        refine pure_ (i := 0) (N := some 46) (v := ?_) (a' := ?_) #[true, false, false, false, false, false, false, false, false, false, false, false, false, false, false, false, false, false, false, false, false, false, false, false, false, false, false, false] rfl rfl (any_of HT_.out (by kernel_rfl)) (fun _ _ _ h => h) (Or.inl ⟨by rfl, ?_⟩) ?_ ?_
        rotate_left
        ·intro w'
         go_simp
         with_reducible rfl
        rotate_left
        ·simp only [Act.put, zsA, zsZ, zsS, i64_w, i32_w]
         rfl
        refine pure_ (i := 1) (N := some 47) (v := ?_) (a' := ?_) #[true, true, false, false, false, false, false, false, false, false, false, false, false, false, false, false, false, false, false, false, false, false, false, false, false, false, false, false] rfl rfl (any_of HT_.out (by kernel_rfl)) (fun _ _ _ h => h) (Or.inl ⟨by rfl, ?_⟩) ?_ ?_
        rotate_left
        ·intro w'
         go_simp
         with_reducible rfl
        rotate_left
        ·simp only [Act.put, zsA, zsZ, zsS, i64_w, i32_w]
         rfl
        refine take_ (i := 2) (N := some 48) (v := ?_) (a' := ?_) #[true, true, true, false, false, false, false, false, false, false, false, false, false, false, false, false, false, false, false, false, false, false, false, false, false, false, false, false] rfl rfl (take_ofW HT_.out HW_.out (by kernel_rfl)) (fun _ _ _ h => h) (Or.inl ⟨by rfl, ?_⟩) hHeld ?_ ?_
        rotate_left
        ·intro w' s0
         go_simp
         with_reducible rfl
        rotate_left
        ·simp only [Act.put, zsA, zsZ, zsS, i64_w, i32_w]
         rfl
        refine pure_ (i := 3) (N := some 49) (v := ?_) (a' := ?_) #[true, true, true, true, false, false, false, false, false, false, false, false, false, false, false, false, false, false, false, false, false, false, false, false, false, false, false, false] rfl rfl (any_of HT_.out (by kernel_rfl)) (fun _ _ _ h => h) (Or.inl ⟨by rfl, ?_⟩) ?_ ?_
        rotate_left
        ·intro w'
         go_simp
         with_reducible rfl
        rotate_left
        ·simp only [Act.put, zsA, zsZ, zsS, i64_w, i32_w]
         rfl
        refine pure_ (i := 4) (N := some 50) (v := ?_) (a' := ?_) #[true, true, true, true, true, false, false, false, false, false, false, false, false, false, false, false, false, false, false, false, false, false, false, false, false, false, false, false] rfl rfl (any_of HT_.out (by kernel_rfl)) (fun _ _ _ h => h) (Or.inl ⟨by rfl, ?_⟩) ?_ ?_
        rotate_left
        ·intro w'
         go_simp
         with_reducible rfl
        rotate_left
        ·simp only [Act.put, zsA, zsZ, zsS, i64_w, i32_w]
         rfl
        refine pure_ (i := 5) (N := some 51) (v := ?_) (a' := ?_) #[true, true, true, true, true, true, false, false, false, false, false, false, false, false, false, false, false, false, false, false, false, false, false, false, false, false, false, false] rfl rfl (any_of HT_.out (by kernel_rfl)) (fun _ _ _ h => h) (Or.inl ⟨by rfl, ?_⟩) ?_ ?_
        rotate_left
        ·intro w'
         go_simp
         with_reducible rfl
        rotate_left
        ·simp only [Act.put, zsA, zsZ, zsS, i64_w, i32_w]
         rfl
        refine pure_ (i := 6) (N := some 52) (v := undef) (a' := ?_) #[true, true, true, true, true, true, true, false, false, false, false, false, false, false, false, false, false, false, false, false, false, false, false, false, false, false, false, false] rfl rfl (any_of HT_.out (by kernel_rfl)) (fun _ _ _ h => h) (Or.inr ⟨by rfl, rfl⟩) ?_ ?_
        rotate_left
        ·simp only [Act.put, zsA, zsZ, zsS, i64_w, i32_w]
         rfl
        refine pure_ (i := 7) (N := some 53) (v := undef) (a' := ?_) #[true, true, true, true, true, true, true, true, false, false, false, false, false, false, false, false, false, false, false, false, false, false, false, false, false, false, false, false] rfl rfl (any_of HT_.out (by kernel_rfl)) (fun _ _ _ h => h) (Or.inr ⟨by rfl, rfl⟩) ?_ ?_
        rotate_left
        ·simp only [Act.put, zsA, zsZ, zsS, i64_w, i32_w]
         rfl
        refine pure_ (i := 8) (N := some 54) (v := undef) (a' := ?_) #[true, true, true, true, true, true, true, true, true, false, false, false, false, false, false, false, false, false, false, false, false, false, false, false, false, false, false, false] rfl rfl (any_of HT_.out (by kernel_rfl)) (fun _ _ _ h => h) (Or.inr ⟨by rfl, rfl⟩) ?_ ?_
        rotate_left
        ·simp only [Act.put, zsA, zsZ, zsS, i64_w, i32_w]
         rfl
        refine pure_ (i := 9) (N := some 55) (v := undef) (a' := ?_) #[true, true, true, true, true, true, true, true, true, true, false, false, false, false, false, false, false, false, false, false, false, false, false, false, false, false, false, false] rfl rfl (any_of HT_.out (by kernel_rfl)) (fun _ _ _ h => h) (Or.inr ⟨by rfl, rfl⟩) ?_ ?_
        rotate_left
        ·simp only [Act.put, zsA, zsZ, zsS, i64_w, i32_w]
         rfl
        refine pure_ (i := 10) (N := some 56) (v := undef) (a' := ?_) #[true, true, true, true, true, true, true, true, true, true, true, false, false, false, false, false, false, false, false, false, false, false, false, false, false, false, false, false] rfl rfl (any_of HT_.out (by kernel_rfl)) (fun _ _ _ h => h) (Or.inr ⟨by rfl, rfl⟩) ?_ ?_
        rotate_left
        ·simp only [Act.put, zsA, zsZ, zsS, i64_w, i32_w]
         rfl
        refine pure_ (i := 11) (N := some 57) (v := undef) (a' := ?_) #[true, true, true, true, true, true, true, true, true, true, true, true, false, false, false, false, false, false, false, false, false, false, false, false, false, false, false, false] rfl rfl (any_of HT_.out (by kernel_rfl)) (fun _ _ _ h => h) (Or.inr ⟨by rfl, rfl⟩) ?_ ?_
        rotate_left
        ·simp only [Act.put, zsA, zsZ, zsS, i64_w, i32_w]
         rfl
        refine pure_ (i := 12) (N := some 58) (v := undef) (a' := ?_) #[true, true, true, true, true, true, true, true, true, true, true, true, true, false, false, false, false, false, false, false, false, false, false, false, false, false, false, false] rfl rfl (any_of HT_.out (by kernel_rfl)) (fun _ _ _ h => h) (Or.inr ⟨by rfl, rfl⟩) ?_ ?_
        rotate_left
        ·simp only [Act.put, zsA, zsZ, zsS, i64_w, i32_w]
         rfl
        refine pure_ (i := 13) (N := some 59) (v := undef) (a' := ?_) #[true, true, true, true, true, true, true, true, true, true, true, true, true, true, false, false, false, false, false, false, false, false, false, false, false, false, false, false] rfl rfl (any_of HT_.out (by kernel_rfl)) (fun _ _ _ h => h) (Or.inr ⟨by rfl, rfl⟩) ?_ ?_
        rotate_left
        ·simp only [Act.put, zsA, zsZ, zsS, i64_w, i32_w]
         rfl
        refine pure_ (i := 14) (N := some 60) (v := undef) (a' := ?_) #[true, true, true, true, true, true, true, true, true, true, true, true, true, true, true, false, false, false, false, false, false, false, false, false, false, false, false, false] rfl rfl (any_of HT_.out (by kernel_rfl)) (fun _ _ _ h => h) (Or.inr ⟨by rfl, rfl⟩) ?_ ?_
        rotate_left
        ·simp only [Act.put, zsA, zsZ, zsS, i64_w, i32_w]
         rfl
        refine pure_ (i := 15) (N := some 61) (v := undef) (a' := ?_) #[true, true, true, true, true, true, true, true, true, true, true, true, true, true, true, true, false, false, false, false, false, false, false, false, false, false, false, false] rfl rfl (any_of HT_.out (by kernel_rfl)) (fun _ _ _ h => h) (Or.inr ⟨by rfl, rfl⟩) ?_ ?_
        rotate_left
        ·simp only [Act.put, zsA, zsZ, zsS, i64_w, i32_w]
         rfl
        refine pure_ (i := 16) (N := some 62) (v := undef) (a' := ?_) #[true, true, true, true, true, true, true, true, true, true, true, true, true, true, true, true, true, false, false, false, false, false, false, false, false, false, false, false] rfl rfl (any_of HT_.out (by kernel_rfl)) (fun _ _ _ h => h) (Or.inr ⟨by rfl, rfl⟩) ?_ ?_
        rotate_left
        ·simp only [Act.put, zsA, zsZ, zsS, i64_w, i32_w]
         rfl
        refine pure_ (i := 17) (N := some 63) (v := undef) (a' := ?_) #[true, true, true, true, true, true, true, true, true, true, true, true, true, true, true, true, true, true, false, false, false, false, false, false, false, false, false, false] rfl rfl (any_of HT_.out (by kernel_rfl)) (fun _ _ _ h => h) (Or.inr ⟨by rfl, rfl⟩) ?_ ?_
        rotate_left
        ·simp only [Act.put, zsA, zsZ, zsS, i64_w, i32_w]
         rfl
        refine pure_ (i := 18) (N := some 64) (v := undef) (a' := ?_) #[true, true, true, true, true, true, true, true, true, true, true, true, true, true, true, true, true, true, true, false, false, false, false, false, false, false, false, false] rfl rfl (any_of HT_.out (by kernel_rfl)) (fun _ _ _ h => h) (Or.inr ⟨by rfl, rfl⟩) ?_ ?_
        rotate_left
        ·simp only [Act.put, zsA, zsZ, zsS, i64_w, i32_w]
         rfl
        refine pure_ (i := 19) (N := some 65) (v := undef) (a' := ?_) #[true, true, true, true, true, true, true, true, true, true, true, true, true, true, true, true, true, true, true, true, false, false, false, false, false, false, false, false] rfl rfl (any_of HT_.out (by kernel_rfl)) (fun _ _ _ h => h) (Or.inr ⟨by rfl, rfl⟩) ?_ ?_
        rotate_left
        ·simp only [Act.put, zsA, zsZ, zsS, i64_w, i32_w]
         rfl
        refine pure_ (i := 20) (N := some 66) (v := undef) (a' := ?_) #[true, true, true, true, true, true, true, true, true, true, true, true, true, true, true, true, true, true, true, true, true, false, false, false, false, false, false, false] rfl rfl (any_of HT_.out (by kernel_rfl)) (fun _ _ _ h => h) (Or.inr ⟨by rfl, rfl⟩) ?_ ?_
        rotate_left
        ·simp only [Act.put, zsA, zsZ, zsS, i64_w, i32_w]
         rfl
        refine pure_ (i := 21) (N := some 67) (v := undef) (a' := ?_) #[true, true, true, true, true, true, true, true, true, true, true, true, true, true, true, true, true, true, true, true, true, true, false, false, false, false, false, false] rfl rfl (any_of HT_.out (by kernel_rfl)) (fun _ _ _ h => h) (Or.inr ⟨by rfl, rfl⟩) ?_ ?_
        rotate_left
        ·simp only [Act.put, zsA, zsZ, zsS, i64_w, i32_w]
         rfl
        refine pure_ (i := 22) (N := some 68) (v := undef) (a' := ?_) #[true, true, true, true, true, true, true, true, true, true, true, true, true, true, true, true, true, true, true, true, true, true, true, false, false, false, false, false] rfl rfl (any_of HT_.out (by kernel_rfl)) (fun _ _ _ h => h) (Or.inr ⟨by rfl, rfl⟩) ?_ ?_
        rotate_left
        ·simp only [Act.put, zsA, zsZ, zsS, i64_w, i32_w]
         rfl
        refine pure_ (i := 23) (N := some 69) (v := undef) (a' := ?_) #[true, true, true, true, true, true, true, true, true, true, true, true, true, true, true, true, true, true, true, true, true, true, true, true, false, false, false, false] rfl rfl (any_of HT_.out (by kernel_rfl)) (fun _ _ _ h => h) (Or.inr ⟨by rfl, rfl⟩) ?_ ?_
        rotate_left
        ·simp only [Act.put, zsA, zsZ, zsS, i64_w, i32_w]
         rfl
        refine pure_ (i := 24) (N := some 70) (v := undef) (a' := ?_) #[true, true, true, true, true, true, true, true, true, true, true, true, true, true, true, true, true, true, true, true, true, true, true, true, true, false, false, false] rfl rfl (any_of HT_.out (by kernel_rfl)) (fun _ _ _ h => h) (Or.inr ⟨by rfl, rfl⟩) ?_ ?_
        rotate_left
        ·simp only [Act.put, zsA, zsZ, zsS, i64_w, i32_w]
         rfl
        refine pure_ (i := 25) (N := some 71) (v := undef) (a' := ?_) #[true, true, true, true, true, true, true, true, true, true, true, true, true, true, true, true, true, true, true, true, true, true, true, true, true, true, false, false] rfl rfl (any_of HT_.out (by kernel_rfl)) (fun _ _ _ h => h) (Or.inr ⟨by rfl, rfl⟩) ?_ ?_
        rotate_left
        ·simp only [Act.put, zsA, zsZ, zsS, i64_w, i32_w]
         rfl
        refine pure_ (i := 26) (N := some 72) (v := ?_) (a' := ?_) #[true, true, true, true, true, true, true, true, true, true, true, true, true, true, true, true, true, true, true, true, true, true, true, true, true, true, true, false] rfl rfl (any_of HT_.out (by kernel_rfl)) (fun _ _ _ h => h) (Or.inl ⟨by rfl, ?_⟩) ?_ ?_
        rotate_left
        ·intro w'
         go_simp
         with_reducible rfl
        rotate_left
        ·simp only [Act.put, zsA, zsZ, zsS, i64_w, i32_w]
         rfl
        refine pure_ (i := 27) (N := some 45) (v := ?_) (a' := ?_) #[true, true, true, true, true, true, true, true, true, true, true, true, true, true, true, true, true, true, true, true, true, true, true, true, true, true, true, true] rfl rfl (any_of HT_.out (by kernel_rfl)) (fun _ _ _ h => h) (Or.inl ⟨by rfl, ?_⟩) ?_ ?_
        rotate_left
        ·intro w'
         go_simp
         with_reducible rfl
        rotate_left
        ·simp only [Act.put, zsA, zsZ, zsS, i64_w, i32_w]
         rfl
        refine done_ (done_of HT_.out (by kernel_rfl)) ?_
        try go_wp2
        go_meet
        case rel => exact ⟨_, (true), (by first | rfl | (simp; done) | (simp [*]; done)), H', ⟨by have := HK1.out; have := HJ4.out; first | omega | exact Nat.le_refl _⟩, ⟨ZR HO_5.out⟩, ⟨Zb BK433.out⟩, ⟨Zb BK434.out⟩, ⟨Zh2 HB.out GE433.out GE434.out⟩⟩
       ·rw [if_neg c14] at H
        have c14b0 : (x7_1 == (l1_0.length : Int)) = false := beq_eq_false_iff_ne.mpr c14
        have c14b1 : (x7_1 != (l1_0.length : Int)) = true := bne_iff_ne.mpr c14
        (first | rw [c14b0] | (simp only [i64_w, i32_w]; rw [c14b0]) | skip)
        by_cases c16 : x6_1 < (l0_0.length : Int)
        ·rw [if_pos c16] at H
         have c16b0 : decide (x6_1 < (l0_0.length : Int)) = true := decide_eq_true c16
         clear c16
         by_cases c17 : 0 ≤ x6_1
         ·rw [if_pos c17] at H
          have c17b0 : decide (0 ≤ x6_1) = true := decide_eq_true c17
          clear c17
          by_cases c18 : 0 ≤ x7_1
          ·rw [if_pos c18] at H
           have c18b0 : decide (0 ≤ x7_1) = true := decide_eq_true c18
           clear c18
           by_cases c19 : x7_1 < (l1_0.length : Int)
           ·rw [if_pos c19] at H
            have c19b0 : decide (x7_1 < (l1_0.length : Int)) = true := decide_eq_true c19
            clear c19
            have H' := Aside0.mk H
            clear H
            try go_wp2
            have n0_ := Zw (Kd.R_drew HO_5.out)
            have n1_ := Zw (blk_drew BK433.out)
            have n2_ := Zw (blk_drew BK434.out)
            have n3_ := Zw (below_drew1 HB.out)
            clear HO_5
            clear BK433
            clear BK434
            clear HB
            have HO_5 := n0_
            have BK433 := n1_
            have BK434 := n2_
            have HB := n3_
            clear n0_ n1_ n2_ n3_
            have p435 : 0 ≤ (x6_1 : Int) := of_decide_eq_true Za
            have q435 : x6_1 < (l0_0.length : Int) := of_decide_eq_true Za
            obtain ⟨ad435, A435_1, c435_1, e435, hx435_0, hx435_1, hl435_1, hi435_1⟩ := at_T31 HR0_0.out x6_1 p435 q435
            have hw435_1 := hx435_1
            have hw435_0 := hx435_0
            cases e435
            replace hx435_0 := Zl HB.out hx435_0
            replace hx435_1 := Zl HB.out hx435_1
            have HR435_1 := Aside0.mk hi435_1
            have HC435_1 := Aside0.mk hl435_1
            clear hi435_1 hl435_1
            replace p435 := eq_true p435
            replace q435 := eq_true q435
            have p436 : 0 ≤ (x7_1 : Int) := of_decide_eq_true Za
            have q436 : x7_1 < (l1_0.length : Int) := of_decide_eq_true Za
            obtain ⟨ad436, A436_1, c436_1, e436, hx436_0, hx436_1, hl436_1, hi436_1⟩ := at_T31 HR1_0.out x7_1 p436 q436
            have hw436_1 := hx436_1
            have hw436_0 := hx436_0
            cases e436
            replace hx436_0 := Zl HB.out hx436_0
            replace hx436_1 := Zl HB.out hx436_1
            have HR436_1 := Aside0.mk hi436_1
            have HC436_1 := Aside0.mk hl436_1
            clear hi436_1 hl436_1
            replace p436 := eq_true p436
            replace q436 := eq_true q436
            refine start_ (n := 28) (S := fun w' => w'.cell? ⟨gb434, 0, none⟩ = some (.slice (some ad436) l1_0.length c1_0) ∧ w'.cell? ⟨gb433, 0, none⟩ = some (.slice (some ad435) l0_0.length c0_0) ∧ w'.cell? (ad435.add ((x6_1).toNat * 2)) = some (.int .i64 ((rd_T31 l0_0 x6_1).f0)) ∧ w'.cell? ⟨(ad435.add ((x6_1).toNat * 2)).block, (ad435.add ((x6_1).toNat * 2)).off + 1, none⟩ = some (.slice A435_1 ((rd_T31 l0_0 x6_1).f1).length c435_1) ∧ w'.cell? (ad436.add ((x7_1).toNat * 2)) = some (.int .i64 ((rd_T31 l1_0 x7_1).f0)) ∧ w'.cell? ⟨(ad436.add ((x7_1).toNat * 2)).block, (ad436.add ((x7_1).toNat * 2)).off + 1, none⟩ = some (.slice A436_1 ((rd_T31 l1_0 x7_1).f1).length c436_1)) (ds := []) #[false, false, false, false, false, false, false, false, false, false, false, false, false, false, false, false, false, false, false, false, false, false, false, false, false, false, false, false] (by kernel_rfl) rfl rfl ⟨(blk_cell BK434.out 0).trans rfl, (blk_cell BK433.out 0).trans rfl, ((HB.out.cell (World.block_lt_of_cell? w _ hw435_0)).trans hw435_0), ((HB.out.cell (World.block_lt_of_cell? w _ hw435_1)).trans hw435_1), ((HB.out.cell (World.block_lt_of_cell? w _ hw436_0)).trans hw436_0), ((HB.out.cell (World.block_lt_of_cell? w _ hw436_1)).trans hw436_1)⟩ (fun hHeld => ?_); refine with_tabW memory_Changed.tab8 memory_Changed.bits8 (fun HT_ HW_ => ?_)
            generalize wc.drew = w20 at HO_5 BK433 BK434 HB HR435_1 HR436_1 hx435_0 hx435_1 hx436_0 hx436_1 hHeld ⊢
            refine pure_ (i := 0) (N := some 46) (v := ?_) (a' := ?_) #[true, false, false, false, false, false, false, false, false, false, false, false, false, false, false, false, false, false, false, false, false, false, false, false, false, false, false, false] rfl rfl (any_of HT_.out (by kernel_rfl)) (fun _ _ _ h => h) (Or.inl ⟨by rfl, ?_⟩) ?_ ?_
            rotate_left
            ·intro w'
             go_simp
             with_reducible rfl
            rotate_left
            ·simp only [Act.put, zsA, zsZ, zsS, i64_w, i32_w]
             rfl
            refine pure_ (i := 1) (N := some 47) (v := ?_) (a' := ?_) #[true, true, false, false, false, false, false, false, false, false, false, false, false, false, false, false, false, false, false, false, false, false, false, false, false, false, false, false] rfl rfl (any_of HT_.out (by kernel_rfl)) (fun _ _ _ h => h) (Or.inl ⟨by rfl, ?_⟩) ?_ ?_
            rotate_left
            ·intro w'
             go_simp
             with_reducible rfl
            rotate_left
            ·simp only [Act.put, zsA, zsZ, zsS, i64_w, i32_w]
             rfl
            refine take_ (i := 2) (N := some 48) (v := ?_) (a' := ?_) #[true, true, true, false, false, false, false, false, false, false, false, false, false, false, false, false, false, false, false, false, false, false, false, false, false, false, false, false] rfl rfl (take_ofW HT_.out HW_.out (by kernel_rfl)) (fun _ _ _ h => h) (Or.inl ⟨by rfl, ?_⟩) hHeld ?_ ?_
            rotate_left
            ·rintro w' ⟨s0, s1, s2, s3, s4, s5⟩
             go_simp
             with_reducible rfl
            rotate_left
            ·simp only [Act.put, zsA, zsZ, zsS, i64_w, i32_w]
             rfl
            refine pure_ (i := 3) (N := some 49) (v := ?_) (a' := ?_) #[true, true, true, true, false, false, false, false, false, false, false, false, false, false, false, false, false, false, false, false, false, false, false, false, false, false, false, false] rfl rfl (any_of HT_.out (by kernel_rfl)) (fun _ _ _ h => h) (Or.inl ⟨by rfl, ?_⟩) ?_ ?_
            rotate_left
            ·intro w'
             go_simp
             with_reducible rfl
            rotate_left
            ·simp only [Act.put, zsA, zsZ, zsS, i64_w, i32_w]
             rfl
            refine pure_ (i := 4) (N := some 50) (v := ?_) (a' := ?_) #[true, true, true, true, true, false, false, false, false, false, false, false, false, false, false, false, false, false, false, false, false, false, false, false, false, false, false, false] rfl rfl (any_of HT_.out (by kernel_rfl)) (fun _ _ _ h => h) (Or.inl ⟨by rfl, ?_⟩) ?_ ?_
            rotate_left
            ·intro w'
             go_simp
             with_reducible rfl
            rotate_left
            ·simp only [Act.put, zsA, zsZ, zsS, i64_w, i32_w]
             rfl
            refine pure_ (i := 5) (N := some 51) (v := ?_) (a' := ?_) #[true, true, true, true, true, true, false, false, false, false, false, false, false, false, false, false, false, false, false, false, false, false, false, false, false, false, false, false] rfl rfl (any_of HT_.out (by kernel_rfl)) (fun _ _ _ h => h) (Or.inl ⟨by rfl, ?_⟩) ?_ ?_
            rotate_left
            ·intro w'
             go_simp
             with_reducible rfl
            rotate_left
            ·simp only [Act.put, zsA, zsZ, zsS, i64_w, i32_w]
             rfl
            refine pure_ (i := 6) (N := some 52) (v := ?_) (a' := ?_) #[true, true, true, true, true, true, true, false, false, false, false, false, false, false, false, false, false, false, false, false, false, false, false, false, false, false, false, false] rfl rfl (any_of HT_.out (by kernel_rfl)) (fun _ _ _ h => h) (Or.inl ⟨by rfl, ?_⟩) ?_ ?_
            rotate_left
            ·intro w'
             go_simp
             with_reducible rfl
            rotate_left
            ·simp only [Act.put, zsA, zsZ, zsS, i64_w, i32_w]
             rfl
            refine pure_ (i := 7) (N := some 53) (v := ?_) (a' := ?_) #[true, true, true, true, true, true, true, true, false, false, false, false, false, false, false, false, false, false, false, false, false, false, false, false, false, false, false, false] rfl rfl (any_of HT_.out (by kernel_rfl)) (fun _ _ _ h => h) (Or.inl ⟨by rfl, ?_⟩) ?_ ?_
            rotate_left
            ·intro w'
             go_simp
             with_reducible rfl
            rotate_left
            ·simp only [Act.put, zsA, zsZ, zsS, i64_w, i32_w]
             rfl
            refine take_ (i := 8) (N := some 54) (v := ?_) (a' := ?_) #[true, true, true, true, true, true, true, true, true, false, false, false, false, false, false, false, false, false, false, false, false, false, false, false, false, false, false, false] rfl rfl (take_ofW HT_.out HW_.out (by kernel_rfl)) (fun _ _ _ h => h) (Or.inl ⟨by rfl, ?_⟩) hHeld ?_ ?_
            rotate_left
            ·rintro w' ⟨s0, s1, s2, s3, s4, s5⟩
             go_simp
             with_reducible rfl
            rotate_left
            ·simp only [Act.put, zsA, zsZ, zsS, i64_w, i32_w]
             rfl
            refine pure_ (i := 9) (N := some 55) (v := ?_) (a' := ?_) #[true, true, true, true, true, true, true, true, true, true, false, false, false, false, false, false, false, false, false, false, false, false, false, false, false, false, false, false] rfl rfl (any_of HT_.out (by kernel_rfl)) (fun _ _ _ h => h) (Or.inl ⟨by rfl, ?_⟩) ?_ ?_
            rotate_left
            ·intro w'
             go_simp
             with_reducible rfl
            rotate_left
            ·simp only [Act.put, zsA, zsZ, zsS, i64_w, i32_w]
             rfl
            refine pure_ (i := 10) (N := some 56) (v := ?_) (a' := ?_) #[true, true, true, true, true, true, true, true, true, true, true, false, false, false, false, false, false, false, false, false, false, false, false, false, false, false, false, false] rfl rfl (any_of HT_.out (by kernel_rfl)) (fun _ _ _ h => h) (Or.inl ⟨by rfl, ?_⟩) ?_ ?_
            rotate_left
            ·intro w'
             go_simp
             with_reducible rfl
            rotate_left
            ·simp only [Act.put, zsA, zsZ, zsS, i64_w, i32_w]
             rfl
            refine pure_ (i := 11) (N := some 57) (v := ?_) (a' := ?_) #[true, true, true, true, true, true, true, true, true, true, true, true, false, false, false, false, false, false, false, false, false, false, false, false, false, false, false, false] rfl rfl (any_of HT_.out (by kernel_rfl)) (fun _ _ _ h => h) (Or.inl ⟨by rfl, ?_⟩) ?_ ?_
            rotate_left
            ·intro w'
             go_simp
             with_reducible rfl
            rotate_left
            ·simp only [Act.put, zsA, zsZ, zsS, i64_w, i32_w]
             rfl
            refine pure_ (i := 12) (N := some 58) (v := ?_) (a' := ?_) #[true, true, true, true, true, true, true, true, true, true, true, true, true, false, false, false, false, false, false, false, false, false, false, false, false, false, false, false] rfl rfl (any_of HT_.out (by kernel_rfl)) (fun _ _ _ h => h) (Or.inl ⟨by rfl, ?_⟩) ?_ ?_
            rotate_left
            ·intro w'
             go_simp
             with_reducible rfl
            rotate_left
            ·simp only [Act.put, zsA, zsZ, zsS, i64_w, i32_w]
             rfl
            refine pure_ (i := 14) (N := some 60) (v := ?_) (a' := ?_) #[true, true, true, true, true, true, true, true, true, true, true, true, true, false, true, false, false, false, false, false, false, false, false, false, false, false, false, false] rfl rfl (any_of HT_.out (by kernel_rfl)) (fun _ _ _ h => h) (Or.inl ⟨by rfl, ?_⟩) ?_ ?_
            rotate_left
            ·intro w'
             go_simp
             with_reducible rfl
            rotate_left
            ·simp only [Act.put, zsA, zsZ, zsS, i64_w, i32_w]
             rfl
            refine pure_ (i := 18) (N := some 64) (v := ?_) (a' := ?_) #[true, true, true, true, true, true, true, true, true, true, true, true, true, false, true, false, false, false, true, false, false, false, false, false, false, false, false, false] rfl rfl (any_of HT_.out (by kernel_rfl)) (fun _ _ _ h => h) (Or.inl ⟨by rfl, ?_⟩) ?_ ?_
            rotate_left
            ·intro w'
             go_simp
             with_reducible rfl
            rotate_left
            ·simp only [Act.put, zsA, zsZ, zsS, i64_w, i32_w]
             rfl
            refine pure_ (i := 20) (N := some 66) (v := ?_) (a' := ?_) #[true, true, true, true, true, true, true, true, true, true, true, true, true, false, true, false, false, false, true, false, true, false, false, false, false, false, false, false] rfl rfl (any_of HT_.out (by kernel_rfl)) (fun _ _ _ h => h) (Or.inl ⟨by rfl, ?_⟩) ?_ ?_
            rotate_left
            ·intro w'
             go_simp
             with_reducible rfl
            rotate_left
            ·simp only [Act.put, zsA, zsZ, zsS, i64_w, i32_w]
             rfl
            refine take_ (i := 13) (N := some 59) (v := ?_) (a' := ?_) #[true, true, true, true, true, true, true, true, true, true, true, true, true, true, true, false, false, false, true, false, true, false, false, false, false, false, false, false] rfl rfl (take_ofW HT_.out HW_.out (by kernel_rfl)) (fun _ _ _ h => h) (Or.inl ⟨by rfl, ?_⟩) hHeld ?_ ?_
            rotate_left
            ·rintro w' ⟨s0, s1, s2, s3, s4, s5⟩
             go_simp
             with_reducible rfl
            rotate_left
            ·simp only [Act.put, zsA, zsZ, zsS, i64_w, i32_w]
             rfl
            refine pure_ (i := 15) (N := some 61) (v := ?_) (a' := ?_) #[true, true, true, true, true, true, true, true, true, true, true, true, true, true, true, true, false, false, true, false, true, false, false, false, false, false, false, false] rfl rfl (any_of HT_.out (by kernel_rfl)) (fun _ _ _ h => h) (Or.inl ⟨by rfl, ?_⟩) ?_ ?_
            rotate_left
            ·intro w'
             go_simp
             with_reducible rfl
            rotate_left
            ·simp only [Act.put, zsA, zsZ, zsS, i64_w, i32_w]
             rfl
            refine pure_ (i := 16) (N := some 62) (v := ?_) (a' := ?_) #[true, true, true, true, true, true, true, true, true, true, true, true, true, true, true, true, true, false, true, false, true, false, false, false, false, false, false, false] rfl rfl (any_of HT_.out (by kernel_rfl)) (fun _ _ _ h => h) (Or.inl ⟨by rfl, ?_⟩) ?_ ?_
            rotate_left
            ·intro w'
             go_simp
             with_reducible rfl
            rotate_left
            ·simp only [Act.put, zsA, zsZ, zsS, i64_w, i32_w]
             rfl
            refine take_ (i := 17) (N := some 63) (v := ?_) (a' := ?_) #[true, true, true, true, true, true, true, true, true, true, true, true, true, true, true, true, true, true, true, false, true, false, false, false, false, false, false, false] rfl rfl (take_ofW HT_.out HW_.out (by kernel_rfl)) (fun _ _ _ h => h) (Or.inl ⟨by rfl, ?_⟩) hHeld ?_ ?_
            rotate_left
            ·rintro w' ⟨s0, s1, s2, s3, s4, s5⟩
             go_simp
             with_reducible rfl
            rotate_left
            ·simp only [Act.put, zsA, zsZ, zsS, i64_w, i32_w]
             rfl
            refine take_ (i := 19) (N := some 65) (v := ?_) (a' := ?_) #[true, true, true, true, true, true, true, true, true, true, true, true, true, true, true, true, true, true, true, true, true, false, false, false, false, false, false, false] rfl rfl (take_ofW HT_.out HW_.out (by kernel_rfl)) (fun _ _ _ h => h) (Or.inl ⟨by rfl, ?_⟩) hHeld ?_ ?_
            rotate_left
            ·rintro w' ⟨s0, s1, s2, s3, s4, s5⟩
             go_simp
             with_reducible rfl
            rotate_left
            ·simp only [Act.put, zsA, zsZ, zsS, i64_w, i32_w]
             rfl
            refine pure_ (i := 21) (N := some 67) (v := ?_) (a' := ?_) #[true, true, true, true, true, true, true, true, true, true, true, true, true, true, true, true, true, true, true, true, true, true, false, false, false, false, false, false] rfl rfl (any_of HT_.out (by kernel_rfl)) (fun _ _ _ h => h) (Or.inl ⟨by rfl, ?_⟩) ?_ ?_
            rotate_left
            ·intro w'
             go_simp
             with_reducible rfl
            rotate_left
            ·simp only [Act.put, zsA, zsZ, zsS, i64_w, i32_w]
             rfl
            refine pure_ (i := 22) (N := some 68) (v := ?_) (a' := ?_) #[true, true, true, true, true, true, true, true, true, true, true, true, true, true, true, true, true, true, true, true, true, true, true, false, false, false, false, false] rfl rfl (any_of HT_.out (by kernel_rfl)) (fun _ _ _ h => h) (Or.inl ⟨by rfl, ?_⟩) ?_ ?_
            rotate_left
            ·intro w'
             go_simp
             with_reducible rfl
            rotate_left
            ·simp only [Act.put, zsA, zsZ, zsS, i64_w, i32_w]
             rfl
            refine take_ (i := 23) (N := some 69) (v := ?_) (a' := ?_) #[true, true, true, true, true, true, true, true, true, true, true, true, true, true, true, true, true, true, true, true, true, true, true, true, false, false, false, false] rfl rfl (take_ofW HT_.out HW_.out (by kernel_rfl)) (fun _ _ _ h => h) (Or.inl ⟨by rfl, ?_⟩) hHeld ?_ ?_
            rotate_left
            ·rintro w' ⟨s0, s1, s2, s3, s4, s5⟩
             go_simp
             with_reducible rfl
            rotate_left
            ·simp only [Act.put, zsA, zsZ, zsS, i64_w, i32_w]
             rfl
            refine pure_ (i := 24) (N := some 70) (v := ?_) (a' := ?_) #[true, true, true, true, true, true, true, true, true, true, true, true, true, true, true, true, true, true, true, true, true, true, true, true, true, false, false, false] rfl rfl (any_of HT_.out (by kernel_rfl)) (fun _ _ _ h => h) (Or.inl ⟨by rfl, ?_⟩) ?_ ?_
            rotate_left
            ·intro w'
             go_simp
             with_reducible rfl
            rotate_left
            ·simp only [Act.put, zsA, zsZ, zsS, i64_w, i32_w]
             rfl
            refine pure_ (i := 25) (N := some 71) (v := ?_) (a' := ?_) #[true, true, true, true, true, true, true, true, true, true, true, true, true, true, true, true, true, true, true, true, true, true, true, true, true, true, false, false] rfl rfl (any_of HT_.out (by kernel_rfl)) (fun _ _ _ h => h) (Or.inl ⟨by rfl, ?_⟩) ?_ ?_
            rotate_left
            ·intro w'
             go_simp
             with_reducible rfl
            rotate_left
            ·simp only [Act.put, zsA, zsZ, zsS, i64_w, i32_w]
             rfl
            refine pure_ (i := 26) (N := some 72) (v := ?_) (a' := ?_) #[true, true, true, true, true, true, true, true, true, true, true, true, true, true, true, true, true, true, true, true, true, true, true, true, true, true, true, false] rfl rfl (any_of HT_.out (by kernel_rfl)) (fun _ _ _ h => h) (Or.inl ⟨by rfl, ?_⟩) ?_ ?_
            rotate_left
            ·intro w'
             go_simp
             with_reducible rfl
            rotate_left
            ·simp only [Act.put, zsA, zsZ, zsS, i64_w, i32_w]
             rfl
            refine pure_ (i := 27) (N := some 45) (v := ?_) (a' := ?_) #[true, true, true, true, true, true, true, true, true, true, true, true, true, true, true, true, true, true, true, true, true, true, true, true, true, true, true, true] rfl rfl (any_of HT_.out (by kernel_rfl)) (fun _ _ _ h => h) (Or.inl ⟨by rfl, ?_⟩) ?_ ?_
            rotate_left
            ·intro w'
             go_simp
             with_reducible rfl
            rotate_left
            ·simp only [Act.put, zsA, zsZ, zsS, i64_w, i32_w]
             rfl
            refine done_ (done_of HT_.out (by kernel_rfl)) ?_
            try go_wp2
            go_meet
            case rel => exact ⟨_, (decide (((rd_T31 l0_0 x6_1).f0) < ((rd_T31 l1_0 x7_1).f0))), (by first | rfl | (simp; done) | (simp [*]; done)), H', ⟨by have := HK1.out; have := HJ4.out; first | omega | exact Nat.le_refl _⟩, ⟨ZR HO_5.out⟩, ⟨Zb BK433.out⟩, ⟨Zb BK434.out⟩, ⟨Zh2 HB.out GE433.out GE434.out⟩⟩
           ·rw [if_neg c19] at H
            exact absurd H (by simp)
          ·rw [if_neg c18] at H
           exact absurd H (by simp)
         ·rw [if_neg c17] at H
          exact absurd H (by simp)
        ·rw [if_neg c16] at H
         have c16b0 : decide (x6_1 < (l0_0.length : Int)) = false := decide_eq_false c16
         clear c16
         have H' := Aside0.mk H
         clear H
         try go_wp2
         have n0_ := Zw (Kd.R_drew HO_5.out)
         have n1_ := Zw (blk_drew BK433.out)
         have n2_ := Zw (blk_drew BK434.out)
         have n3_ := Zw (below_drew1 HB.out)
         clear HO_5
         clear BK433
         clear BK434
         clear HB
         have HO_5 := n0_
         have BK433 := n1_
         have BK434 := n2_
         have HB := n3_
         clear n0_ n1_ n2_ n3_
         refine start_ (n := 28) (S := fun w' => w'.cell? ⟨gb434, 0, none⟩ = some (.slice A1_0 l1_0.length c1_0) ∧ w'.cell? ⟨gb433, 0, none⟩ = some (.slice A0_0 l0_0.length c0_0)) (ds := []) #[false, false, false, false, false, false, false, false, false, false, false, false, false, false, false, false, false, false, false, false, false, false, false, false, false, false, false, false] (by kernel_rfl) rfl rfl ⟨(blk_cell BK434.out 0).trans rfl, (blk_cell BK433.out 0).trans rfl⟩ (fun hHeld => ?_); refine with_tabW memory_Changed.tab8 memory_Changed.bits8 (fun HT_ HW_ => ?_)
         generalize wc.drew = w21 at HO_5 BK433 BK434 HB hHeld ⊢
         refine pure_ (i := 0) (N := some 46) (v := ?_) (a' := ?_) #[true, false, false, false, false, false, false, false, false, false, false, false, false, false, false, false, false, false, false, false, false, false, false, false, false, false, false, false] rfl rfl (any_of HT_.out (by kernel_rfl)) (fun _ _ _ h => h) (Or.inl ⟨by rfl, ?_⟩) ?_ ?_
         rotate_left
         ·intro w'
          go_simp
          with_reducible rfl
         rotate_left
         ·simp only [Act.put, zsA, zsZ, zsS, i64_w, i32_w]
          rfl
         refine pure_ (i := 1) (N := some 47) (v := ?_) (a' := ?_) #[true, true, false, false, false, false, false, false, false, false, false, false, false, false, false, false, false, false, false, false, false, false, false, false, false, false, false, false] rfl rfl (any_of HT_.out (by kernel_rfl)) (fun _ _ _ h => h) (Or.inl ⟨by rfl, ?_⟩) ?_ ?_
         rotate_left
         ·intro w'
          go_simp
          with_reducible rfl
         rotate_left
         ·simp only [Act.put, zsA, zsZ, zsS, i64_w, i32_w]
          rfl
         refine take_ (i := 2) (N := some 48) (v := ?_) (a' := ?_) #[true, true, true, false, false, false, false, false, false, false, false, false, false, false, false, false, false, false, false, false, false, false, false, false, false, false, false, false] rfl rfl (take_ofW HT_.out HW_.out (by kernel_rfl)) (fun _ _ _ h => h) (Or.inl ⟨by rfl, ?_⟩) hHeld ?_ ?_
         rotate_left
         ·rintro w' ⟨s0, s1⟩
          go_simp
          with_reducible rfl
         rotate_left
         ·simp only [Act.put, zsA, zsZ, zsS, i64_w, i32_w]
          rfl
         refine pure_ (i := 3) (N := some 49) (v := ?_) (a' := ?_) #[true, true, true, true, false, false, false, false, false, false, false, false, false, false, false, false, false, false, false, false, false, false, false, false, false, false, false, false] rfl rfl (any_of HT_.out (by kernel_rfl)) (fun _ _ _ h => h) (Or.inl ⟨by rfl, ?_⟩) ?_ ?_
         rotate_left
         ·intro w'
          go_simp
          with_reducible rfl
         rotate_left
         ·simp only [Act.put, zsA, zsZ, zsS, i64_w, i32_w]
          rfl
         refine pure_ (i := 4) (N := some 50) (v := ?_) (a' := ?_) #[true, true, true, true, true, false, false, false, false, false, false, false, false, false, false, false, false, false, false, false, false, false, false, false, false, false, false, false] rfl rfl (any_of HT_.out (by kernel_rfl)) (fun _ _ _ h => h) (Or.inl ⟨by rfl, ?_⟩) ?_ ?_
         rotate_left
         ·intro w'
          go_simp
          with_reducible rfl
         rotate_left
         ·simp only [Act.put, zsA, zsZ, zsS, i64_w, i32_w]
          rfl
         refine pure_ (i := 5) (N := some 51) (v := ?_) (a' := ?_) #[true, true, true, true, true, true, false, false, false, false, false, false, false, false, false, false, false, false, false, false, false, false, false, false, false, false, false, false] rfl rfl (any_of HT_.out (by kernel_rfl)) (fun _ _ _ h => h) (Or.inl ⟨by rfl, ?_⟩) ?_ ?_
         rotate_left
         ·intro w'
          go_simp
          with_reducible rfl
         rotate_left
         ·simp only [Act.put, zsA, zsZ, zsS, i64_w, i32_w]
          rfl
         refine pure_ (i := 6) (N := some 52) (v := ?_) (a' := ?_) #[true, true, true, true, true, true, true, false, false, false, false, false, false, false, false, false, false, false, false, false, false, false, false, false, false, false, false, false] rfl rfl (any_of HT_.out (by kernel_rfl)) (fun _ _ _ h => h) (Or.inl ⟨by rfl, ?_⟩) ?_ ?_
         rotate_left
         ·intro w'
          go_simp
          with_reducible rfl
         rotate_left
         ·simp only [Act.put, zsA, zsZ, zsS, i64_w, i32_w]
          rfl
         refine pure_ (i := 7) (N := some 53) (v := ?_) (a' := ?_) #[true, true, true, true, true, true, true, true, false, false, false, false, false, false, false, false, false, false, false, false, false, false, false, false, false, false, false, false] rfl rfl (any_of HT_.out (by kernel_rfl)) (fun _ _ _ h => h) (Or.inl ⟨by rfl, ?_⟩) ?_ ?_
         rotate_left
         ·intro w'
          go_simp
          with_reducible rfl
         rotate_left
         ·simp only [Act.put, zsA, zsZ, zsS, i64_w, i32_w]
          rfl
         refine take_ (i := 8) (N := some 54) (v := ?_) (a' := ?_) #[true, true, true, true, true, true, true, true, true, false, false, false, false, false, false, false, false, false, false, false, false, false, false, false, false, false, false, false] rfl rfl (take_ofW HT_.out HW_.out (by kernel_rfl)) (fun _ _ _ h => h) (Or.inl ⟨by rfl, ?_⟩) hHeld ?_ ?_
         rotate_left
         ·rintro w' ⟨s0, s1⟩
          go_simp
          with_reducible rfl
         rotate_left
         ·simp only [Act.put, zsA, zsZ, zsS, i64_w, i32_w]
          rfl
         refine pure_ (i := 9) (N := some 55) (v := ?_) (a' := ?_) #[true, true, true, true, true, true, true, true, true, true, false, false, false, false, false, false, false, false, false, false, false, false, false, false, false, false, false, false] rfl rfl (any_of HT_.out (by kernel_rfl)) (fun _ _ _ h => h) (Or.inl ⟨by rfl, ?_⟩) ?_ ?_
         rotate_left
         ·intro w'
          go_simp
          with_reducible rfl
         rotate_left
         ·simp only [Act.put, zsA, zsZ, zsS, i64_w, i32_w]
          rfl
         refine pure_ (i := 10) (N := some 56) (v := ?_) (a' := ?_) #[true, true, true, true, true, true, true, true, true, true, true, false, false, false, false, false, false, false, false, false, false, false, false, false, false, false, false, false] rfl rfl (any_of HT_.out (by kernel_rfl)) (fun _ _ _ h => h) (Or.inl ⟨by rfl, ?_⟩) ?_ ?_
         rotate_left
         ·intro w'
          go_simp
          with_reducible rfl
         rotate_left
         ·simp only [Act.put, zsA, zsZ, zsS, i64_w, i32_w]
          rfl
         refine pure_ (i := 11) (N := some 57) (v := ?_) (a' := ?_) #[true, true, true, true, true, true, true, true, true, true, true, true, false, false, false, false, false, false, false, false, false, false, false, false, false, false, false, false] rfl rfl (any_of HT_.out (by kernel_rfl)) (fun _ _ _ h => h) (Or.inl ⟨by rfl, ?_⟩) ?_ ?_
         rotate_left
         ·intro w'
          go_simp
          with_reducible rfl
         rotate_left
         ·simp only [Act.put, zsA, zsZ, zsS, i64_w, i32_w]
          rfl
         refine pure_ (i := 12) (N := some 58) (v := undef) (a' := ?_) #[true, true, true, true, true, true, true, true, true, true, true, true, true, false, false, false, false, false, false, false, false, false, false, false, false, false, false, false] rfl rfl (any_of HT_.out (by kernel_rfl)) (fun _ _ _ h => h) (Or.inr ⟨by rfl, rfl⟩) ?_ ?_
         rotate_left
         ·simp only [Act.put, zsA, zsZ, zsS, i64_w, i32_w]
          rfl
         refine pure_ (i := 13) (N := some 59) (v := undef) (a' := ?_) #[true, true, true, true, true, true, true, true, true, true, true, true, true, true, false, false, false, false, false, false, false, false, false, false, false, false, false, false] rfl rfl (any_of HT_.out (by kernel_rfl)) (fun _ _ _ h => h) (Or.inr ⟨by rfl, rfl⟩) ?_ ?_
         rotate_left
         ·simp only [Act.put, zsA, zsZ, zsS, i64_w, i32_w]
          rfl
         refine pure_ (i := 14) (N := some 60) (v := undef) (a' := ?_) #[true, true, true, true, true, true, true, true, true, true, true, true, true, true, true, false, false, false, false, false, false, false, false, false, false, false, false, false] rfl rfl (any_of HT_.out (by kernel_rfl)) (fun _ _ _ h => h) (Or.inr ⟨by rfl, rfl⟩) ?_ ?_
         rotate_left
         ·simp only [Act.put, zsA, zsZ, zsS, i64_w, i32_w]
          rfl
         refine pure_ (i := 15) (N := some 61) (v := undef) (a' := ?_) #[true, true, true, true, true, true, true, true, true, true, true, true, true, true, true, true, false, false, false, false, false, false, false, false, false, false, false, false] rfl rfl (any_of HT_.out (by kernel_rfl)) (fun _ _ _ h => h) (Or.inr ⟨by rfl, rfl⟩) ?_ ?_
         rotate_left
         ·simp only [Act.put, zsA, zsZ, zsS, i64_w, i32_w]
          rfl
         refine pure_ (i := 16) (N := some 62) (v := undef) (a' := ?_) #[true, true, true, true, true, true, true, true, true, true, true, true, true, true, true, true, true, false, false, false, false, false, false, false, false, false, false, false] rfl rfl (any_of HT_.out (by kernel_rfl)) (fun _ _ _ h => h) (Or.inr ⟨by rfl, rfl⟩) ?_ ?_
         rotate_left
         ·simp only [Act.put, zsA, zsZ, zsS, i64_w, i32_w]
          rfl
         refine pure_ (i := 17) (N := some 63) (v := undef) (a' := ?_) #[true, true, true, true, true, true, true, true, true, true, true, true, true, true, true, true, true, true, false, false, false, false, false, false, false, false, false, false] rfl rfl (any_of HT_.out (by kernel_rfl)) (fun _ _ _ h => h) (Or.inr ⟨by rfl, rfl⟩) ?_ ?_
         rotate_left
         ·simp only [Act.put, zsA, zsZ, zsS, i64_w, i32_w]
          rfl
         refine pure_ (i := 18) (N := some 64) (v := undef) (a' := ?_) #[true, true, true, true, true, true, true, true, true, true, true, true, true, true, true, true, true, true, true, false, false, false, false, false, false, false, false, false] rfl rfl (any_of HT_.out (by kernel_rfl)) (fun _ _ _ h => h) (Or.inr ⟨by rfl, rfl⟩) ?_ ?_
         rotate_left
         ·simp only [Act.put, zsA, zsZ, zsS, i64_w, i32_w]
          rfl
         refine pure_ (i := 19) (N := some 65) (v := undef) (a' := ?_) #[true, true, true, true, true, true, true, true, true, true, true, true, true, true, true, true, true, true, true, true, false, false, false, false, false, false, false, false] rfl rfl (any_of HT_.out (by kernel_rfl)) (fun _ _ _ h => h) (Or.inr ⟨by rfl, rfl⟩) ?_ ?_
         rotate_left
         ·simp only [Act.put, zsA, zsZ, zsS, i64_w, i32_w]
          rfl
         refine pure_ (i := 20) (N := some 66) (v := undef) (a' := ?_) #[true, true, true, true, true, true, true, true, true, true, true, true, true, true, true, true, true, true, true, true, true, false, false, false, false, false, false, false] rfl rfl (any_of HT_.out (by kernel_rfl)) (fun _ _ _ h => h) (Or.inr ⟨by rfl, rfl⟩) ?_ ?_
         rotate_left
         ·simp only [Act.put, zsA, zsZ, zsS, i64_w, i32_w]
          rfl
         refine pure_ (i := 21) (N := some 67) (v := undef) (a' := ?_) #[true, true, true, true, true, true, true, true, true, true, true, true, true, true, true, true, true, true, true, true, true, true, false, false, false, false, false, false] rfl rfl (any_of HT_.out (by kernel_rfl)) (fun _ _ _ h => h) (Or.inr ⟨by rfl, rfl⟩) ?_ ?_
         rotate_left
         ·simp only [Act.put, zsA, zsZ, zsS, i64_w, i32_w]
          rfl
         refine pure_ (i := 22) (N := some 68) (v := undef) (a' := ?_) #[true, true, true, true, true, true, true, true, true, true, true, true, true, true, true, true, true, true, true, true, true, true, true, false, false, false, false, false] rfl rfl (any_of HT_.out (by kernel_rfl)) (fun _ _ _ h => h) (Or.inr ⟨by rfl, rfl⟩) ?_ ?_
         rotate_left
         ·simp only [Act.put, zsA, zsZ, zsS, i64_w, i32_w]
          rfl
         refine pure_ (i := 23) (N := some 69) (v := undef) (a' := ?_) #[true, true, true, true, true, true, true, true, true, true, true, true, true, true, true, true, true, true, true, true, true, true, true, true, false, false, false, false] rfl rfl (any_of HT_.out (by kernel_rfl)) (fun _ _ _ h => h) (Or.inr ⟨by rfl, rfl⟩) ?_ ?_
         rotate_left
         ·simp only [Act.put, zsA, zsZ, zsS, i64_w, i32_w]
          rfl
         refine pure_ (i := 24) (N := some 70) (v := undef) (a' := ?_) #[true, true, true, true, true, true, true, true, true, true, true, true, true, true, true, true, true, true, true, true, true, true, true, true, true, false, false, false] rfl rfl (any_of HT_.out (by kernel_rfl)) (fun _ _ _ h => h) (Or.inr ⟨by rfl, rfl⟩) ?_ ?_
         rotate_left
         ·simp only [Act.put, zsA, zsZ, zsS, i64_w, i32_w]
          rfl
         refine pure_ (i := 25) (N := some 71) (v := ?_) (a' := ?_) #[true, true, true, true, true, true, true, true, true, true, true, true, true, true, true, true, true, true, true, true, true, true, true, true, true, true, false, false] rfl rfl (any_of HT_.out (by kernel_rfl)) (fun _ _ _ h => h) (Or.inl ⟨by rfl, ?_⟩) ?_ ?_
         rotate_left
         ·intro w'
          go_simp
          with_reducible rfl
         rotate_left
         ·simp only [Act.put, zsA, zsZ, zsS, i64_w, i32_w]
          rfl
         refine pure_ (i := 26) (N := some 72) (v := ?_) (a' := ?_) #[true, true, true, true, true, true, true, true, true, true, true, true, true, true, true, true, true, true, true, true, true, true, true, true, true, true, true, false] rfl rfl (any_of HT_.out (by kernel_rfl)) (fun _ _ _ h => h) (Or.inl ⟨by rfl, ?_⟩) ?_ ?_
         rotate_left
         ·intro w'
          go_simp
          with_reducible rfl
         rotate_left
         ·simp only [Act.put, zsA, zsZ, zsS, i64_w, i32_w]
          rfl
         refine pure_ (i := 27) (N := some 45) (v := ?_) (a' := ?_) #[true, true, true, true, true, true, true, true, true, true, true, true, true, true, true, true, true, true, true, true, true, true, true, true, true, true, true, true] rfl rfl (any_of HT_.out (by kernel_rfl)) (fun _ _ _ h => h) (Or.inl ⟨by rfl, ?_⟩) ?_ ?_
         rotate_left
         ·intro w'
          go_simp
          with_reducible rfl
         rotate_left
         ·simp only [Act.put, zsA, zsZ, zsS, i64_w, i32_w]
          rfl
         refine done_ (done_of HT_.out (by kernel_rfl)) ?_
         try go_wp2
         go_meet
         case rel => exact ⟨_, (false), (by first | rfl | (simp; done) | (simp [*]; done)), H', ⟨by have := HK1.out; have := HJ4.out; first | omega | exact Nat.le_refl _⟩, ⟨ZR HO_5.out⟩, ⟨Zb BK433.out⟩, ⟨Zb BK434.out⟩, ⟨Zh2 HB.out GE433.out GE434.out⟩⟩
      case rest =>
       clear HC13
       try clear c1
       try clear p2
       try clear c4
       try clear p4
       try clear q4
       try clear hx4
       try clear c14
       try clear c14b0
       try clear c14b1
       try clear c16
       try clear c16b0
       try clear c17
       try clear c17b0
       try clear c18
       try clear c18b0
       try clear c19
       try clear c19b0
       try clear hx435_0
       try clear hx435_1
       try clear hx436_0
       try clear hx436_1
       try clear p435
       try clear p436
       try clear q435
       try clear q436
       obtain ⟨kq, x45_12, rfl, HA, HJ12, HO_5, BK433, BK434, HB⟩ := hcut
       cases kq with
       | zero => exact absurd HA.out (by simp [memory_Changed.j2])
       | succ kj12 =>
        have H := HA.out
        clear HA
        simp only [memory_Changed.j2] at H
        by_cases c22 : x45_12 = true
        ·subst c22
         have H1 : (if 0 ≤ x6_1 then (if x6_1 < (l0_0.length : Int) then (if x5_1.length < 17592186044416 then (memory_Changed.l0 kj12 (x5_1 ++ [(rd_T31 l0_0 x6_1).f0]) (wrap64 (x6_1 + 1)) x7_1 l0_0 l1_0) else (none)) else (none)) else (none)) = some r := by rw [if_pos rfl] at H; exact H
         clear H
         have H := H1
         clear H1
         by_cases c23 : 0 ≤ x6_1
         ·rw [if_pos c23] at H
          have c23b0 : decide (0 ≤ x6_1) = true := decide_eq_true c23
          clear c23
          by_cases c24 : x6_1 < (l0_0.length : Int)
          ·rw [if_pos c24] at H
           have c24b0 : decide (x6_1 < (l0_0.length : Int)) = true := decide_eq_true c24
           clear c24
           by_cases c25 : x5_1.length < 17592186044416
           ·rw [if_pos c25] at H
            have LMc25 := Aside0.mk c25
            clear c25
            obtain ⟨y438, hy438⟩ : ∃ y_ : List Int, y_ = (x5_1 ++ [(rd_T31 l0_0 x6_1).f0]) := ⟨_, rfl⟩
            replace H : (memory_Changed.l0 kj12 y438 (wrap64 (x6_1 + 1)) x7_1 l0_0 l1_0) = some r := by first | (rw [hy438]; with_reducible exact H) | (have H2_ := (Option.bind_some _ _).symm.trans H; rw [hy438]; with_reducible exact H2_) | (have H2_ := (Option.bind_some _ _).symm.trans H; with_reducible exact H2_) | with_reducible exact H | (rw [hy438]; exact H) | exact H
            have Ny438 := Aside0.mk hy438
            clear hy438
            have H' := Aside0.mk H
            clear H
            have hnb26 := NB433_434.out
            have hnc26 := NB434_433.out
            have hcz27_0 := Zcl BK433.out 0 rfl
            have hfz27_0 := blk_frozen BK433.out 0
            have p437 : 0 ≤ (x6_1 : Int) := of_decide_eq_true Za
            have q437 : x6_1 < (l0_0.length : Int) := of_decide_eq_true Za
            obtain ⟨ad437, A437_1, c437_1, e437, hx437_0, hx437_1, hl437_1, hi437_1⟩ := at_T31 HR0_0.out x6_1 p437 q437
            cases e437
            replace hx437_0 := Zl HB.out hx437_0
            replace hx437_1 := Zl HB.out hx437_1
            have HR437_1 := Aside0.mk hi437_1
            have HC437_1 := Aside0.mk hl437_1
            clear hi437_1 hl437_1
            replace p437 := eq_true p437
            replace q437 := eq_true q437
            go_wp2_with (first | ((with_reducible refine gate_builtin (b := .append) (xs := #[(.tmp 73), .tmp 80]) rfl ?_); (try (refine gate_guard (by rfl) ?_; dsimp only)); at_builtin; refine Kd.R_append (Kd.int .i64) (w0 := w) w.heap.size rfl (.tmp 73) (.tmp 80) 25 3 (.int .i64 0) 8 rfl Try.underlying25 info3 rfl (by decide) (by omega) u5 x5_1 ((rd_T31 l0_0 x6_1).f0) [.int .i64 ((rd_T31 l0_0 x6_1).f0)] (fun _ => True) (fun _ => False) rfl rfl ?aP (fun _ hk => hk.elim) ?aF ?aO ?aB ?aS ?aL ?_; (case aP => exact rfl); (case aB => exact (Zh2 HB.out GE433.out GE434.out)); (case aF => exact (fun _ _ => trivial)); (case aO => exact (ZR HO_5.out)); (case aS => exact (below_size (Zh2 HB.out GE433.out GE434.out))); (case aL => have := LMc25.out; omega); intro v439 w28 ho hb hg hat; rw [← Ny438.out] at ho; have n0_ := Zw (blk_grown (g := gb433) (o := .cells #[.slice (some ad437) l0_0.length c0_0] 24 (0, 0)) (Zb BK433.out) hg (Kd.R_ne HO_5.out BK433.out (by decide))); have n1_ := Zw (blk_grown (g := gb434) (o := .cells #[.slice A1_0 l1_0.length c1_0] 24 (0, 0)) (Zb BK434.out) hg (Kd.R_ne HO_5.out BK434.out (by decide))); have n2_ := Zw (hb); have n3_ := Zw (ho); clear BK433; clear BK434; clear HB; clear HO_5; have BK433 := n0_; have BK434 := n1_; have HB := n2_; have HO440 := n3_; clear n0_ n1_ n2_ n3_; clear ho hb hg hat))
            go_roundg kj12
            case measure => have := HK1.out; have := HJ4.out; have := HJ12.out; omega
            case rel => exact ⟨(y438), (wrap64 (x6_1 + 1)), (x7_1), (by first | rfl | (simp; done) | (simp [*]; done)), (by first | rfl | (simp; done) | (simp [*]; done)), H', ⟨by have := HK1.out; have := HJ4.out; have := HJ12.out; omega⟩, ⟨ZR HO440.out⟩, ⟨Zb BK433.out⟩, ⟨Zb BK434.out⟩, ⟨Zh2 HB.out GE433.out GE434.out⟩⟩
           ·rw [if_neg c25] at H
            exact absurd H (by simp)
          ·rw [if_neg c24] at H
           exact absurd H (by simp)
         ·rw [if_neg c23] at H
          exact absurd H (by simp)
        ·replace c22 := Bool.eq_false_iff.mpr c22
         subst c22
         have H1 : (if x6_1 = (l0_0.length : Int) then (memory_Changed.j3 kj12 x5_1 x6_1 x7_1 true l0_0 l1_0) else (if 0 ≤ x7_1 then (if x7_1 < (l1_0.length : Int) then (if 0 ≤ x6_1 then (if x6_1 < (l0_0.length : Int) then (memory_Changed.j3 kj12 x5_1 x6_1 x7_1 (decide (((rd_T31 l1_0 x7_1).f0) < ((rd_T31 l0_0 x6_1).f0))) l0_0 l1_0) else (none)) else (none)) else (none)) else (none))) = some r := by rw [if_neg (show ¬ (false = true) by decide)] at H; exact H
         clear H
         have H := H1
         clear H1
         have HC29 := Aside0.mk H
         clear H
         go_upto_region 11 with (fail)
         go_cut [84] (fun v84 wc => ∃ (kq : Nat) (x84_28 : Bool), v84 = .bool x84_28 ∧ Aside0 (memory_Changed.j3 kq x5_1 x6_1 x7_1 x84_28 l0_0 l1_0 = some r) ∧ Aside0 (kq ≤ kj12) ∧ Aside0 (Kd.R (Kd.int .i64) 3 wc w.heap.size (fun _ => True) u5 x5_1) ∧ Aside0 (wc.heap[gb433]? = some (.cells #[(.slice A0_0 l0_0.length c0_0)] 24 (0, 0))) ∧ Aside0 (wc.heap[gb434]? = some (.cells #[(.slice A1_0 l1_0.length c1_0)] 24 (0, 0))) ∧ Aside0 (Below w.heap.size w wc))
         case first =>
          have H := HC29.out
          clear HC29
          by_cases c30 : x6_1 = (l0_0.length : Int)
          ·rw [if_pos c30] at H
           have c30b0 : (x6_1 == (l0_0.length : Int)) = true := beq_iff_eq.mpr c30
           have c30b1 : (x6_1 != (l0_0.length : Int)) = false := bne_eq_false_iff_eq.mpr c30
           clear c30
           (first | rw [c30b0] | (simp only [i64_w, i32_w]; rw [c30b0]) | skip)
           have H' := Aside0.mk H
           clear H
           try go_wp2
           have n0_ := Zw (Kd.R_drew HO_5.out)
           have n1_ := Zw (blk_drew BK433.out)
           have n2_ := Zw (blk_drew BK434.out)
           have n3_ := Zw (below_drew1 HB.out)
           clear HO_5
           clear BK433
           clear BK434
           clear HB
           have HO_5 := n0_
           have BK433 := n1_
           have BK434 := n2_
           have HB := n3_
           clear n0_ n1_ n2_ n3_
           refine start_ (n := 21) (S := fun w' => w'.cell? ⟨gb433, 0, none⟩ = some (.slice A0_0 l0_0.length c0_0)) (ds := []) #[false, false, false, false, false, false, false, false, false, false, false, false, false, false, false, false, false, false, false, false, false] (by kernel_rfl) rfl rfl ((blk_cell BK433.out 0).trans rfl) (fun hHeld => ?_); refine with_tabW memory_Changed.tab11 memory_Changed.bits11 (fun HT_ HW_ => ?_)
           generalize wc.drew = w31 at HO_5 BK433 BK434 HB hHeld ⊢
           refine pure_ (i := 0) (N := some 85) (v := ?_) (a' := ?_) #[true, false, false, false, false, false, false, false, false, false, false, false, false, false, false, false, false, false, false, false, false] rfl rfl (any_of HT_.out (by kernel_rfl)) (fun _ _ _ h => h) (Or.inl ⟨by rfl, ?_⟩) ?_ ?_
           rotate_left
           ·intro w'
            go_simp
            with_reducible rfl
           rotate_left
           ·simp only [Act.put, zsA, zsZ, zsS, i64_w, i32_w]
            rfl
           refine pure_ (i := 1) (N := some 86) (v := ?_) (a' := ?_) #[true, true, false, false, false, false, false, false, false, false, false, false, false, false, false, false, false, false, false, false, false] rfl rfl (any_of HT_.out (by kernel_rfl)) (fun _ _ _ h => h) (Or.inl ⟨by rfl, ?_⟩) ?_ ?_
           rotate_left
           ·intro w'
            go_simp
            with_reducible rfl
           rotate_left
           ·simp only [Act.put, zsA, zsZ, zsS, i64_w, i32_w]
            rfl
           refine take_ (i := 2) (N := some 87) (v := ?_) (a' := ?_) #[true, true, true, false, false, false, false, false, false, false, false, false, false, false, false, false, false, false, false, false, false] rfl rfl (take_ofW HT_.out HW_.out (by kernel_rfl)) (fun _ _ _ h => h) (Or.inl ⟨by rfl, ?_⟩) hHeld ?_ ?_
           rotate_left
           ·intro w' s0
            go_simp
            with_reducible rfl
           rotate_left
           ·simp only [Act.put, zsA, zsZ, zsS, i64_w, i32_w]
            rfl
           refine pure_ (i := 3) (N := some 88) (v := ?_) (a' := ?_) #[true, true, true, true, false, false, false, false, false, false, false, false, false, false, false, false, false, false, false, false, false] rfl rfl (any_of HT_.out (by kernel_rfl)) (fun _ _ _ h => h) (Or.inl ⟨by rfl, ?_⟩) ?_ ?_
           rotate_left
           ·intro w'
            go_simp
            with_reducible rfl
           rotate_left
           ·simp only [Act.put, zsA, zsZ, zsS, i64_w, i32_w]
            rfl
           refine pure_ (i := 4) (N := some 89) (v := ?_) (a' := ?_) #[true, true, true, true, true, false, false, false, false, false, false, false, false, false, false, false, false, false, false, false, false] rfl rfl (any_of HT_.out (by kernel_rfl)) (fun _ _ _ h => h) (Or.inl ⟨by rfl, ?_⟩) ?_ ?_
           rotate_left
           ·intro w'
            go_simp
            with_reducible rfl
           rotate_left
           ·simp only [Act.put, zsA, zsZ, zsS, i64_w, i32_w]
            rfl
           refine pure_ (i := 5) (N := some 90) (v := ?_) (a' := ?_) #[true, true, true, true, true, true, false, false, false, false, false, false, false, false, false, false, false, false, false, false, false] rfl rfl (any_of HT_.out (by kernel_rfl)) (fun _ _ _ h => h) (Or.inl ⟨by rfl, ?_⟩) ?_ ?_
           rotate_left
           ·intro w'
            go_simp
            with_reducible rfl
           rotate_left
           ·simp only [Act.put, zsA, zsZ, zsS, i64_w, i32_w]
            rfl
           refine pure_ (i := 6) (N := some 91) (v := undef) (a' := ?_) #[true, true, true, true, true, true, true, false, false, false, false, false, false, false, false, false, false, false, false, false, false] rfl rfl (any_of HT_.out (by kernel_rfl)) (fun _ _ _ h => h) (Or.inr ⟨by rfl, rfl⟩) ?_ ?_
           rotate_left
           ·simp only [Act.put, zsA, zsZ, zsS, i64_w, i32_w]
            rfl
           refine pure_ (i := 7) (N := some 92) (v := undef) (a' := ?_) #[true, true, true, true, true, true, true, true, false, false, false, false, false, false, false, false, false, false, false, false, false] rfl rfl (any_of HT_.out (by kernel_rfl)) (fun _ _ _ h => h) (Or.inr ⟨by rfl, rfl⟩) ?_ ?_
           rotate_left
           ·simp only [Act.put, zsA, zsZ, zsS, i64_w, i32_w]
            rfl
           refine pure_ (i := 8) (N := some 93) (v := undef) (a' := ?_) #[true, true, true, true, true, true, true, true, true, false, false, false, false, false, false, false, false, false, false, false, false] rfl rfl (any_of HT_.out (by kernel_rfl)) (fun _ _ _ h => h) (Or.inr ⟨by rfl, rfl⟩) ?_ ?_
           rotate_left
           ·simp only [Act.put, zsA, zsZ, zsS, i64_w, i32_w]
            rfl
           refine pure_ (i := 9) (N := some 94) (v := undef) (a' := ?_) #[true, true, true, true, true, true, true, true, true, true, false, false, false, false, false, false, false, false, false, false, false] rfl rfl (any_of HT_.out (by kernel_rfl)) (fun _ _ _ h => h) (Or.inr ⟨by rfl, rfl⟩) ?_ ?_
           rotate_left
           ·simp only [Act.put, zsA, zsZ, zsS, i64_w, i32_w]
            rfl
           refine pure_ (i := 10) (N := some 95) (v := undef) (a' := ?_) #[true, true, true, true, true, true, true, true, true, true, true, false, false, false, false, false, false, false, false, false, false] rfl rfl (any_of HT_.out (by kernel_rfl)) (fun _ _ _ h => h) (Or.inr ⟨by rfl, rfl⟩) ?_ ?_
           rotate_left
           ·simp only [Act.put, zsA, zsZ, zsS, i64_w, i32_w]
            rfl
           refine pure_ (i := 11) (N := some 96) (v := undef) (a' := ?_) #[true, true, true, true, true, true, true, true, true, true, true, true, false, false, false, false, false, false, false, false, false] rfl rfl (any_of HT_.out (by kernel_rfl)) (fun _ _ _ h => h) (Or.inr ⟨by rfl, rfl⟩) ?_ ?_
           rotate_left
           ·simp only [Act.put, zsA, zsZ, zsS, i64_w, i32_w]
            rfl
           refine pure_ (i := 12) (N := some 97) (v := undef) (a' := ?_) #[true, true, true, true, true, true, true, true, true, true, true, true, true, false, false, false, false, false, false, false, false] rfl rfl (any_of HT_.out (by kernel_rfl)) (fun _ _ _ h => h) (Or.inr ⟨by rfl, rfl⟩) ?_ ?_
           rotate_left
           ·simp only [Act.put, zsA, zsZ, zsS, i64_w, i32_w]
            rfl
           refine pure_ (i := 13) (N := some 98) (v := undef) (a' := ?_) #[true, true, true, true, true, true, true, true, true, true, true, true, true, true, false, false, false, false, false, false, false] rfl rfl (any_of HT_.out (by kernel_rfl)) (fun _ _ _ h => h) (Or.inr ⟨by rfl, rfl⟩) ?_ ?_
           rotate_left
           ·simp only [Act.put, zsA, zsZ, zsS, i64_w, i32_w]
            rfl
           refine pure_ (i := 14) (N := some 99) (v := undef) (a' := ?_) #[true, true, true, true, true, true, true, true, true, true, true, true, true, true, true, false, false, false, false, false, false] rfl rfl (any_of HT_.out (by kernel_rfl)) (fun _ _ _ h => h) (Or.inr ⟨by rfl, rfl⟩) ?_ ?_
           rotate_left
           ·simp only [Act.put, zsA, zsZ, zsS, i64_w, i32_w]
            rfl
           refine pure_ (i := 15) (N := some 100) (v := undef) (a' := ?_) #[true, true, true, true, true, true, true, true, true, true, true, true, true, true, true, true, false, false, false, false, false] rfl rfl (any_of HT_.out (by kernel_rfl)) (fun _ _ _ h => h) (Or.inr ⟨by rfl, rfl⟩) ?_ ?_
           rotate_left
           ·simp only [Act.put, zsA, zsZ, zsS, i64_w, i32_w]
            rfl
           refine pure_ (i := 16) (N := some 101) (v := undef) (a' := ?_) #[true, true, true, true, true, true, true, true, true, true, true, true, true, true, true, true, true, false, false, false, false] rfl rfl (any_of HT_.out (by kernel_rfl)) (fun _ _ _ h => h) (Or.inr ⟨by rfl, rfl⟩) ?_ ?_
           rotate_left
           ·simp only [Act.put, zsA, zsZ, zsS, i64_w, i32_w]
            rfl
           refine pure_ (i := 17) (N := some 102) (v := undef) (a' := ?_) #[true, true, true, true, true, true, true, true, true, true, true, true, true, true, true, true, true, true, false, false, false] rfl rfl (any_of HT_.out (by kernel_rfl)) (fun _ _ _ h => h) (Or.inr ⟨by rfl, rfl⟩) ?_ ?_
           rotate_left
           ·simp only [Act.put, zsA, zsZ, zsS, i64_w, i32_w]
            rfl
           refine pure_ (i := 18) (N := some 103) (v := undef) (a' := ?_) #[true, true, true, true, true, true, true, true, true, true, true, true, true, true, true, true, true, true, true, false, false] rfl rfl (any_of HT_.out (by kernel_rfl)) (fun _ _ _ h => h) (Or.inr ⟨by rfl, rfl⟩) ?_ ?_
           rotate_left
           ·simp only [Act.put, zsA, zsZ, zsS, i64_w, i32_w]
            rfl
           refine pure_ (i := 19) (N := some 104) (v := ?_) (a' := ?_) #[true, true, true, true, true, true, true, true, true, true, true, true, true, true, true, true, true, true, true, true, false] rfl rfl (any_of HT_.out (by kernel_rfl)) (fun _ _ _ h => h) (Or.inl ⟨by rfl, ?_⟩) ?_ ?_
           rotate_left
           ·intro w'
            go_simp
            with_reducible rfl
           rotate_left
           ·simp only [Act.put, zsA, zsZ, zsS, i64_w, i32_w]
            rfl
           refine pure_ (i := 20) (N := some 84) (v := ?_) (a' := ?_) #[true, true, true, true, true, true, true, true, true, true, true, true, true, true, true, true, true, true, true, true, true] rfl rfl (any_of HT_.out (by kernel_rfl)) (fun _ _ _ h => h) (Or.inl ⟨by rfl, ?_⟩) ?_ ?_
           rotate_left
           ·intro w'
            go_simp
            with_reducible rfl
           rotate_left
           ·simp only [Act.put, zsA, zsZ, zsS, i64_w, i32_w]
            rfl
           refine done_ (done_of HT_.out (by kernel_rfl)) ?_
           try go_wp2
           go_meet
           case rel => exact ⟨_, (true), (by first | rfl | (simp; done) | (simp [*]; done)), H', ⟨by have := HK1.out; have := HJ4.out; have := HJ12.out; first | omega | exact Nat.le_refl _⟩, ⟨ZR HO_5.out⟩, ⟨Zb BK433.out⟩, ⟨Zb BK434.out⟩, ⟨Zh2 HB.out GE433.out GE434.out⟩⟩
          ·rw [if_neg c30] at H
           have c30b0 : (x6_1 == (l0_0.length : Int)) = false := beq_eq_false_iff_ne.mpr c30
           have c30b1 : (x6_1 != (l0_0.length : Int)) = true := bne_iff_ne.mpr c30
           (first | rw [c30b0] | (simp only [i64_w, i32_w]; rw [c30b0]) | skip)
           by_cases c32 : 0 ≤ x7_1
           ·rw [if_pos c32] at H
            have c32b0 : decide (0 ≤ x7_1) = true := decide_eq_true c32
            clear c32
            by_cases c33 : x7_1 < (l1_0.length : Int)
            ·rw [if_pos c33] at H
             have c33b0 : decide (x7_1 < (l1_0.length : Int)) = true := decide_eq_true c33
             clear c33
             by_cases c34 : 0 ≤ x6_1
             ·rw [if_pos c34] at H
              have c34b0 : decide (0 ≤ x6_1) = true := decide_eq_true c34
              clear c34
              by_cases c35 : x6_1 < (l0_0.length : Int)
              ·rw [if_pos c35] at H
               have c35b0 : decide (x6_1 < (l0_0.length : Int)) = true := decide_eq_true c35
               clear c35
               have H' := Aside0.mk H
               clear H
               try go_wp2
               have n0_ := Zw (Kd.R_drew HO_5.out)
               have n1_ := Zw (blk_drew BK433.out)
               have n2_ := Zw (blk_drew BK434.out)
               have n3_ := Zw (below_drew1 HB.out)
               clear HO_5
               clear BK433
               clear BK434
               clear HB
               have HO_5 := n0_
               have BK433 := n1_
               have BK434 := n2_
               have HB := n3_
               clear n0_ n1_ n2_ n3_
               have p441 : 0 ≤ (x7_1 : Int) := of_decide_eq_true Za
               have q441 : x7_1 < (l1_0.length : Int) := of_decide_eq_true Za
               obtain ⟨ad441, A441_1, c441_1, e441, hx441_0, hx441_1, hl441_1, hi441_1⟩ := at_T31 HR1_0.out x7_1 p441 q441
               have hw441_1 := hx441_1
               have hw441_0 := hx441_0
               cases e441
               replace hx441_0 := Zl HB.out hx441_0
               replace hx441_1 := Zl HB.out hx441_1
               have HR441_1 := Aside0.mk hi441_1
               have HC441_1 := Aside0.mk hl441_1
               clear hi441_1 hl441_1
               replace p441 := eq_true p441
               replace q441 := eq_true q441
               have p442 : 0 ≤ (x6_1 : Int) := of_decide_eq_true Za
               have q442 : x6_1 < (l0_0.length : Int) := of_decide_eq_true Za
               obtain ⟨ad442, A442_1, c442_1, e442, hx442_0, hx442_1, hl442_1, hi442_1⟩ := at_T31 HR0_0.out x6_1 p442 q442
               have hw442_1 := hx442_1
               have hw442_0 := hx442_0
               cases e442
               replace hx442_0 := Zl HB.out hx442_0
               replace hx442_1 := Zl HB.out hx442_1
               have HR442_1 := Aside0.mk hi442_1
               have HC442_1 := Aside0.mk hl442_1
               clear hi442_1 hl442_1
               replace p442 := eq_true p442
               replace q442 := eq_true q442
               refine start_ (n := 21) (S := fun w' => w'.cell? ⟨gb433, 0, none⟩ = some (.slice (some ad442) l0_0.length c0_0) ∧ w'.cell? ⟨gb434, 0, none⟩ = some (.slice (some ad441) l1_0.length c1_0) ∧ w'.cell? (ad441.add ((x7_1).toNat * 2)) = some (.int .i64 ((rd_T31 l1_0 x7_1).f0)) ∧ w'.cell? ⟨(ad441.add ((x7_1).toNat * 2)).block, (ad441.add ((x7_1).toNat * 2)).off + 1, none⟩ = some (.slice A441_1 ((rd_T31 l1_0 x7_1).f1).length c441_1) ∧ w'.cell? (ad442.add ((x6_1).toNat * 2)) = some (.int .i64 ((rd_T31 l0_0 x6_1).f0)) ∧ w'.cell? ⟨(ad442.add ((x6_1).toNat * 2)).block, (ad442.add ((x6_1).toNat * 2)).off + 1, none⟩ = some (.slice A442_1 ((rd_T31 l0_0 x6_1).f1).length c442_1)) (ds := []) #[false, false, false, false, false, false, false, false, false, false, false, false, false, false, false, false, false, false, false, false, false] (by kernel_rfl) rfl rfl ⟨(blk_cell BK433.out 0).trans rfl, (blk_cell BK434.out 0).trans rfl, ((HB.out.cell (World.block_lt_of_cell? w _ hw441_0)).trans hw441_0), ((HB.out.cell (World.block_lt_of_cell? w _ hw441_1)).trans hw441_1), ((HB.out.cell (World.block_lt_of_cell? w _ hw442_0)).trans hw442_0), ((HB.out.cell (World.block_lt_of_cell? w _ hw442_1)).trans hw442_1)⟩ (fun hHeld => ?_); refine with_tabW memory_Changed.tab11 memory_Changed.bits11 (fun HT_ HW_ => ?_)
               generalize wc.drew = w36 at HO_5 BK433 BK434 HB HR441_1 HR442_1 hx441_0 hx441_1 hx442_0 hx442_1 hHeld ⊢
               refine pure_ (i := 0) (N := some 85) (v := ?_) (a' := ?_) #[true, false, false, false, false, false, false, false, false, false, false, false, false, false, false, false, false, false, false, false, false] rfl rfl (any_of HT_.out (by kernel_rfl)) (fun _ _ _ h => h) (Or.inl ⟨by rfl, ?_⟩) ?_ ?_
               rotate_left
               ·intro w'
                go_simp
                with_reducible rfl
               rotate_left
               ·simp only [Act.put, zsA, zsZ, zsS, i64_w, i32_w]
                rfl
               refine pure_ (i := 1) (N := some 86) (v := ?_) (a' := ?_) #[true, true, false, false, false, false, false, false, false, false, false, false, false, false, false, false, false, false, false, false, false] rfl rfl (any_of HT_.out (by kernel_rfl)) (fun _ _ _ h => h) (Or.inl ⟨by rfl, ?_⟩) ?_ ?_
               rotate_left
               ·intro w'
                go_simp
                with_reducible rfl
               rotate_left
               ·simp only [Act.put, zsA, zsZ, zsS, i64_w, i32_w]
                rfl
               refine take_ (i := 2) (N := some 87) (v := ?_) (a' := ?_) #[true, true, true, false, false, false, false, false, false, false, false, false, false, false, false, false, false, false, false, false, false] rfl rfl (take_ofW HT_.out HW_.out (by kernel_rfl)) (fun _ _ _ h => h) (Or.inl ⟨by rfl, ?_⟩) hHeld ?_ ?_
               rotate_left
               ·rintro w' ⟨s0, s1, s2, s3, s4, s5⟩
                go_simp
                with_reducible rfl
               rotate_left
               ·simp only [Act.put, zsA, zsZ, zsS, i64_w, i32_w]
                rfl
               refine pure_ (i := 3) (N := some 88) (v := ?_) (a' := ?_) #[true, true, true, true, false, false, false, false, false, false, false, false, false, false, false, false, false, false, false, false, false] rfl rfl (any_of HT_.out (by kernel_rfl)) (fun _ _ _ h => h) (Or.inl ⟨by rfl, ?_⟩) ?_ ?_
               rotate_left
               ·intro w'
                go_simp
                with_reducible rfl
               rotate_left
               ·simp only [Act.put, zsA, zsZ, zsS, i64_w, i32_w]
                rfl
               refine pure_ (i := 4) (N := some 89) (v := ?_) (a' := ?_) #[true, true, true, true, true, false, false, false, false, false, false, false, false, false, false, false, false, false, false, false, false] rfl rfl (any_of HT_.out (by kernel_rfl)) (fun _ _ _ h => h) (Or.inl ⟨by rfl, ?_⟩) ?_ ?_
               rotate_left
               ·intro w'
                go_simp
                with_reducible rfl
               rotate_left
               ·simp only [Act.put, zsA, zsZ, zsS, i64_w, i32_w]
                rfl
               refine pure_ (i := 5) (N := some 90) (v := ?_) (a' := ?_) #[true, true, true, true, true, true, false, false, false, false, false, false, false, false, false, false, false, false, false, false, false] rfl rfl (any_of HT_.out (by kernel_rfl)) (fun _ _ _ h => h) (Or.inl ⟨by rfl, ?_⟩) ?_ ?_
               rotate_left
               ·intro w'
                go_simp
                with_reducible rfl
               rotate_left
               ·simp only [Act.put, zsA, zsZ, zsS, i64_w, i32_w]
                rfl
               refine pure_ (i := 6) (N := some 91) (v := ?_) (a' := ?_) #[true, true, true, true, true, true, true, false, false, false, false, false, false, false, false, false, false, false, false, false, false] rfl rfl (any_of HT_.out (by kernel_rfl)) (fun _ _ _ h => h) (Or.inl ⟨by rfl, ?_⟩) ?_ ?_
               rotate_left
               ·intro w'
                go_simp
                with_reducible rfl
               rotate_left
               ·simp only [Act.put, zsA, zsZ, zsS, i64_w, i32_w]
                rfl
               refine pure_ (i := 8) (N := some 93) (v := ?_) (a' := ?_) #[true, true, true, true, true, true, true, false, true, false, false, false, false, false, false, false, false, false, false, false, false] rfl rfl (any_of HT_.out (by kernel_rfl)) (fun _ _ _ h => h) (Or.inl ⟨by rfl, ?_⟩) ?_ ?_
               rotate_left
               ·intro w'
                go_simp
                with_reducible rfl
               rotate_left
               ·simp only [Act.put, zsA, zsZ, zsS, i64_w, i32_w]
                rfl
               refine pure_ (i := 12) (N := some 97) (v := ?_) (a' := ?_) #[true, true, true, true, true, true, true, false, true, false, false, false, true, false, false, false, false, false, false, false, false] rfl rfl (any_of HT_.out (by kernel_rfl)) (fun _ _ _ h => h) (Or.inl ⟨by rfl, ?_⟩) ?_ ?_
               rotate_left
               ·intro w'
                go_simp
                with_reducible rfl
               rotate_left
               ·simp only [Act.put, zsA, zsZ, zsS, i64_w, i32_w]
                rfl
               refine pure_ (i := 14) (N := some 99) (v := ?_) (a' := ?_) #[true, true, true, true, true, true, true, false, true, false, false, false, true, false, true, false, false, false, false, false, false] rfl rfl (any_of HT_.out (by kernel_rfl)) (fun _ _ _ h => h) (Or.inl ⟨by rfl, ?_⟩) ?_ ?_
               rotate_left
               ·intro w'
                go_simp
                with_reducible rfl
               rotate_left
               ·simp only [Act.put, zsA, zsZ, zsS, i64_w, i32_w]
                rfl
               refine take_ (i := 7) (N := some 92) (v := ?_) (a' := ?_) #[true, true, true, true, true, true, true, true, true, false, false, false, true, false, true, false, false, false, false, false, false] rfl rfl (take_ofW HT_.out HW_.out (by kernel_rfl)) (fun _ _ _ h => h) (Or.inl ⟨by rfl, ?_⟩) hHeld ?_ ?_
               rotate_left
               ·rintro w' ⟨s0, s1, s2, s3, s4, s5⟩
                go_simp
                with_reducible rfl
               rotate_left
               ·simp only [Act.put, zsA, zsZ, zsS, i64_w, i32_w]
                rfl
               refine pure_ (i := 9) (N := some 94) (v := ?_) (a' := ?_) #[true, true, true, true, true, true, true, true, true, true, false, false, true, false, true, false, false, false, false, false, false] rfl rfl (any_of HT_.out (by kernel_rfl)) (fun _ _ _ h => h) (Or.inl ⟨by rfl, ?_⟩) ?_ ?_
               rotate_left
               ·intro w'
                go_simp
                with_reducible rfl
               rotate_left
               ·simp only [Act.put, zsA, zsZ, zsS, i64_w, i32_w]
                rfl
               refine pure_ (i := 10) (N := some 95) (v := ?_) (a' := ?_) #[true, true, true, true, true, true, true, true, true, true, true, false, true, false, true, false, false, false, false, false, false] rfl rfl (any_of HT_.out (by kernel_rfl)) (fun _ _ _ h => h) (Or.inl ⟨by rfl, ?_⟩) ?_ ?_
               rotate_left
               ·intro w'
                go_simp
                with_reducible rfl
               rotate_left
               ·simp only [Act.put, zsA, zsZ, zsS, i64_w, i32_w]
                rfl
               refine take_ (i := 11) (N := some 96) (v := ?_) (a' := ?_) #[true, true, true, true, true, true, true, true, true, true, true, true, true, false, true, false, false, false, false, false, false] rfl rfl (take_ofW HT_.out HW_.out (by kernel_rfl)) (fun _ _ _ h => h) (Or.inl ⟨by rfl, ?_⟩) hHeld ?_ ?_
               rotate_left
               ·rintro w' ⟨s0, s1, s2, s3, s4, s5⟩
                go_simp
                with_reducible rfl
               rotate_left
               ·simp only [Act.put, zsA, zsZ, zsS, i64_w, i32_w]
                rfl
               refine take_ (i := 13) (N := some 98) (v := ?_) (a' := ?_) #[true, true, true, true, true, true, true, true, true, true, true, true, true, true, true, false, false, false, false, false, false] rfl rfl (take_ofW HT_.out HW_.out (by kernel_rfl)) (fun _ _ _ h => h) (Or.inl ⟨by rfl, ?_⟩) hHeld ?_ ?_
               rotate_left
               ·rintro w' ⟨s0, s1, s2, s3, s4, s5⟩
                go_simp
                with_reducible rfl
               rotate_left
               ·simp only [Act.put, zsA, zsZ, zsS, i64_w, i32_w]
                rfl
               refine pure_ (i := 15) (N := some 100) (v := ?_) (a' := ?_) #[true, true, true, true, true, true, true, true, true, true, true, true, true, true, true, true, false, false, false, false, false] rfl rfl (any_of HT_.out (by kernel_rfl)) (fun _ _ _ h => h) (Or.inl ⟨by rfl, ?_⟩) ?_ ?_
               rotate_left
               ·intro w'
                go_simp
                with_reducible rfl
               rotate_left
               ·simp only [Act.put, zsA, zsZ, zsS, i64_w, i32_w]
                rfl
               refine pure_ (i := 16) (N := some 101) (v := ?_) (a' := ?_) #[true, true, true, true, true, true, true, true, true, true, true, true, true, true, true, true, true, false, false, false, false] rfl rfl (any_of HT_.out (by kernel_rfl)) (fun _ _ _ h => h) (Or.inl ⟨by rfl, ?_⟩) ?_ ?_
               rotate_left
               ·intro w'
                go_simp
                with_reducible rfl
               rotate_left
               ·simp only [Act.put, zsA, zsZ, zsS, i64_w, i32_w]
                rfl
               refine take_ (i := 17) (N := some 102) (v := ?_) (a' := ?_) #[true, true, true, true, true, true, true, true, true, true, true, true, true, true, true, true, true, true, false, false, false] rfl rfl (take_ofW HT_.out HW_.out (by kernel_rfl)) (fun _ _ _ h => h) (Or.inl ⟨by rfl, ?_⟩) hHeld ?_ ?_
               rotate_left
               ·rintro w' ⟨s0, s1, s2, s3, s4, s5⟩
                go_simp
                with_reducible rfl
               rotate_left
               ·simp only [Act.put, zsA, zsZ, zsS, i64_w, i32_w]
                rfl
               refine pure_ (i := 18) (N := some 103) (v := ?_) (a' := ?_) #[true, true, true, true, true, true, true, true, true, true, true, true, true, true, true, true, true, true, true, false, false] rfl rfl (any_of HT_.out (by kernel_rfl)) (fun _ _ _ h => h) (Or.inl ⟨by rfl, ?_⟩) ?_ ?_
               rotate_left
               ·intro w'
                go_simp
                with_reducible rfl
               rotate_left
               ·simp only [Act.put, zsA, zsZ, zsS, i64_w, i32_w]
                rfl
               refine pure_ (i := 19) (N := some 104) (v := ?_) (a' := ?_) #[true, true, true, true, true, true, true, true, true, true, true, true, true, true, true, true, true, true, true, true, false] rfl rfl (any_of HT_.out (by kernel_rfl)) (fun _ _ _ h => h) (Or.inl ⟨by rfl, ?_⟩) ?_ ?_
               rotate_left
               ·intro w'
                go_simp
                with_reducible rfl
               rotate_left
               ·simp only [Act.put, zsA, zsZ, zsS, i64_w, i32_w]
                rfl
               refine pure_ (i := 20) (N := some 84) (v := ?_) (a' := ?_) #[true, true, true, true, true, true, true, true, true, true, true, true, true, true, true, true, true, true, true, true, true] rfl rfl (any_of HT_.out (by kernel_rfl)) (fun _ _ _ h => h) (Or.inl ⟨by rfl, ?_⟩) ?_ ?_
               rotate_left
               ·intro w'
                go_simp
                with_reducible rfl
               rotate_left
               ·simp only [Act.put, zsA, zsZ, zsS, i64_w, i32_w]
                rfl
               refine done_ (done_of HT_.out (by kernel_rfl)) ?_
               try go_wp2
               go_meet
               case rel => exact ⟨_, (decide (((rd_T31 l1_0 x7_1).f0) < ((rd_T31 l0_0 x6_1).f0))), (by first | rfl | (simp; done) | (simp [*]; done)), H', ⟨by have := HK1.out; have := HJ4.out; have := HJ12.out; first | omega | exact Nat.le_refl _⟩, ⟨ZR HO_5.out⟩, ⟨Zb BK433.out⟩, ⟨Zb BK434.out⟩, ⟨Zh2 HB.out GE433.out GE434.out⟩⟩
              ·rw [if_neg c35] at H
               exact absurd H (by simp)
             ·rw [if_neg c34] at H
              exact absurd H (by simp)
            ·rw [if_neg c33] at H
             exact absurd H (by simp)
           ·rw [if_neg c32] at H
            exact absurd H (by simp)
         case rest =>
          clear HC29
          try clear c1
          try clear c2
          try clear p2
          try clear c3
          try clear c4
          try clear p4
          try clear q4
          try clear hx4
          try clear p6
          try clear c14
          try clear c14b0
          try clear c14b1
          try clear c16
          try clear c16b0
          try clear c17
          try clear c17b0
          try clear c18
          try clear c18b0
          try clear c19
          try clear c19b0
          try clear c22
          try clear c23
          try clear c23b0
          try clear c24
          try clear c24b0
          try clear c25
          try clear c26
          try clear c30
          try clear c30b0
          try clear c30b1
          try clear c32
          try clear c32b0
          try clear c33
          try clear c33b0
          try clear c34
          try clear c34b0
          try clear c35
          try clear c35b0
          try clear hcz27_0
          try clear hfz27_0
          try clear hx435_0
          try clear hx435_1
          try clear hx436_0
          try clear hx436_1
          try clear hx437_0
          try clear hx437_1
          try clear hx441_0
          try clear hx441_1
          try clear hx442_0
          try clear hx442_1
          try clear p2
          try clear p4
          try clear p435
          try clear p436
          try clear p437
          try clear p441
          try clear p442
          try clear q4
          try clear q435
          try clear q436
          try clear q437
          try clear q441
          try clear q442
          obtain ⟨kq, x84_28, rfl, HA, HJ28, HO_5, BK433, BK434, HB⟩ := hcut
          cases kq with
          | zero => exact absurd HA.out (by simp [memory_Changed.j3])
          | succ kj28 =>
           have H := HA.out
           clear HA
           simp only [memory_Changed.j3] at H
           by_cases c37 : x84_28 = true
           ·subst c37
            have H1 : (if 0 ≤ x7_1 then (if x7_1 < (l1_0.length : Int) then (if x5_1.length < 17592186044416 then (memory_Changed.l0 kj28 (x5_1 ++ [(rd_T31 l1_0 x7_1).f0]) x6_1 (wrap64 (x7_1 + 1)) l0_0 l1_0) else (none)) else (none)) else (none)) = some r := by rw [if_pos rfl] at H; exact H
            clear H
            have H := H1
            clear H1
            by_cases c38 : 0 ≤ x7_1
            ·rw [if_pos c38] at H
             have c38b0 : decide (0 ≤ x7_1) = true := decide_eq_true c38
             clear c38
             by_cases c39 : x7_1 < (l1_0.length : Int)
             ·rw [if_pos c39] at H
              have c39b0 : decide (x7_1 < (l1_0.length : Int)) = true := decide_eq_true c39
              clear c39
              by_cases c40 : x5_1.length < 17592186044416
              ·rw [if_pos c40] at H
               have LMc40 := Aside0.mk c40
               clear c40
               obtain ⟨y444, hy444⟩ : ∃ y_ : List Int, y_ = (x5_1 ++ [(rd_T31 l1_0 x7_1).f0]) := ⟨_, rfl⟩
               replace H : (memory_Changed.l0 kj28 y444 x6_1 (wrap64 (x7_1 + 1)) l0_0 l1_0) = some r := by first | (rw [hy444]; with_reducible exact H) | (have H2_ := (Option.bind_some _ _).symm.trans H; rw [hy444]; with_reducible exact H2_) | (have H2_ := (Option.bind_some _ _).symm.trans H; with_reducible exact H2_) | with_reducible exact H | (rw [hy444]; exact H) | exact H
               have Ny444 := Aside0.mk hy444
               clear hy444
               have H' := Aside0.mk H
               clear H
               have hnb41 := NB434_433.out
               have hnc41 := NB433_434.out
               have hcz42_0 := Zcl BK434.out 0 rfl
               have hfz42_0 := blk_frozen BK434.out 0
               have p443 : 0 ≤ (x7_1 : Int) := of_decide_eq_true Za
               have q443 : x7_1 < (l1_0.length : Int) := of_decide_eq_true Za
               obtain ⟨ad443, A443_1, c443_1, e443, hx443_0, hx443_1, hl443_1, hi443_1⟩ := at_T31 HR1_0.out x7_1 p443 q443
               cases e443
               replace hx443_0 := Zl HB.out hx443_0
               replace hx443_1 := Zl HB.out hx443_1
               have HR443_1 := Aside0.mk hi443_1
               have HC443_1 := Aside0.mk hl443_1
               clear hi443_1 hl443_1
               replace p443 := eq_true p443
               replace q443 := eq_true q443
               go_wp2_with (first | ((with_reducible refine gate_builtin (b := .append) (xs := #[(.tmp 105), .tmp 112]) rfl ?_); (try (refine gate_guard (by rfl) ?_; dsimp only)); at_builtin; refine Kd.R_append (Kd.int .i64) (w0 := w) w.heap.size rfl (.tmp 105) (.tmp 112) 25 3 (.int .i64 0) 8 rfl Try.underlying25 info3 rfl (by decide) (by omega) u5 x5_1 ((rd_T31 l1_0 x7_1).f0) [.int .i64 ((rd_T31 l1_0 x7_1).f0)] (fun _ => True) (fun _ => False) rfl rfl ?aP (fun _ hk => hk.elim) ?aF ?aO ?aB ?aS ?aL ?_; (case aP => exact rfl); (case aB => exact (Zh2 HB.out GE433.out GE434.out)); (case aF => exact (fun _ _ => trivial)); (case aO => exact (ZR HO_5.out)); (case aS => exact (below_size (Zh2 HB.out GE433.out GE434.out))); (case aL => have := LMc40.out; omega); intro v445 w43 ho hb hg hat; rw [← Ny444.out] at ho; have n0_ := Zw (blk_grown (g := gb433) (o := .cells #[.slice A0_0 l0_0.length c0_0] 24 (0, 0)) (Zb BK433.out) hg (Kd.R_ne HO_5.out BK433.out (by decide))); have n1_ := Zw (blk_grown (g := gb434) (o := .cells #[.slice (some ad443) l1_0.length c1_0] 24 (0, 0)) (Zb BK434.out) hg (Kd.R_ne HO_5.out BK434.out (by decide))); have n2_ := Zw (hb); have n3_ := Zw (ho); clear BK433; clear BK434; clear HB; clear HO_5; have BK433 := n0_; have BK434 := n1_; have HB := n2_; have HO446 := n3_; clear n0_ n1_ n2_ n3_; clear ho hb hg hat))
               go_roundg kj28
               case measure => have := HK1.out; have := HJ4.out; have := HJ12.out; have := HJ28.out; omega
               case rel => exact ⟨(y444), (x6_1), (wrap64 (x7_1 + 1)), (by first | rfl | (simp; done) | (simp [*]; done)), (by first | rfl | (simp; done) | (simp [*]; done)), H', ⟨by have := HK1.out; have := HJ4.out; have := HJ12.out; have := HJ28.out; omega⟩, ⟨ZR HO446.out⟩, ⟨Zb BK433.out⟩, ⟨Zb BK434.out⟩, ⟨Zh2 HB.out GE433.out GE434.out⟩⟩
              ·rw [if_neg c40] at H
               exact absurd H (by simp)
             ·rw [if_neg c39] at H
              exact absurd H (by simp)
            ·rw [if_neg c38] at H
             exact absurd H (by simp)
           ·replace c37 := Bool.eq_false_iff.mpr c37
            subst c37
            have H1 : (if 0 ≤ x6_1 then (if x6_1 < (l0_0.length : Int) then (if 0 ≤ x7_1 then (if x7_1 < (l1_0.length : Int) then ((memory_same.f kj28 ((rd_T31 l0_0 x6_1).f0) ((rd_T31 l0_0 x6_1).f1) ((rd_T31 l1_0 x7_1).f0) ((rd_T31 l1_0 x7_1).f1)).bind fun t449 => (if t449 = true then (memory_Changed.l0 kj28 x5_1 (wrap64 (x6_1 + 1)) (wrap64 (x7_1 + 1)) l0_0 l1_0) else (if x5_1.length < 17592186044416 then (memory_Changed.l0 kj28 (x5_1 ++ [(rd_T31 l0_0 x6_1).f0]) (wrap64 (x6_1 + 1)) (wrap64 (x7_1 + 1)) l0_0 l1_0) else (none)))) else (none)) else (none)) else (none)) else (none)) = some r := by rw [if_neg (show ¬ (false = true) by decide)] at H; exact H
            clear H
            have H := H1
            clear H1
            by_cases c44 : 0 ≤ x6_1
            ·rw [if_pos c44] at H
             have c44b0 : decide (0 ≤ x6_1) = true := decide_eq_true c44
             clear c44
             by_cases c45 : x6_1 < (l0_0.length : Int)
             ·rw [if_pos c45] at H
              have c45b0 : decide (x6_1 < (l0_0.length : Int)) = true := decide_eq_true c45
              clear c45
              by_cases c46 : 0 ≤ x7_1
              ·rw [if_pos c46] at H
               have c46b0 : decide (0 ≤ x7_1) = true := decide_eq_true c46
               clear c46
               by_cases c47 : x7_1 < (l1_0.length : Int)
               ·rw [if_pos c47] at H
                have c47b0 : decide (x7_1 < (l1_0.length : Int)) = true := decide_eq_true c47
                clear c47
                replace H := Option.bind_eq_some_iff.mp H
                obtain ⟨t449, A480, H⟩ := H
                replace H : (if t449 = true then (memory_Changed.l0 kj28 x5_1 (wrap64 (x6_1 + 1)) (wrap64 (x7_1 + 1)) l0_0 l1_0) else (if x5_1.length < 17592186044416 then (memory_Changed.l0 kj28 (x5_1 ++ [(rd_T31 l0_0 x6_1).f0]) (wrap64 (x6_1 + 1)) (wrap64 (x7_1 + 1)) l0_0 l1_0) else (none))) = some r := H
                have A48 := Aside0.mk A480
                clear A480
                by_cases c49 : t449 = true
                ·subst c49
                 have H1 : (memory_Changed.l0 kj28 x5_1 (wrap64 (x6_1 + 1)) (wrap64 (x7_1 + 1)) l0_0 l1_0) = some r := by rw [if_pos rfl] at H; exact H
                 clear H
                 have H := H1
                 clear H1
                 have H' := Aside0.mk H
                 clear H
                 try go_wp2
                 have n0_ := Zw (Kd.R_drew HO_5.out)
                 have n1_ := Zw (blk_drew BK433.out)
                 have n2_ := Zw (blk_drew BK434.out)
                 have n3_ := Zw (below_drew1 HB.out)
                 clear HO_5
                 clear BK433
                 clear BK434
                 clear HB
                 have HO_5 := n0_
                 have BK433 := n1_
                 have BK434 := n2_
                 have HB := n3_
                 clear n0_ n1_ n2_ n3_
                 have p447 : 0 ≤ (x6_1 : Int) := of_decide_eq_true Za
                 have q447 : x6_1 < (l0_0.length : Int) := of_decide_eq_true Za
                 obtain ⟨ad447, A447_1, c447_1, e447, hx447_0, hx447_1, hl447_1, hi447_1⟩ := at_T31 HR0_0.out x6_1 p447 q447
                 have hw447_1 := hx447_1
                 have hw447_0 := hx447_0
                 cases e447
                 replace hx447_0 := Zl HB.out hx447_0
                 replace hx447_1 := Zl HB.out hx447_1
                 have HR447_1 := Aside0.mk hi447_1
                 have HC447_1 := Aside0.mk hl447_1
                 clear hi447_1 hl447_1
                 replace p447 := eq_true p447
                 replace q447 := eq_true q447
                 have p448 : 0 ≤ (x7_1 : Int) := of_decide_eq_true Za
                 have q448 : x7_1 < (l1_0.length : Int) := of_decide_eq_true Za
                 obtain ⟨ad448, A448_1, c448_1, e448, hx448_0, hx448_1, hl448_1, hi448_1⟩ := at_T31 HR1_0.out x7_1 p448 q448
                 have hw448_1 := hx448_1
                 have hw448_0 := hx448_0
                 cases e448
                 replace hx448_0 := Zl HB.out hx448_0
                 replace hx448_1 := Zl HB.out hx448_1
                 have HR448_1 := Aside0.mk hi448_1
                 have HC448_1 := Aside0.mk hl448_1
                 clear hi448_1 hl448_1
                 replace p448 := eq_true p448
                 replace q448 := eq_true q448
                 refine start_ (n := 12) (S := fun w' => w'.cell? ⟨gb433, 0, none⟩ = some (.slice (some ad447) l0_0.length c0_0) ∧ w'.cell? ⟨gb434, 0, none⟩ = some (.slice (some ad448) l1_0.length c1_0) ∧ w'.cell? (ad447.add ((x6_1).toNat * 2)) = some (.int .i64 ((rd_T31 l0_0 x6_1).f0)) ∧ w'.cell? ⟨(ad447.add ((x6_1).toNat * 2)).block, (ad447.add ((x6_1).toNat * 2)).off + 1, none⟩ = some (.slice A447_1 ((rd_T31 l0_0 x6_1).f1).length c447_1) ∧ w'.cell? (ad448.add ((x7_1).toNat * 2)) = some (.int .i64 ((rd_T31 l1_0 x7_1).f0)) ∧ w'.cell? ⟨(ad448.add ((x7_1).toNat * 2)).block, (ad448.add ((x7_1).toNat * 2)).off + 1, none⟩ = some (.slice A448_1 ((rd_T31 l1_0 x7_1).f1).length c448_1)) (ds := []) #[false, false, false, false, false, false, false, false, false, false, false, false] (by kernel_rfl) rfl rfl ⟨(blk_cell BK433.out 0).trans rfl, (blk_cell BK434.out 0).trans rfl, ((HB.out.cell (World.block_lt_of_cell? w _ hw447_0)).trans hw447_0), ((HB.out.cell (World.block_lt_of_cell? w _ hw447_1)).trans hw447_1), ((HB.out.cell (World.block_lt_of_cell? w _ hw448_0)).trans hw448_0), ((HB.out.cell (World.block_lt_of_cell? w _ hw448_1)).trans hw448_1)⟩ (fun hHeld => ?_); refine with_tabW memory_Changed.tab4 memory_Changed.bits4 (fun HT_ HW_ => ?_)
                 generalize wc.drew = w50 at HO_5 BK433 BK434 HB HR447_1 HR448_1 hx447_0 hx447_1 hx448_0 hx448_1 hHeld ⊢
                 refine pure_ (i := 0) (N := some 20) (v := ?_) (a' := ?_) #[true, false, false, false, false, false, false, false, false, false, false, false] rfl rfl (any_of HT_.out (by kernel_rfl)) (fun _ _ _ h => h) (Or.inl ⟨by rfl, ?_⟩) ?_ ?_
                 rotate_left
                 ·intro w'
                  go_simp
                  with_reducible rfl
                 rotate_left
                 ·simp only [Act.put, zsA, zsZ, zsS, i64_w, i32_w]
                  rfl
                 refine pure_ (i := 2) (N := some 22) (v := ?_) (a' := ?_) #[true, false, true, false, false, false, false, false, false, false, false, false] rfl rfl (any_of HT_.out (by kernel_rfl)) (fun _ _ _ h => h) (Or.inl ⟨by rfl, ?_⟩) ?_ ?_
                 rotate_left
                 ·intro w'
                  go_simp
                  with_reducible rfl
                 rotate_left
                 ·simp only [Act.put, zsA, zsZ, zsS, i64_w, i32_w]
                  rfl
                 refine pure_ (i := 5) (N := some 25) (v := ?_) (a' := ?_) #[true, false, true, false, false, true, false, false, false, false, false, false] rfl rfl (any_of HT_.out (by kernel_rfl)) (fun _ _ _ h => h) (Or.inl ⟨by rfl, ?_⟩) ?_ ?_
                 rotate_left
                 ·intro w'
                  go_simp
                  with_reducible rfl
                 rotate_left
                 ·simp only [Act.put, zsA, zsZ, zsS, i64_w, i32_w]
                  rfl
                 refine pure_ (i := 7) (N := some 27) (v := ?_) (a' := ?_) #[true, false, true, false, false, true, false, true, false, false, false, false] rfl rfl (any_of HT_.out (by kernel_rfl)) (fun _ _ _ h => h) (Or.inl ⟨by rfl, ?_⟩) ?_ ?_
                 rotate_left
                 ·intro w'
                  go_simp
                  with_reducible rfl
                 rotate_left
                 ·simp only [Act.put, zsA, zsZ, zsS, i64_w, i32_w]
                  rfl
                 refine take_ (i := 1) (N := some 21) (v := ?_) (a' := ?_) #[true, true, true, false, false, true, false, true, false, false, false, false] rfl rfl (take_ofW HT_.out HW_.out (by kernel_rfl)) (fun _ _ _ h => h) (Or.inl ⟨by rfl, ?_⟩) hHeld ?_ ?_
                 rotate_left
                 ·rintro w' ⟨s0, s1, s2, s3, s4, s5⟩
                  go_simp
                  with_reducible rfl
                 rotate_left
                 ·simp only [Act.put, zsA, zsZ, zsS, i64_w, i32_w]
                  rfl
                 refine pure_ (i := 3) (N := some 23) (v := ?_) (a' := ?_) #[true, true, true, true, false, true, false, true, false, false, false, false] rfl rfl (any_of HT_.out (by kernel_rfl)) (fun _ _ _ h => h) (Or.inl ⟨by rfl, ?_⟩) ?_ ?_
                 rotate_left
                 ·intro w'
                  go_simp
                  with_reducible rfl
                 rotate_left
                 ·simp only [Act.put, zsA, zsZ, zsS, i64_w, i32_w]
                  rfl
                 refine take_ (i := 4) (N := some 24) (v := ?_) (a' := ?_) #[true, true, true, true, true, true, false, true, false, false, false, false] rfl rfl (take_ofW HT_.out HW_.out (by kernel_rfl)) (fun _ _ _ h => h) (Or.inl ⟨by rfl, ?_⟩) hHeld ?_ ?_
                 rotate_left
                 ·rintro w' ⟨s0, s1, s2, s3, s4, s5⟩
                  go_simp
                  with_reducible rfl
                 rotate_left
                 ·simp only [Act.put, zsA, zsZ, zsS, i64_w, i32_w]
                  rfl
                 refine take_ (i := 6) (N := some 26) (v := ?_) (a' := ?_) #[true, true, true, true, true, true, true, true, false, false, false, false] rfl rfl (take_ofW HT_.out HW_.out (by kernel_rfl)) (fun _ _ _ h => h) (Or.inl ⟨by rfl, ?_⟩) hHeld ?_ ?_
                 rotate_left
                 ·rintro w' ⟨s0, s1, s2, s3, s4, s5⟩
                  go_simp
                  with_reducible rfl
                 rotate_left
                 ·simp only [Act.put, zsA, zsZ, zsS, i64_w, i32_w]
                  rfl
                 refine pure_ (i := 8) (N := some 28) (v := ?_) (a' := ?_) #[true, true, true, true, true, true, true, true, true, false, false, false] rfl rfl (any_of HT_.out (by kernel_rfl)) (fun _ _ _ h => h) (Or.inl ⟨by rfl, ?_⟩) ?_ ?_
                 rotate_left
                 ·intro w'
                  go_simp
                  with_reducible rfl
                 rotate_left
                 ·simp only [Act.put, zsA, zsZ, zsS, i64_w, i32_w]
                  rfl
                 refine take_ (i := 9) (N := some 29) (v := ?_) (a' := ?_) #[true, true, true, true, true, true, true, true, true, true, false, false] rfl rfl (take_ofW HT_.out HW_.out (by kernel_rfl)) (fun _ _ _ h => h) (Or.inl ⟨by rfl, ?_⟩) hHeld ?_ ?_
                 rotate_left
                 ·rintro w' ⟨s0, s1, s2, s3, s4, s5⟩
                  go_simp
                  with_reducible rfl
                 rotate_left
                 ·simp only [Act.put, zsA, zsZ, zsS, i64_w, i32_w]
                  rfl
                 refine one_ (i := 10) (N := some 30) #[true, true, true, true, true, true, true, true, true, true, true, false] rfl rfl (one_of HT_.out (by kernel_rfl)) (by decide) (fun K hK => ?_)
                 refine goes_ Try.func40 (by kernel_rfl) rfl #[.agg #[.int .i64 ((rd_T31 l0_0 x6_1).f0), .slice A447_1 ((rd_T31 l0_0 x6_1).f1).length c447_1], .agg #[.int .i64 ((rd_T31 l1_0 x7_1).f0), .slice A448_1 ((rd_T31 l1_0 x7_1).f1).length c448_1]] (by rfl) rfl rfl Zm ?_
                 with_reducible refine (memory_same.calls kj28 ((rd_T31 l0_0 x6_1).f0) _ _ ((rd_T31 l0_0 x6_1).f1) ((rd_T31 l1_0 x7_1).f0) _ _ ((rd_T31 l1_0 x7_1).f1) true _ ?side1 ?side2 ?side3 ?side4 A48.out).mono ?_
                 (case side1 => exact Zc (Kd.C_below HR447_1.out HB.out))
                 (case side2 => exact HC447_1.out)
                 (case side3 => exact Zc (Kd.C_below HR448_1.out HB.out))
                 (case side4 => exact HC448_1.out)
                 rintro e w51 ⟨rfl, hb⟩
                 refine ⟨_, rfl, ?_⟩
                 have n0_ := Zw (Kd.R_below (ZR HO_5.out) hb)
                 have n1_ := Zw (blk_below (g := gb433) (o := .cells #[.slice (some ad447) l0_0.length c0_0] 24 (0, 0)) (Zb BK433.out) hb)
                 have n2_ := Zw (blk_below (g := gb434) (o := .cells #[.slice (some ad448) l1_0.length c1_0] 24 (0, 0)) (Zb BK434.out) hb)
                 have n3_ := Zw (below_step (Zh2 HB.out GE433.out GE434.out) hb)
                 clear HO_5
                 clear BK433
                 clear BK434
                 clear HB
                 have HO_5 := n0_
                 have BK433 := n1_
                 have BK434 := n2_
                 have HB := n3_
                 clear n0_ n1_ n2_ n3_
                 (try clear hb)
                 (try clear hb2)
                 (try clear hk)
                 (try clear hi)
                 refine hK.out _ _ ⟨(blk_cell BK433.out 0).trans rfl, (blk_cell BK434.out 0).trans rfl, ((HB.out.cell (World.block_lt_of_cell? w _ hw447_0)).trans hw447_0), ((HB.out.cell (World.block_lt_of_cell? w _ hw447_1)).trans hw447_1), ((HB.out.cell (World.block_lt_of_cell? w _ hw448_0)).trans hw448_0), ((HB.out.cell (World.block_lt_of_cell? w _ hw448_1)).trans hw448_1)⟩ (fun hHeld => ?_)
                 clear hK K
                 refine norm_ (a' := ?_) ?_ ?_
                 rotate_left
                 ·show Act.put _ (some 30) _ = _
                  simp only [Act.put, zsA, zsZ, zsS, i64_w, i32_w]
                  rfl
                 refine pure_ (i := 11) (N := some 31) (v := ?_) (a' := ?_) #[true, true, true, true, true, true, true, true, true, true, true, true] rfl rfl (any_of HT_.out (by kernel_rfl)) (fun _ _ _ h => h) (Or.inl ⟨by rfl, ?_⟩) ?_ ?_
                 rotate_left
                 ·intro w'
                  go_simp
                  with_reducible rfl
                 rotate_left
                 ·simp only [Act.put, zsA, zsZ, zsS, i64_w, i32_w]
                  rfl
                 refine done_ (done_of HT_.out (by kernel_rfl)) ?_
                 try go_wp2
                 go_roundg kj28
                 case measure => have := HK1.out; have := HJ4.out; have := HJ12.out; have := HJ28.out; omega
                 case rel => exact ⟨(x5_1), (wrap64 (x6_1 + 1)), (wrap64 (x7_1 + 1)), (by first | rfl | (simp; done) | (simp [*]; done)), (by first | rfl | (simp; done) | (simp [*]; done)), H', ⟨by have := HK1.out; have := HJ4.out; have := HJ12.out; have := HJ28.out; omega⟩, ⟨ZR HO_5.out⟩, ⟨Zb BK433.out⟩, ⟨Zb BK434.out⟩, ⟨Zh2 HB.out GE433.out GE434.out⟩⟩
                ·replace c49 := Bool.eq_false_iff.mpr c49
                 subst c49
                 have H1 : (if x5_1.length < 17592186044416 then (memory_Changed.l0 kj28 (x5_1 ++ [(rd_T31 l0_0 x6_1).f0]) (wrap64 (x6_1 + 1)) (wrap64 (x7_1 + 1)) l0_0 l1_0) else (none)) = some r := by rw [if_neg (show ¬ (false = true) by decide)] at H; exact H
                 clear H
                 have H := H1
                 clear H1
                 by_cases c52 : x5_1.length < 17592186044416
                 ·rw [if_pos c52] at H
                  have LMc52 := Aside0.mk c52
                  clear c52
                  obtain ⟨y451, hy451⟩ : ∃ y_ : List Int, y_ = (x5_1 ++ [(rd_T31 l0_0 x6_1).f0]) := ⟨_, rfl⟩
                  replace H : (memory_Changed.l0 kj28 y451 (wrap64 (x6_1 + 1)) (wrap64 (x7_1 + 1)) l0_0 l1_0) = some r := by first | (rw [hy451]; with_reducible exact H) | (have H2_ := (Option.bind_some _ _).symm.trans H; rw [hy451]; with_reducible exact H2_) | (have H2_ := (Option.bind_some _ _).symm.trans H; with_reducible exact H2_) | with_reducible exact H | (rw [hy451]; exact H) | exact H
                  have Ny451 := Aside0.mk hy451
                  clear hy451
                  have H' := Aside0.mk H
                  clear H
                  try go_wp2
                  have n0_ := Zw (Kd.R_drew HO_5.out)
                  have n1_ := Zw (blk_drew BK433.out)
                  have n2_ := Zw (blk_drew BK434.out)
                  have n3_ := Zw (below_drew1 HB.out)
                  clear HO_5
                  clear BK433
                  clear BK434
                  clear HB
                  have HO_5 := n0_
                  have BK433 := n1_
                  have BK434 := n2_
                  have HB := n3_
                  clear n0_ n1_ n2_ n3_
                  have p447 : 0 ≤ (x6_1 : Int) := of_decide_eq_true Za
                  have q447 : x6_1 < (l0_0.length : Int) := of_decide_eq_true Za
                  obtain ⟨ad447, A447_1, c447_1, e447, hx447_0, hx447_1, hl447_1, hi447_1⟩ := at_T31 HR0_0.out x6_1 p447 q447
                  have hw447_1 := hx447_1
                  have hw447_0 := hx447_0
                  cases e447
                  replace hx447_0 := Zl HB.out hx447_0
                  replace hx447_1 := Zl HB.out hx447_1
                  have HR447_1 := Aside0.mk hi447_1
                  have HC447_1 := Aside0.mk hl447_1
                  clear hi447_1 hl447_1
                  replace p447 := eq_true p447
                  replace q447 := eq_true q447
                  have p448 : 0 ≤ (x7_1 : Int) := of_decide_eq_true Za
                  have q448 : x7_1 < (l1_0.length : Int) := of_decide_eq_true Za
                  obtain ⟨ad448, A448_1, c448_1, e448, hx448_0, hx448_1, hl448_1, hi448_1⟩ := at_T31 HR1_0.out x7_1 p448 q448
                  have hw448_1 := hx448_1
                  have hw448_0 := hx448_0
                  cases e448
                  replace hx448_0 := Zl HB.out hx448_0
                  replace hx448_1 := Zl HB.out hx448_1
                  have HR448_1 := Aside0.mk hi448_1
                  have HC448_1 := Aside0.mk hl448_1
                  clear hi448_1 hl448_1
                  replace p448 := eq_true p448
                  replace q448 := eq_true q448
                  refine start_ (n := 12) (S := fun w' => w'.cell? ⟨gb433, 0, none⟩ = some (.slice (some ad447) l0_0.length c0_0) ∧ w'.cell? ⟨gb434, 0, none⟩ = some (.slice (some ad448) l1_0.length c1_0) ∧ w'.cell? (ad447.add ((x6_1).toNat * 2)) = some (.int .i64 ((rd_T31 l0_0 x6_1).f0)) ∧ w'.cell? ⟨(ad447.add ((x6_1).toNat * 2)).block, (ad447.add ((x6_1).toNat * 2)).off + 1, none⟩ = some (.slice A447_1 ((rd_T31 l0_0 x6_1).f1).length c447_1) ∧ w'.cell? (ad448.add ((x7_1).toNat * 2)) = some (.int .i64 ((rd_T31 l1_0 x7_1).f0)) ∧ w'.cell? ⟨(ad448.add ((x7_1).toNat * 2)).block, (ad448.add ((x7_1).toNat * 2)).off + 1, none⟩ = some (.slice A448_1 ((rd_T31 l1_0 x7_1).f1).length c448_1)) (ds := []) #[false, false, false, false, false, false, false, false, false, false, false, false] (by kernel_rfl) rfl rfl ⟨(blk_cell BK433.out 0).trans rfl, (blk_cell BK434.out 0).trans rfl, ((HB.out.cell (World.block_lt_of_cell? w _ hw447_0)).trans hw447_0), ((HB.out.cell (World.block_lt_of_cell? w _ hw447_1)).trans hw447_1), ((HB.out.cell (World.block_lt_of_cell? w _ hw448_0)).trans hw448_0), ((HB.out.cell (World.block_lt_of_cell? w _ hw448_1)).trans hw448_1)⟩ (fun hHeld => ?_); refine with_tabW memory_Changed.tab4 memory_Changed.bits4 (fun HT_ HW_ => ?_)
                  generalize wc.drew = w53 at HO_5 BK433 BK434 HB HR447_1 HR448_1 hx447_0 hx447_1 hx448_0 hx448_1 hHeld ⊢
                  refine pure_ (i := 0) (N := some 20) (v := ?_) (a' := ?_) #[true, false, false, false, false, false, false, false, false, false, false, false] rfl rfl (any_of HT_.out (by kernel_rfl)) (fun _ _ _ h => h) (Or.inl ⟨by rfl, ?_⟩) ?_ ?_
                  rotate_left
                  ·intro w'
                   go_simp
                   with_reducible rfl
                  rotate_left
                  ·simp only [Act.put, zsA, zsZ, zsS, i64_w, i32_w]
                   rfl
                  refine pure_ (i := 2) (N := some 22) (v := ?_) (a' := ?_) #[true, false, true, false, false, false, false, false, false, false, false, false] rfl rfl (any_of HT_.out (by kernel_rfl)) (fun _ _ _ h => h) (Or.inl ⟨by rfl, ?_⟩) ?_ ?_
                  rotate_left
                  ·intro w'
                   go_simp
                   with_reducible rfl
                  rotate_left
                  ·simp only [Act.put, zsA, zsZ, zsS, i64_w, i32_w]
                   rfl
                  refine pure_ (i := 5) (N := some 25) (v := ?_) (a' := ?_) #[true, false, true, false, false, true, false, false, false, false, false, false] rfl rfl (any_of HT_.out (by kernel_rfl)) (fun _ _ _ h => h) (Or.inl ⟨by rfl, ?_⟩) ?_ ?_
                  rotate_left
                  ·intro w'
                   go_simp
                   with_reducible rfl
                  rotate_left
                  ·simp only [Act.put, zsA, zsZ, zsS, i64_w, i32_w]
                   rfl
                  refine pure_ (i := 7) (N := some 27) (v := ?_) (a' := ?_) #[true, false, true, false, false, true, false, true, false, false, false, false] rfl rfl (any_of HT_.out (by kernel_rfl)) (fun _ _ _ h => h) (Or.inl ⟨by rfl, ?_⟩) ?_ ?_
                  rotate_left
                  ·intro w'
                   go_simp
                   with_reducible rfl
                  rotate_left
                  ·simp only [Act.put, zsA, zsZ, zsS, i64_w, i32_w]
                   rfl
                  refine take_ (i := 1) (N := some 21) (v := ?_) (a' := ?_) #[true, true, true, false, false, true, false, true, false, false, false, false] rfl rfl (take_ofW HT_.out HW_.out (by kernel_rfl)) (fun _ _ _ h => h) (Or.inl ⟨by rfl, ?_⟩) hHeld ?_ ?_
                  rotate_left
                  ·rintro w' ⟨s0, s1, s2, s3, s4, s5⟩
                   go_simp
                   with_reducible rfl
                  rotate_left
                  ·simp only [Act.put, zsA, zsZ, zsS, i64_w, i32_w]
                   rfl
                  refine pure_ (i := 3) (N := some 23) (v := ?_) (a' := ?_) #[true, true, true, true, false, true, false, true, false, false, false, false] rfl rfl (any_of HT_.out (by kernel_rfl)) (fun _ _ _ h => h) (Or.inl ⟨by rfl, ?_⟩) ?_ ?_
                  rotate_left
                  ·intro w'
                   go_simp
                   with_reducible rfl
                  rotate_left
                  ·simp only [Act.put, zsA, zsZ, zsS, i64_w, i32_w]
                   rfl
                  refine take_ (i := 4) (N := some 24) (v := ?_) (a' := ?_) #[true, true, true, true, true, true, false, true, false, false, false, false] rfl rfl (take_ofW HT_.out HW_.out (by kernel_rfl)) (fun _ _ _ h => h) (Or.inl ⟨by rfl, ?_⟩) hHeld ?_ ?_
                  rotate_left
                  ·rintro w' ⟨s0, s1, s2, s3, s4, s5⟩
                   go_simp
                   with_reducible rfl
                  rotate_left
                  ·simp only [Act.put, zsA, zsZ, zsS, i64_w, i32_w]
                   rfl
                  refine take_ (i := 6) (N := some 26) (v := ?_) (a' := ?_) #[true, true, true, true, true, true, true, true, false, false, false, false] rfl rfl (take_ofW HT_.out HW_.out (by kernel_rfl)) (fun _ _ _ h => h) (Or.inl ⟨by rfl, ?_⟩) hHeld ?_ ?_
                  rotate_left
                  ·rintro w' ⟨s0, s1, s2, s3, s4, s5⟩
                   go_simp
                   with_reducible rfl
                  rotate_left
                  ·simp only [Act.put, zsA, zsZ, zsS, i64_w, i32_w]
                   rfl
                  refine pure_ (i := 8) (N := some 28) (v := ?_) (a' := ?_) #[true, true, true, true, true, true, true, true, true, false, false, false] rfl rfl (any_of HT_.out (by kernel_rfl)) (fun _ _ _ h => h) (Or.inl ⟨by rfl, ?_⟩) ?_ ?_
                  rotate_left
                  ·intro w'
                   go_simp
                   with_reducible rfl
                  rotate_left
                  ·simp only [Act.put, zsA, zsZ, zsS, i64_w, i32_w]
                   rfl
                  refine take_ (i := 9) (N := some 29) (v := ?_) (a' := ?_) #[true, true, true, true, true, true, true, true, true, true, false, false] rfl rfl (take_ofW HT_.out HW_.out (by kernel_rfl)) (fun _ _ _ h => h) (Or.inl ⟨by rfl, ?_⟩) hHeld ?_ ?_
                  rotate_left
                  ·rintro w' ⟨s0, s1, s2, s3, s4, s5⟩
                   go_simp
                   with_reducible rfl
                  rotate_left
                  ·simp only [Act.put, zsA, zsZ, zsS, i64_w, i32_w]
                   rfl
                  refine one_ (i := 10) (N := some 30) #[true, true, true, true, true, true, true, true, true, true, true, false] rfl rfl (one_of HT_.out (by kernel_rfl)) (by decide) (fun K hK => ?_)
                  refine goes_ Try.func40 (by kernel_rfl) rfl #[.agg #[.int .i64 ((rd_T31 l0_0 x6_1).f0), .slice A447_1 ((rd_T31 l0_0 x6_1).f1).length c447_1], .agg #[.int .i64 ((rd_T31 l1_0 x7_1).f0), .slice A448_1 ((rd_T31 l1_0 x7_1).f1).length c448_1]] (by rfl) rfl rfl Zm ?_
                  with_reducible refine (memory_same.calls kj28 ((rd_T31 l0_0 x6_1).f0) _ _ ((rd_T31 l0_0 x6_1).f1) ((rd_T31 l1_0 x7_1).f0) _ _ ((rd_T31 l1_0 x7_1).f1) false _ ?side1 ?side2 ?side3 ?side4 A48.out).mono ?_
                  (case side1 => exact Zc (Kd.C_below HR447_1.out HB.out))
                  (case side2 => exact HC447_1.out)
                  (case side3 => exact Zc (Kd.C_below HR448_1.out HB.out))
                  (case side4 => exact HC448_1.out)
                  rintro e w54 ⟨rfl, hb⟩
                  refine ⟨_, rfl, ?_⟩
                  have n0_ := Zw (Kd.R_below (ZR HO_5.out) hb)
                  have n1_ := Zw (blk_below (g := gb433) (o := .cells #[.slice (some ad447) l0_0.length c0_0] 24 (0, 0)) (Zb BK433.out) hb)
                  have n2_ := Zw (blk_below (g := gb434) (o := .cells #[.slice (some ad448) l1_0.length c1_0] 24 (0, 0)) (Zb BK434.out) hb)
                  have n3_ := Zw (below_step (Zh2 HB.out GE433.out GE434.out) hb)
                  clear HO_5
                  clear BK433
                  clear BK434
                  clear HB
                  have HO_5 := n0_
                  have BK433 := n1_
                  have BK434 := n2_
                  have HB := n3_
                  clear n0_ n1_ n2_ n3_
                  (try clear hb)
                  (try clear hb2)
                  (try clear hk)
                  (try clear hi)
                  refine hK.out _ _ ⟨(blk_cell BK433.out 0).trans rfl, (blk_cell BK434.out 0).trans rfl, ((HB.out.cell (World.block_lt_of_cell? w _ hw447_0)).trans hw447_0), ((HB.out.cell (World.block_lt_of_cell? w _ hw447_1)).trans hw447_1), ((HB.out.cell (World.block_lt_of_cell? w _ hw448_0)).trans hw448_0), ((HB.out.cell (World.block_lt_of_cell? w _ hw448_1)).trans hw448_1)⟩ (fun hHeld => ?_)
                  clear hK K
                  refine norm_ (a' := ?_) ?_ ?_
                  rotate_left
                  ·show Act.put _ (some 30) _ = _
                   simp only [Act.put, zsA, zsZ, zsS, i64_w, i32_w]
                   rfl
                  refine pure_ (i := 11) (N := some 31) (v := ?_) (a' := ?_) #[true, true, true, true, true, true, true, true, true, true, true, true] rfl rfl (any_of HT_.out (by kernel_rfl)) (fun _ _ _ h => h) (Or.inl ⟨by rfl, ?_⟩) ?_ ?_
                  rotate_left
                  ·intro w'
                   go_simp
                   with_reducible rfl
                  rotate_left
                  ·simp only [Act.put, zsA, zsZ, zsS, i64_w, i32_w]
                   rfl
                  refine done_ (done_of HT_.out (by kernel_rfl)) ?_
                  have hnb55 := NB433_434.out
                  have hnc55 := NB434_433.out
                  have hcz56_0 := Zcl BK433.out 0 rfl
                  have hfz56_0 := blk_frozen BK433.out 0
                  have p450 : 0 ≤ (x6_1 : Int) := of_decide_eq_true Za
                  have q450 : x6_1 < (l0_0.length : Int) := of_decide_eq_true Za
                  obtain ⟨ad450, A450_1, c450_1, e450, hx450_0, hx450_1, hl450_1, hi450_1⟩ := at_T31 HR0_0.out x6_1 p450 q450
                  obtain rfl : ad447 = ad450 := (by injection e450)
                  replace hx450_0 := Zl HB.out hx450_0
                  replace hx450_1 := Zl HB.out hx450_1
                  have HR450_1 := Aside0.mk hi450_1
                  have HC450_1 := Aside0.mk hl450_1
                  clear hi450_1 hl450_1
                  replace p450 := eq_true p450
                  replace q450 := eq_true q450
                  try go_wp2_with (first | ((with_reducible refine gate_builtin (b := .append) (xs := #[(.tmp 32), .tmp 39]) rfl ?_); (try (refine gate_guard (by rfl) ?_; dsimp only)); at_builtin; refine Kd.R_append (Kd.int .i64) (w0 := w) w.heap.size rfl (.tmp 32) (.tmp 39) 25 3 (.int .i64 0) 8 rfl Try.underlying25 info3 rfl (by decide) (by omega) u5 x5_1 ((rd_T31 l0_0 x6_1).f0) [.int .i64 ((rd_T31 l0_0 x6_1).f0)] (fun _ => True) (fun _ => False) rfl rfl ?aP (fun _ hk => hk.elim) ?aF ?aO ?aB ?aS ?aL ?_; (case aP => exact rfl); (case aB => exact (Zh2 HB.out GE433.out GE434.out)); (case aF => exact (fun _ _ => trivial)); (case aO => exact (ZR HO_5.out)); (case aS => exact (below_size (Zh2 HB.out GE433.out GE434.out))); (case aL => have := LMc52.out; omega); intro v452 w57 ho hb hg hat; rw [← Ny451.out] at ho; have n0_ := Zw (blk_grown (g := gb433) (o := .cells #[.slice (some ad447) l0_0.length c0_0] 24 (0, 0)) (Zb BK433.out) hg (Kd.R_ne HO_5.out BK433.out (by decide))); have n1_ := Zw (blk_grown (g := gb434) (o := .cells #[.slice (some ad448) l1_0.length c1_0] 24 (0, 0)) (Zb BK434.out) hg (Kd.R_ne HO_5.out BK434.out (by decide))); have n2_ := Zw (hb); have n3_ := Zw (ho); clear BK433; clear BK434; clear HB; clear HO_5; have BK433 := n0_; have BK434 := n1_; have HB := n2_; have HO453 := n3_; clear n0_ n1_ n2_ n3_; clear ho hb hg hat))
                  go_roundg kj28
                  case measure => have := HK1.out; have := HJ4.out; have := HJ12.out; have := HJ28.out; omega
                  case rel => exact ⟨(y451), (wrap64 (x6_1 + 1)), (wrap64 (x7_1 + 1)), (by first | rfl | (simp; done) | (simp [*]; done)), (by first | rfl | (simp; done) | (simp [*]; done)), H', ⟨by have := HK1.out; have := HJ4.out; have := HJ12.out; have := HJ28.out; omega⟩, ⟨ZR HO453.out⟩, ⟨Zb BK433.out⟩, ⟨Zb BK434.out⟩, ⟨Zh2 HB.out GE433.out GE434.out⟩⟩
                 ·rw [if_neg c52] at H
                  exact absurd H (by simp)
               ·rw [if_neg c47] at H
                exact absurd H (by simp)
              ·rw [if_neg c46] at H
               exact absurd H (by simp)
             ·rw [if_neg c45] at H
              exact absurd H (by simp)
            ·rw [if_neg c44] at H
             exact absurd H (by simp)
     ·replace c12 := Bool.eq_false_iff.mpr c12
      subst c12
      have H1 : (some x5_1) = some r := by rw [if_neg (show ¬ (false = true) by decide)] at H; exact H
      clear H
      have H := H1
      clear H1
      obtain rfl := Option.some.inj H
      go_wp2
      go_ret
      exact ⟨_, by first | rfl | (simp [errW_none, errW_some] <;> rfl) | (simp [*, errW_none, errW_some] <;> rfl), by refine ZRk ?_; exact HO_5.out, Zh2 HB.out GE433.out GE434.out⟩

end Go.Proofs.Ytpifepaflljolaa.PMem
