-- By wip/xprint.py (a driver of this session's over the kit's print), for this claim.
import Derived.Test.YtpifepaflljolaaPMemx0
import Derived.Test.YtpifepaflljolaaPMemx1
namespace Go.Proofs.Ytpifepaflljolaa.PMem
open Go.RowKit Go.Proofs.YtpifepaflljolaaW.PrintWords Go.Proofs.YtpifepaflljolaaW.PrintLast Go.Proofs.YtpifepaflljolaaW.PrintMore
attribute [local go_sem] max2_int min2_int max_two min_two max_three min_three max_four min_four   -- for this text's walks alone
set_option linter.unusedVariables false
set_option linter.unusedSimpArgs false

/-! ### memory_Right: function 14 -/
def memory_Right.l0 : Nat → List (S31) → Int → Int → List (S31) → Option (Bool)
 | 0, _, _, _, _ => none
 | k + 1, x6, x7, x8, x103000 => if x8 < x7 then (if 0 ≤ x8 then (if x8 < (x6.length : Int) then ((memory_rightPage.f ((rd_T31 x6 x8).f0) ((rd_T31 x6 x8).f1)).bind fun t105 => (if t105 = true then (if x8 > 0 then (if 0 ≤ (wrap64 (x8 - 1)) then (if (wrap64 (x8 - 1)) < (x103000.length : Int) then (if ((rd_T31 x103000 (wrap64 (x8 - 1))).f0) ≥ ((rd_T31 x6 x8).f0) then (some false) else (memory_Right.l0 k x6 x7 (wrap64 (x8 + 1)) x103000)) else (none)) else (none)) else (memory_Right.l0 k x6 x7 (wrap64 (x8 + 1)) x103000)) else (some false))) else (none)) else (none)) else (some (decide ((x103000.length : Int) ≤ 50000)))
def memory_Right.f (k : Nat) (l0_0 : List (S31)) : Option (Bool) := memory_Right.l0 k l0_0 (l0_0.length : Int) 0 l0_0
theorem memory_Right.mono_l : ∀ k, (∀ y0 y1 y2 y3, LeO (memory_Right.l0 k y0 y1 y2 y3) (memory_Right.l0 (k + 1) y0 y1 y2 y3))
 | 0 => fun _ _ _ _ r h => by simp [memory_Right.l0] at h
 | k + 1 => by
  have ih0 := memory_Right.mono_l k
  ·intro y0 y1 y2 y3
   unfold memory_Right.l0
   repeat' first
   | (with_reducible exact ih0 _ _ _ _)
   | (with_reducible exact LeO.refl _)
   | (with_reducible exact LeO.none _)
   | (with_reducible refine LeO.ite ?_ ?_)
   | (with_reducible refine LeO.bind ?_ (fun _ => ?_))
   | exact ih0 _ _ _ _
   | exact LeO.none _
   | refine LeO.ite ?_ ?_
   | refine LeO.bind ?_ (fun _ => ?_)
theorem memory_Right.mono : ∀ a0 k, LeO (memory_Right.f k a0) (memory_Right.f (k + 1) a0) := by
 intro a0 k
 have ih0 := memory_Right.mono_l k
 unfold memory_Right.f
 repeat' first
   | (with_reducible exact ih0 _ _ _ _)
   | (with_reducible exact LeO.refl _)
   | (with_reducible exact LeO.none _)
   | (with_reducible refine LeO.ite ?_ ?_)
   | (with_reducible refine LeO.bind ?_ (fun _ => ?_))
   | exact ih0 _ _ _ _
   | exact LeO.none _
   | refine LeO.ite ?_ ?_
   | refine LeO.bind ?_ (fun _ => ?_)
def memory_Right.T4 : Bool × List (List Nat × List Nat) := (true, [([], []), ([0], [0]), ([1], [1]), ([2, 1], [2]), ([3], [3]), ([4, 3], [3, 4]), ([5, 3, 3], [3, 5]), ([6], [6]), ([7, 6], [6, 7]), ([6], [6]), ([9, 6], [6, 9]), ([8, 10, 6], [6, 8, 10]), ([11, 6], [6, 11]), ([12, 6], [6, 12]), ([6], [6]), ([14, 6], [6, 14]), ([13, 15, 6], [6, 13, 15]), ([6, 16, 3], [3, 6, 16]), ([3, 17], [3, 17])])
def memory_Right.B4 : List Nat := [0, 1, 3, 7, 15, 31, 63, 127, 255, 127, 639, 2047, 4095, 8191, 127, 16511, 65535, 131071, 262143]
theorem memory_Right.tab4 : rtab .any (opsOf Try.f14 4) = memory_Right.T4 := by kernel_rfl
theorem memory_Right.bits4 : waitsOk memory_Right.T4.2 memory_Right.B4 = true := by kernel_rfl
set_option maxHeartbeats 8000000 in
set_option maxRecDepth 100000 in
theorem memory_Right.calls (k : Nat) (A0_0 : Option Addr) (c0_0 : Nat) (l0_0 : List (S31)) (r : Bool) (w : World) (hr0_0 : Kd.C k31 w A0_0 l0_0.length l0_0) (hc0_0 : l0_0.length ≤ c0_0) (h : memory_Right.f k l0_0 = some r) :
  Calls Try.prog 14 #[.agg #[.slice A0_0 l0_0.length c0_0]] w fun e w' => e = .returned (.bool r) ∧ Below w.heap.size w w' := by
 have hu24 := Try.underlying24
 have hu31 := Try.underlying31
 have HR0_0 := Aside0.mk hr0_0
 have HC0_0 := Aside0.mk hc0_0
 clear hr0_0 hc0_0
 have HB := Zw (Below.refl w.heap.size w)
 have H : (memory_Right.l0 k l0_0 (l0_0.length : Int) 0 l0_0) = some r := h
 clear h
 have H' := Aside0.mk H
 clear H
 go_enter Try.func14, Try.ntmps14
 go_wp2_with (first | ((with_reducible refine gate_dst (N := 1) rfl ?_); refine box_event ?hg (N := 1) ?hd (cs := #[.slice A0_0 l0_0.length c0_0]) (t := 24) ?hr ?_; (case hd => rfl); (case hg => rfl); (case hr => first | (go_simp; done) | (go_simp; rfl)); intro gb102 hg w2 hbox hb; have n0_ := Zw (below_step (Zh HB.out) hb); have n1_ := Zw (hbox); have n2_ := Zw ((by rw [hg]; exact (below_size (Zh HB.out)) : w.heap.size ≤ gb102)); have n3_ := Zw ((by rw [hg]; exact (below_size (Zh HB.out)) : w.heap.size ≤ gb102)); clear HB; have HB := n0_; have BK102 := n1_; have GW102 := n2_; have GE102 := n3_; clear n0_ n1_ n2_ n3_; clear hb hbox hg; have hcz3_0 := Zcl BK102.out 0 rfl; have hfz3_0 := blk_frozen BK102.out 0))
 go_loopg [8] k (fun kq v8 w' => ∃ (x8_1 : Int), v8 = .int .i64 x8_1 ∧ Aside0 (memory_Right.l0 kq l0_0 (l0_0.length : Int) x8_1 l0_0 = some r) ∧ Aside0 (kq ≤ k) ∧ Aside0 (w'.heap[gb102]? = some (.cells #[(.slice A0_0 l0_0.length c0_0)] 24 (0, 0))) ∧ Aside0 (Below w.heap.size w w'))
 case atStart => exact ⟨(0), (by first | rfl | (simp; done) | (simp [*]; done)), H', ⟨Nat.le_refl _⟩, ⟨Zb BK102.out⟩, ⟨Zh1 HB.out GE102.out⟩⟩
 case round =>
  clear H'
  try clear c1
  try clear p2
  try clear hcz3_0
  try clear hfz3_0
  obtain ⟨x8_1, rfl, HA, HK1, BK102, HB⟩ := hrel
  cases gk with
  | zero => exact absurd HA.out (by simp [memory_Right.l0])
  | succ k1 =>
   have H := HA.out
   clear HA
   simp only [memory_Right.l0] at H
   by_cases c4 : x8_1 < (l0_0.length : Int)
   ·rw [if_pos c4] at H
    have c4b0 : decide (x8_1 < (l0_0.length : Int)) = true := decide_eq_true c4
    clear c4
    by_cases c5 : 0 ≤ x8_1
    ·rw [if_pos c5] at H
     have c5b0 : decide (0 ≤ x8_1) = true := decide_eq_true c5
     clear c5
     by_cases c6 : x8_1 < (l0_0.length : Int)
     ·rw [if_pos c6] at H
      have c6b0 : decide (x8_1 < (l0_0.length : Int)) = true := decide_eq_true c6
      clear c6
      replace H := Option.bind_eq_some_iff.mp H
      obtain ⟨t105, A70, H⟩ := H
      replace H : (if t105 = true then (if x8_1 > 0 then (if 0 ≤ (wrap64 (x8_1 - 1)) then (if (wrap64 (x8_1 - 1)) < (l0_0.length : Int) then (if ((rd_T31 l0_0 (wrap64 (x8_1 - 1))).f0) ≥ ((rd_T31 l0_0 x8_1).f0) then (some false) else (memory_Right.l0 k1 l0_0 (l0_0.length : Int) (wrap64 (x8_1 + 1)) l0_0)) else (none)) else (none)) else (memory_Right.l0 k1 l0_0 (l0_0.length : Int) (wrap64 (x8_1 + 1)) l0_0)) else (some false)) = some r := H
      have A7 := Aside0.mk A70
      clear A70
      by_cases c8 : t105 = true
      ·subst c8
       have H1 : (if x8_1 > 0 then (if 0 ≤ (wrap64 (x8_1 - 1)) then (if (wrap64 (x8_1 - 1)) < (l0_0.length : Int) then (if ((rd_T31 l0_0 (wrap64 (x8_1 - 1))).f0) ≥ ((rd_T31 l0_0 x8_1).f0) then (some false) else (memory_Right.l0 k1 l0_0 (l0_0.length : Int) (wrap64 (x8_1 + 1)) l0_0)) else (none)) else (none)) else (memory_Right.l0 k1 l0_0 (l0_0.length : Int) (wrap64 (x8_1 + 1)) l0_0)) = some r := by rw [if_pos rfl] at H; exact H
       clear H
       have H := H1
       clear H1
       by_cases c9 : x8_1 > 0
       ·rw [if_pos c9] at H
        have c9b0 : decide (0 < x8_1) = true := decide_eq_true c9
        clear c9
        obtain ⟨ji10, hji10⟩ : ∃ j_ : Int, (wrap64 (x8_1 - 1)) = j_ := ⟨_, rfl⟩
        replace H : (if 0 ≤ (ji10) then (if (ji10) < (l0_0.length : Int) then (if ((rd_T31 l0_0 (ji10)).f0) ≥ ((rd_T31 l0_0 x8_1).f0) then (some false) else (memory_Right.l0 k1 l0_0 (l0_0.length : Int) (wrap64 (x8_1 + 1)) l0_0)) else (none)) else (none)) = some r := by first | (rw [hji10] at H; exact H) | (simp only [hji10] at H ⊢; exact H)
        (try rw [hji10] at A7)
        have hji10w : (IntKind.i64.wrap (x8_1 - 1)) = ji10 := (i64_w _).trans hji10
        by_cases c11 : 0 ≤ (ji10)
        ·rw [if_pos c11] at H
         have c11b0 : decide (0 ≤ (ji10)) = true := decide_eq_true c11
         clear c11
         by_cases c12 : (ji10) < (l0_0.length : Int)
         ·rw [if_pos c12] at H
          have c12b0 : decide ((ji10) < (l0_0.length : Int)) = true := decide_eq_true c12
          clear c12
          by_cases c13 : ((rd_T31 l0_0 (ji10)).f0) ≥ ((rd_T31 l0_0 x8_1).f0)
          ·rw [if_pos c13] at H
           have c13b0 : decide (((rd_T31 l0_0 x8_1).f0) ≤ ((rd_T31 l0_0 (ji10)).f0)) = true := decide_eq_true c13
           clear c13
           obtain rfl := Option.some.inj H
           have p103 : 0 ≤ (x8_1 : Int) := of_decide_eq_true Za
           have q103 : x8_1 < (l0_0.length : Int) := of_decide_eq_true Za
           obtain ⟨ad103, A103_1, c103_1, e103, hx103_0, hx103_1, hl103_1, hi103_1⟩ := at_T31 HR0_0.out x8_1 p103 q103
           cases e103
           replace hx103_0 := Zl HB.out hx103_0
           replace hx103_1 := Zl HB.out hx103_1
           have HR103_1 := Aside0.mk hi103_1
           have HC103_1 := Aside0.mk hl103_1
           clear hi103_1 hl103_1
           replace p103 := eq_true p103
           replace q103 := eq_true q103
           try go_wp2_with (first | ((with_reducible refine gate_dst (N := 4) rfl ?_); refine box_event ?hg (N := 4) ?hd (cs := #[.int .i64 0, .slice none 0 0]) (t := 31) ?hr ?_; (case hd => rfl); (case hg => rfl); (case hr => first | (go_simp; done) | (go_simp; rfl)); intro gb104 hg w14 hbox hb; have n0_ := Zw (blk_below (g := gb102) (o := .cells #[.slice (some ad103) l0_0.length c0_0] 24 (0, 0)) (Zb BK102.out) hb); have n1_ := Zw (below_step (Zh1 HB.out GE102.out) hb); have n2_ := Zw (hbox); have n3_ := Zw ((by rw [hg]; exact (below_size (Zh1 HB.out GE102.out)) : w.heap.size ≤ gb104)); have n4_ := Zw ((by rw [hg]; exact (below_size (Zh1 HB.out GE102.out)) : w.heap.size ≤ gb104)); have n5_ := Zw ((by rw [hg]; exact Nat.ne_of_lt (blk_lt (Zb BK102.out)) : gb102 ≠ gb104)); have n6_ := Zw ((by rw [hg]; exact Nat.ne_of_gt (blk_lt (Zb BK102.out)) : gb104 ≠ gb102)); clear BK102; clear HB; have BK102 := n0_; have HB := n1_; have BK104 := n2_; have GW104 := n3_; have GE104 := n4_; have NB102_104 := n5_; have NB104_102 := n6_; clear n0_ n1_ n2_ n3_ n4_ n5_ n6_; clear hb hbox hg; have hnb15 := NB104_102.out; have hnc15 := NB102_104.out; have hcz16_0 := Zcl BK104.out 0 rfl; have hcz16_1 := Zcl BK104.out 1 rfl; have hfz16_0 := blk_frozen BK104.out 0; have hfz16_1 := blk_frozen BK104.out 1))
           have n0_ : Aside0 (((w14.setCell ⟨gb104, 0, none⟩ (.int .i64 ((rd_T31 l0_0 x8_1).f0))).setCell ⟨gb104, 1, none⟩ (.slice A103_1 ((rd_T31 l0_0 x8_1).f1).length c103_1)).heap[gb102]? = some (.cells #[.slice (some ad103) l0_0.length c0_0] 24 (0, 0))) := ⟨by refine Zbk ?_; refine blk_far ?_ NB102_104.out _; refine Zbk ?_; refine blk_far ?_ NB102_104.out _; refine Zbk ?_; exact BK102.out⟩
           have n1_ : Aside0 (((w14.setCell ⟨gb104, 0, none⟩ (.int .i64 ((rd_T31 l0_0 x8_1).f0))).setCell ⟨gb104, 1, none⟩ (.slice A103_1 ((rd_T31 l0_0 x8_1).f1).length c103_1)).heap[gb104]? = some (.cells #[.int .i64 ((rd_T31 l0_0 x8_1).f0), .slice A103_1 ((rd_T31 l0_0 x8_1).f1).length c103_1] 31 (0, 0))) := ⟨by refine Zbk ?_; refine blk_put (cs := #[.int .i64 ((rd_T31 l0_0 x8_1).f0), .slice none 0 0]) ?_ 1 _ rfl; refine Zbk ?_; refine blk_put (cs := #[.int .i64 0, .slice none 0 0]) ?_ 0 _ rfl; refine Zbk ?_; exact BK104.out⟩
           have n2_ : Aside0 (Below w.heap.size w ((w14.setCell ⟨gb104, 0, none⟩ (.int .i64 ((rd_T31 l0_0 x8_1).f0))).setCell ⟨gb104, 1, none⟩ (.slice A103_1 ((rd_T31 l0_0 x8_1).f1).length c103_1))) := ⟨Zh2 HB.out GE102.out GE104.out⟩
           (try clear BK102)
           (try clear BK104)
           (try clear HB)
           generalize ((w14.setCell ⟨gb104, 0, none⟩ (.int .i64 ((rd_T31 l0_0 x8_1).f0))).setCell ⟨gb104, 1, none⟩ (.slice A103_1 ((rd_T31 l0_0 x8_1).f1).length c103_1)) = w17 at n0_ n1_ n2_ ⊢
           have BK102 := n0_
           have BK104 := n1_
           have HB := n2_
           clear n0_ n1_ n2_
           have n0_ := Zw (blk_drew BK102.out)
           have n1_ := Zw (blk_drew BK104.out)
           have n2_ := Zw (below_drew1 HB.out)
           clear BK102
           clear BK104
           clear HB
           have BK102 := n0_
           have BK104 := n1_
           have HB := n2_
           clear n0_ n1_ n2_
           have p106 : 0 ≤ ((ji10) : Int) := of_decide_eq_true Za
           have q106 : (ji10) < (l0_0.length : Int) := of_decide_eq_true Za
           obtain ⟨ad106, A106_1, c106_1, e106, hx106_0, hx106_1, hl106_1, hi106_1⟩ := at_T31 HR0_0.out (ji10) p106 q106
           have hw106_1 := hx106_1
           have hw106_0 := hx106_0
           obtain rfl : ad103 = ad106 := (by injection e106)
           replace hx106_0 := Zl HB.out hx106_0
           replace hx106_1 := Zl HB.out hx106_1
           have HR106_1 := Aside0.mk hi106_1
           have HC106_1 := Aside0.mk hl106_1
           clear hi106_1 hl106_1
           replace p106 := eq_true p106
           replace q106 := eq_true q106
           refine start_ (n := 19) (S := fun w' => w'.cell? ⟨gb104, 0, none⟩ = some (.int .i64 ((rd_T31 l0_0 x8_1).f0)) ∧ w'.cell? ⟨gb104, 1, none⟩ = some (.slice A103_1 ((rd_T31 l0_0 x8_1).f1).length c103_1) ∧ w'.cell? ⟨gb102, 0, none⟩ = some (.slice (some ad103) l0_0.length c0_0) ∧ w'.cell? (ad103.add (((ji10)).toNat * 2)) = some (.int .i64 ((rd_T31 l0_0 (ji10)).f0)) ∧ w'.cell? ⟨(ad103.add (((ji10)).toNat * 2)).block, (ad103.add (((ji10)).toNat * 2)).off + 1, none⟩ = some (.slice A106_1 ((rd_T31 l0_0 (ji10)).f1).length c106_1)) (ds := []) #[false, false, false, false, false, false, false, false, false, false, false, false, false, false, false, false, false, false, false] (by kernel_rfl) rfl rfl ⟨(blk_cell BK104.out 0).trans rfl, (blk_cell BK104.out 1).trans rfl, (blk_cell BK102.out 0).trans rfl, ((HB.out.cell (World.block_lt_of_cell? w _ hw106_0)).trans hw106_0), ((HB.out.cell (World.block_lt_of_cell? w _ hw106_1)).trans hw106_1)⟩ (fun hHeld => ?_); refine with_tabW memory_Right.tab4 memory_Right.bits4 (fun HT_ HW_ => ?_)
           generalize w17.drew = w18 at BK102 BK104 HB HR106_1 hx106_0 hx106_1 hHeld ⊢
           refine take_ (i := 0) (N := some 13) (v := ?_) (a' := ?_) #[true, false, false, false, false, false, false, false, false, false, false, false, false, false, false, false, false, false, false] rfl rfl (take_ofW HT_.out HW_.out (by kernel_rfl)) (fun _ _ _ h => h) (Or.inl ⟨by rfl, ?_⟩) hHeld ?_ ?_
           rotate_left
           ·rintro w' ⟨s0, s1, s2, s3, s4⟩
            go_simp
            with_reducible rfl
           rotate_left
           ·simp only [Act.put, zsA, zsZ, zsS, i64_w, i32_w]
            rfl
           refine one_ (i := 1) (N := some 14) #[true, true, false, false, false, false, false, false, false, false, false, false, false, false, false, false, false, false, false] rfl rfl (one_of HT_.out (by kernel_rfl)) (by decide) (fun K hK => ?_)
           refine goes_ Try.func32 (by kernel_rfl) rfl #[.agg #[.int .i64 ((rd_T31 l0_0 x8_1).f0), .slice A103_1 ((rd_T31 l0_0 x8_1).f1).length c103_1]] (by rfl) rfl rfl Zm ?_
           with_reducible refine (memory_rightPage.calls ((rd_T31 l0_0 x8_1).f0) _ _ ((rd_T31 l0_0 x8_1).f1) true _ ?side1 ?side2 A7.out).mono ?_
           (case side1 => exact Zc (Kd.C_below HR103_1.out HB.out))
           (case side2 => exact HC103_1.out)
           rintro e w19 ⟨rfl, hb⟩
           refine ⟨_, rfl, ?_⟩
           have n0_ := Zw (blk_below (g := gb102) (o := .cells #[.slice (some ad103) l0_0.length c0_0] 24 (0, 0)) (Zb BK102.out) hb)
           have n1_ := Zw (blk_below (g := gb104) (o := .cells #[.int .i64 ((rd_T31 l0_0 x8_1).f0), .slice A103_1 ((rd_T31 l0_0 x8_1).f1).length c103_1] 31 (0, 0)) (Zb BK104.out) hb)
           have n2_ := Zw (below_step (Zh2 HB.out GE102.out GE104.out) hb)
           clear BK102
           clear BK104
           clear HB
           have BK102 := n0_
           have BK104 := n1_
           have HB := n2_
           clear n0_ n1_ n2_
           (try clear hb)
           (try clear hb2)
           (try clear hk)
           (try clear hi)
           refine hK.out _ _ ⟨(blk_cell BK104.out 0).trans rfl, (blk_cell BK104.out 1).trans rfl, (blk_cell BK102.out 0).trans rfl, ((HB.out.cell (World.block_lt_of_cell? w _ hw106_0)).trans hw106_0), ((HB.out.cell (World.block_lt_of_cell? w _ hw106_1)).trans hw106_1)⟩ (fun hHeld => ?_)
           clear hK K
           refine norm_ (a' := ?_) ?_ ?_
           rotate_left
           ·show Act.put _ (some 14) _ = _
            simp only [Act.put, zsA, zsZ, zsS, i64_w, i32_w]
            rfl
           refine pure_ (i := 2) (N := some 15) (v := ?_) (a' := ?_) #[true, true, true, false, false, false, false, false, false, false, false, false, false, false, false, false, false, false, false] rfl rfl (any_of HT_.out (by kernel_rfl)) (fun _ _ _ h => h) (Or.inl ⟨by rfl, ?_⟩) ?_ ?_
           rotate_left
           ·intro w'
            go_simp
            with_reducible rfl
           rotate_left
           ·simp only [Act.put, zsA, zsZ, zsS, i64_w, i32_w]
            rfl
           refine pure_ (i := 3) (N := some 16) (v := ?_) (a' := ?_) #[true, true, true, true, false, false, false, false, false, false, false, false, false, false, false, false, false, false, false] rfl rfl (any_of HT_.out (by kernel_rfl)) (fun _ _ _ h => h) (Or.inl ⟨by rfl, ?_⟩) ?_ ?_
           rotate_left
           ·intro w'
            go_simp
            with_reducible rfl
           rotate_left
           ·simp only [Act.put, zsA, zsZ, zsS, i64_w, i32_w]
            rfl
           refine pure_ (i := 4) (N := some 17) (v := ?_) (a' := ?_) #[true, true, true, true, true, false, false, false, false, false, false, false, false, false, false, false, false, false, false] rfl rfl (any_of HT_.out (by kernel_rfl)) (fun _ _ _ h => h) (Or.inl ⟨by rfl, ?_⟩) ?_ ?_
           rotate_left
           ·intro w'
            go_simp
            with_reducible rfl
           rotate_left
           ·simp only [Act.put, zsA, zsZ, zsS, i64_w, i32_w]
            rfl
           refine pure_ (i := 5) (N := some 18) (v := ?_) (a' := ?_) #[true, true, true, true, true, true, false, false, false, false, false, false, false, false, false, false, false, false, false] rfl rfl (any_of HT_.out (by kernel_rfl)) (fun _ _ _ h => h) (Or.inl ⟨by rfl, ?_⟩) ?_ ?_
           rotate_left
           ·intro w'
            go_simp
            with_reducible rfl
           rotate_left
           ·simp only [Act.put, zsA, zsZ, zsS, i64_w, i32_w]
            rfl
           refine pure_ (i := 6) (N := some 19) (v := ?_) (a' := ?_) #[true, true, true, true, true, true, true, false, false, false, false, false, false, false, false, false, false, false, false] rfl rfl (any_of HT_.out (by kernel_rfl)) (fun _ _ _ h => h) (Or.inl ⟨by rfl, ?_⟩) ?_ ?_
           rotate_left
           ·intro w'
            go_simp
            with_reducible rfl
           rotate_left
           ·simp only [Act.put, zsA, zsZ, zsS, i64_w, i32_w]
            rfl
           refine pure_ (i := 7) (N := some 20) (v := ?_) (a' := ?_) #[true, true, true, true, true, true, true, true, false, false, false, false, false, false, false, false, false, false, false] rfl rfl (any_of HT_.out (by kernel_rfl)) (fun _ _ _ h => h) (Or.inl ⟨by rfl, ?_⟩) ?_ ?_
           rotate_left
           ·intro w'
            go_simp
            with_reducible rfl
           rotate_left
           ·simp only [Act.put, zsA, zsZ, zsS, i64_w, i32_w]
            rfl
           refine pure_ (i := 9) (N := some 22) (v := ?_) (a' := ?_) #[true, true, true, true, true, true, true, true, false, true, false, false, false, false, false, false, false, false, false] rfl rfl (any_of HT_.out (by kernel_rfl)) (fun _ _ _ h => h) (Or.inl ⟨by rfl, ?_⟩) ?_ ?_
           rotate_left
           ·intro w'
            go_simp
            with_reducible rfl
           rotate_left
           ·simp only [Act.put, zsA, zsZ, zsS, i64_w, i32_w]
            rfl
           refine pure_ (i := 10) (N := some 23) (v := ?_) (a' := ?_) #[true, true, true, true, true, true, true, true, false, true, true, false, false, false, false, false, false, false, false] rfl rfl (any_of HT_.out (by kernel_rfl)) (fun _ _ _ h => h) (Or.inl ⟨by rfl, ?_⟩) ?_ ?_
           rotate_left
           ·intro w'
            go_simp
            with_reducible rfl
           rotate_left
           ·simp only [Act.put, zsA, zsZ, zsS, i64_w, i32_w]
            rfl
           refine pure_ (i := 14) (N := some 27) (v := ?_) (a' := ?_) #[true, true, true, true, true, true, true, true, false, true, true, false, false, false, true, false, false, false, false] rfl rfl (any_of HT_.out (by kernel_rfl)) (fun _ _ _ h => h) (Or.inl ⟨by rfl, ?_⟩) ?_ ?_
           rotate_left
           ·intro w'
            go_simp
            with_reducible rfl
           rotate_left
           ·simp only [Act.put, zsA, zsZ, zsS, i64_w, i32_w]
            rfl
           refine take_ (i := 8) (N := some 21) (v := ?_) (a' := ?_) #[true, true, true, true, true, true, true, true, true, true, true, false, false, false, true, false, false, false, false] rfl rfl (take_ofW HT_.out HW_.out (by kernel_rfl)) (fun _ _ _ h => h) (Or.inl ⟨by rfl, ?_⟩) hHeld ?_ ?_
           rotate_left
           ·rintro w' ⟨s0, s1, s2, s3, s4⟩
            go_simp
            with_reducible rfl
           rotate_left
           ·simp only [Act.put, zsA, zsZ, zsS, i64_w, i32_w]
            rfl
           refine pure_ (i := 11) (N := some 24) (v := ?_) (a' := ?_) #[true, true, true, true, true, true, true, true, true, true, true, true, false, false, true, false, false, false, false] rfl rfl (any_of HT_.out (by kernel_rfl)) (fun _ _ _ h => h) (Or.inl ⟨by rfl, ?_⟩) ?_ ?_
           rotate_left
           ·intro w'
            go_simp
            with_reducible rfl
           rotate_left
           ·simp only [Act.put, zsA, zsZ, zsS, i64_w, i32_w]
            rfl
           refine pure_ (i := 12) (N := some 25) (v := ?_) (a' := ?_) #[true, true, true, true, true, true, true, true, true, true, true, true, true, false, true, false, false, false, false] rfl rfl (any_of HT_.out (by kernel_rfl)) (fun _ _ _ h => h) (Or.inl ⟨by rfl, ?_⟩) ?_ ?_
           rotate_left
           ·intro w'
            go_simp
            with_reducible rfl
           rotate_left
           ·simp only [Act.put, zsA, zsZ, zsS, i64_w, i32_w]
            rfl
           refine take_ (i := 13) (N := some 26) (v := ?_) (a' := ?_) #[true, true, true, true, true, true, true, true, true, true, true, true, true, true, true, false, false, false, false] rfl rfl (take_ofW HT_.out HW_.out (by kernel_rfl)) (fun _ _ _ h => h) (Or.inl ⟨by rfl, ?_⟩) hHeld ?_ ?_
           rotate_left
           ·rintro w' ⟨s0, s1, s2, s3, s4⟩
            go_simp
            with_reducible rfl
           rotate_left
           ·simp only [Act.put, zsA, zsZ, zsS, i64_w, i32_w]
            rfl
           refine take_ (i := 15) (N := some 28) (v := ?_) (a' := ?_) #[true, true, true, true, true, true, true, true, true, true, true, true, true, true, true, true, false, false, false] rfl rfl (take_ofW HT_.out HW_.out (by kernel_rfl)) (fun _ _ _ h => h) (Or.inl ⟨by rfl, ?_⟩) hHeld ?_ ?_
           rotate_left
           ·rintro w' ⟨s0, s1, s2, s3, s4⟩
            go_simp
            with_reducible rfl
           rotate_left
           ·simp only [Act.put, zsA, zsZ, zsS, i64_w, i32_w]
            rfl
           refine pure_ (i := 16) (N := some 29) (v := ?_) (a' := ?_) #[true, true, true, true, true, true, true, true, true, true, true, true, true, true, true, true, true, false, false] rfl rfl (any_of HT_.out (by kernel_rfl)) (fun _ _ _ h => h) (Or.inl ⟨by rfl, ?_⟩) ?_ ?_
           rotate_left
           ·intro w'
            go_simp
            with_reducible rfl
           rotate_left
           ·simp only [Act.put, zsA, zsZ, zsS, i64_w, i32_w]
            rfl
           refine pure_ (i := 17) (N := some 30) (v := ?_) (a' := ?_) #[true, true, true, true, true, true, true, true, true, true, true, true, true, true, true, true, true, true, false] rfl rfl (any_of HT_.out (by kernel_rfl)) (fun _ _ _ h => h) (Or.inl ⟨by rfl, ?_⟩) ?_ ?_
           rotate_left
           ·intro w'
            go_simp
            with_reducible rfl
           rotate_left
           ·simp only [Act.put, zsA, zsZ, zsS, i64_w, i32_w]
            rfl
           refine pure_ (i := 18) (N := some 31) (v := ?_) (a' := ?_) #[true, true, true, true, true, true, true, true, true, true, true, true, true, true, true, true, true, true, true] rfl rfl (any_of HT_.out (by kernel_rfl)) (fun _ _ _ h => h) (Or.inl ⟨by rfl, ?_⟩) ?_ ?_
           rotate_left
           ·intro w'
            go_simp
            with_reducible rfl
           rotate_left
           ·simp only [Act.put, zsA, zsZ, zsS, i64_w, i32_w]
            rfl
           refine done_ (done_of HT_.out (by kernel_rfl)) ?_
           try go_wp2
           go_ret
           exact ⟨by first | rfl | (simp [errW_none, errW_some] <;> rfl) | (simp only [← hji10]; first | rfl | (simp [errW_none, errW_some] <;> rfl)) | (simp [*, errW_none, errW_some] <;> rfl), Zh2 HB.out GE102.out GE104.out⟩
          ·rw [if_neg c13] at H
           have c13b0 : decide (((rd_T31 l0_0 x8_1).f0) ≤ ((rd_T31 l0_0 (ji10)).f0)) = false := decide_eq_false c13
           clear c13
           have H' := Aside0.mk H
           clear H
           have p103 : 0 ≤ (x8_1 : Int) := of_decide_eq_true Za
           have q103 : x8_1 < (l0_0.length : Int) := of_decide_eq_true Za
           obtain ⟨ad103, A103_1, c103_1, e103, hx103_0, hx103_1, hl103_1, hi103_1⟩ := at_T31 HR0_0.out x8_1 p103 q103
           cases e103
           replace hx103_0 := Zl HB.out hx103_0
           replace hx103_1 := Zl HB.out hx103_1
           have HR103_1 := Aside0.mk hi103_1
           have HC103_1 := Aside0.mk hl103_1
           clear hi103_1 hl103_1
           replace p103 := eq_true p103
           replace q103 := eq_true q103
           try go_wp2_with (first | ((with_reducible refine gate_dst (N := 4) rfl ?_); refine box_event ?hg (N := 4) ?hd (cs := #[.int .i64 0, .slice none 0 0]) (t := 31) ?hr ?_; (case hd => rfl); (case hg => rfl); (case hr => first | (go_simp; done) | (go_simp; rfl)); intro gb104 hg w20 hbox hb; have n0_ := Zw (blk_below (g := gb102) (o := .cells #[.slice (some ad103) l0_0.length c0_0] 24 (0, 0)) (Zb BK102.out) hb); have n1_ := Zw (below_step (Zh1 HB.out GE102.out) hb); have n2_ := Zw (hbox); have n3_ := Zw ((by rw [hg]; exact (below_size (Zh1 HB.out GE102.out)) : w.heap.size ≤ gb104)); have n4_ := Zw ((by rw [hg]; exact (below_size (Zh1 HB.out GE102.out)) : w.heap.size ≤ gb104)); have n5_ := Zw ((by rw [hg]; exact Nat.ne_of_lt (blk_lt (Zb BK102.out)) : gb102 ≠ gb104)); have n6_ := Zw ((by rw [hg]; exact Nat.ne_of_gt (blk_lt (Zb BK102.out)) : gb104 ≠ gb102)); clear BK102; clear HB; have BK102 := n0_; have HB := n1_; have BK104 := n2_; have GW104 := n3_; have GE104 := n4_; have NB102_104 := n5_; have NB104_102 := n6_; clear n0_ n1_ n2_ n3_ n4_ n5_ n6_; clear hb hbox hg; have hnb21 := NB104_102.out; have hnc21 := NB102_104.out; have hcz22_0 := Zcl BK104.out 0 rfl; have hcz22_1 := Zcl BK104.out 1 rfl; have hfz22_0 := blk_frozen BK104.out 0; have hfz22_1 := blk_frozen BK104.out 1))
           have n0_ : Aside0 (((w20.setCell ⟨gb104, 0, none⟩ (.int .i64 ((rd_T31 l0_0 x8_1).f0))).setCell ⟨gb104, 1, none⟩ (.slice A103_1 ((rd_T31 l0_0 x8_1).f1).length c103_1)).heap[gb102]? = some (.cells #[.slice (some ad103) l0_0.length c0_0] 24 (0, 0))) := ⟨by refine Zbk ?_; refine blk_far ?_ NB102_104.out _; refine Zbk ?_; refine blk_far ?_ NB102_104.out _; refine Zbk ?_; exact BK102.out⟩
           have n1_ : Aside0 (((w20.setCell ⟨gb104, 0, none⟩ (.int .i64 ((rd_T31 l0_0 x8_1).f0))).setCell ⟨gb104, 1, none⟩ (.slice A103_1 ((rd_T31 l0_0 x8_1).f1).length c103_1)).heap[gb104]? = some (.cells #[.int .i64 ((rd_T31 l0_0 x8_1).f0), .slice A103_1 ((rd_T31 l0_0 x8_1).f1).length c103_1] 31 (0, 0))) := ⟨by refine Zbk ?_; refine blk_put (cs := #[.int .i64 ((rd_T31 l0_0 x8_1).f0), .slice none 0 0]) ?_ 1 _ rfl; refine Zbk ?_; refine blk_put (cs := #[.int .i64 0, .slice none 0 0]) ?_ 0 _ rfl; refine Zbk ?_; exact BK104.out⟩
           have n2_ : Aside0 (Below w.heap.size w ((w20.setCell ⟨gb104, 0, none⟩ (.int .i64 ((rd_T31 l0_0 x8_1).f0))).setCell ⟨gb104, 1, none⟩ (.slice A103_1 ((rd_T31 l0_0 x8_1).f1).length c103_1))) := ⟨Zh2 HB.out GE102.out GE104.out⟩
           (try clear BK102)
           (try clear BK104)
           (try clear HB)
           generalize ((w20.setCell ⟨gb104, 0, none⟩ (.int .i64 ((rd_T31 l0_0 x8_1).f0))).setCell ⟨gb104, 1, none⟩ (.slice A103_1 ((rd_T31 l0_0 x8_1).f1).length c103_1)) = w23 at n0_ n1_ n2_ ⊢
           have BK102 := n0_
           have BK104 := n1_
           have HB := n2_
           clear n0_ n1_ n2_
           have n0_ := Zw (blk_drew BK102.out)
           have n1_ := Zw (blk_drew BK104.out)
           have n2_ := Zw (below_drew1 HB.out)
           clear BK102
           clear BK104
           clear HB
           have BK102 := n0_
           have BK104 := n1_
           have HB := n2_
           clear n0_ n1_ n2_
           have p106 : 0 ≤ ((ji10) : Int) := of_decide_eq_true Za
           have q106 : (ji10) < (l0_0.length : Int) := of_decide_eq_true Za
           obtain ⟨ad106, A106_1, c106_1, e106, hx106_0, hx106_1, hl106_1, hi106_1⟩ := at_T31 HR0_0.out (ji10) p106 q106
           have hw106_1 := hx106_1
           have hw106_0 := hx106_0
           obtain rfl : ad103 = ad106 := (by injection e106)
           replace hx106_0 := Zl HB.out hx106_0
           replace hx106_1 := Zl HB.out hx106_1
           have HR106_1 := Aside0.mk hi106_1
           have HC106_1 := Aside0.mk hl106_1
           clear hi106_1 hl106_1
           replace p106 := eq_true p106
           replace q106 := eq_true q106
           refine start_ (n := 19) (S := fun w' => w'.cell? ⟨gb104, 0, none⟩ = some (.int .i64 ((rd_T31 l0_0 x8_1).f0)) ∧ w'.cell? ⟨gb104, 1, none⟩ = some (.slice A103_1 ((rd_T31 l0_0 x8_1).f1).length c103_1) ∧ w'.cell? ⟨gb102, 0, none⟩ = some (.slice (some ad103) l0_0.length c0_0) ∧ w'.cell? (ad103.add (((ji10)).toNat * 2)) = some (.int .i64 ((rd_T31 l0_0 (ji10)).f0)) ∧ w'.cell? ⟨(ad103.add (((ji10)).toNat * 2)).block, (ad103.add (((ji10)).toNat * 2)).off + 1, none⟩ = some (.slice A106_1 ((rd_T31 l0_0 (ji10)).f1).length c106_1)) (ds := []) #[false, false, false, false, false, false, false, false, false, false, false, false, false, false, false, false, false, false, false] (by kernel_rfl) rfl rfl ⟨(blk_cell BK104.out 0).trans rfl, (blk_cell BK104.out 1).trans rfl, (blk_cell BK102.out 0).trans rfl, ((HB.out.cell (World.block_lt_of_cell? w _ hw106_0)).trans hw106_0), ((HB.out.cell (World.block_lt_of_cell? w _ hw106_1)).trans hw106_1)⟩ (fun hHeld => ?_); refine with_tabW memory_Right.tab4 memory_Right.bits4 (fun HT_ HW_ => ?_)
           generalize w23.drew = w24 at BK102 BK104 HB HR106_1 hx106_0 hx106_1 hHeld ⊢
           refine take_ (i := 0) (N := some 13) (v := ?_) (a' := ?_) #[true, false, false, false, false, false, false, false, false, false, false, false, false, false, false, false, false, false, false] rfl rfl (take_ofW HT_.out HW_.out (by kernel_rfl)) (fun _ _ _ h => h) (Or.inl ⟨by rfl, ?_⟩) hHeld ?_ ?_
           rotate_left
           ·rintro w' ⟨s0, s1, s2, s3, s4⟩
            go_simp
            with_reducible rfl
           rotate_left
           ·simp only [Act.put, zsA, zsZ, zsS, i64_w, i32_w]
            rfl
           refine one_ (i := 1) (N := some 14) #[true, true, false, false, false, false, false, false, false, false, false, false, false, false, false, false, false, false, false] rfl rfl (one_of HT_.out (by kernel_rfl)) (by decide) (fun K hK => ?_)
           refine goes_ Try.func32 (by kernel_rfl) rfl #[.agg #[.int .i64 ((rd_T31 l0_0 x8_1).f0), .slice A103_1 ((rd_T31 l0_0 x8_1).f1).length c103_1]] (by rfl) rfl rfl Zm ?_
           with_reducible refine (memory_rightPage.calls ((rd_T31 l0_0 x8_1).f0) _ _ ((rd_T31 l0_0 x8_1).f1) true _ ?side1 ?side2 A7.out).mono ?_
           (case side1 => exact Zc (Kd.C_below HR103_1.out HB.out))
           (case side2 => exact HC103_1.out)
           rintro e w25 ⟨rfl, hb⟩
           refine ⟨_, rfl, ?_⟩
           have n0_ := Zw (blk_below (g := gb102) (o := .cells #[.slice (some ad103) l0_0.length c0_0] 24 (0, 0)) (Zb BK102.out) hb)
           have n1_ := Zw (blk_below (g := gb104) (o := .cells #[.int .i64 ((rd_T31 l0_0 x8_1).f0), .slice A103_1 ((rd_T31 l0_0 x8_1).f1).length c103_1] 31 (0, 0)) (Zb BK104.out) hb)
           have n2_ := Zw (below_step (Zh2 HB.out GE102.out GE104.out) hb)
           clear BK102
           clear BK104
           clear HB
           have BK102 := n0_
           have BK104 := n1_
           have HB := n2_
           clear n0_ n1_ n2_
           (try clear hb)
           (try clear hb2)
           (try clear hk)
           (try clear hi)
           refine hK.out _ _ ⟨(blk_cell BK104.out 0).trans rfl, (blk_cell BK104.out 1).trans rfl, (blk_cell BK102.out 0).trans rfl, ((HB.out.cell (World.block_lt_of_cell? w _ hw106_0)).trans hw106_0), ((HB.out.cell (World.block_lt_of_cell? w _ hw106_1)).trans hw106_1)⟩ (fun hHeld => ?_)
           clear hK K
           refine norm_ (a' := ?_) ?_ ?_
           rotate_left
           ·show Act.put _ (some 14) _ = _
            simp only [Act.put, zsA, zsZ, zsS, i64_w, i32_w]
            rfl
           refine pure_ (i := 2) (N := some 15) (v := ?_) (a' := ?_) #[true, true, true, false, false, false, false, false, false, false, false, false, false, false, false, false, false, false, false] rfl rfl (any_of HT_.out (by kernel_rfl)) (fun _ _ _ h => h) (Or.inl ⟨by rfl, ?_⟩) ?_ ?_
           rotate_left
           ·intro w'
            go_simp
            with_reducible rfl
           rotate_left
           ·simp only [Act.put, zsA, zsZ, zsS, i64_w, i32_w]
            rfl
           refine pure_ (i := 3) (N := some 16) (v := ?_) (a' := ?_) #[true, true, true, true, false, false, false, false, false, false, false, false, false, false, false, false, false, false, false] rfl rfl (any_of HT_.out (by kernel_rfl)) (fun _ _ _ h => h) (Or.inl ⟨by rfl, ?_⟩) ?_ ?_
           rotate_left
           ·intro w'
            go_simp
            with_reducible rfl
           rotate_left
           ·simp only [Act.put, zsA, zsZ, zsS, i64_w, i32_w]
            rfl
           refine pure_ (i := 4) (N := some 17) (v := ?_) (a' := ?_) #[true, true, true, true, true, false, false, false, false, false, false, false, false, false, false, false, false, false, false] rfl rfl (any_of HT_.out (by kernel_rfl)) (fun _ _ _ h => h) (Or.inl ⟨by rfl, ?_⟩) ?_ ?_
           rotate_left
           ·intro w'
            go_simp
            with_reducible rfl
           rotate_left
           ·simp only [Act.put, zsA, zsZ, zsS, i64_w, i32_w]
            rfl
           refine pure_ (i := 5) (N := some 18) (v := ?_) (a' := ?_) #[true, true, true, true, true, true, false, false, false, false, false, false, false, false, false, false, false, false, false] rfl rfl (any_of HT_.out (by kernel_rfl)) (fun _ _ _ h => h) (Or.inl ⟨by rfl, ?_⟩) ?_ ?_
           rotate_left
           ·intro w'
            go_simp
            with_reducible rfl
           rotate_left
           ·simp only [Act.put, zsA, zsZ, zsS, i64_w, i32_w]
            rfl
           refine pure_ (i := 6) (N := some 19) (v := ?_) (a' := ?_) #[true, true, true, true, true, true, true, false, false, false, false, false, false, false, false, false, false, false, false] rfl rfl (any_of HT_.out (by kernel_rfl)) (fun _ _ _ h => h) (Or.inl ⟨by rfl, ?_⟩) ?_ ?_
           rotate_left
           ·intro w'
            go_simp
            with_reducible rfl
           rotate_left
           ·simp only [Act.put, zsA, zsZ, zsS, i64_w, i32_w]
            rfl
           refine pure_ (i := 7) (N := some 20) (v := ?_) (a' := ?_) #[true, true, true, true, true, true, true, true, false, false, false, false, false, false, false, false, false, false, false] rfl rfl (any_of HT_.out (by kernel_rfl)) (fun _ _ _ h => h) (Or.inl ⟨by rfl, ?_⟩) ?_ ?_
           rotate_left
           ·intro w'
            go_simp
            with_reducible rfl
           rotate_left
           ·simp only [Act.put, zsA, zsZ, zsS, i64_w, i32_w]
            rfl
           refine pure_ (i := 9) (N := some 22) (v := ?_) (a' := ?_) #[true, true, true, true, true, true, true, true, false, true, false, false, false, false, false, false, false, false, false] rfl rfl (any_of HT_.out (by kernel_rfl)) (fun _ _ _ h => h) (Or.inl ⟨by rfl, ?_⟩) ?_ ?_
           rotate_left
           ·intro w'
            go_simp
            with_reducible rfl
           rotate_left
           ·simp only [Act.put, zsA, zsZ, zsS, i64_w, i32_w]
            rfl
           refine pure_ (i := 10) (N := some 23) (v := ?_) (a' := ?_) #[true, true, true, true, true, true, true, true, false, true, true, false, false, false, false, false, false, false, false] rfl rfl (any_of HT_.out (by kernel_rfl)) (fun _ _ _ h => h) (Or.inl ⟨by rfl, ?_⟩) ?_ ?_
           rotate_left
           ·intro w'
            go_simp
            with_reducible rfl
           rotate_left
           ·simp only [Act.put, zsA, zsZ, zsS, i64_w, i32_w]
            rfl
           refine pure_ (i := 14) (N := some 27) (v := ?_) (a' := ?_) #[true, true, true, true, true, true, true, true, false, true, true, false, false, false, true, false, false, false, false] rfl rfl (any_of HT_.out (by kernel_rfl)) (fun _ _ _ h => h) (Or.inl ⟨by rfl, ?_⟩) ?_ ?_
           rotate_left
           ·intro w'
            go_simp
            with_reducible rfl
           rotate_left
           ·simp only [Act.put, zsA, zsZ, zsS, i64_w, i32_w]
            rfl
           refine take_ (i := 8) (N := some 21) (v := ?_) (a' := ?_) #[true, true, true, true, true, true, true, true, true, true, true, false, false, false, true, false, false, false, false] rfl rfl (take_ofW HT_.out HW_.out (by kernel_rfl)) (fun _ _ _ h => h) (Or.inl ⟨by rfl, ?_⟩) hHeld ?_ ?_
           rotate_left
           ·rintro w' ⟨s0, s1, s2, s3, s4⟩
            go_simp
            with_reducible rfl
           rotate_left
           ·simp only [Act.put, zsA, zsZ, zsS, i64_w, i32_w]
            rfl
           refine pure_ (i := 11) (N := some 24) (v := ?_) (a' := ?_) #[true, true, true, true, true, true, true, true, true, true, true, true, false, false, true, false, false, false, false] rfl rfl (any_of HT_.out (by kernel_rfl)) (fun _ _ _ h => h) (Or.inl ⟨by rfl, ?_⟩) ?_ ?_
           rotate_left
           ·intro w'
            go_simp
            with_reducible rfl
           rotate_left
           ·simp only [Act.put, zsA, zsZ, zsS, i64_w, i32_w]
            rfl
           refine pure_ (i := 12) (N := some 25) (v := ?_) (a' := ?_) #[true, true, true, true, true, true, true, true, true, true, true, true, true, false, true, false, false, false, false] rfl rfl (any_of HT_.out (by kernel_rfl)) (fun _ _ _ h => h) (Or.inl ⟨by rfl, ?_⟩) ?_ ?_
           rotate_left
           ·intro w'
            go_simp
            with_reducible rfl
           rotate_left
           ·simp only [Act.put, zsA, zsZ, zsS, i64_w, i32_w]
            rfl
           refine take_ (i := 13) (N := some 26) (v := ?_) (a' := ?_) #[true, true, true, true, true, true, true, true, true, true, true, true, true, true, true, false, false, false, false] rfl rfl (take_ofW HT_.out HW_.out (by kernel_rfl)) (fun _ _ _ h => h) (Or.inl ⟨by rfl, ?_⟩) hHeld ?_ ?_
           rotate_left
           ·rintro w' ⟨s0, s1, s2, s3, s4⟩
            go_simp
            with_reducible rfl
           rotate_left
           ·simp only [Act.put, zsA, zsZ, zsS, i64_w, i32_w]
            rfl
           refine take_ (i := 15) (N := some 28) (v := ?_) (a' := ?_) #[true, true, true, true, true, true, true, true, true, true, true, true, true, true, true, true, false, false, false] rfl rfl (take_ofW HT_.out HW_.out (by kernel_rfl)) (fun _ _ _ h => h) (Or.inl ⟨by rfl, ?_⟩) hHeld ?_ ?_
           rotate_left
           ·rintro w' ⟨s0, s1, s2, s3, s4⟩
            go_simp
            with_reducible rfl
           rotate_left
           ·simp only [Act.put, zsA, zsZ, zsS, i64_w, i32_w]
            rfl
           refine pure_ (i := 16) (N := some 29) (v := ?_) (a' := ?_) #[true, true, true, true, true, true, true, true, true, true, true, true, true, true, true, true, true, false, false] rfl rfl (any_of HT_.out (by kernel_rfl)) (fun _ _ _ h => h) (Or.inl ⟨by rfl, ?_⟩) ?_ ?_
           rotate_left
           ·intro w'
            go_simp
            with_reducible rfl
           rotate_left
           ·simp only [Act.put, zsA, zsZ, zsS, i64_w, i32_w]
            rfl
           refine pure_ (i := 17) (N := some 30) (v := ?_) (a' := ?_) #[true, true, true, true, true, true, true, true, true, true, true, true, true, true, true, true, true, true, false] rfl rfl (any_of HT_.out (by kernel_rfl)) (fun _ _ _ h => h) (Or.inl ⟨by rfl, ?_⟩) ?_ ?_
           rotate_left
           ·intro w'
            go_simp
            with_reducible rfl
           rotate_left
           ·simp only [Act.put, zsA, zsZ, zsS, i64_w, i32_w]
            rfl
           refine pure_ (i := 18) (N := some 31) (v := ?_) (a' := ?_) #[true, true, true, true, true, true, true, true, true, true, true, true, true, true, true, true, true, true, true] rfl rfl (any_of HT_.out (by kernel_rfl)) (fun _ _ _ h => h) (Or.inl ⟨by rfl, ?_⟩) ?_ ?_
           rotate_left
           ·intro w'
            go_simp
            with_reducible rfl
           rotate_left
           ·simp only [Act.put, zsA, zsZ, zsS, i64_w, i32_w]
            rfl
           refine done_ (done_of HT_.out (by kernel_rfl)) ?_
           try go_wp2
           go_roundg k1
           case measure => have := HK1.out; omega
           case rel => exact ⟨(wrap64 (x8_1 + 1)), (by first | rfl | (simp; done) | (simp [*]; done)), H', ⟨by have := HK1.out; omega⟩, ⟨Zb BK102.out⟩, ⟨Zh2 HB.out GE102.out GE104.out⟩⟩
         ·rw [if_neg c12] at H
          exact absurd H (by simp)
        ·rw [if_neg c11] at H
         exact absurd H (by simp)
       ·rw [if_neg c9] at H
        have c9b0 : decide (0 < x8_1) = false := decide_eq_false c9
        clear c9
        have H' := Aside0.mk H
        clear H
        have p103 : 0 ≤ (x8_1 : Int) := of_decide_eq_true Za
        have q103 : x8_1 < (l0_0.length : Int) := of_decide_eq_true Za
        obtain ⟨ad103, A103_1, c103_1, e103, hx103_0, hx103_1, hl103_1, hi103_1⟩ := at_T31 HR0_0.out x8_1 p103 q103
        cases e103
        replace hx103_0 := Zl HB.out hx103_0
        replace hx103_1 := Zl HB.out hx103_1
        have HR103_1 := Aside0.mk hi103_1
        have HC103_1 := Aside0.mk hl103_1
        clear hi103_1 hl103_1
        replace p103 := eq_true p103
        replace q103 := eq_true q103
        try go_wp2_with (first | ((with_reducible refine gate_dst (N := 4) rfl ?_); refine box_event ?hg (N := 4) ?hd (cs := #[.int .i64 0, .slice none 0 0]) (t := 31) ?hr ?_; (case hd => rfl); (case hg => rfl); (case hr => first | (go_simp; done) | (go_simp; rfl)); intro gb104 hg w26 hbox hb; have n0_ := Zw (blk_below (g := gb102) (o := .cells #[.slice (some ad103) l0_0.length c0_0] 24 (0, 0)) (Zb BK102.out) hb); have n1_ := Zw (below_step (Zh1 HB.out GE102.out) hb); have n2_ := Zw (hbox); have n3_ := Zw ((by rw [hg]; exact (below_size (Zh1 HB.out GE102.out)) : w.heap.size ≤ gb104)); have n4_ := Zw ((by rw [hg]; exact (below_size (Zh1 HB.out GE102.out)) : w.heap.size ≤ gb104)); have n5_ := Zw ((by rw [hg]; exact Nat.ne_of_lt (blk_lt (Zb BK102.out)) : gb102 ≠ gb104)); have n6_ := Zw ((by rw [hg]; exact Nat.ne_of_gt (blk_lt (Zb BK102.out)) : gb104 ≠ gb102)); clear BK102; clear HB; have BK102 := n0_; have HB := n1_; have BK104 := n2_; have GW104 := n3_; have GE104 := n4_; have NB102_104 := n5_; have NB104_102 := n6_; clear n0_ n1_ n2_ n3_ n4_ n5_ n6_; clear hb hbox hg; have hnb27 := NB104_102.out; have hnc27 := NB102_104.out; have hcz28_0 := Zcl BK104.out 0 rfl; have hcz28_1 := Zcl BK104.out 1 rfl; have hfz28_0 := blk_frozen BK104.out 0; have hfz28_1 := blk_frozen BK104.out 1))
        have n0_ : Aside0 (((w26.setCell ⟨gb104, 0, none⟩ (.int .i64 ((rd_T31 l0_0 x8_1).f0))).setCell ⟨gb104, 1, none⟩ (.slice A103_1 ((rd_T31 l0_0 x8_1).f1).length c103_1)).heap[gb102]? = some (.cells #[.slice (some ad103) l0_0.length c0_0] 24 (0, 0))) := ⟨by refine Zbk ?_; refine blk_far ?_ NB102_104.out _; refine Zbk ?_; refine blk_far ?_ NB102_104.out _; refine Zbk ?_; exact BK102.out⟩
        have n1_ : Aside0 (((w26.setCell ⟨gb104, 0, none⟩ (.int .i64 ((rd_T31 l0_0 x8_1).f0))).setCell ⟨gb104, 1, none⟩ (.slice A103_1 ((rd_T31 l0_0 x8_1).f1).length c103_1)).heap[gb104]? = some (.cells #[.int .i64 ((rd_T31 l0_0 x8_1).f0), .slice A103_1 ((rd_T31 l0_0 x8_1).f1).length c103_1] 31 (0, 0))) := ⟨by refine Zbk ?_; refine blk_put (cs := #[.int .i64 ((rd_T31 l0_0 x8_1).f0), .slice none 0 0]) ?_ 1 _ rfl; refine Zbk ?_; refine blk_put (cs := #[.int .i64 0, .slice none 0 0]) ?_ 0 _ rfl; refine Zbk ?_; exact BK104.out⟩
        have n2_ : Aside0 (Below w.heap.size w ((w26.setCell ⟨gb104, 0, none⟩ (.int .i64 ((rd_T31 l0_0 x8_1).f0))).setCell ⟨gb104, 1, none⟩ (.slice A103_1 ((rd_T31 l0_0 x8_1).f1).length c103_1))) := ⟨Zh2 HB.out GE102.out GE104.out⟩
        (try clear BK102)
        (try clear BK104)
        (try clear HB)
        generalize ((w26.setCell ⟨gb104, 0, none⟩ (.int .i64 ((rd_T31 l0_0 x8_1).f0))).setCell ⟨gb104, 1, none⟩ (.slice A103_1 ((rd_T31 l0_0 x8_1).f1).length c103_1)) = w29 at n0_ n1_ n2_ ⊢
        have BK102 := n0_
        have BK104 := n1_
        have HB := n2_
        clear n0_ n1_ n2_
        have n0_ := Zw (blk_drew BK102.out)
        have n1_ := Zw (blk_drew BK104.out)
        have n2_ := Zw (below_drew1 HB.out)
        clear BK102
        clear BK104
        clear HB
        have BK102 := n0_
        have BK104 := n1_
        have HB := n2_
        clear n0_ n1_ n2_
        refine start_ (n := 19) (S := fun w' => w'.cell? ⟨gb104, 0, none⟩ = some (.int .i64 ((rd_T31 l0_0 x8_1).f0)) ∧ w'.cell? ⟨gb104, 1, none⟩ = some (.slice A103_1 ((rd_T31 l0_0 x8_1).f1).length c103_1)) (ds := []) #[false, false, false, false, false, false, false, false, false, false, false, false, false, false, false, false, false, false, false] (by kernel_rfl) rfl rfl ⟨(blk_cell BK104.out 0).trans rfl, (blk_cell BK104.out 1).trans rfl⟩ (fun hHeld => ?_); refine with_tabW memory_Right.tab4 memory_Right.bits4 (fun HT_ HW_ => ?_)
        generalize w29.drew = w30 at BK102 BK104 HB hHeld ⊢
        refine take_ (i := 0) (N := some 13) (v := ?_) (a' := ?_) #[true, false, false, false, false, false, false, false, false, false, false, false, false, false, false, false, false, false, false] rfl rfl (take_ofW HT_.out HW_.out (by kernel_rfl)) (fun _ _ _ h => h) (Or.inl ⟨by rfl, ?_⟩) hHeld ?_ ?_
        rotate_left
        ·rintro w' ⟨s0, s1⟩
         go_simp
         with_reducible rfl
        rotate_left
        ·simp only [Act.put, zsA, zsZ, zsS, i64_w, i32_w]
         rfl
        refine one_ (i := 1) (N := some 14) #[true, true, false, false, false, false, false, false, false, false, false, false, false, false, false, false, false, false, false] rfl rfl (one_of HT_.out (by kernel_rfl)) (by decide) (fun K hK => ?_)
        refine goes_ Try.func32 (by kernel_rfl) rfl #[.agg #[.int .i64 ((rd_T31 l0_0 x8_1).f0), .slice A103_1 ((rd_T31 l0_0 x8_1).f1).length c103_1]] (by rfl) rfl rfl Zm ?_
        with_reducible refine (memory_rightPage.calls ((rd_T31 l0_0 x8_1).f0) _ _ ((rd_T31 l0_0 x8_1).f1) true _ ?side1 ?side2 A7.out).mono ?_
        (case side1 => exact Zc (Kd.C_below HR103_1.out HB.out))
        (case side2 => exact HC103_1.out)
        rintro e w31 ⟨rfl, hb⟩
        refine ⟨_, rfl, ?_⟩
        have n0_ := Zw (blk_below (g := gb102) (o := .cells #[.slice (some ad103) l0_0.length c0_0] 24 (0, 0)) (Zb BK102.out) hb)
        have n1_ := Zw (blk_below (g := gb104) (o := .cells #[.int .i64 ((rd_T31 l0_0 x8_1).f0), .slice A103_1 ((rd_T31 l0_0 x8_1).f1).length c103_1] 31 (0, 0)) (Zb BK104.out) hb)
        have n2_ := Zw (below_step (Zh2 HB.out GE102.out GE104.out) hb)
        clear BK102
        clear BK104
        clear HB
        have BK102 := n0_
        have BK104 := n1_
        have HB := n2_
        clear n0_ n1_ n2_
        (try clear hb)
        (try clear hb2)
        (try clear hk)
        (try clear hi)
        refine hK.out _ _ ⟨(blk_cell BK104.out 0).trans rfl, (blk_cell BK104.out 1).trans rfl⟩ (fun hHeld => ?_)
        clear hK K
        refine norm_ (a' := ?_) ?_ ?_
        rotate_left
        ·show Act.put _ (some 14) _ = _
         simp only [Act.put, zsA, zsZ, zsS, i64_w, i32_w]
         rfl
        refine pure_ (i := 2) (N := some 15) (v := ?_) (a' := ?_) #[true, true, true, false, false, false, false, false, false, false, false, false, false, false, false, false, false, false, false] rfl rfl (any_of HT_.out (by kernel_rfl)) (fun _ _ _ h => h) (Or.inl ⟨by rfl, ?_⟩) ?_ ?_
        rotate_left
        ·intro w'
         go_simp
         with_reducible rfl
        rotate_left
        ·simp only [Act.put, zsA, zsZ, zsS, i64_w, i32_w]
         rfl
        refine pure_ (i := 3) (N := some 16) (v := ?_) (a' := ?_) #[true, true, true, true, false, false, false, false, false, false, false, false, false, false, false, false, false, false, false] rfl rfl (any_of HT_.out (by kernel_rfl)) (fun _ _ _ h => h) (Or.inl ⟨by rfl, ?_⟩) ?_ ?_
        rotate_left
        ·intro w'
         go_simp
         with_reducible rfl
        rotate_left
        ·simp only [Act.put, zsA, zsZ, zsS, i64_w, i32_w]
         rfl
        refine pure_ (i := 4) (N := some 17) (v := ?_) (a' := ?_) #[true, true, true, true, true, false, false, false, false, false, false, false, false, false, false, false, false, false, false] rfl rfl (any_of HT_.out (by kernel_rfl)) (fun _ _ _ h => h) (Or.inl ⟨by rfl, ?_⟩) ?_ ?_
        rotate_left
        ·intro w'
         go_simp
         with_reducible rfl
        rotate_left
        ·simp only [Act.put, zsA, zsZ, zsS, i64_w, i32_w]
         rfl
        refine pure_ (i := 5) (N := some 18) (v := ?_) (a' := ?_) #[true, true, true, true, true, true, false, false, false, false, false, false, false, false, false, false, false, false, false] rfl rfl (any_of HT_.out (by kernel_rfl)) (fun _ _ _ h => h) (Or.inl ⟨by rfl, ?_⟩) ?_ ?_
        rotate_left
        ·intro w'
         go_simp
         with_reducible rfl
        rotate_left
        ·simp only [Act.put, zsA, zsZ, zsS, i64_w, i32_w]
         rfl
        refine pure_ (i := 6) (N := some 19) (v := ?_) (a' := ?_) #[true, true, true, true, true, true, true, false, false, false, false, false, false, false, false, false, false, false, false] rfl rfl (any_of HT_.out (by kernel_rfl)) (fun _ _ _ h => h) (Or.inl ⟨by rfl, ?_⟩) ?_ ?_
        rotate_left
        ·intro w'
         go_simp
         with_reducible rfl
        rotate_left
        ·simp only [Act.put, zsA, zsZ, zsS, i64_w, i32_w]
         rfl
        refine pure_ (i := 7) (N := some 20) (v := undef) (a' := ?_) #[true, true, true, true, true, true, true, true, false, false, false, false, false, false, false, false, false, false, false] rfl rfl (any_of HT_.out (by kernel_rfl)) (fun _ _ _ h => h) (Or.inr ⟨by rfl, rfl⟩) ?_ ?_
        rotate_left
        ·simp only [Act.put, zsA, zsZ, zsS, i64_w, i32_w]
         rfl
        refine pure_ (i := 8) (N := some 21) (v := undef) (a' := ?_) #[true, true, true, true, true, true, true, true, true, false, false, false, false, false, false, false, false, false, false] rfl rfl (any_of HT_.out (by kernel_rfl)) (fun _ _ _ h => h) (Or.inr ⟨by rfl, rfl⟩) ?_ ?_
        rotate_left
        ·simp only [Act.put, zsA, zsZ, zsS, i64_w, i32_w]
         rfl
        refine pure_ (i := 9) (N := some 22) (v := undef) (a' := ?_) #[true, true, true, true, true, true, true, true, true, true, false, false, false, false, false, false, false, false, false] rfl rfl (any_of HT_.out (by kernel_rfl)) (fun _ _ _ h => h) (Or.inr ⟨by rfl, rfl⟩) ?_ ?_
        rotate_left
        ·simp only [Act.put, zsA, zsZ, zsS, i64_w, i32_w]
         rfl
        refine pure_ (i := 10) (N := some 23) (v := undef) (a' := ?_) #[true, true, true, true, true, true, true, true, true, true, true, false, false, false, false, false, false, false, false] rfl rfl (any_of HT_.out (by kernel_rfl)) (fun _ _ _ h => h) (Or.inr ⟨by rfl, rfl⟩) ?_ ?_
        rotate_left
        ·simp only [Act.put, zsA, zsZ, zsS, i64_w, i32_w]
         rfl
        refine pure_ (i := 11) (N := some 24) (v := undef) (a' := ?_) #[true, true, true, true, true, true, true, true, true, true, true, true, false, false, false, false, false, false, false] rfl rfl (any_of HT_.out (by kernel_rfl)) (fun _ _ _ h => h) (Or.inr ⟨by rfl, rfl⟩) ?_ ?_
        rotate_left
        ·simp only [Act.put, zsA, zsZ, zsS, i64_w, i32_w]
         rfl
        refine pure_ (i := 12) (N := some 25) (v := undef) (a' := ?_) #[true, true, true, true, true, true, true, true, true, true, true, true, true, false, false, false, false, false, false] rfl rfl (any_of HT_.out (by kernel_rfl)) (fun _ _ _ h => h) (Or.inr ⟨by rfl, rfl⟩) ?_ ?_
        rotate_left
        ·simp only [Act.put, zsA, zsZ, zsS, i64_w, i32_w]
         rfl
        refine pure_ (i := 13) (N := some 26) (v := undef) (a' := ?_) #[true, true, true, true, true, true, true, true, true, true, true, true, true, true, false, false, false, false, false] rfl rfl (any_of HT_.out (by kernel_rfl)) (fun _ _ _ h => h) (Or.inr ⟨by rfl, rfl⟩) ?_ ?_
        rotate_left
        ·simp only [Act.put, zsA, zsZ, zsS, i64_w, i32_w]
         rfl
        refine pure_ (i := 14) (N := some 27) (v := undef) (a' := ?_) #[true, true, true, true, true, true, true, true, true, true, true, true, true, true, true, false, false, false, false] rfl rfl (any_of HT_.out (by kernel_rfl)) (fun _ _ _ h => h) (Or.inr ⟨by rfl, rfl⟩) ?_ ?_
        rotate_left
        ·simp only [Act.put, zsA, zsZ, zsS, i64_w, i32_w]
         rfl
        refine pure_ (i := 15) (N := some 28) (v := undef) (a' := ?_) #[true, true, true, true, true, true, true, true, true, true, true, true, true, true, true, true, false, false, false] rfl rfl (any_of HT_.out (by kernel_rfl)) (fun _ _ _ h => h) (Or.inr ⟨by rfl, rfl⟩) ?_ ?_
        rotate_left
        ·simp only [Act.put, zsA, zsZ, zsS, i64_w, i32_w]
         rfl
        refine pure_ (i := 16) (N := some 29) (v := undef) (a' := ?_) #[true, true, true, true, true, true, true, true, true, true, true, true, true, true, true, true, true, false, false] rfl rfl (any_of HT_.out (by kernel_rfl)) (fun _ _ _ h => h) (Or.inr ⟨by rfl, rfl⟩) ?_ ?_
        rotate_left
        ·simp only [Act.put, zsA, zsZ, zsS, i64_w, i32_w]
         rfl
        refine pure_ (i := 17) (N := some 30) (v := ?_) (a' := ?_) #[true, true, true, true, true, true, true, true, true, true, true, true, true, true, true, true, true, true, false] rfl rfl (any_of HT_.out (by kernel_rfl)) (fun _ _ _ h => h) (Or.inl ⟨by rfl, ?_⟩) ?_ ?_
        rotate_left
        ·intro w'
         go_simp
         with_reducible rfl
        rotate_left
        ·simp only [Act.put, zsA, zsZ, zsS, i64_w, i32_w]
         rfl
        refine pure_ (i := 18) (N := some 31) (v := ?_) (a' := ?_) #[true, true, true, true, true, true, true, true, true, true, true, true, true, true, true, true, true, true, true] rfl rfl (any_of HT_.out (by kernel_rfl)) (fun _ _ _ h => h) (Or.inl ⟨by rfl, ?_⟩) ?_ ?_
        rotate_left
        ·intro w'
         go_simp
         with_reducible rfl
        rotate_left
        ·simp only [Act.put, zsA, zsZ, zsS, i64_w, i32_w]
         rfl
        refine done_ (done_of HT_.out (by kernel_rfl)) ?_
        try go_wp2
        go_roundg k1
        case measure => have := HK1.out; omega
        case rel => exact ⟨(wrap64 (x8_1 + 1)), (by first | rfl | (simp; done) | (simp [*]; done)), H', ⟨by have := HK1.out; omega⟩, ⟨Zb BK102.out⟩, ⟨Zh2 HB.out GE102.out GE104.out⟩⟩
      ·replace c8 := Bool.eq_false_iff.mpr c8
       subst c8
       have H1 : (some false) = some r := by rw [if_neg (show ¬ (false = true) by decide)] at H; exact H
       clear H
       have H := H1
       clear H1
       obtain rfl := Option.some.inj H
       have p103 : 0 ≤ (x8_1 : Int) := of_decide_eq_true Za
       have q103 : x8_1 < (l0_0.length : Int) := of_decide_eq_true Za
       obtain ⟨ad103, A103_1, c103_1, e103, hx103_0, hx103_1, hl103_1, hi103_1⟩ := at_T31 HR0_0.out x8_1 p103 q103
       cases e103
       replace hx103_0 := Zl HB.out hx103_0
       replace hx103_1 := Zl HB.out hx103_1
       have HR103_1 := Aside0.mk hi103_1
       have HC103_1 := Aside0.mk hl103_1
       clear hi103_1 hl103_1
       replace p103 := eq_true p103
       replace q103 := eq_true q103
       try go_wp2_with (first | ((with_reducible refine gate_dst (N := 4) rfl ?_); refine box_event ?hg (N := 4) ?hd (cs := #[.int .i64 0, .slice none 0 0]) (t := 31) ?hr ?_; (case hd => rfl); (case hg => rfl); (case hr => first | (go_simp; done) | (go_simp; rfl)); intro gb104 hg w32 hbox hb; have n0_ := Zw (blk_below (g := gb102) (o := .cells #[.slice (some ad103) l0_0.length c0_0] 24 (0, 0)) (Zb BK102.out) hb); have n1_ := Zw (below_step (Zh1 HB.out GE102.out) hb); have n2_ := Zw (hbox); have n3_ := Zw ((by rw [hg]; exact (below_size (Zh1 HB.out GE102.out)) : w.heap.size ≤ gb104)); have n4_ := Zw ((by rw [hg]; exact (below_size (Zh1 HB.out GE102.out)) : w.heap.size ≤ gb104)); have n5_ := Zw ((by rw [hg]; exact Nat.ne_of_lt (blk_lt (Zb BK102.out)) : gb102 ≠ gb104)); have n6_ := Zw ((by rw [hg]; exact Nat.ne_of_gt (blk_lt (Zb BK102.out)) : gb104 ≠ gb102)); clear BK102; clear HB; have BK102 := n0_; have HB := n1_; have BK104 := n2_; have GW104 := n3_; have GE104 := n4_; have NB102_104 := n5_; have NB104_102 := n6_; clear n0_ n1_ n2_ n3_ n4_ n5_ n6_; clear hb hbox hg; have hnb33 := NB104_102.out; have hnc33 := NB102_104.out; have hcz34_0 := Zcl BK104.out 0 rfl; have hcz34_1 := Zcl BK104.out 1 rfl; have hfz34_0 := blk_frozen BK104.out 0; have hfz34_1 := blk_frozen BK104.out 1))
       have n0_ : Aside0 (((w32.setCell ⟨gb104, 0, none⟩ (.int .i64 ((rd_T31 l0_0 x8_1).f0))).setCell ⟨gb104, 1, none⟩ (.slice A103_1 ((rd_T31 l0_0 x8_1).f1).length c103_1)).heap[gb102]? = some (.cells #[.slice (some ad103) l0_0.length c0_0] 24 (0, 0))) := ⟨by refine Zbk ?_; refine blk_far ?_ NB102_104.out _; refine Zbk ?_; refine blk_far ?_ NB102_104.out _; refine Zbk ?_; exact BK102.out⟩
       have n1_ : Aside0 (((w32.setCell ⟨gb104, 0, none⟩ (.int .i64 ((rd_T31 l0_0 x8_1).f0))).setCell ⟨gb104, 1, none⟩ (.slice A103_1 ((rd_T31 l0_0 x8_1).f1).length c103_1)).heap[gb104]? = some (.cells #[.int .i64 ((rd_T31 l0_0 x8_1).f0), .slice A103_1 ((rd_T31 l0_0 x8_1).f1).length c103_1] 31 (0, 0))) := ⟨by refine Zbk ?_; refine blk_put (cs := #[.int .i64 ((rd_T31 l0_0 x8_1).f0), .slice none 0 0]) ?_ 1 _ rfl; refine Zbk ?_; refine blk_put (cs := #[.int .i64 0, .slice none 0 0]) ?_ 0 _ rfl; refine Zbk ?_; exact BK104.out⟩
       have n2_ : Aside0 (Below w.heap.size w ((w32.setCell ⟨gb104, 0, none⟩ (.int .i64 ((rd_T31 l0_0 x8_1).f0))).setCell ⟨gb104, 1, none⟩ (.slice A103_1 ((rd_T31 l0_0 x8_1).f1).length c103_1))) := ⟨Zh2 HB.out GE102.out GE104.out⟩
       (try clear BK102)
       (try clear BK104)
       (try clear HB)
       generalize ((w32.setCell ⟨gb104, 0, none⟩ (.int .i64 ((rd_T31 l0_0 x8_1).f0))).setCell ⟨gb104, 1, none⟩ (.slice A103_1 ((rd_T31 l0_0 x8_1).f1).length c103_1)) = w35 at n0_ n1_ n2_ ⊢
       have BK102 := n0_
       have BK104 := n1_
       have HB := n2_
       clear n0_ n1_ n2_
       have n0_ := Zw (blk_drew BK102.out)
       have n1_ := Zw (blk_drew BK104.out)
       have n2_ := Zw (below_drew1 HB.out)
       clear BK102
       clear BK104
       clear HB
       have BK102 := n0_
       have BK104 := n1_
       have HB := n2_
       clear n0_ n1_ n2_
       refine start_ (n := 19) (S := fun w' => w'.cell? ⟨gb104, 0, none⟩ = some (.int .i64 ((rd_T31 l0_0 x8_1).f0)) ∧ w'.cell? ⟨gb104, 1, none⟩ = some (.slice A103_1 ((rd_T31 l0_0 x8_1).f1).length c103_1)) (ds := []) #[false, false, false, false, false, false, false, false, false, false, false, false, false, false, false, false, false, false, false] (by kernel_rfl) rfl rfl ⟨(blk_cell BK104.out 0).trans rfl, (blk_cell BK104.out 1).trans rfl⟩ (fun hHeld => ?_); refine with_tabW memory_Right.tab4 memory_Right.bits4 (fun HT_ HW_ => ?_)
       generalize w35.drew = w36 at BK102 BK104 HB hHeld ⊢
       refine take_ (i := 0) (N := some 13) (v := ?_) (a' := ?_) #[true, false, false, false, false, false, false, false, false, false, false, false, false, false, false, false, false, false, false] rfl rfl (take_ofW HT_.out HW_.out (by kernel_rfl)) (fun _ _ _ h => h) (Or.inl ⟨by rfl, ?_⟩) hHeld ?_ ?_
       rotate_left
       ·rintro w' ⟨s0, s1⟩
        go_simp
        with_reducible rfl
       rotate_left
       ·simp only [Act.put, zsA, zsZ, zsS, i64_w, i32_w]
        rfl
       refine one_ (i := 1) (N := some 14) #[true, true, false, false, false, false, false, false, false, false, false, false, false, false, false, false, false, false, false] rfl rfl (one_of HT_.out (by kernel_rfl)) (by decide) (fun K hK => ?_)
       refine goes_ Try.func32 (by kernel_rfl) rfl #[.agg #[.int .i64 ((rd_T31 l0_0 x8_1).f0), .slice A103_1 ((rd_T31 l0_0 x8_1).f1).length c103_1]] (by rfl) rfl rfl Zm ?_
       with_reducible refine (memory_rightPage.calls ((rd_T31 l0_0 x8_1).f0) _ _ ((rd_T31 l0_0 x8_1).f1) false _ ?side1 ?side2 A7.out).mono ?_
       (case side1 => exact Zc (Kd.C_below HR103_1.out HB.out))
       (case side2 => exact HC103_1.out)
       rintro e w37 ⟨rfl, hb⟩
       refine ⟨_, rfl, ?_⟩
       have n0_ := Zw (blk_below (g := gb102) (o := .cells #[.slice (some ad103) l0_0.length c0_0] 24 (0, 0)) (Zb BK102.out) hb)
       have n1_ := Zw (blk_below (g := gb104) (o := .cells #[.int .i64 ((rd_T31 l0_0 x8_1).f0), .slice A103_1 ((rd_T31 l0_0 x8_1).f1).length c103_1] 31 (0, 0)) (Zb BK104.out) hb)
       have n2_ := Zw (below_step (Zh2 HB.out GE102.out GE104.out) hb)
       clear BK102
       clear BK104
       clear HB
       have BK102 := n0_
       have BK104 := n1_
       have HB := n2_
       clear n0_ n1_ n2_
       (try clear hb)
       (try clear hb2)
       (try clear hk)
       (try clear hi)
       refine hK.out _ _ ⟨(blk_cell BK104.out 0).trans rfl, (blk_cell BK104.out 1).trans rfl⟩ (fun hHeld => ?_)
       clear hK K
       refine norm_ (a' := ?_) ?_ ?_
       rotate_left
       ·show Act.put _ (some 14) _ = _
        simp only [Act.put, zsA, zsZ, zsS, i64_w, i32_w]
        rfl
       refine pure_ (i := 2) (N := some 15) (v := ?_) (a' := ?_) #[true, true, true, false, false, false, false, false, false, false, false, false, false, false, false, false, false, false, false] rfl rfl (any_of HT_.out (by kernel_rfl)) (fun _ _ _ h => h) (Or.inl ⟨by rfl, ?_⟩) ?_ ?_
       rotate_left
       ·intro w'
        go_simp
        with_reducible rfl
       rotate_left
       ·simp only [Act.put, zsA, zsZ, zsS, i64_w, i32_w]
        rfl
       refine pure_ (i := 3) (N := some 16) (v := ?_) (a' := ?_) #[true, true, true, true, false, false, false, false, false, false, false, false, false, false, false, false, false, false, false] rfl rfl (any_of HT_.out (by kernel_rfl)) (fun _ _ _ h => h) (Or.inl ⟨by rfl, ?_⟩) ?_ ?_
       rotate_left
       ·intro w'
        go_simp
        with_reducible rfl
       rotate_left
       ·simp only [Act.put, zsA, zsZ, zsS, i64_w, i32_w]
        rfl
       refine pure_ (i := 4) (N := some 17) (v := undef) (a' := ?_) #[true, true, true, true, true, false, false, false, false, false, false, false, false, false, false, false, false, false, false] rfl rfl (any_of HT_.out (by kernel_rfl)) (fun _ _ _ h => h) (Or.inr ⟨by rfl, rfl⟩) ?_ ?_
       rotate_left
       ·simp only [Act.put, zsA, zsZ, zsS, i64_w, i32_w]
        rfl
       refine pure_ (i := 5) (N := some 18) (v := undef) (a' := ?_) #[true, true, true, true, true, true, false, false, false, false, false, false, false, false, false, false, false, false, false] rfl rfl (any_of HT_.out (by kernel_rfl)) (fun _ _ _ h => h) (Or.inr ⟨by rfl, rfl⟩) ?_ ?_
       rotate_left
       ·simp only [Act.put, zsA, zsZ, zsS, i64_w, i32_w]
        rfl
       refine pure_ (i := 6) (N := some 19) (v := undef) (a' := ?_) #[true, true, true, true, true, true, true, false, false, false, false, false, false, false, false, false, false, false, false] rfl rfl (any_of HT_.out (by kernel_rfl)) (fun _ _ _ h => h) (Or.inr ⟨by rfl, rfl⟩) ?_ ?_
       rotate_left
       ·simp only [Act.put, zsA, zsZ, zsS, i64_w, i32_w]
        rfl
       refine pure_ (i := 7) (N := some 20) (v := undef) (a' := ?_) #[true, true, true, true, true, true, true, true, false, false, false, false, false, false, false, false, false, false, false] rfl rfl (any_of HT_.out (by kernel_rfl)) (fun _ _ _ h => h) (Or.inr ⟨by rfl, rfl⟩) ?_ ?_
       rotate_left
       ·simp only [Act.put, zsA, zsZ, zsS, i64_w, i32_w]
        rfl
       refine pure_ (i := 8) (N := some 21) (v := undef) (a' := ?_) #[true, true, true, true, true, true, true, true, true, false, false, false, false, false, false, false, false, false, false] rfl rfl (any_of HT_.out (by kernel_rfl)) (fun _ _ _ h => h) (Or.inr ⟨by rfl, rfl⟩) ?_ ?_
       rotate_left
       ·simp only [Act.put, zsA, zsZ, zsS, i64_w, i32_w]
        rfl
       refine pure_ (i := 9) (N := some 22) (v := undef) (a' := ?_) #[true, true, true, true, true, true, true, true, true, true, false, false, false, false, false, false, false, false, false] rfl rfl (any_of HT_.out (by kernel_rfl)) (fun _ _ _ h => h) (Or.inr ⟨by rfl, rfl⟩) ?_ ?_
       rotate_left
       ·simp only [Act.put, zsA, zsZ, zsS, i64_w, i32_w]
        rfl
       refine pure_ (i := 10) (N := some 23) (v := undef) (a' := ?_) #[true, true, true, true, true, true, true, true, true, true, true, false, false, false, false, false, false, false, false] rfl rfl (any_of HT_.out (by kernel_rfl)) (fun _ _ _ h => h) (Or.inr ⟨by rfl, rfl⟩) ?_ ?_
       rotate_left
       ·simp only [Act.put, zsA, zsZ, zsS, i64_w, i32_w]
        rfl
       refine pure_ (i := 11) (N := some 24) (v := undef) (a' := ?_) #[true, true, true, true, true, true, true, true, true, true, true, true, false, false, false, false, false, false, false] rfl rfl (any_of HT_.out (by kernel_rfl)) (fun _ _ _ h => h) (Or.inr ⟨by rfl, rfl⟩) ?_ ?_
       rotate_left
       ·simp only [Act.put, zsA, zsZ, zsS, i64_w, i32_w]
        rfl
       refine pure_ (i := 12) (N := some 25) (v := undef) (a' := ?_) #[true, true, true, true, true, true, true, true, true, true, true, true, true, false, false, false, false, false, false] rfl rfl (any_of HT_.out (by kernel_rfl)) (fun _ _ _ h => h) (Or.inr ⟨by rfl, rfl⟩) ?_ ?_
       rotate_left
       ·simp only [Act.put, zsA, zsZ, zsS, i64_w, i32_w]
        rfl
       refine pure_ (i := 13) (N := some 26) (v := undef) (a' := ?_) #[true, true, true, true, true, true, true, true, true, true, true, true, true, true, false, false, false, false, false] rfl rfl (any_of HT_.out (by kernel_rfl)) (fun _ _ _ h => h) (Or.inr ⟨by rfl, rfl⟩) ?_ ?_
       rotate_left
       ·simp only [Act.put, zsA, zsZ, zsS, i64_w, i32_w]
        rfl
       refine pure_ (i := 14) (N := some 27) (v := undef) (a' := ?_) #[true, true, true, true, true, true, true, true, true, true, true, true, true, true, true, false, false, false, false] rfl rfl (any_of HT_.out (by kernel_rfl)) (fun _ _ _ h => h) (Or.inr ⟨by rfl, rfl⟩) ?_ ?_
       rotate_left
       ·simp only [Act.put, zsA, zsZ, zsS, i64_w, i32_w]
        rfl
       refine pure_ (i := 15) (N := some 28) (v := undef) (a' := ?_) #[true, true, true, true, true, true, true, true, true, true, true, true, true, true, true, true, false, false, false] rfl rfl (any_of HT_.out (by kernel_rfl)) (fun _ _ _ h => h) (Or.inr ⟨by rfl, rfl⟩) ?_ ?_
       rotate_left
       ·simp only [Act.put, zsA, zsZ, zsS, i64_w, i32_w]
        rfl
       refine pure_ (i := 16) (N := some 29) (v := undef) (a' := ?_) #[true, true, true, true, true, true, true, true, true, true, true, true, true, true, true, true, true, false, false] rfl rfl (any_of HT_.out (by kernel_rfl)) (fun _ _ _ h => h) (Or.inr ⟨by rfl, rfl⟩) ?_ ?_
       rotate_left
       ·simp only [Act.put, zsA, zsZ, zsS, i64_w, i32_w]
        rfl
       refine pure_ (i := 17) (N := some 30) (v := undef) (a' := ?_) #[true, true, true, true, true, true, true, true, true, true, true, true, true, true, true, true, true, true, false] rfl rfl (any_of HT_.out (by kernel_rfl)) (fun _ _ _ h => h) (Or.inr ⟨by rfl, rfl⟩) ?_ ?_
       rotate_left
       ·simp only [Act.put, zsA, zsZ, zsS, i64_w, i32_w]
        rfl
       refine pure_ (i := 18) (N := some 31) (v := ?_) (a' := ?_) #[true, true, true, true, true, true, true, true, true, true, true, true, true, true, true, true, true, true, true] rfl rfl (any_of HT_.out (by kernel_rfl)) (fun _ _ _ h => h) (Or.inl ⟨by rfl, ?_⟩) ?_ ?_
       rotate_left
       ·intro w'
        go_simp
        with_reducible rfl
       rotate_left
       ·simp only [Act.put, zsA, zsZ, zsS, i64_w, i32_w]
        rfl
       refine done_ (done_of HT_.out (by kernel_rfl)) ?_
       try go_wp2
       go_ret
       exact ⟨by first | rfl | (simp [errW_none, errW_some] <;> rfl) | (simp [*, errW_none, errW_some] <;> rfl), Zh2 HB.out GE102.out GE104.out⟩
     ·rw [if_neg c6] at H
      exact absurd H (by simp)
    ·rw [if_neg c5] at H
     exact absurd H (by simp)
   ·rw [if_neg c4] at H
    have c4b0 : decide (x8_1 < (l0_0.length : Int)) = false := decide_eq_false c4
    clear c4
    obtain rfl := Option.some.inj H
    have hcz38_0 := Zcl BK102.out 0 rfl
    have hfz38_0 := blk_frozen BK102.out 0
    go_wp2
    go_ret
    exact ⟨by first | rfl | (simp [errW_none, errW_some] <;> rfl) | (simp [*, errW_none, errW_some] <;> rfl), Zh1 HB.out GE102.out⟩

end Go.Proofs.Ytpifepaflljolaa.PMem
