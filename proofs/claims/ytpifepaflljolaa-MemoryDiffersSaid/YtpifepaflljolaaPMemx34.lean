-- By wip/xprint.py (a driver of this session's over the kit's print), for this claim.
import Derived.Test.YtpifepaflljolaaPMemx0
import Derived.Test.YtpifepaflljolaaPMemx2
import Derived.Test.YtpifepaflljolaaPMemx9
import Derived.Test.YtpifepaflljolaaPMemx11
import Derived.Test.YtpifepaflljolaaPMemx14
import Derived.Test.YtpifepaflljolaaPMemx19
import Derived.Test.YtpifepaflljolaaPMemx30
import Derived.Test.YtpifepaflljolaaPMemx31
import Derived.Test.YtpifepaflljolaaPMemx33
namespace Go.Proofs.Ytpifepaflljolaa.PMem
open Go.RowKit Go.Proofs.YtpifepaflljolaaW.PrintWords Go.Proofs.YtpifepaflljolaaW.PrintLast Go.Proofs.YtpifepaflljolaaW.PrintMore
attribute [local go_sem] max2_int min2_int max_two min_two max_three min_three max_four min_four   -- for this text's walks alone
set_option linter.unusedVariables false
set_option linter.unusedSimpArgs false

/-! ### debuggerlaw25_MemoryDiffers: function 9 -/
def debuggerlaw25_MemoryDiffers.j0 : Nat → Int → Int → Bool → List (S31) → Option (Bool)
 | 0, _, _, _, _ => none
 | k + 1, x2, x3, x37, x461000 => if x37 = true then (some false) else ((debuggerkit_Mod.f x2 12).bind fun t469 => (if 64 ≤ 35184372088832 then ((some (List.replicate 64 0 : List Int)).bind fun y470 => (if 3 < (y470.length : Int) then ((memory_Add.f k x461000 (wrap64 (t469 * 64)) (y470.set (3 : Int).toNat x3)).bind fun bt475 => ((memory_Without.f k bt475.1 (wrap64 (t469 * 64))).bind fun t480 => ((memory_Changed.f k bt475.1 t480).bind fun t484 => ((memory_Without.f k x461000 (wrap64 (t469 * 64))).bind fun t487 => ((memory_Changed.f k t487 t480).bind fun t490 => (if bt475.2 = 0 then (if (t484.length : Int) = 1 then (if 0 < (t484.length : Int) then (if (rd t484 0) = (wrap64 (t469 * 64)) then (if (t490.length : Int) = 0 then ((memory_Right.f k bt475.1).bind fun t494 => (if t494 = true then ((memory_Right.f k t480).bind fun t495 => (if t495 = true then ((debuggerlaw25_awake.f k).bind fun t496 => (some t496)) else (some false))) else (some false))) else (some false)) else (some false)) else (none)) else (some false)) else (some false))))))) else (none))) else (none)))
def debuggerlaw25_MemoryDiffers.f (k : Nat) (l0 : List Int) (l1 : List Int) (a2 : Int) (a3 : Int) : Option (Bool) := (debuggerlaw25_some.f k l0).bind fun t454 => ((debuggerlaw25_some.f k l1).bind fun t457 => ((memory_Changed.f k t454 t457).bind fun t462 => ((debuggerref25_Same.f k t454 t457).bind fun t465 => (if (((t462.length : Int) == 0) != t465) = true then (debuggerlaw25_MemoryDiffers.j0 k a2 a3 true t454) else ((memory_Changed.f k t454 t454).bind fun t466 => (debuggerlaw25_MemoryDiffers.j0 k a2 a3 ((t466.length : Int) != 0) t454))))))
theorem debuggerlaw25_MemoryDiffers.mono_l : ∀ k, (∀ y0 y1 y2 y3, LeO (debuggerlaw25_MemoryDiffers.j0 k y0 y1 y2 y3) (debuggerlaw25_MemoryDiffers.j0 (k + 1) y0 y1 y2 y3))
 | 0 => fun _ _ _ _ r h => by simp [debuggerlaw25_MemoryDiffers.j0] at h
 | k + 1 => by
  have ih0 := debuggerlaw25_MemoryDiffers.mono_l k
  ·intro y0 y1 y2 y3
   unfold debuggerlaw25_MemoryDiffers.j0
   repeat' first
   | (with_reducible exact ih0 _ _ _ _)
   | (with_reducible exact debuggerlaw25_awake.mono _)
   | (with_reducible exact debuggerlaw25_some.mono _ _)
   | (with_reducible exact debuggerref25_Same.mono _ _ _)
   | (with_reducible exact memory_Add.mono _ _ _ _)
   | (with_reducible exact memory_Changed.mono _ _ _)
   | (with_reducible exact memory_Right.mono _ _)
   | (with_reducible exact memory_Without.mono _ _ _)
   | (with_reducible exact LeO.refl _)
   | (with_reducible exact LeO.none _)
   | (with_reducible refine LeO.ite ?_ ?_)
   | (with_reducible refine LeO.bind ?_ (fun _ => ?_))
   | exact ih0 _ _ _ _
   | exact debuggerlaw25_awake.mono _
   | exact debuggerlaw25_some.mono _ _
   | exact debuggerref25_Same.mono _ _ _
   | exact memory_Add.mono _ _ _ _
   | exact memory_Changed.mono _ _ _
   | exact memory_Right.mono _ _
   | exact memory_Without.mono _ _ _
   | exact LeO.none _
   | refine LeO.ite ?_ ?_
   | refine LeO.bind ?_ (fun _ => ?_)
theorem debuggerlaw25_MemoryDiffers.mono : ∀ a0 a1 a2 a3 k, LeO (debuggerlaw25_MemoryDiffers.f k a0 a1 a2 a3) (debuggerlaw25_MemoryDiffers.f (k + 1) a0 a1 a2 a3) := by
 intro a0 a1 a2 a3 k
 have ih0 := debuggerlaw25_MemoryDiffers.mono_l k
 unfold debuggerlaw25_MemoryDiffers.f
 repeat' first
   | (with_reducible exact ih0 _ _ _ _)
   | (with_reducible exact debuggerlaw25_awake.mono _)
   | (with_reducible exact debuggerlaw25_some.mono _ _)
   | (with_reducible exact debuggerref25_Same.mono _ _ _)
   | (with_reducible exact memory_Add.mono _ _ _ _)
   | (with_reducible exact memory_Changed.mono _ _ _)
   | (with_reducible exact memory_Right.mono _ _)
   | (with_reducible exact memory_Without.mono _ _ _)
   | (with_reducible exact LeO.refl _)
   | (with_reducible exact LeO.none _)
   | (with_reducible refine LeO.ite ?_ ?_)
   | (with_reducible refine LeO.bind ?_ (fun _ => ?_))
   | exact ih0 _ _ _ _
   | exact debuggerlaw25_awake.mono _
   | exact debuggerlaw25_some.mono _ _
   | exact debuggerref25_Same.mono _ _ _
   | exact memory_Add.mono _ _ _ _
   | exact memory_Changed.mono _ _ _
   | exact memory_Right.mono _ _
   | exact memory_Without.mono _ _ _
   | exact LeO.none _
   | refine LeO.ite ?_ ?_
   | refine LeO.bind ?_ (fun _ => ?_)
def debuggerlaw25_MemoryDiffers.T2 : Bool × List (List Nat × List Nat) := (true, [([], []), ([], []), ([0, 1], [0, 1]), ([2], [2]), ([3], [3]), ([], []), ([], []), ([5, 6, 2], [5, 6]), ([4, 7], [4, 7]), ([8, 7], [8]), ([9], [9]), ([9], [9]), ([10, 11, 9, 9], [9, 10, 11]), ([12, 9], [9, 12]), ([13, 9], [9, 13]), ([9, 14], [9, 14])])
def debuggerlaw25_MemoryDiffers.B2 : List Nat := [0, 0, 3, 7, 15, 0, 0, 103, 255, 511, 1023, 1023, 4095, 8191, 16383, 32767]
theorem debuggerlaw25_MemoryDiffers.tab2 : rtab .any (opsOf Try.f9 2) = debuggerlaw25_MemoryDiffers.T2 := by kernel_rfl
theorem debuggerlaw25_MemoryDiffers.bits2 : waitsOk debuggerlaw25_MemoryDiffers.T2.2 debuggerlaw25_MemoryDiffers.B2 = true := by kernel_rfl
set_option maxHeartbeats 8000000 in
set_option maxRecDepth 100000 in
theorem debuggerlaw25_MemoryDiffers.calls (k : Nat) (A0 : Option Addr) (c0 : Nat) (l0 : List Int) (A1 : Option Addr) (c1 : Nat) (l1 : List Int) (a2 : Int) (a3 : Int) (r : Bool) (w : World) (hr0 : Kd.C (Kd.int .i64) w A0 l0.length l0) (hc0 : l0.length ≤ c0) (hr1 : Kd.C (Kd.int .i64) w A1 l1.length l1) (hc1 : l1.length ≤ c1) (hT0 : r = true) (h : debuggerlaw25_MemoryDiffers.f k l0 l1 a2 a3 = some r) :
  Calls Try.prog 9 #[.slice A0 l0.length c0, .slice A1 l1.length c1, .int .i64 a2, .int .i64 a3] w fun e w' => e = .returned (.bool r) ∧ Below w.heap.size w w' := by
 have hu24 := Try.underlying24
 have hu31 := Try.underlying31
 have HT0 := Aside0.mk hT0
 clear hT0
 have HR0 := Aside0.mk hr0
 have HC0 := Aside0.mk hc0
 clear hr0 hc0
 have HR1 := Aside0.mk hr1
 have HC1 := Aside0.mk hc1
 clear hr1 hc1
 have HB := Aside0.mk (Below.refl w.heap.size w)
 have H : ((debuggerlaw25_some.f k l0).bind fun t454 => ((debuggerlaw25_some.f k l1).bind fun t457 => ((memory_Changed.f k t454 t457).bind fun t462 => ((debuggerref25_Same.f k t454 t457).bind fun t465 => (if (((t462.length : Int) == 0) != t465) = true then (debuggerlaw25_MemoryDiffers.j0 k a2 a3 true t454) else ((memory_Changed.f k t454 t454).bind fun t466 => (debuggerlaw25_MemoryDiffers.j0 k a2 a3 ((t466.length : Int) != 0) t454))))))) = some r := h
 clear h
 replace H := Option.bind_eq_some_iff.mp H
 obtain ⟨t454, A50, H⟩ := H
 replace H : ((debuggerlaw25_some.f k l1).bind fun t457 => ((memory_Changed.f k t454 t457).bind fun t462 => ((debuggerref25_Same.f k t454 t457).bind fun t465 => (if (((t462.length : Int) == 0) != t465) = true then (debuggerlaw25_MemoryDiffers.j0 k a2 a3 true t454) else ((memory_Changed.f k t454 t454).bind fun t466 => (debuggerlaw25_MemoryDiffers.j0 k a2 a3 ((t466.length : Int) != 0) t454)))))) = some r := H
 have A5 := Aside0.mk A50
 clear A50
 replace H := Option.bind_eq_some_iff.mp H
 obtain ⟨t457, A60, H⟩ := H
 replace H : ((memory_Changed.f k t454 t457).bind fun t462 => ((debuggerref25_Same.f k t454 t457).bind fun t465 => (if (((t462.length : Int) == 0) != t465) = true then (debuggerlaw25_MemoryDiffers.j0 k a2 a3 true t454) else ((memory_Changed.f k t454 t454).bind fun t466 => (debuggerlaw25_MemoryDiffers.j0 k a2 a3 ((t466.length : Int) != 0) t454))))) = some r := H
 have A6 := Aside0.mk A60
 clear A60
 have HC7 := Aside0.mk H
 clear H
 go_enter Try.func9, Try.ntmps9
 go_upto_region 2 with (first | ((with_reducible refine gate_callee (f := 12) rfl ?_); refine goesL_ (some 19) rfl rfl Try.func12 (by kernel_rfl) rfl #[.slice A0 l0.length c0] rfl Zm ?_; (with_reducible refine (debuggerlaw25_some.calls k _ _ l0 t454 _ ?side1 ?side2 A5.out).mono ?_); (case side1 => exact Zc HR0.out); (case side2 => exact HC0.out); rintro e w8 ⟨v455, rfl, ho0, hb⟩; refine ⟨_, rfl, ?_⟩; have n0_ := Aside0.mk (Kd.N_lower (Kd.N_mono (ok' := fun k_ => True) ho0 (fun k_ hk_ => trivial)) (below_size (Zh HB.out))); have n1_ := Aside0.mk (below_step (Zh HB.out) hb); clear HB; have HO456 := n0_; have HB := n1_; clear n0_ n1_; (try clear hb); (try clear hb2); (try clear hk); (try clear hi); (try clear ho0)) | ((with_reducible refine gate_callee (f := 12) rfl ?_); refine goesL_ (some 21) rfl rfl Try.func12 (by kernel_rfl) rfl #[.slice A1 l1.length c1] rfl Zm ?_; (with_reducible refine (debuggerlaw25_some.calls k _ _ l1 t457 _ ?side1 ?side2 A6.out).mono ?_); (case side1 => exact Zc (Kd.C_below HR1.out HB.out)); (case side2 => exact HC1.out); rintro e w9 ⟨v458, rfl, ho0, hb⟩; refine ⟨_, rfl, ?_⟩; have n0_ := Aside0.mk (Kd.N_elder' (ZN HO456.out) (by first | exact Kd.N_base ho0 | exact Kd.S_base ho0 | exact Kd.R_base ho0 | exact Kd.N_base ho0) hb); have n1_ := Aside0.mk (Kd.N_lower (Kd.N_mono (ok' := fun k_ => some k_ ≠ (v455 : Value).ownBlock) ho0 (fun k_ hk_ => (Kd.fresh' (Kd.N_lt (ZN HO456.out)) k_ hk_))) (below_size (Zh HB.out))); have n2_ := Aside0.mk (below_step (Zh HB.out) hb); clear HO456; clear HB; have HO456 := n0_; have HO459 := n1_; have HB := n2_; clear n0_ n1_ n2_; (try clear hb); (try clear hb2); (try clear hk); (try clear hi); (try clear ho0)) | ((with_reducible refine gate_dst (N := 9) rfl ?_); (try (refine gate_guard (by rfl) ?_; dsimp only)); refine box_event ?hg (N := 9) ?hd (cs := #[.slice none 0 0]) (t := 24) ?hr ?_; (case hd => rfl); (case hg => rfl); (case hr => first | (go_simp; done) | (go_simp; rfl)); intro gb460 hg w10 hbox hb; have n0_ := Aside0.mk (Kd.N_below (Kd.N_elderB (ZN HO456.out) gb460 (Nat.le_of_eq hg.symm)) hb); have n1_ := Aside0.mk (Kd.N_below (Kd.N_elderB (ZN HO459.out) gb460 (Nat.le_of_eq hg.symm)) hb); have n2_ := Aside0.mk (below_step (Zh HB.out) hb); have n3_ := Aside0.mk (hbox); have n4_ := Aside0.mk ((by rw [hg]; exact (below_size (Zh HB.out)) : w.heap.size ≤ gb460)); have n5_ := Aside0.mk ((by rw [hg]; exact (below_size (Zh HB.out)) : w.heap.size ≤ gb460)); clear HO456; clear HO459; clear HB; have HO456 := n0_; have HO459 := n1_; have HB := n2_; have BK460 := n3_; have GW460 := n4_; have GE460 := n5_; clear n0_ n1_ n2_ n3_ n4_ n5_; clear hb hbox hg) | ((with_reducible refine gate_dst (N := 10) rfl ?_); (try (refine gate_guard (by rfl) ?_; dsimp only)); refine box_event ?hg (N := 10) ?hd (cs := #[.slice none 0 0]) (t := 24) ?hr ?_; (case hd => rfl); (case hg => rfl); (case hr => first | (go_simp; done) | (go_simp; rfl)); intro gb461 hg w11 hbox hb; have n0_ := Aside0.mk (Kd.N_below (Kd.N_elderB (ZN HO456.out) gb461 (Nat.le_of_eq hg.symm)) hb); have n1_ := Aside0.mk (Kd.N_below (Kd.N_elderB (ZN HO459.out) gb461 (Nat.le_of_eq hg.symm)) hb); have n2_ := Aside0.mk (blk_below (g := gb460) (o := .cells #[.slice none 0 0] 24 (0, 0)) (Zb BK460.out) hb); have n3_ := Aside0.mk (below_step (Zh1 HB.out GE460.out) hb); have n4_ := Aside0.mk (hbox); have n5_ := Aside0.mk ((by rw [hg]; exact (below_size (Zh1 HB.out GE460.out)) : w.heap.size ≤ gb461)); have n6_ := Aside0.mk ((by rw [hg]; exact (below_size (Zh1 HB.out GE460.out)) : w.heap.size ≤ gb461)); have n7_ := Aside0.mk ((by rw [hg]; exact Nat.ne_of_lt (blk_lt (g := gb460) (o := .cells #[.slice none 0 0] 24 (0, 0)) (Zb BK460.out)) : gb460 ≠ gb461)); have n8_ := Aside0.mk ((by rw [hg]; exact Nat.ne_of_gt (blk_lt (g := gb460) (o := .cells #[.slice none 0 0] 24 (0, 0)) (Zb BK460.out)) : gb461 ≠ gb460)); clear HO456; clear HO459; clear BK460; clear HB; have HO456 := n0_; have HO459 := n1_; have BK460 := n2_; have HB := n3_; have BK461 := n4_; have GW461 := n5_; have GE461 := n6_; have NB460_461 := n7_; have NB461_460 := n8_; clear n0_ n1_ n2_ n3_ n4_ n5_ n6_ n7_ n8_; clear hb hbox hg; obtain ⟨Ao12, co12, eo12⟩ := Kd.N_slice HO456.out; subst eo12; have hnb13 := NB460_461.out; have hnc13 := NB461_460.out; have hcz14_0 : w11.cell? ⟨gb460, 0, none⟩ = some (.slice none 0 0) := (blk_cell BK460.out 0).trans rfl; have hfz14_0 := blk_frozen BK460.out 0; obtain ⟨Ao15, co15, eo15⟩ := Kd.N_slice HO459.out; subst eo15; have hcz16_0 : w11.cell? ⟨gb461, 0, none⟩ = some (.slice none 0 0) := (blk_cell BK461.out 0).trans rfl; have hfz16_0 := blk_frozen BK461.out 0))
 (try simp only [Act.put, List.setIfInBounds_toArray, List.set_cons_zero, List.set_cons_succ])
 go_cut [37] (fun v37 wc => ∃ (kq : Nat) (x37_6 : Bool), v37 = .bool x37_6 ∧ Aside0 (debuggerlaw25_MemoryDiffers.j0 kq a2 a3 x37_6 t454 = some r) ∧ Aside0 (kq ≤ k) ∧ Aside0 (Kd.N k31 31 wc w.heap.size (fun k_ => some k_ ≠ ((.slice Ao15 t457.length co15) : Value).ownBlock ∧ k_ ≠ gb460 ∧ k_ ≠ gb461) (.slice Ao12 t454.length co12) t454) ∧ Aside0 (Kd.N k31 31 wc w.heap.size (fun k_ => some k_ ≠ ((.slice Ao12 t454.length co12) : Value).ownBlock ∧ k_ ≠ gb460 ∧ k_ ≠ gb461) (.slice Ao15 t457.length co15) t457) ∧ Aside0 (wc.heap[gb460]? = some (.cells #[(.slice Ao12 t454.length co12)] 24 (0, 0))) ∧ Aside0 (wc.heap[gb461]? = some (.cells #[(.slice Ao15 t457.length co15)] 24 (0, 0))) ∧ Aside0 (Below w.heap.size w wc))
 case first =>
  have H := HC7.out
  clear HC7
  replace H := Option.bind_eq_some_iff.mp H
  obtain ⟨t462, A170, H⟩ := H
  replace H : ((debuggerref25_Same.f k t454 t457).bind fun t465 => (if (((t462.length : Int) == 0) != t465) = true then (debuggerlaw25_MemoryDiffers.j0 k a2 a3 true t454) else ((memory_Changed.f k t454 t454).bind fun t466 => (debuggerlaw25_MemoryDiffers.j0 k a2 a3 ((t466.length : Int) != 0) t454)))) = some r := H
  have A17 := Aside0.mk A170
  clear A170
  replace H := Option.bind_eq_some_iff.mp H
  obtain ⟨t465, A180, H⟩ := H
  replace H : (if (((t462.length : Int) == 0) != t465) = true then (debuggerlaw25_MemoryDiffers.j0 k a2 a3 true t454) else ((memory_Changed.f k t454 t454).bind fun t466 => (debuggerlaw25_MemoryDiffers.j0 k a2 a3 ((t466.length : Int) != 0) t454))) = some r := H
  have A18 := Aside0.mk A180
  clear A180
  by_cases c19 : (((t462.length : Int) == 0) != t465) = true
  ·rw [if_pos c19] at H
   have c19b0 : (((t462.length : Int) == 0) != t465) = true := c19
   (try (have c19b1 : decide (((t462.length : Int) == 0) = t465) = false := by simpa using c19))
   (try (have c19b2 : (((t462.length : Int) == 0) == t465) = false := by simpa using c19))
   (try (have c19b3 : ¬ (((t462.length : Int) == 0) = t465) := by simpa using c19))
   clear c19
   (first | rw [c19b0] | (simp only [i64_w, i32_w]; rw [c19b0]) | skip)
   have H' := Aside0.mk H
   clear H
   try go_wp2
   have n0_ : Aside0 (Kd.N k31 31 ((w11.setCell ⟨gb460, 0, none⟩ (.slice Ao12 t454.length co12)).setCell ⟨gb461, 0, none⟩ (.slice Ao15 t457.length co15)) w.heap.size (fun k_ => some k_ ≠ (.slice Ao15 t457.length co15 : Value).ownBlock ∧ k_ ≠ gb460 ∧ k_ ≠ gb461) (.slice Ao12 t454.length co12) t454) := ⟨by (with_reducible repeat (first | apply Kd.N_alloc | apply Kd.N_drewN | apply Kd.N_drew)); exact Kd.N_mono (Kd.N_far (p := ⟨gb461, 0, none⟩) (Kd.N_far (p := ⟨gb460, 0, none⟩) (Kd.N_mono (Kd.N_mono HO456.out (fun k_ hk => (⟨hk, hk.1.2⟩ : _ ∧ k_ ≠ gb460))) (fun k_ hk => (⟨hk, hk.1.2⟩ : _ ∧ k_ ≠ gb461))) (fun _ hk => hk.1.2) (.slice Ao12 t454.length co12)) (fun _ hk => hk.2) (.slice Ao15 t457.length co15)) (fun _ hk => ⟨hk.1.1.1.1.2, ⟨hk.1.1.1.2, hk.1.1.2⟩⟩)⟩
   have n1_ : Aside0 (Kd.N k31 31 ((w11.setCell ⟨gb460, 0, none⟩ (.slice Ao12 t454.length co12)).setCell ⟨gb461, 0, none⟩ (.slice Ao15 t457.length co15)) w.heap.size (fun k_ => some k_ ≠ (.slice Ao12 t454.length co12 : Value).ownBlock ∧ k_ ≠ gb460 ∧ k_ ≠ gb461) (.slice Ao15 t457.length co15) t457) := ⟨by (with_reducible repeat (first | apply Kd.N_alloc | apply Kd.N_drewN | apply Kd.N_drew)); exact Kd.N_mono (Kd.N_far (p := ⟨gb461, 0, none⟩) (Kd.N_far (p := ⟨gb460, 0, none⟩) (Kd.N_mono (Kd.N_mono HO459.out (fun k_ hk => (⟨hk, hk.1.2⟩ : _ ∧ k_ ≠ gb460))) (fun k_ hk => (⟨hk, hk.1.2⟩ : _ ∧ k_ ≠ gb461))) (fun _ hk => hk.1.2) (.slice Ao12 t454.length co12)) (fun _ hk => hk.2) (.slice Ao15 t457.length co15)) (fun _ hk => ⟨hk.1.1.1.1, ⟨hk.1.1.1.2, hk.1.1.2⟩⟩)⟩
   have n2_ : Aside0 (((w11.setCell ⟨gb460, 0, none⟩ (.slice Ao12 t454.length co12)).setCell ⟨gb461, 0, none⟩ (.slice Ao15 t457.length co15)).heap[gb460]? = some (.cells #[.slice Ao12 t454.length co12] 24 (0, 0))) := ⟨by (with_reducible repeat (first | refine blk_drewN ?_ _ | refine blk_drew ?_ | refine blk_alloc ?_ _)); refine blk_far ?_ NB460_461.out _; (with_reducible repeat (first | refine blk_drewN ?_ _ | refine blk_drew ?_ | refine blk_alloc ?_ _)); refine blk_put (cs := #[.slice none 0 0]) ?_ 0 _ rfl; (with_reducible repeat (first | refine blk_drewN ?_ _ | refine blk_drew ?_ | refine blk_alloc ?_ _)); exact BK460.out⟩
   have n3_ : Aside0 (((w11.setCell ⟨gb460, 0, none⟩ (.slice Ao12 t454.length co12)).setCell ⟨gb461, 0, none⟩ (.slice Ao15 t457.length co15)).heap[gb461]? = some (.cells #[.slice Ao15 t457.length co15] 24 (0, 0))) := ⟨by (with_reducible repeat (first | refine blk_drewN ?_ _ | refine blk_drew ?_ | refine blk_alloc ?_ _)); refine blk_put (cs := #[.slice none 0 0]) ?_ 0 _ rfl; (with_reducible repeat (first | refine blk_drewN ?_ _ | refine blk_drew ?_ | refine blk_alloc ?_ _)); refine blk_far ?_ NB461_460.out _; (with_reducible repeat (first | refine blk_drewN ?_ _ | refine blk_drew ?_ | refine blk_alloc ?_ _)); exact BK461.out⟩
   have n4_ : Aside0 (Below w.heap.size w ((w11.setCell ⟨gb460, 0, none⟩ (.slice Ao12 t454.length co12)).setCell ⟨gb461, 0, none⟩ (.slice Ao15 t457.length co15))) := ⟨Zh2 HB.out GE460.out GE461.out⟩
   (try clear HO456)
   (try clear HO459)
   (try clear BK460)
   (try clear BK461)
   (try clear HB)
   generalize ((w11.setCell ⟨gb460, 0, none⟩ (.slice Ao12 t454.length co12)).setCell ⟨gb461, 0, none⟩ (.slice Ao15 t457.length co15)) = w20 at n0_ n1_ n2_ n3_ n4_ ⊢
   have HO456 := n0_
   have HO459 := n1_
   have BK460 := n2_
   have BK461 := n3_
   have HB := n4_
   clear n0_ n1_ n2_ n3_ n4_
   have n0_ := Aside0.mk (Kd.N_drew HO456.out)
   have n1_ := Aside0.mk (Kd.N_drew HO459.out)
   have n2_ := Aside0.mk (blk_drew BK460.out)
   have n3_ := Aside0.mk (blk_drew BK461.out)
   have n4_ := Aside0.mk (below_drew1 HB.out)
   clear HO456
   clear HO459
   clear BK460
   clear BK461
   clear HB
   have HO456 := n0_
   have HO459 := n1_
   have BK460 := n2_
   have BK461 := n3_
   have HB := n4_
   clear n0_ n1_ n2_ n3_ n4_
   refine start_ (n := 16) (S := fun w' => w'.cell? ⟨gb460, 0, none⟩ = some (.slice Ao12 t454.length co12) ∧ w'.cell? ⟨gb461, 0, none⟩ = some (.slice Ao15 t457.length co15)) (ds := []) #[false, false, false, false, false, false, false, false, false, false, false, false, false, false, false, false] (by kernel_rfl) rfl rfl ⟨(blk_cell BK460.out 0).trans rfl, (blk_cell BK461.out 0).trans rfl⟩ (fun hHeld => ?_); refine with_tabW debuggerlaw25_MemoryDiffers.tab2 debuggerlaw25_MemoryDiffers.bits2 (fun HT_ HW_ => ?_)
   generalize w20.drew = w21 at HO456 HO459 BK460 BK461 HB hHeld ⊢
   refine take_ (i := 0) (N := some 22) (v := ?_) (a' := ?_) #[true, false, false, false, false, false, false, false, false, false, false, false, false, false, false, false] rfl rfl (take_ofW HT_.out HW_.out (by kernel_rfl)) (fun _ _ _ h => h) (Or.inl ⟨by rfl, ?_⟩) hHeld ?_ ?_
   rotate_left
   ·rintro w' ⟨s0, s1⟩
    go_simp
    with_reducible rfl
   rotate_left
   ·simp only [Act.put, List.setIfInBounds_toArray, List.set_cons_zero, List.set_cons_succ, i64_w, i32_w]
    rfl
   refine take_ (i := 1) (N := some 23) (v := ?_) (a' := ?_) #[true, true, false, false, false, false, false, false, false, false, false, false, false, false, false, false] rfl rfl (take_ofW HT_.out HW_.out (by kernel_rfl)) (fun _ _ _ h => h) (Or.inl ⟨by rfl, ?_⟩) hHeld ?_ ?_
   rotate_left
   ·rintro w' ⟨s0, s1⟩
    go_simp
    with_reducible rfl
   rotate_left
   ·simp only [Act.put, List.setIfInBounds_toArray, List.set_cons_zero, List.set_cons_succ, i64_w, i32_w]
    rfl
   refine take_ (i := 5) (N := some 27) (v := ?_) (a' := ?_) #[true, true, false, false, false, true, false, false, false, false, false, false, false, false, false, false] rfl rfl (take_ofW HT_.out HW_.out (by kernel_rfl)) (fun _ _ _ h => h) (Or.inl ⟨by rfl, ?_⟩) hHeld ?_ ?_
   rotate_left
   ·rintro w' ⟨s0, s1⟩
    go_simp
    with_reducible rfl
   rotate_left
   ·simp only [Act.put, List.setIfInBounds_toArray, List.set_cons_zero, List.set_cons_succ, i64_w, i32_w]
    rfl
   refine take_ (i := 6) (N := some 28) (v := ?_) (a' := ?_) #[true, true, false, false, false, true, true, false, false, false, false, false, false, false, false, false] rfl rfl (take_ofW HT_.out HW_.out (by kernel_rfl)) (fun _ _ _ h => h) (Or.inl ⟨by rfl, ?_⟩) hHeld ?_ ?_
   rotate_left
   ·rintro w' ⟨s0, s1⟩
    go_simp
    with_reducible rfl
   rotate_left
   ·simp only [Act.put, List.setIfInBounds_toArray, List.set_cons_zero, List.set_cons_succ, i64_w, i32_w]
    rfl
   refine one_ (i := 2) (N := some 24) #[true, true, true, false, false, true, true, false, false, false, false, false, false, false, false, false] rfl rfl (one_of HT_.out (by kernel_rfl)) (by decide) (fun K hK => ?_)
   refine goes_ Try.func30 (by kernel_rfl) rfl #[.agg #[.slice Ao12 t454.length co12], .agg #[.slice Ao15 t457.length co15]] (by rfl) rfl rfl Zm ?_
   with_reducible refine (memory_Changed.calls k _ _ t454 _ _ t457 t462 _ ?side1 ?side2 ?side3 ?side4 A17.out).mono ?_
   (case side1 => exact Zc ((Kd.N_reads' HO456.out).2.2))
   (case side2 => exact (Kd.N_reads' HO456.out).2.1)
   (case side3 => exact Zc ((Kd.N_reads' HO459.out).2.2))
   (case side4 => exact (Kd.N_reads' HO459.out).2.1)
   rintro e w22 ⟨v463, rfl, ho0, hb⟩
   refine ⟨_, rfl, ?_⟩
   have n0_ := Aside0.mk (Kd.N_elder' (ZN HO456.out) (by first | exact Kd.R_base ho0 | exact Kd.S_base ho0 | exact Kd.R_base ho0 | exact Kd.N_base ho0) hb)
   have n1_ := Aside0.mk (Kd.N_elder' (ZN HO459.out) (by first | exact Kd.R_base ho0 | exact Kd.S_base ho0 | exact Kd.R_base ho0 | exact Kd.N_base ho0) hb)
   have n2_ := Aside0.mk (Kd.R_lower ho0 (below_size (Zh2 HB.out GE460.out GE461.out)))
   have n3_ := Aside0.mk (blk_below (g := gb460) (o := .cells #[.slice Ao12 t454.length co12] 24 (0, 0)) (Zb BK460.out) hb)
   have n4_ := Aside0.mk (blk_below (g := gb461) (o := .cells #[.slice Ao15 t457.length co15] 24 (0, 0)) (Zb BK461.out) hb)
   have n5_ := Aside0.mk (below_step (Zh2 HB.out GE460.out GE461.out) hb)
   clear HO456
   clear HO459
   clear BK460
   clear BK461
   clear HB
   have HO456 := n0_
   have HO459 := n1_
   have HO464 := n2_
   have BK460 := n3_
   have BK461 := n4_
   have HB := n5_
   clear n0_ n1_ n2_ n3_ n4_ n5_
   (try clear hb)
   (try clear hb2)
   (try clear hk)
   (try clear hi)
   (try clear ho0)
   obtain ⟨Ao23, co23, eo23⟩ := Kd.R_slice HO464.out
   (first | subst eo23 | (injection eo23 with f1_ f2_ f3_; have f4_ := f1_.symm; have f5_ := f3_.symm; clear f1_ f2_ f3_; subst f4_; subst f5_))
   refine hK.out _ _ ⟨(blk_cell BK460.out 0).trans rfl, (blk_cell BK461.out 0).trans rfl⟩ (fun hHeld => ?_)
   clear hK K
   refine norm_ (a' := ?_) ?_ ?_
   rotate_left
   ·show Act.put _ (some 24) _ = _
    simp only [Act.put, List.setIfInBounds_toArray, List.set_cons_zero, List.set_cons_succ, i64_w, i32_w]
    rfl
   refine pure_ (i := 3) (N := some 25) (v := ?_) (a' := ?_) #[true, true, true, true, false, true, true, false, false, false, false, false, false, false, false, false] rfl rfl (any_of HT_.out (by kernel_rfl)) (fun _ _ _ h => h) (Or.inl ⟨by rfl, ?_⟩) ?_ ?_
   rotate_left
   ·intro w'
    go_simp
    with_reducible rfl
   rotate_left
   ·simp only [Act.put, List.setIfInBounds_toArray, List.set_cons_zero, List.set_cons_succ, i64_w, i32_w]
    rfl
   refine pure_ (i := 4) (N := some 26) (v := ?_) (a' := ?_) #[true, true, true, true, true, true, true, false, false, false, false, false, false, false, false, false] rfl rfl (any_of HT_.out (by kernel_rfl)) (fun _ _ _ h => h) (Or.inl ⟨by rfl, ?_⟩) ?_ ?_
   rotate_left
   ·intro w'
    go_simp
    with_reducible rfl
   rotate_left
   ·simp only [Act.put, List.setIfInBounds_toArray, List.set_cons_zero, List.set_cons_succ, i64_w, i32_w]
    rfl
   refine one_ (i := 7) (N := some 29) #[true, true, true, true, true, true, true, true, false, false, false, false, false, false, false, false] rfl rfl (one_of HT_.out (by kernel_rfl)) (by decide) (fun K hK => ?_)
   refine goes_ Try.func16 (by kernel_rfl) rfl #[.agg #[.slice Ao12 t454.length co12], .agg #[.slice Ao15 t457.length co15]] (by rfl) rfl rfl Zm ?_
   with_reducible refine (debuggerref25_Same.calls k _ _ t454 _ _ t457 t465 _ ?side1 ?side2 ?side3 ?side4 A18.out).mono ?_
   (case side1 => exact Zc ((Kd.N_reads' HO456.out).2.2))
   (case side2 => exact (Kd.N_reads' HO456.out).2.1)
   (case side3 => exact Zc ((Kd.N_reads' HO459.out).2.2))
   (case side4 => exact (Kd.N_reads' HO459.out).2.1)
   rintro e w24 ⟨rfl, hb⟩
   refine ⟨_, rfl, ?_⟩
   have n0_ := Aside0.mk (Kd.N_below (ZN HO456.out) hb)
   have n1_ := Aside0.mk (Kd.N_below (ZN HO459.out) hb)
   have n2_ := Aside0.mk (Kd.R_below (ZR HO464.out) hb)
   have n3_ := Aside0.mk (blk_below (g := gb460) (o := .cells #[.slice Ao12 t454.length co12] 24 (0, 0)) (Zb BK460.out) hb)
   have n4_ := Aside0.mk (blk_below (g := gb461) (o := .cells #[.slice Ao15 t457.length co15] 24 (0, 0)) (Zb BK461.out) hb)
   have n5_ := Aside0.mk (below_step (Zh2 HB.out GE460.out GE461.out) hb)
   clear HO456
   clear HO459
   clear HO464
   clear BK460
   clear BK461
   clear HB
   have HO456 := n0_
   have HO459 := n1_
   have HO464 := n2_
   have BK460 := n3_
   have BK461 := n4_
   have HB := n5_
   clear n0_ n1_ n2_ n3_ n4_ n5_
   (try clear hb)
   (try clear hb2)
   (try clear hk)
   (try clear hi)
   refine hK.out _ _ ⟨(blk_cell BK460.out 0).trans rfl, (blk_cell BK461.out 0).trans rfl⟩ (fun hHeld => ?_)
   clear hK K
   refine norm_ (a' := ?_) ?_ ?_
   rotate_left
   ·show Act.put _ (some 29) _ = _
    simp only [Act.put, List.setIfInBounds_toArray, List.set_cons_zero, List.set_cons_succ, i64_w, i32_w]
    rfl
   refine pure_ (i := 8) (N := some 30) (v := ?_) (a' := ?_) #[true, true, true, true, true, true, true, true, true, false, false, false, false, false, false, false] rfl rfl (any_of HT_.out (by kernel_rfl)) (fun _ _ _ h => h) (Or.inl ⟨by rfl, ?_⟩) ?_ ?_
   rotate_left
   ·intro w'
    go_simp
    with_reducible rfl
   rotate_left
   ·simp only [Act.put, List.setIfInBounds_toArray, List.set_cons_zero, List.set_cons_succ, i64_w, i32_w]
    rfl
   refine pure_ (i := 9) (N := some 31) (v := ?_) (a' := ?_) #[true, true, true, true, true, true, true, true, true, true, false, false, false, false, false, false] rfl rfl (any_of HT_.out (by kernel_rfl)) (fun _ _ _ h => h) (Or.inl ⟨by rfl, ?_⟩) ?_ ?_
   rotate_left
   ·intro w'
    go_simp
    with_reducible rfl
   rotate_left
   ·simp only [Act.put, List.setIfInBounds_toArray, List.set_cons_zero, List.set_cons_succ, i64_w, i32_w]
    rfl
   refine pure_ (i := 10) (N := some 32) (v := undef) (a' := ?_) #[true, true, true, true, true, true, true, true, true, true, true, false, false, false, false, false] rfl rfl (any_of HT_.out (by kernel_rfl)) (fun _ _ _ h => h) (Or.inr ⟨by rfl, rfl⟩) ?_ ?_
   rotate_left
   ·simp only [Act.put, List.setIfInBounds_toArray, List.set_cons_zero, List.set_cons_succ, i64_w, i32_w]
    rfl
   refine pure_ (i := 11) (N := some 33) (v := undef) (a' := ?_) #[true, true, true, true, true, true, true, true, true, true, true, true, false, false, false, false] rfl rfl (any_of HT_.out (by kernel_rfl)) (fun _ _ _ h => h) (Or.inr ⟨by rfl, rfl⟩) ?_ ?_
   rotate_left
   ·simp only [Act.put, List.setIfInBounds_toArray, List.set_cons_zero, List.set_cons_succ, i64_w, i32_w]
    rfl
   refine pure_ (i := 12) (N := some 34) (v := undef) (a' := ?_) #[true, true, true, true, true, true, true, true, true, true, true, true, true, false, false, false] rfl rfl (any_of HT_.out (by kernel_rfl)) (fun _ _ _ h => h) (Or.inr ⟨by rfl, rfl⟩) ?_ ?_
   rotate_left
   ·simp only [Act.put, List.setIfInBounds_toArray, List.set_cons_zero, List.set_cons_succ, i64_w, i32_w]
    rfl
   refine pure_ (i := 13) (N := some 35) (v := undef) (a' := ?_) #[true, true, true, true, true, true, true, true, true, true, true, true, true, true, false, false] rfl rfl (any_of HT_.out (by kernel_rfl)) (fun _ _ _ h => h) (Or.inr ⟨by rfl, rfl⟩) ?_ ?_
   rotate_left
   ·simp only [Act.put, List.setIfInBounds_toArray, List.set_cons_zero, List.set_cons_succ, i64_w, i32_w]
    rfl
   refine pure_ (i := 14) (N := some 36) (v := undef) (a' := ?_) #[true, true, true, true, true, true, true, true, true, true, true, true, true, true, true, false] rfl rfl (any_of HT_.out (by kernel_rfl)) (fun _ _ _ h => h) (Or.inr ⟨by rfl, rfl⟩) ?_ ?_
   rotate_left
   ·simp only [Act.put, List.setIfInBounds_toArray, List.set_cons_zero, List.set_cons_succ, i64_w, i32_w]
    rfl
   refine pure_ (i := 15) (N := some 37) (v := ?_) (a' := ?_) #[true, true, true, true, true, true, true, true, true, true, true, true, true, true, true, true] rfl rfl (any_of HT_.out (by kernel_rfl)) (fun _ _ _ h => h) (Or.inl ⟨by rfl, ?_⟩) ?_ ?_
   rotate_left
   ·intro w'
    go_simp
    with_reducible rfl
   rotate_left
   ·simp only [Act.put, List.setIfInBounds_toArray, List.set_cons_zero, List.set_cons_succ, i64_w, i32_w]
    rfl
   refine done_ (done_of HT_.out (by kernel_rfl)) ?_
   try go_wp2
   go_meet
   case rel => exact ⟨_, (true), (by first | rfl | (simp; done) | (simp [*]; done)), H', ⟨by first | omega | exact Nat.le_refl _⟩, ⟨by (with_reducible repeat (first | apply Kd.N_alloc | apply Kd.N_drewN | apply Kd.N_drew)); exact Kd.N_mono HO456.out (fun _ hk => ⟨hk.1.1, ⟨hk.1.2.1, hk.1.2.2⟩⟩)⟩, ⟨by (with_reducible repeat (first | apply Kd.N_alloc | apply Kd.N_drewN | apply Kd.N_drew)); exact Kd.N_mono HO459.out (fun _ hk => ⟨hk.1.1, ⟨hk.1.2.1, hk.1.2.2⟩⟩)⟩, ⟨Zb BK460.out⟩, ⟨Zb BK461.out⟩, ⟨Zh2 HB.out GE460.out GE461.out⟩⟩
  ·rw [if_neg c19] at H
   have c19b0 : (((t462.length : Int) == 0) != t465) = false := by simpa using c19
   (try (have c19b1 : decide (((t462.length : Int) == 0) = t465) = true := by simpa using c19))
   (try (have c19b2 : (((t462.length : Int) == 0) == t465) = true := by simpa using c19))
   clear c19
   (first | rw [c19b0] | (simp only [i64_w, i32_w]; rw [c19b0]) | skip)
   replace H := Option.bind_eq_some_iff.mp H
   obtain ⟨t466, A250, H⟩ := H
   replace H : (debuggerlaw25_MemoryDiffers.j0 k a2 a3 ((t466.length : Int) != 0) t454) = some r := H
   have A25 := Aside0.mk A250
   clear A250
   have H' := Aside0.mk H
   clear H
   try go_wp2
   have n0_ : Aside0 (Kd.N k31 31 ((w11.setCell ⟨gb460, 0, none⟩ (.slice Ao12 t454.length co12)).setCell ⟨gb461, 0, none⟩ (.slice Ao15 t457.length co15)) w.heap.size (fun k_ => some k_ ≠ (.slice Ao15 t457.length co15 : Value).ownBlock ∧ k_ ≠ gb460 ∧ k_ ≠ gb461) (.slice Ao12 t454.length co12) t454) := ⟨by (with_reducible repeat (first | apply Kd.N_alloc | apply Kd.N_drewN | apply Kd.N_drew)); exact Kd.N_mono (Kd.N_far (p := ⟨gb461, 0, none⟩) (Kd.N_far (p := ⟨gb460, 0, none⟩) (Kd.N_mono (Kd.N_mono HO456.out (fun k_ hk => (⟨hk, hk.1.2⟩ : _ ∧ k_ ≠ gb460))) (fun k_ hk => (⟨hk, hk.1.2⟩ : _ ∧ k_ ≠ gb461))) (fun _ hk => hk.1.2) (.slice Ao12 t454.length co12)) (fun _ hk => hk.2) (.slice Ao15 t457.length co15)) (fun _ hk => ⟨hk.1.1.1.1.2, ⟨hk.1.1.1.2, hk.1.1.2⟩⟩)⟩
   have n1_ : Aside0 (Kd.N k31 31 ((w11.setCell ⟨gb460, 0, none⟩ (.slice Ao12 t454.length co12)).setCell ⟨gb461, 0, none⟩ (.slice Ao15 t457.length co15)) w.heap.size (fun k_ => some k_ ≠ (.slice Ao12 t454.length co12 : Value).ownBlock ∧ k_ ≠ gb460 ∧ k_ ≠ gb461) (.slice Ao15 t457.length co15) t457) := ⟨by (with_reducible repeat (first | apply Kd.N_alloc | apply Kd.N_drewN | apply Kd.N_drew)); exact Kd.N_mono (Kd.N_far (p := ⟨gb461, 0, none⟩) (Kd.N_far (p := ⟨gb460, 0, none⟩) (Kd.N_mono (Kd.N_mono HO459.out (fun k_ hk => (⟨hk, hk.1.2⟩ : _ ∧ k_ ≠ gb460))) (fun k_ hk => (⟨hk, hk.1.2⟩ : _ ∧ k_ ≠ gb461))) (fun _ hk => hk.1.2) (.slice Ao12 t454.length co12)) (fun _ hk => hk.2) (.slice Ao15 t457.length co15)) (fun _ hk => ⟨hk.1.1.1.1, ⟨hk.1.1.1.2, hk.1.1.2⟩⟩)⟩
   have n2_ : Aside0 (((w11.setCell ⟨gb460, 0, none⟩ (.slice Ao12 t454.length co12)).setCell ⟨gb461, 0, none⟩ (.slice Ao15 t457.length co15)).heap[gb460]? = some (.cells #[.slice Ao12 t454.length co12] 24 (0, 0))) := ⟨by (with_reducible repeat (first | refine blk_drewN ?_ _ | refine blk_drew ?_ | refine blk_alloc ?_ _)); refine blk_far ?_ NB460_461.out _; (with_reducible repeat (first | refine blk_drewN ?_ _ | refine blk_drew ?_ | refine blk_alloc ?_ _)); refine blk_put (cs := #[.slice none 0 0]) ?_ 0 _ rfl; (with_reducible repeat (first | refine blk_drewN ?_ _ | refine blk_drew ?_ | refine blk_alloc ?_ _)); exact BK460.out⟩
   have n3_ : Aside0 (((w11.setCell ⟨gb460, 0, none⟩ (.slice Ao12 t454.length co12)).setCell ⟨gb461, 0, none⟩ (.slice Ao15 t457.length co15)).heap[gb461]? = some (.cells #[.slice Ao15 t457.length co15] 24 (0, 0))) := ⟨by (with_reducible repeat (first | refine blk_drewN ?_ _ | refine blk_drew ?_ | refine blk_alloc ?_ _)); refine blk_put (cs := #[.slice none 0 0]) ?_ 0 _ rfl; (with_reducible repeat (first | refine blk_drewN ?_ _ | refine blk_drew ?_ | refine blk_alloc ?_ _)); refine blk_far ?_ NB461_460.out _; (with_reducible repeat (first | refine blk_drewN ?_ _ | refine blk_drew ?_ | refine blk_alloc ?_ _)); exact BK461.out⟩
   have n4_ : Aside0 (Below w.heap.size w ((w11.setCell ⟨gb460, 0, none⟩ (.slice Ao12 t454.length co12)).setCell ⟨gb461, 0, none⟩ (.slice Ao15 t457.length co15))) := ⟨Zh2 HB.out GE460.out GE461.out⟩
   (try clear HO456)
   (try clear HO459)
   (try clear BK460)
   (try clear BK461)
   (try clear HB)
   generalize ((w11.setCell ⟨gb460, 0, none⟩ (.slice Ao12 t454.length co12)).setCell ⟨gb461, 0, none⟩ (.slice Ao15 t457.length co15)) = w26 at n0_ n1_ n2_ n3_ n4_ ⊢
   have HO456 := n0_
   have HO459 := n1_
   have BK460 := n2_
   have BK461 := n3_
   have HB := n4_
   clear n0_ n1_ n2_ n3_ n4_
   have n0_ := Aside0.mk (Kd.N_drew HO456.out)
   have n1_ := Aside0.mk (Kd.N_drew HO459.out)
   have n2_ := Aside0.mk (blk_drew BK460.out)
   have n3_ := Aside0.mk (blk_drew BK461.out)
   have n4_ := Aside0.mk (below_drew1 HB.out)
   clear HO456
   clear HO459
   clear BK460
   clear BK461
   clear HB
   have HO456 := n0_
   have HO459 := n1_
   have BK460 := n2_
   have BK461 := n3_
   have HB := n4_
   clear n0_ n1_ n2_ n3_ n4_
   refine start_ (n := 16) (S := fun w' => w'.cell? ⟨gb460, 0, none⟩ = some (.slice Ao12 t454.length co12) ∧ w'.cell? ⟨gb461, 0, none⟩ = some (.slice Ao15 t457.length co15)) (ds := []) #[false, false, false, false, false, false, false, false, false, false, false, false, false, false, false, false] (by kernel_rfl) rfl rfl ⟨(blk_cell BK460.out 0).trans rfl, (blk_cell BK461.out 0).trans rfl⟩ (fun hHeld => ?_); refine with_tabW debuggerlaw25_MemoryDiffers.tab2 debuggerlaw25_MemoryDiffers.bits2 (fun HT_ HW_ => ?_)
   generalize w26.drew = w27 at HO456 HO459 BK460 BK461 HB hHeld ⊢
   refine take_ (i := 0) (N := some 22) (v := ?_) (a' := ?_) #[true, false, false, false, false, false, false, false, false, false, false, false, false, false, false, false] rfl rfl (take_ofW HT_.out HW_.out (by kernel_rfl)) (fun _ _ _ h => h) (Or.inl ⟨by rfl, ?_⟩) hHeld ?_ ?_
   rotate_left
   ·rintro w' ⟨s0, s1⟩
    go_simp
    with_reducible rfl
   rotate_left
   ·simp only [Act.put, List.setIfInBounds_toArray, List.set_cons_zero, List.set_cons_succ, i64_w, i32_w]
    rfl
   refine take_ (i := 1) (N := some 23) (v := ?_) (a' := ?_) #[true, true, false, false, false, false, false, false, false, false, false, false, false, false, false, false] rfl rfl (take_ofW HT_.out HW_.out (by kernel_rfl)) (fun _ _ _ h => h) (Or.inl ⟨by rfl, ?_⟩) hHeld ?_ ?_
   rotate_left
   ·rintro w' ⟨s0, s1⟩
    go_simp
    with_reducible rfl
   rotate_left
   ·simp only [Act.put, List.setIfInBounds_toArray, List.set_cons_zero, List.set_cons_succ, i64_w, i32_w]
    rfl
   refine take_ (i := 5) (N := some 27) (v := ?_) (a' := ?_) #[true, true, false, false, false, true, false, false, false, false, false, false, false, false, false, false] rfl rfl (take_ofW HT_.out HW_.out (by kernel_rfl)) (fun _ _ _ h => h) (Or.inl ⟨by rfl, ?_⟩) hHeld ?_ ?_
   rotate_left
   ·rintro w' ⟨s0, s1⟩
    go_simp
    with_reducible rfl
   rotate_left
   ·simp only [Act.put, List.setIfInBounds_toArray, List.set_cons_zero, List.set_cons_succ, i64_w, i32_w]
    rfl
   refine take_ (i := 6) (N := some 28) (v := ?_) (a' := ?_) #[true, true, false, false, false, true, true, false, false, false, false, false, false, false, false, false] rfl rfl (take_ofW HT_.out HW_.out (by kernel_rfl)) (fun _ _ _ h => h) (Or.inl ⟨by rfl, ?_⟩) hHeld ?_ ?_
   rotate_left
   ·rintro w' ⟨s0, s1⟩
    go_simp
    with_reducible rfl
   rotate_left
   ·simp only [Act.put, List.setIfInBounds_toArray, List.set_cons_zero, List.set_cons_succ, i64_w, i32_w]
    rfl
   refine one_ (i := 2) (N := some 24) #[true, true, true, false, false, true, true, false, false, false, false, false, false, false, false, false] rfl rfl (one_of HT_.out (by kernel_rfl)) (by decide) (fun K hK => ?_)
   refine goes_ Try.func30 (by kernel_rfl) rfl #[.agg #[.slice Ao12 t454.length co12], .agg #[.slice Ao15 t457.length co15]] (by rfl) rfl rfl Zm ?_
   with_reducible refine (memory_Changed.calls k _ _ t454 _ _ t457 t462 _ ?side1 ?side2 ?side3 ?side4 A17.out).mono ?_
   (case side1 => exact Zc ((Kd.N_reads' HO456.out).2.2))
   (case side2 => exact (Kd.N_reads' HO456.out).2.1)
   (case side3 => exact Zc ((Kd.N_reads' HO459.out).2.2))
   (case side4 => exact (Kd.N_reads' HO459.out).2.1)
   rintro e w28 ⟨v463, rfl, ho0, hb⟩
   refine ⟨_, rfl, ?_⟩
   have n0_ := Aside0.mk (Kd.N_elder' (ZN HO456.out) (by first | exact Kd.R_base ho0 | exact Kd.S_base ho0 | exact Kd.R_base ho0 | exact Kd.N_base ho0) hb)
   have n1_ := Aside0.mk (Kd.N_elder' (ZN HO459.out) (by first | exact Kd.R_base ho0 | exact Kd.S_base ho0 | exact Kd.R_base ho0 | exact Kd.N_base ho0) hb)
   have n2_ := Aside0.mk (Kd.R_lower ho0 (below_size (Zh2 HB.out GE460.out GE461.out)))
   have n3_ := Aside0.mk (blk_below (g := gb460) (o := .cells #[.slice Ao12 t454.length co12] 24 (0, 0)) (Zb BK460.out) hb)
   have n4_ := Aside0.mk (blk_below (g := gb461) (o := .cells #[.slice Ao15 t457.length co15] 24 (0, 0)) (Zb BK461.out) hb)
   have n5_ := Aside0.mk (below_step (Zh2 HB.out GE460.out GE461.out) hb)
   clear HO456
   clear HO459
   clear BK460
   clear BK461
   clear HB
   have HO456 := n0_
   have HO459 := n1_
   have HO464 := n2_
   have BK460 := n3_
   have BK461 := n4_
   have HB := n5_
   clear n0_ n1_ n2_ n3_ n4_ n5_
   (try clear hb)
   (try clear hb2)
   (try clear hk)
   (try clear hi)
   (try clear ho0)
   obtain ⟨Ao29, co29, eo29⟩ := Kd.R_slice HO464.out
   (first | subst eo29 | (injection eo29 with f1_ f2_ f3_; have f4_ := f1_.symm; have f5_ := f3_.symm; clear f1_ f2_ f3_; subst f4_; subst f5_))
   refine hK.out _ _ ⟨(blk_cell BK460.out 0).trans rfl, (blk_cell BK461.out 0).trans rfl⟩ (fun hHeld => ?_)
   clear hK K
   refine norm_ (a' := ?_) ?_ ?_
   rotate_left
   ·show Act.put _ (some 24) _ = _
    simp only [Act.put, List.setIfInBounds_toArray, List.set_cons_zero, List.set_cons_succ, i64_w, i32_w]
    rfl
   refine pure_ (i := 3) (N := some 25) (v := ?_) (a' := ?_) #[true, true, true, true, false, true, true, false, false, false, false, false, false, false, false, false] rfl rfl (any_of HT_.out (by kernel_rfl)) (fun _ _ _ h => h) (Or.inl ⟨by rfl, ?_⟩) ?_ ?_
   rotate_left
   ·intro w'
    go_simp
    with_reducible rfl
   rotate_left
   ·simp only [Act.put, List.setIfInBounds_toArray, List.set_cons_zero, List.set_cons_succ, i64_w, i32_w]
    rfl
   refine pure_ (i := 4) (N := some 26) (v := ?_) (a' := ?_) #[true, true, true, true, true, true, true, false, false, false, false, false, false, false, false, false] rfl rfl (any_of HT_.out (by kernel_rfl)) (fun _ _ _ h => h) (Or.inl ⟨by rfl, ?_⟩) ?_ ?_
   rotate_left
   ·intro w'
    go_simp
    with_reducible rfl
   rotate_left
   ·simp only [Act.put, List.setIfInBounds_toArray, List.set_cons_zero, List.set_cons_succ, i64_w, i32_w]
    rfl
   refine one_ (i := 7) (N := some 29) #[true, true, true, true, true, true, true, true, false, false, false, false, false, false, false, false] rfl rfl (one_of HT_.out (by kernel_rfl)) (by decide) (fun K hK => ?_)
   refine goes_ Try.func16 (by kernel_rfl) rfl #[.agg #[.slice Ao12 t454.length co12], .agg #[.slice Ao15 t457.length co15]] (by rfl) rfl rfl Zm ?_
   with_reducible refine (debuggerref25_Same.calls k _ _ t454 _ _ t457 t465 _ ?side1 ?side2 ?side3 ?side4 A18.out).mono ?_
   (case side1 => exact Zc ((Kd.N_reads' HO456.out).2.2))
   (case side2 => exact (Kd.N_reads' HO456.out).2.1)
   (case side3 => exact Zc ((Kd.N_reads' HO459.out).2.2))
   (case side4 => exact (Kd.N_reads' HO459.out).2.1)
   rintro e w30 ⟨rfl, hb⟩
   refine ⟨_, rfl, ?_⟩
   have n0_ := Aside0.mk (Kd.N_below (ZN HO456.out) hb)
   have n1_ := Aside0.mk (Kd.N_below (ZN HO459.out) hb)
   have n2_ := Aside0.mk (Kd.R_below (ZR HO464.out) hb)
   have n3_ := Aside0.mk (blk_below (g := gb460) (o := .cells #[.slice Ao12 t454.length co12] 24 (0, 0)) (Zb BK460.out) hb)
   have n4_ := Aside0.mk (blk_below (g := gb461) (o := .cells #[.slice Ao15 t457.length co15] 24 (0, 0)) (Zb BK461.out) hb)
   have n5_ := Aside0.mk (below_step (Zh2 HB.out GE460.out GE461.out) hb)
   clear HO456
   clear HO459
   clear HO464
   clear BK460
   clear BK461
   clear HB
   have HO456 := n0_
   have HO459 := n1_
   have HO464 := n2_
   have BK460 := n3_
   have BK461 := n4_
   have HB := n5_
   clear n0_ n1_ n2_ n3_ n4_ n5_
   (try clear hb)
   (try clear hb2)
   (try clear hk)
   (try clear hi)
   refine hK.out _ _ ⟨(blk_cell BK460.out 0).trans rfl, (blk_cell BK461.out 0).trans rfl⟩ (fun hHeld => ?_)
   clear hK K
   refine norm_ (a' := ?_) ?_ ?_
   rotate_left
   ·show Act.put _ (some 29) _ = _
    simp only [Act.put, List.setIfInBounds_toArray, List.set_cons_zero, List.set_cons_succ, i64_w, i32_w]
    rfl
   refine pure_ (i := 8) (N := some 30) (v := ?_) (a' := ?_) #[true, true, true, true, true, true, true, true, true, false, false, false, false, false, false, false] rfl rfl (any_of HT_.out (by kernel_rfl)) (fun _ _ _ h => h) (Or.inl ⟨by rfl, ?_⟩) ?_ ?_
   rotate_left
   ·intro w'
    go_simp
    with_reducible rfl
   rotate_left
   ·simp only [Act.put, List.setIfInBounds_toArray, List.set_cons_zero, List.set_cons_succ, i64_w, i32_w]
    rfl
   refine pure_ (i := 9) (N := some 31) (v := ?_) (a' := ?_) #[true, true, true, true, true, true, true, true, true, true, false, false, false, false, false, false] rfl rfl (any_of HT_.out (by kernel_rfl)) (fun _ _ _ h => h) (Or.inl ⟨by rfl, ?_⟩) ?_ ?_
   rotate_left
   ·intro w'
    go_simp
    with_reducible rfl
   rotate_left
   ·simp only [Act.put, List.setIfInBounds_toArray, List.set_cons_zero, List.set_cons_succ, i64_w, i32_w]
    rfl
   refine take_ (i := 10) (N := some 32) (v := ?_) (a' := ?_) #[true, true, true, true, true, true, true, true, true, true, true, false, false, false, false, false] rfl rfl (take_ofW HT_.out HW_.out (by kernel_rfl)) (fun _ _ _ h => h) (Or.inl ⟨by rfl, ?_⟩) hHeld ?_ ?_
   rotate_left
   ·rintro w' ⟨s0, s1⟩
    go_simp
    with_reducible rfl
   rotate_left
   ·simp only [Act.put, List.setIfInBounds_toArray, List.set_cons_zero, List.set_cons_succ, i64_w, i32_w]
    rfl
   refine take_ (i := 11) (N := some 33) (v := ?_) (a' := ?_) #[true, true, true, true, true, true, true, true, true, true, true, true, false, false, false, false] rfl rfl (take_ofW HT_.out HW_.out (by kernel_rfl)) (fun _ _ _ h => h) (Or.inl ⟨by rfl, ?_⟩) hHeld ?_ ?_
   rotate_left
   ·rintro w' ⟨s0, s1⟩
    go_simp
    with_reducible rfl
   rotate_left
   ·simp only [Act.put, List.setIfInBounds_toArray, List.set_cons_zero, List.set_cons_succ, i64_w, i32_w]
    rfl
   refine one_ (i := 12) (N := some 34) #[true, true, true, true, true, true, true, true, true, true, true, true, true, false, false, false] rfl rfl (one_of HT_.out (by kernel_rfl)) (by decide) (fun K hK => ?_)
   refine goes_ Try.func30 (by kernel_rfl) rfl #[.agg #[.slice Ao12 t454.length co12], .agg #[.slice Ao12 t454.length co12]] (by rfl) rfl rfl Zm ?_
   with_reducible refine (memory_Changed.calls k _ _ t454 _ _ t454 t466 _ ?side1 ?side2 ?side3 ?side4 A25.out).mono ?_
   (case side1 => exact Zc ((Kd.N_reads' HO456.out).2.2))
   (case side2 => exact (Kd.N_reads' HO456.out).2.1)
   (case side3 => exact Zc ((Kd.N_reads' HO456.out).2.2))
   (case side4 => exact (Kd.N_reads' HO456.out).2.1)
   rintro e w31 ⟨v467, rfl, ho0, hb⟩
   refine ⟨_, rfl, ?_⟩
   have n0_ := Aside0.mk (Kd.N_elder' (ZN HO456.out) (by first | exact Kd.R_base ho0 | exact Kd.S_base ho0 | exact Kd.R_base ho0 | exact Kd.N_base ho0) hb)
   have n1_ := Aside0.mk (Kd.N_elder' (ZN HO459.out) (by first | exact Kd.R_base ho0 | exact Kd.S_base ho0 | exact Kd.R_base ho0 | exact Kd.N_base ho0) hb)
   have n2_ := Aside0.mk (Kd.R_elder' (ZR HO464.out) (by first | exact Kd.R_base ho0 | exact Kd.S_base ho0 | exact Kd.R_base ho0 | exact Kd.N_base ho0) hb)
   have n3_ := Aside0.mk (Kd.R_lower (Kd.R_new' ho0 (Kd.R_lt (ZR HO464.out))) (below_size (Zh2 HB.out GE460.out GE461.out)))
   have n4_ := Aside0.mk (blk_below (g := gb460) (o := .cells #[.slice Ao12 t454.length co12] 24 (0, 0)) (Zb BK460.out) hb)
   have n5_ := Aside0.mk (blk_below (g := gb461) (o := .cells #[.slice Ao15 t457.length co15] 24 (0, 0)) (Zb BK461.out) hb)
   have n6_ := Aside0.mk (below_step (Zh2 HB.out GE460.out GE461.out) hb)
   clear HO456
   clear HO459
   clear HO464
   clear BK460
   clear BK461
   clear HB
   have HO456 := n0_
   have HO459 := n1_
   have HO464 := n2_
   have HO468 := n3_
   have BK460 := n4_
   have BK461 := n5_
   have HB := n6_
   clear n0_ n1_ n2_ n3_ n4_ n5_ n6_
   (try clear hb)
   (try clear hb2)
   (try clear hk)
   (try clear hi)
   (try clear ho0)
   obtain ⟨Ao32, co32, eo32⟩ := Kd.R_slice HO468.out
   (first | subst eo32 | (injection eo32 with f1_ f2_ f3_; have f4_ := f1_.symm; have f5_ := f3_.symm; clear f1_ f2_ f3_; subst f4_; subst f5_))
   refine hK.out _ _ ⟨(blk_cell BK460.out 0).trans rfl, (blk_cell BK461.out 0).trans rfl⟩ (fun hHeld => ?_)
   clear hK K
   refine norm_ (a' := ?_) ?_ ?_
   rotate_left
   ·show Act.put _ (some 34) _ = _
    simp only [Act.put, List.setIfInBounds_toArray, List.set_cons_zero, List.set_cons_succ, i64_w, i32_w]
    rfl
   refine pure_ (i := 13) (N := some 35) (v := ?_) (a' := ?_) #[true, true, true, true, true, true, true, true, true, true, true, true, true, true, false, false] rfl rfl (any_of HT_.out (by kernel_rfl)) (fun _ _ _ h => h) (Or.inl ⟨by rfl, ?_⟩) ?_ ?_
   rotate_left
   ·intro w'
    go_simp
    with_reducible rfl
   rotate_left
   ·simp only [Act.put, List.setIfInBounds_toArray, List.set_cons_zero, List.set_cons_succ, i64_w, i32_w]
    rfl
   refine pure_ (i := 14) (N := some 36) (v := ?_) (a' := ?_) #[true, true, true, true, true, true, true, true, true, true, true, true, true, true, true, false] rfl rfl (any_of HT_.out (by kernel_rfl)) (fun _ _ _ h => h) (Or.inl ⟨by rfl, ?_⟩) ?_ ?_
   rotate_left
   ·intro w'
    go_simp
    with_reducible rfl
   rotate_left
   ·simp only [Act.put, List.setIfInBounds_toArray, List.set_cons_zero, List.set_cons_succ, i64_w, i32_w]
    rfl
   refine pure_ (i := 15) (N := some 37) (v := ?_) (a' := ?_) #[true, true, true, true, true, true, true, true, true, true, true, true, true, true, true, true] rfl rfl (any_of HT_.out (by kernel_rfl)) (fun _ _ _ h => h) (Or.inl ⟨by rfl, ?_⟩) ?_ ?_
   rotate_left
   ·intro w'
    go_simp
    with_reducible rfl
   rotate_left
   ·simp only [Act.put, List.setIfInBounds_toArray, List.set_cons_zero, List.set_cons_succ, i64_w, i32_w]
    rfl
   refine done_ (done_of HT_.out (by kernel_rfl)) ?_
   try go_wp2
   go_meet
   case rel => exact ⟨_, (((t466.length : Int) != 0)), (by first | rfl | (simp; done) | (simp [*]; done)), H', ⟨by first | omega | exact Nat.le_refl _⟩, ⟨by (with_reducible repeat (first | apply Kd.N_alloc | apply Kd.N_drewN | apply Kd.N_drew)); exact Kd.N_mono HO456.out (fun _ hk => ⟨hk.1.1.1, ⟨hk.1.1.2.1, hk.1.1.2.2⟩⟩)⟩, ⟨by (with_reducible repeat (first | apply Kd.N_alloc | apply Kd.N_drewN | apply Kd.N_drew)); exact Kd.N_mono HO459.out (fun _ hk => ⟨hk.1.1.1, ⟨hk.1.1.2.1, hk.1.1.2.2⟩⟩)⟩, ⟨Zb BK460.out⟩, ⟨Zb BK461.out⟩, ⟨Zh2 HB.out GE460.out GE461.out⟩⟩
 case rest =>
  clear HC7
  try clear c1
  try clear p2
  try clear c3
  try clear c9
  try clear c12
  try clear c13
  try clear c16
  try clear c19
  try clear c19b0
  try clear c19b1
  try clear c19b2
  try clear c30
  try clear hcz14_0
  try clear hcz16_0
  try clear hfz14_0
  try clear hfz16_0
  obtain ⟨kq, x37_6, rfl, HA, HJ6, HO_461000, HO_462000, BK460, BK461, HB⟩ := hcut
  cases kq with
  | zero => exact absurd HA.out (by simp [debuggerlaw25_MemoryDiffers.j0])
  | succ kj6 =>
   have H := HA.out
   clear HA
   simp only [debuggerlaw25_MemoryDiffers.j0] at H
   by_cases c33 : x37_6 = true
   ·subst c33
    have H1 : (some false) = some r := by rw [if_pos rfl] at H; exact H
    clear H
    have H := H1
    clear H1
    exact absurd (Option.some.inj (H.trans (congrArg some HT0.out))) (by simp)
   ·replace c33 := Bool.eq_false_iff.mpr c33
    subst c33
    have H1 : ((debuggerkit_Mod.f a2 12).bind fun t469 => (if 64 ≤ 35184372088832 then ((some (List.replicate 64 0 : List Int)).bind fun y470 => (if 3 < (y470.length : Int) then ((memory_Add.f kj6 t454 (wrap64 (t469 * 64)) (y470.set (3 : Int).toNat a3)).bind fun bt475 => ((memory_Without.f kj6 bt475.1 (wrap64 (t469 * 64))).bind fun t480 => ((memory_Changed.f kj6 bt475.1 t480).bind fun t484 => ((memory_Without.f kj6 t454 (wrap64 (t469 * 64))).bind fun t487 => ((memory_Changed.f kj6 t487 t480).bind fun t490 => (if bt475.2 = 0 then (if (t484.length : Int) = 1 then (if 0 < (t484.length : Int) then (if (rd t484 0) = (wrap64 (t469 * 64)) then (if (t490.length : Int) = 0 then ((memory_Right.f kj6 bt475.1).bind fun t494 => (if t494 = true then ((memory_Right.f kj6 t480).bind fun t495 => (if t495 = true then ((debuggerlaw25_awake.f kj6).bind fun t496 => (some t496)) else (some false))) else (some false))) else (some false)) else (some false)) else (none)) else (some false)) else (some false))))))) else (none))) else (none))) = some r := by rw [if_neg (show ¬ (false = true) by decide)] at H; exact H
    clear H
    have H := H1
    clear H1
    replace H := Option.bind_eq_some_iff.mp H
    obtain ⟨t469, A340, H⟩ := H
    replace H : (if 64 ≤ 35184372088832 then ((some (List.replicate 64 0 : List Int)).bind fun y470 => (if 3 < (y470.length : Int) then ((memory_Add.f kj6 t454 (wrap64 (t469 * 64)) (y470.set (3 : Int).toNat a3)).bind fun bt475 => ((memory_Without.f kj6 bt475.1 (wrap64 (t469 * 64))).bind fun t480 => ((memory_Changed.f kj6 bt475.1 t480).bind fun t484 => ((memory_Without.f kj6 t454 (wrap64 (t469 * 64))).bind fun t487 => ((memory_Changed.f kj6 t487 t480).bind fun t490 => (if bt475.2 = 0 then (if (t484.length : Int) = 1 then (if 0 < (t484.length : Int) then (if (rd t484 0) = (wrap64 (t469 * 64)) then (if (t490.length : Int) = 0 then ((memory_Right.f kj6 bt475.1).bind fun t494 => (if t494 = true then ((memory_Right.f kj6 t480).bind fun t495 => (if t495 = true then ((debuggerlaw25_awake.f kj6).bind fun t496 => (some t496)) else (some false))) else (some false))) else (some false)) else (some false)) else (none)) else (some false)) else (some false))))))) else (none))) else (none)) = some r := H
    have A34 := Aside0.mk A340
    clear A340
    by_cases c35 : 64 ≤ 35184372088832
    ·rw [if_pos c35] at H
     have c35b0 := eq_true c35
     have c35b1 : decide (64 ≤ 35184372088832) = true := decide_eq_true c35
     clear c35
     obtain ⟨y470, hy470⟩ : ∃ y_ : List Int, y_ = (List.replicate 64 0) := ⟨_, rfl⟩
     replace H : (if 3 < (y470.length : Int) then ((memory_Add.f kj6 t454 (wrap64 (t469 * 64)) (y470.set (3 : Int).toNat a3)).bind fun bt475 => ((memory_Without.f kj6 bt475.1 (wrap64 (t469 * 64))).bind fun t480 => ((memory_Changed.f kj6 bt475.1 t480).bind fun t484 => ((memory_Without.f kj6 t454 (wrap64 (t469 * 64))).bind fun t487 => ((memory_Changed.f kj6 t487 t480).bind fun t490 => (if bt475.2 = 0 then (if (t484.length : Int) = 1 then (if 0 < (t484.length : Int) then (if (rd t484 0) = (wrap64 (t469 * 64)) then (if (t490.length : Int) = 0 then ((memory_Right.f kj6 bt475.1).bind fun t494 => (if t494 = true then ((memory_Right.f kj6 t480).bind fun t495 => (if t495 = true then ((debuggerlaw25_awake.f kj6).bind fun t496 => (some t496)) else (some false))) else (some false))) else (some false)) else (some false)) else (none)) else (some false)) else (some false))))))) else (none)) = some r := by first | (rw [hy470]; with_reducible exact H) | (have H2_ := (Option.bind_some _ _).symm.trans H; rw [hy470]; with_reducible exact H2_) | (have H2_ := (Option.bind_some _ _).symm.trans H; with_reducible exact H2_) | with_reducible exact H | (rw [hy470]; exact H) | exact H
     have Ny470 := Aside0.mk hy470
     clear hy470
     by_cases c36 : 3 < (y470.length : Int)
     ·rw [if_pos c36] at H
      have c36b0 : decide (3 < (y470.length : Int)) = true := decide_eq_true c36
      have c36b1 : decide (3 < y470.length) = true := decide_eq_true (by omega)
      clear c36
      obtain ⟨y474, hy474⟩ : ∃ y_ : List Int, y_ = (y470.set (3 : Int).toNat a3) := ⟨_, rfl⟩
      replace H : ((memory_Add.f kj6 t454 (wrap64 (t469 * 64)) y474).bind fun bt475 => ((memory_Without.f kj6 bt475.1 (wrap64 (t469 * 64))).bind fun t480 => ((memory_Changed.f kj6 bt475.1 t480).bind fun t484 => ((memory_Without.f kj6 t454 (wrap64 (t469 * 64))).bind fun t487 => ((memory_Changed.f kj6 t487 t480).bind fun t490 => (if bt475.2 = 0 then (if (t484.length : Int) = 1 then (if 0 < (t484.length : Int) then (if (rd t484 0) = (wrap64 (t469 * 64)) then (if (t490.length : Int) = 0 then ((memory_Right.f kj6 bt475.1).bind fun t494 => (if t494 = true then ((memory_Right.f kj6 t480).bind fun t495 => (if t495 = true then ((debuggerlaw25_awake.f kj6).bind fun t496 => (some t496)) else (some false))) else (some false))) else (some false)) else (some false)) else (none)) else (some false)) else (some false))))))) = some r := by first | (rw [hy474]; with_reducible exact H) | (have H2_ := (Option.bind_some _ _).symm.trans H; rw [hy474]; with_reducible exact H2_) | (have H2_ := (Option.bind_some _ _).symm.trans H; with_reducible exact H2_) | with_reducible exact H | (rw [hy474]; exact H) | exact H
      have Ny474 := Aside0.mk hy474
      clear hy474
      replace H := Option.bind_eq_some_iff.mp H
      obtain ⟨⟨t475, t478⟩, A380, H⟩ := H
      replace H : ((memory_Without.f kj6 t475 (wrap64 (t469 * 64))).bind fun t480 => ((memory_Changed.f kj6 t475 t480).bind fun t484 => ((memory_Without.f kj6 t454 (wrap64 (t469 * 64))).bind fun t487 => ((memory_Changed.f kj6 t487 t480).bind fun t490 => (if t478 = 0 then (if (t484.length : Int) = 1 then (if 0 < (t484.length : Int) then (if (rd t484 0) = (wrap64 (t469 * 64)) then (if (t490.length : Int) = 0 then ((memory_Right.f kj6 t475).bind fun t494 => (if t494 = true then ((memory_Right.f kj6 t480).bind fun t495 => (if t495 = true then ((debuggerlaw25_awake.f kj6).bind fun t496 => (some t496)) else (some false))) else (some false))) else (some false)) else (some false)) else (none)) else (some false)) else (some false)))))) = some r := H
      have A38 := Aside0.mk A380
      clear A380
      replace H := Option.bind_eq_some_iff.mp H
      obtain ⟨t480, A390, H⟩ := H
      replace H : ((memory_Changed.f kj6 t475 t480).bind fun t484 => ((memory_Without.f kj6 t454 (wrap64 (t469 * 64))).bind fun t487 => ((memory_Changed.f kj6 t487 t480).bind fun t490 => (if t478 = 0 then (if (t484.length : Int) = 1 then (if 0 < (t484.length : Int) then (if (rd t484 0) = (wrap64 (t469 * 64)) then (if (t490.length : Int) = 0 then ((memory_Right.f kj6 t475).bind fun t494 => (if t494 = true then ((memory_Right.f kj6 t480).bind fun t495 => (if t495 = true then ((debuggerlaw25_awake.f kj6).bind fun t496 => (some t496)) else (some false))) else (some false))) else (some false)) else (some false)) else (none)) else (some false)) else (some false))))) = some r := H
      have A39 := Aside0.mk A390
      clear A390
      replace H := Option.bind_eq_some_iff.mp H
      obtain ⟨t484, A400, H⟩ := H
      replace H : ((memory_Without.f kj6 t454 (wrap64 (t469 * 64))).bind fun t487 => ((memory_Changed.f kj6 t487 t480).bind fun t490 => (if t478 = 0 then (if (t484.length : Int) = 1 then (if 0 < (t484.length : Int) then (if (rd t484 0) = (wrap64 (t469 * 64)) then (if (t490.length : Int) = 0 then ((memory_Right.f kj6 t475).bind fun t494 => (if t494 = true then ((memory_Right.f kj6 t480).bind fun t495 => (if t495 = true then ((debuggerlaw25_awake.f kj6).bind fun t496 => (some t496)) else (some false))) else (some false))) else (some false)) else (some false)) else (none)) else (some false)) else (some false)))) = some r := H
      have A40 := Aside0.mk A400
      clear A400
      replace H := Option.bind_eq_some_iff.mp H
      obtain ⟨t487, A410, H⟩ := H
      replace H : ((memory_Changed.f kj6 t487 t480).bind fun t490 => (if t478 = 0 then (if (t484.length : Int) = 1 then (if 0 < (t484.length : Int) then (if (rd t484 0) = (wrap64 (t469 * 64)) then (if (t490.length : Int) = 0 then ((memory_Right.f kj6 t475).bind fun t494 => (if t494 = true then ((memory_Right.f kj6 t480).bind fun t495 => (if t495 = true then ((debuggerlaw25_awake.f kj6).bind fun t496 => (some t496)) else (some false))) else (some false))) else (some false)) else (some false)) else (none)) else (some false)) else (some false))) = some r := H
      have A41 := Aside0.mk A410
      clear A410
      replace H := Option.bind_eq_some_iff.mp H
      obtain ⟨t490, A420, H⟩ := H
      replace H : (if t478 = 0 then (if (t484.length : Int) = 1 then (if 0 < (t484.length : Int) then (if (rd t484 0) = (wrap64 (t469 * 64)) then (if (t490.length : Int) = 0 then ((memory_Right.f kj6 t475).bind fun t494 => (if t494 = true then ((memory_Right.f kj6 t480).bind fun t495 => (if t495 = true then ((debuggerlaw25_awake.f kj6).bind fun t496 => (some t496)) else (some false))) else (some false))) else (some false)) else (some false)) else (none)) else (some false)) else (some false)) = some r := H
      have A42 := Aside0.mk A420
      clear A420
      by_cases c43 : t478 = 0
      ·rw [if_pos c43] at H
       have c43b0 : (t478 == 0) = true := beq_iff_eq.mpr c43
       have c43b1 : (t478 != 0) = false := bne_eq_false_iff_eq.mpr c43
       clear c43
       by_cases c44 : (t484.length : Int) = 1
       ·rw [if_pos c44] at H
        have c44b0 : ((t484.length : Int) == 1) = true := beq_iff_eq.mpr c44
        have c44b1 : ((t484.length : Int) != 1) = false := bne_eq_false_iff_eq.mpr c44
        clear c44
        by_cases c45 : 0 < (t484.length : Int)
        ·rw [if_pos c45] at H
         have c45b0 : decide (0 < (t484.length : Int)) = true := decide_eq_true c45
         have c45b1 : decide (0 < t484.length) = true := decide_eq_true (by omega)
         clear c45
         by_cases c46 : (rd t484 0) = (wrap64 (t469 * 64))
         ·rw [if_pos c46] at H
          have c46b0 : ((rd t484 0) == (wrap64 (t469 * 64))) = true := beq_iff_eq.mpr c46
          have c46b1 : ((rd t484 0) != (wrap64 (t469 * 64))) = false := bne_eq_false_iff_eq.mpr c46
          clear c46
          by_cases c47 : (t490.length : Int) = 0
          ·rw [if_pos c47] at H
           have c47b0 : ((t490.length : Int) == 0) = true := beq_iff_eq.mpr c47
           have c47b1 : ((t490.length : Int) != 0) = false := bne_eq_false_iff_eq.mpr c47
           clear c47
           replace H := Option.bind_eq_some_iff.mp H
           obtain ⟨t494, A480, H⟩ := H
           replace H : (if t494 = true then ((memory_Right.f kj6 t480).bind fun t495 => (if t495 = true then ((debuggerlaw25_awake.f kj6).bind fun t496 => (some t496)) else (some false))) else (some false)) = some r := H
           have A48 := Aside0.mk A480
           clear A480
           by_cases c49 : t494 = true
           ·subst c49
            have H1 : ((memory_Right.f kj6 t480).bind fun t495 => (if t495 = true then ((debuggerlaw25_awake.f kj6).bind fun t496 => (some t496)) else (some false))) = some r := by rw [if_pos rfl] at H; exact H
            clear H
            have H := H1
            clear H1
            replace H := Option.bind_eq_some_iff.mp H
            obtain ⟨t495, A500, H⟩ := H
            replace H : (if t495 = true then ((debuggerlaw25_awake.f kj6).bind fun t496 => (some t496)) else (some false)) = some r := H
            have A50 := Aside0.mk A500
            clear A500
            by_cases c51 : t495 = true
            ·subst c51
             have H1 : ((debuggerlaw25_awake.f kj6).bind fun t496 => (some t496)) = some r := by rw [if_pos rfl] at H; exact H
             clear H
             have H := H1
             clear H1
             replace H := Option.bind_eq_some_iff.mp H
             obtain ⟨t496, A520, H⟩ := H
             replace H : (some t496) = some r := H
             have A52 := Aside0.mk A520
             clear A520
             obtain rfl := Option.some.inj H
             try go_wp2_with (first | ((with_reducible refine gate_callee (f := 13) rfl ?_); refine goesL_ (some 39) rfl rfl Try.func13 (by kernel_rfl) rfl #[.int .i64 a2, .int .i64 12] rfl Zm ?_; (with_reducible refine (debuggerkit_Mod.calls a2 12 t469 _ A34.out).mono ?_); rintro e w53 ⟨rfl, hb⟩; refine ⟨_, rfl, ?_⟩; have n0_ := Aside0.mk (Kd.N_below (ZN HO_461000.out) hb); have n1_ := Aside0.mk (Kd.N_below (ZN HO_462000.out) hb); have n2_ := Aside0.mk (blk_below (g := gb460) (o := .cells #[.slice Ao12 t454.length co12] 24 (0, 0)) (Zb BK460.out) hb); have n3_ := Aside0.mk (blk_below (g := gb461) (o := .cells #[.slice Ao15 t457.length co15] 24 (0, 0)) (Zb BK461.out) hb); have n4_ := Aside0.mk (below_step (Zh2 HB.out GE460.out GE461.out) hb); clear HO_461000; clear HO_462000; clear BK460; clear BK461; clear HB; have HO_461000 := n0_; have HO_462000 := n1_; have BK460 := n2_; have BK461 := n3_; have HB := n4_; clear n0_ n1_ n2_ n3_ n4_; (try clear hb); (try clear hb2); (try clear hk); (try clear hi)) | ((with_reducible refine gate_dst (N := 42) rfl ?_); (try (refine gate_guard (by rfl) ?_; dsimp only)); refine Kd.R_make (Kd.int .i64) _ 3 rfl (N := 42) rfl 25 _ _ rfl 64 rfl rfl Try.underlying25 (.int .i64 0) 8 info3 rfl (by decide) (by omega) 0 (ok := fun _ => True) (okp := fun _ => True) rfl (fun _ hk => hk) trivial (by omega) (by omega) (Below.refl _ _) (Nat.le_refl _) ?_; intro v471 w54 ho55 hb hg_ hnew_; clear hg_ hnew_; (first | rw [← Ny470.out] at ho55 | (simp only [Int.reduceToNat] at ho55; rw [← Ny470.out] at ho55)); have n0_ := Aside0.mk (Kd.N_elder' (ZN HO_461000.out) (by first | exact Kd.R_base ho55 | exact Kd.S_base ho55 | exact Kd.R_base ho55 | exact Kd.N_base ho55) hb); have n1_ := Aside0.mk (Kd.N_elder' (ZN HO_462000.out) (by first | exact Kd.R_base ho55 | exact Kd.S_base ho55 | exact Kd.R_base ho55 | exact Kd.N_base ho55) hb); have n2_ := Aside0.mk (Kd.R_lower ho55 (below_size (Zh2 HB.out GE460.out GE461.out))); have n3_ := Aside0.mk (blk_below (g := gb460) (o := .cells #[.slice Ao12 t454.length co12] 24 (0, 0)) (Zb BK460.out) hb); have n4_ := Aside0.mk (blk_below (g := gb461) (o := .cells #[.slice Ao15 t457.length co15] 24 (0, 0)) (Zb BK461.out) hb); have n5_ := Aside0.mk (below_step (Zh2 HB.out GE460.out GE461.out) hb); clear HO_461000; clear HO_462000; clear BK460; clear BK461; clear HB; have HO_461000 := n0_; have HO_462000 := n1_; have HO472 := n2_; have BK460 := n3_; have BK461 := n4_; have HB := n5_; clear n0_ n1_ n2_ n3_ n4_ n5_; clear hb ho55; obtain ⟨Ao56, co56, eo56⟩ := Kd.R_slice HO472.out; subst eo56) | ((with_reducible refine gate_dst (N := 12) rfl ?_); (try (refine gate_guard (by rfl) ?_; dsimp only)); refine box_event ?hg (N := 12) ?hd (cs := #[.int .i64 0, .slice none 0 0]) (t := 31) ?hr ?_; (case hd => rfl); (case hg => rfl); (case hr => first | (go_simp; done) | (go_simp; rfl)); intro gb473 hg w57 hbox hb; have n0_ := Aside0.mk (Kd.N_below (Kd.N_elderB (ZN HO_461000.out) gb473 (Nat.le_of_eq hg.symm)) hb); have n1_ := Aside0.mk (Kd.N_below (Kd.N_elderB (ZN HO_462000.out) gb473 (Nat.le_of_eq hg.symm)) hb); have n2_ := Aside0.mk (Kd.R_below (ZR HO472.out) hb); have n3_ := Aside0.mk (blk_below (g := gb460) (o := .cells #[.slice Ao12 t454.length co12] 24 (0, 0)) (Zb BK460.out) hb); have n4_ := Aside0.mk (blk_below (g := gb461) (o := .cells #[.slice Ao15 t457.length co15] 24 (0, 0)) (Zb BK461.out) hb); have n5_ := Aside0.mk (below_step (Zh2 HB.out GE460.out GE461.out) hb); have n6_ := Aside0.mk (hbox); have n7_ := Aside0.mk ((by rw [hg]; exact (below_size (Zh2 HB.out GE460.out GE461.out)) : w.heap.size ≤ gb473)); have n8_ := Aside0.mk ((by rw [hg]; exact (below_size (Zh2 HB.out GE460.out GE461.out)) : w.heap.size ≤ gb473)); have n9_ := Aside0.mk ((by rw [hg]; exact Nat.ne_of_lt (blk_lt (g := gb460) (o := .cells #[.slice Ao12 t454.length co12] 24 (0, 0)) (Zb BK460.out)) : gb460 ≠ gb473)); have n10_ := Aside0.mk ((by rw [hg]; exact Nat.ne_of_gt (blk_lt (g := gb460) (o := .cells #[.slice Ao12 t454.length co12] 24 (0, 0)) (Zb BK460.out)) : gb473 ≠ gb460)); have n11_ := Aside0.mk ((by rw [hg]; exact Nat.ne_of_lt (blk_lt (g := gb461) (o := .cells #[.slice Ao15 t457.length co15] 24 (0, 0)) (Zb BK461.out)) : gb461 ≠ gb473)); have n12_ := Aside0.mk ((by rw [hg]; exact Nat.ne_of_gt (blk_lt (g := gb461) (o := .cells #[.slice Ao15 t457.length co15] 24 (0, 0)) (Zb BK461.out)) : gb473 ≠ gb461)); clear HO_461000; clear HO_462000; clear HO472; clear BK460; clear BK461; clear HB; have HO_461000 := n0_; have HO_462000 := n1_; have HO472 := n2_; have BK460 := n3_; have BK461 := n4_; have HB := n5_; have BK473 := n6_; have GW473 := n7_; have GE473 := n8_; have NB460_473 := n9_; have NB473_460 := n10_; have NB461_473 := n11_; have NB473_461 := n12_; clear n0_ n1_ n2_ n3_ n4_ n5_ n6_ n7_ n8_ n9_ n10_ n11_ n12_; clear hb hbox hg; have hnb58 := NB473_460.out; have hnc58 := NB460_473.out; have hnb59 := NB473_461.out; have hnc59 := NB461_473.out; have hcz60_0 : w57.cell? ⟨gb473, 0, none⟩ = some (.int .i64 0) := (blk_cell BK473.out 0).trans rfl; have hcz60_1 : w57.cell? ⟨gb473, 1, none⟩ = some (.slice none 0 0) := (blk_cell BK473.out 1).trans rfl; have hfz60_0 := blk_frozen BK473.out 0; have hfz60_1 := blk_frozen BK473.out 1) | ((with_reducible refine gate_store (t := 31) (p := 12) rfl ?_); refine store_event (t := 31) (p := 12) (v := ?vo_w61) (w1 := ((w57.setCell ⟨gb473, 0, none⟩ (.int .i64 (wrap64 (t469 * 64)))).setCell ⟨gb473, 1, none⟩ (.slice Ao56 y470.length co56))) ?hg ?ho ?hn ?hr ?_; (case ho => rfl); (case hg => rfl); (case hn => rfl); (case hr => first | (go_simp; done) | (go_simp; rfl)); intro w61 hw; have n0_ : Aside0 (Kd.N k31 31 w61 w.heap.size (fun k_ => some k_ ≠ (.slice Ao15 t457.length co15 : Value).ownBlock ∧ some k_ ≠ (.slice Ao56 y470.length co56 : Value).ownBlock ∧ k_ ≠ gb460 ∧ k_ ≠ gb461 ∧ k_ ≠ gb473) (.slice Ao12 t454.length co12) t454) := ⟨(by rw [hw]; exact (by (with_reducible repeat (first | apply Kd.N_alloc | apply Kd.N_drewN | apply Kd.N_drew)); exact Kd.N_mono (Kd.N_far (p := ⟨gb473, 1, none⟩) (Kd.N_far (p := ⟨gb473, 0, none⟩) (Kd.N_mono HO_461000.out (fun k_ hk => (⟨hk, hk.2⟩ : _ ∧ k_ ≠ gb473))) (fun _ hk => hk.2) (.int .i64 (wrap64 (t469 * 64)))) (fun _ hk => hk.2) (.slice Ao56 y470.length co56)) (fun _ hk => ⟨hk.1.1.1.1, ⟨hk.1.1.2, ⟨hk.1.1.1.2.1, ⟨hk.1.1.1.2.2, hk.1.2⟩⟩⟩⟩)))⟩; have n1_ : Aside0 (Kd.N k31 31 w61 w.heap.size (fun k_ => some k_ ≠ (.slice Ao12 t454.length co12 : Value).ownBlock ∧ some k_ ≠ (.slice Ao56 y470.length co56 : Value).ownBlock ∧ k_ ≠ gb460 ∧ k_ ≠ gb461 ∧ k_ ≠ gb473) (.slice Ao15 t457.length co15) t457) := ⟨(by rw [hw]; exact (by (with_reducible repeat (first | apply Kd.N_alloc | apply Kd.N_drewN | apply Kd.N_drew)); exact Kd.N_mono (Kd.N_far (p := ⟨gb473, 1, none⟩) (Kd.N_far (p := ⟨gb473, 0, none⟩) (Kd.N_mono HO_462000.out (fun k_ hk => (⟨hk, hk.2⟩ : _ ∧ k_ ≠ gb473))) (fun _ hk => hk.2) (.int .i64 (wrap64 (t469 * 64)))) (fun _ hk => hk.2) (.slice Ao56 y470.length co56)) (fun _ hk => ⟨hk.1.1.1.1, ⟨hk.1.1.2, ⟨hk.1.1.1.2.1, ⟨hk.1.1.1.2.2, hk.1.2⟩⟩⟩⟩)))⟩; have n2_ : Aside0 (Kd.R (Kd.int .i64) 3 w61 w.heap.size (fun _ => True) (.slice Ao56 y470.length co56) y470) := ⟨(by rw [hw]; exact (by (with_reducible repeat (first | apply Kd.R_alloc | apply Kd.R_drewN | apply Kd.R_drew)); exact Kd.R_mono (Kd.R_far (p := ⟨gb473, 1, none⟩) (Kd.R_far (p := ⟨gb473, 0, none⟩) (Kd.R_types HO472.out BK473.out (by decide)) (fun _ hk => hk.2) (.int .i64 (wrap64 (t469 * 64)))) (fun _ hk => hk.2) (.slice Ao56 y470.length co56)) (fun _ hk => trivial)))⟩; have n3_ : Aside0 (w61.heap[gb460]? = some (.cells #[.slice Ao12 t454.length co12] 24 (0, 0))) := ⟨(by rw [hw]; exact (by (with_reducible repeat (first | refine blk_drewN ?_ _ | refine blk_drew ?_ | refine blk_alloc ?_ _)); refine blk_far ?_ NB460_473.out _; (with_reducible repeat (first | refine blk_drewN ?_ _ | refine blk_drew ?_ | refine blk_alloc ?_ _)); refine blk_far ?_ NB460_473.out _; (with_reducible repeat (first | refine blk_drewN ?_ _ | refine blk_drew ?_ | refine blk_alloc ?_ _)); exact BK460.out))⟩; have n4_ : Aside0 (w61.heap[gb461]? = some (.cells #[.slice Ao15 t457.length co15] 24 (0, 0))) := ⟨(by rw [hw]; exact (by (with_reducible repeat (first | refine blk_drewN ?_ _ | refine blk_drew ?_ | refine blk_alloc ?_ _)); refine blk_far ?_ NB461_473.out _; (with_reducible repeat (first | refine blk_drewN ?_ _ | refine blk_drew ?_ | refine blk_alloc ?_ _)); refine blk_far ?_ NB461_473.out _; (with_reducible repeat (first | refine blk_drewN ?_ _ | refine blk_drew ?_ | refine blk_alloc ?_ _)); exact BK461.out))⟩; have n5_ : Aside0 (w61.heap[gb473]? = some (.cells #[.int .i64 (wrap64 (t469 * 64)), .slice Ao56 y470.length co56] 31 (0, 0))) := ⟨(by rw [hw]; exact (by (with_reducible repeat (first | refine blk_drewN ?_ _ | refine blk_drew ?_ | refine blk_alloc ?_ _)); refine blk_put (cs := #[.int .i64 (wrap64 (t469 * 64)), .slice none 0 0]) ?_ 1 _ rfl; (with_reducible repeat (first | refine blk_drewN ?_ _ | refine blk_drew ?_ | refine blk_alloc ?_ _)); refine blk_put (cs := #[.int .i64 0, .slice none 0 0]) ?_ 0 _ rfl; (with_reducible repeat (first | refine blk_drewN ?_ _ | refine blk_drew ?_ | refine blk_alloc ?_ _)); exact BK473.out))⟩; have n6_ : Aside0 (Below w.heap.size w w61) := ⟨(by rw [hw]; exact (Zh3 HB.out GE460.out GE461.out GE473.out))⟩; clear hw; clear HO_461000; clear HO_462000; clear HO472; clear BK460; clear BK461; clear BK473; clear HB; have HO_461000 := n0_; have HO_462000 := n1_; have HO472 := n2_; have BK460 := n3_; have BK461 := n4_; have BK473 := n5_; have HB := n6_; clear n0_ n1_ n2_ n3_ n4_ n5_ n6_; have hcz62_0 : w61.cell? ⟨gb473, 0, none⟩ = some (.int .i64 (wrap64 (t469 * 64))) := (blk_cell BK473.out 0).trans rfl; have hcz62_1 : w61.cell? ⟨gb473, 1, none⟩ = some (.slice Ao56 y470.length co56) := (blk_cell BK473.out 1).trans rfl; have hfz62_0 := blk_frozen BK473.out 0; have hfz62_1 := blk_frozen BK473.out 1; have p37 : 0 ≤ (3 : Int) := (by omega); have q37 : (3 : Int) < ((y470.length : Int) : Int) := of_decide_eq_true Za; have qi37 : (3 < y470.length) = True := eq_true (by omega); obtain ⟨go37, co37, eo37, gb37, gl37, cl37, HG37⟩ := Kd.R_form HO472.out (by omega); (first | cases eo37 | (injection eo37 with ea_ en_ ec_; (first | subst ea_ | (injection ea_ with ea_; subst ea_)); subst ec_; clear en_)); have GB37 := Aside0.mk gb37; have GG37 := Aside0.mk HG37; clear gb37 gl37 HG37; obtain ⟨hx37_0, hf37_0⟩ := Kd.R_celln 0 HO472.out (3 : Int) p37 q37; (try rw [show ((3 : Int)).toNat = 3 from rfl] at hx37_0); (try simp only [Nat.reduceMul, Nat.zero_mul, Nat.zero_add, Nat.reduceAdd] at hx37_0); (try rw [show ((3 : Int)).toNat = 3 from rfl] at hf37_0); (try simp only [Nat.reduceMul, Nat.zero_mul, Nat.zero_add, Nat.reduceAdd] at hf37_0); replace p37 := eq_true p37; replace q37 := eq_true q37; obtain ⟨hy63_, hz63_⟩ := Kd.R_celln 0 HO472.out (3 : Int) (by omega) (of_decide_eq_true Za); (try simp only [Int.reduceToNat, Int.toNat_zero, Int.toNat_ofNat, Nat.reduceMul, Nat.zero_mul, Nat.zero_add] at hy63_ hz63_); (try rw [show ((3 : Int)).toNat = 3 from rfl] at hy63_); (try rw [show ((3 : Int)).toNat = 3 from rfl] at hz63_); have HP63 := Kd.R_putg HO472.out (3 : Int) a3) | ((with_reducible refine gate_store (t := 3) (p := 47) rfl ?_); refine store_event (t := 3) (p := 47) (v := ?vo_w64) (w1 := (w61.setCell ⟨go37, (3 : Int).toNat, none⟩ (.int .i64 a3))) ?hg ?ho ?hn ?hr ?_; (case ho => rfl); (case hg => rfl); (case hn => rfl); (case hr => first | (go_simp; done) | (go_simp; rfl)); intro w64 hw; have hg : w61.grownBy w64 (some go37) := (by rw [hw]; exact HP63.2); have hp_ : Kd.R (Kd.int .i64) 3 w64 w.heap.size (fun _ => True) (.slice (some ⟨go37, 0, none⟩) y470.length co56) y474 := (by rw [hw, Ny474.out]; exact HP63.1); clear HP63; have n0_ := Aside0.mk (Kd.N_afterv (v := (.slice (some ⟨go37, 0, none⟩) y470.length co56)) (v1 := (.slice (some ⟨go37, 0, none⟩) y470.length co56)) (ok := (fun k_ => some k_ ≠ (.slice Ao15 t457.length co15 : Value).ownBlock ∧ k_ ≠ gb460 ∧ k_ ≠ gb461 ∧ k_ ≠ gb473)) (by (with_reducible repeat (first | apply Kd.N_alloc | apply Kd.N_drewN | apply Kd.N_drew)); exact Kd.N_mono HO_461000.out (fun _ hk => ⟨⟨hk.1, ⟨hk.2.2.1, ⟨hk.2.2.2.1, hk.2.2.2.2⟩⟩⟩, hk.2.1⟩)) hg (.inl rfl)); have n1_ := Aside0.mk (Kd.N_afterv (v := (.slice (some ⟨go37, 0, none⟩) y470.length co56)) (v1 := (.slice (some ⟨go37, 0, none⟩) y470.length co56)) (ok := (fun k_ => some k_ ≠ (.slice Ao12 t454.length co12 : Value).ownBlock ∧ k_ ≠ gb460 ∧ k_ ≠ gb461 ∧ k_ ≠ gb473)) (by (with_reducible repeat (first | apply Kd.N_alloc | apply Kd.N_drewN | apply Kd.N_drew)); exact Kd.N_mono HO_462000.out (fun _ hk => ⟨⟨hk.1, ⟨hk.2.2.1, ⟨hk.2.2.2.1, hk.2.2.2.2⟩⟩⟩, hk.2.1⟩)) hg (.inl rfl)); have n2_ := Aside0.mk (blk_grown (g := gb460) (o := .cells #[.slice Ao12 t454.length co12] 24 (0, 0)) (Zb BK460.out) hg (Kd.R_ne HO472.out BK460.out (by decide))); have n3_ := Aside0.mk (blk_grown (g := gb461) (o := .cells #[.slice Ao15 t457.length co15] 24 (0, 0)) (Zb BK461.out) hg (Kd.R_ne HO472.out BK461.out (by decide))); have n4_ := Aside0.mk (hp_); have n5_ := Aside0.mk (blk_grown (g := gb473) (o := .cells #[.int .i64 (wrap64 (t469 * 64)), .slice (some ⟨go37, 0, none⟩) y470.length co56] 31 (0, 0)) (Zb BK473.out) hg (Kd.R_ne HO472.out BK473.out (by decide))); have n6_ := Aside0.mk ((by rw [hw]; exact below_set (HB.out) GB37.out : Below w.heap.size w w64)); clear HO_461000; clear HO_462000; clear BK460; clear BK461; clear HO472; clear BK473; clear HB; have HO_461000 := n0_; have HO_462000 := n1_; have BK460 := n2_; have BK461 := n3_; have HO472 := n4_; have BK473 := n5_; have HB := n6_; clear n0_ n1_ n2_ n3_ n4_ n5_ n6_; clear hg hw hp_; have hnb65 := NB460_461.out; have hnc65 := NB461_460.out; have hcz66_0 : w64.cell? ⟨gb460, 0, none⟩ = some (.slice Ao12 t454.length co12) := (blk_cell BK460.out 0).trans rfl; have hfz66_0 := blk_frozen BK460.out 0; have hcz67_0 : w64.cell? ⟨gb473, 0, none⟩ = some (.int .i64 (wrap64 (t469 * 64))) := (blk_cell BK473.out 0).trans rfl; have hcz67_1 : w64.cell? ⟨gb473, 1, none⟩ = some (.slice (some ⟨go37, 0, none⟩) y470.length co56) := (blk_cell BK473.out 1).trans rfl; have hfz67_0 := blk_frozen BK473.out 0; have hfz67_1 := blk_frozen BK473.out 1) | ((with_reducible refine gate_callee (f := 26) rfl ?_); refine goesL_ (some 51) rfl rfl Try.func26 (by kernel_rfl) rfl #[.agg #[.slice Ao12 t454.length co12], .agg #[.int .i64 (wrap64 (t469 * 64)), .slice (some ⟨go37, 0, none⟩) y474.length co56]] rfl (by (try simp only [List.map_toArray, List.map_cons, List.map_nil]); first | done | (rw [show y474.length = y470.length from (Kd.R_reads' HO472.out).1.symm] <;> rfl) | rfl | (simp only [List.length_drop, List.length_take]; rfl)) ?_; (with_reducible refine (memory_Add.calls kj6 _ _ t454 (wrap64 (t469 * 64)) _ _ y474 t475 t478 _ ?side1 ?side2 ?side3 ?side4 A38.out).mono ?_); (case side1 => exact Zc ((Kd.N_reads' HO_461000.out).2.2)); (case side2 => exact (Kd.N_reads' HO_461000.out).2.1); (case side3 => exact Zc ((Kd.R_reads' HO472.out).2.2)); (case side4 => rw [show y474.length = y470.length from (Kd.R_reads' HO472.out).1.symm]; exact (Kd.R_reads' HO472.out).2.1); rintro e w68 ⟨v476, rfl, ho0, hb⟩; refine ⟨_, rfl, ?_⟩; have n0_ := Aside0.mk (Kd.N_elder' (ZN HO_461000.out) (by first | exact Kd.N_base ho0 | exact Kd.S_base ho0 | exact Kd.R_base ho0 | exact Kd.N_base ho0) hb); have n1_ := Aside0.mk (Kd.N_elder' (ZN HO_462000.out) (by first | exact Kd.N_base ho0 | exact Kd.S_base ho0 | exact Kd.R_base ho0 | exact Kd.N_base ho0) hb); have n2_ := Aside0.mk (Kd.R_below (ZR HO472.out) hb); have n3_ := Aside0.mk (Kd.N_lower (Kd.N_mono (ok' := fun k_ => some k_ ≠ (.slice Ao12 t454.length co12 : Value).ownBlock ∧ some k_ ≠ (.slice Ao15 t457.length co15 : Value).ownBlock ∧ some k_ ≠ (.slice (some ⟨go37, 0, none⟩) y470.length co56 : Value).ownBlock ∧ k_ ≠ gb460 ∧ k_ ≠ gb461 ∧ k_ ≠ gb473) ho0 (fun k_ hk_ => ⟨(Kd.fresh' (Kd.N_lt (ZN HO_461000.out)) k_ hk_), (Kd.fresh' (Kd.N_lt (ZN HO_462000.out)) k_ hk_), (Kd.fresh' (Kd.R_lt (ZR HO472.out)) k_ hk_), (Kd.freshB (g := gb460) (o := .cells #[.slice Ao12 t454.length co12] 24 (0, 0)) (Zb BK460.out) k_ hk_), (Kd.freshB (g := gb461) (o := .cells #[.slice Ao15 t457.length co15] 24 (0, 0)) (Zb BK461.out) k_ hk_), (Kd.freshB (g := gb473) (o := .cells #[.int .i64 (wrap64 (t469 * 64)), .slice (some ⟨go37, 0, none⟩) y470.length co56] 31 (0, 0)) (Zb BK473.out) k_ hk_)⟩)) (below_size (Zh3 HB.out GE460.out GE461.out GE473.out))); have n4_ := Aside0.mk (blk_below (g := gb460) (o := .cells #[.slice Ao12 t454.length co12] 24 (0, 0)) (Zb BK460.out) hb); have n5_ := Aside0.mk (blk_below (g := gb461) (o := .cells #[.slice Ao15 t457.length co15] 24 (0, 0)) (Zb BK461.out) hb); have n6_ := Aside0.mk (blk_below (g := gb473) (o := .cells #[.int .i64 (wrap64 (t469 * 64)), .slice (some ⟨go37, 0, none⟩) y470.length co56] 31 (0, 0)) (Zb BK473.out) hb); have n7_ := Aside0.mk (below_step (Zh3 HB.out GE460.out GE461.out GE473.out) hb); clear HO_461000; clear HO_462000; clear HO472; clear BK460; clear BK461; clear BK473; clear HB; have HO_461000 := n0_; have HO_462000 := n1_; have HO472 := n2_; have HO477 := n3_; have BK460 := n4_; have BK461 := n5_; have BK473 := n6_; have HB := n7_; clear n0_ n1_ n2_ n3_ n4_ n5_ n6_ n7_; (try clear hb); (try clear hb2); (try clear hk); (try clear hi); (try clear ho0)) | ((with_reducible refine gate_dst (N := 13) rfl ?_); (try (refine gate_guard (by rfl) ?_; dsimp only)); refine box_event ?hg (N := 13) ?hd (cs := #[.slice none 0 0]) (t := 24) ?hr ?_; (case hd => rfl); (case hg => rfl); (case hr => first | (go_simp; done) | (go_simp; rfl)); intro gb479 hg w69 hbox hb; have n0_ := Aside0.mk (Kd.N_below (Kd.N_elderB (ZN HO_461000.out) gb479 (Nat.le_of_eq hg.symm)) hb); have n1_ := Aside0.mk (Kd.N_below (Kd.N_elderB (ZN HO_462000.out) gb479 (Nat.le_of_eq hg.symm)) hb); have n2_ := Aside0.mk (Kd.R_below (ZR HO472.out) hb); have n3_ := Aside0.mk (Kd.N_below (Kd.N_elderB (ZN HO477.out) gb479 (Nat.le_of_eq hg.symm)) hb); have n4_ := Aside0.mk (blk_below (g := gb460) (o := .cells #[.slice Ao12 t454.length co12] 24 (0, 0)) (Zb BK460.out) hb); have n5_ := Aside0.mk (blk_below (g := gb461) (o := .cells #[.slice Ao15 t457.length co15] 24 (0, 0)) (Zb BK461.out) hb); have n6_ := Aside0.mk (blk_below (g := gb473) (o := .cells #[.int .i64 (wrap64 (t469 * 64)), .slice (some ⟨go37, 0, none⟩) y470.length co56] 31 (0, 0)) (Zb BK473.out) hb); have n7_ := Aside0.mk (below_step (Zh3 HB.out GE460.out GE461.out GE473.out) hb); have n8_ := Aside0.mk (hbox); have n9_ := Aside0.mk ((by rw [hg]; exact (below_size (Zh3 HB.out GE460.out GE461.out GE473.out)) : w.heap.size ≤ gb479)); have n10_ := Aside0.mk ((by rw [hg]; exact (below_size (Zh3 HB.out GE460.out GE461.out GE473.out)) : w.heap.size ≤ gb479)); have n11_ := Aside0.mk ((by rw [hg]; exact Nat.ne_of_lt (blk_lt (g := gb460) (o := .cells #[.slice Ao12 t454.length co12] 24 (0, 0)) (Zb BK460.out)) : gb460 ≠ gb479)); have n12_ := Aside0.mk ((by rw [hg]; exact Nat.ne_of_gt (blk_lt (g := gb460) (o := .cells #[.slice Ao12 t454.length co12] 24 (0, 0)) (Zb BK460.out)) : gb479 ≠ gb460)); have n13_ := Aside0.mk ((by rw [hg]; exact Nat.ne_of_lt (blk_lt (g := gb461) (o := .cells #[.slice Ao15 t457.length co15] 24 (0, 0)) (Zb BK461.out)) : gb461 ≠ gb479)); have n14_ := Aside0.mk ((by rw [hg]; exact Nat.ne_of_gt (blk_lt (g := gb461) (o := .cells #[.slice Ao15 t457.length co15] 24 (0, 0)) (Zb BK461.out)) : gb479 ≠ gb461)); have n15_ := Aside0.mk ((by rw [hg]; exact Nat.ne_of_lt (blk_lt (g := gb473) (o := .cells #[.int .i64 (wrap64 (t469 * 64)), .slice (some ⟨go37, 0, none⟩) y470.length co56] 31 (0, 0)) (Zb BK473.out)) : gb473 ≠ gb479)); have n16_ := Aside0.mk ((by rw [hg]; exact Nat.ne_of_gt (blk_lt (g := gb473) (o := .cells #[.int .i64 (wrap64 (t469 * 64)), .slice (some ⟨go37, 0, none⟩) y470.length co56] 31 (0, 0)) (Zb BK473.out)) : gb479 ≠ gb473)); clear HO_461000; clear HO_462000; clear HO472; clear HO477; clear BK460; clear BK461; clear BK473; clear HB; have HO_461000 := n0_; have HO_462000 := n1_; have HO472 := n2_; have HO477 := n3_; have BK460 := n4_; have BK461 := n5_; have BK473 := n6_; have HB := n7_; have BK479 := n8_; have GW479 := n9_; have GE479 := n10_; have NB460_479 := n11_; have NB479_460 := n12_; have NB461_479 := n13_; have NB479_461 := n14_; have NB473_479 := n15_; have NB479_473 := n16_; clear n0_ n1_ n2_ n3_ n4_ n5_ n6_ n7_ n8_ n9_ n10_ n11_ n12_ n13_ n14_ n15_ n16_; clear hb hbox hg; obtain ⟨Ao70, co70, eo70⟩ := Kd.N_slice HO477.out; subst eo70; have hnb71 := NB479_460.out; have hnc71 := NB460_479.out; have hnb72 := NB479_461.out; have hnc72 := NB461_479.out; have hnb73 := NB479_473.out; have hnc73 := NB473_479.out; have hcz74_0 : w69.cell? ⟨gb479, 0, none⟩ = some (.slice none 0 0) := (blk_cell BK479.out 0).trans rfl; have hfz74_0 := blk_frozen BK479.out 0) | ((with_reducible refine gate_callee (f := 28) rfl ?_); refine goesL_ (some 56) rfl rfl Try.func28 (by kernel_rfl) rfl #[.agg #[.slice Ao70 t475.length co70], .int .i64 (wrap64 (t469 * 64))] rfl Zm ?_; (with_reducible refine (memory_Without.calls kj6 _ _ t475 (wrap64 (t469 * 64)) t480 _ ?side1 ?side2 A39.out).mono ?_); (case side1 => refine (Kd.N_reads' (e := 31) (base := w.heap.size) (ok := fun k_ => ((some k_ ≠ (.slice Ao12 t454.length co12 : Value).ownBlock ∧ (some k_ ≠ (.slice Ao15 t457.length co15 : Value).ownBlock ∧ (some k_ ≠ (.slice (some ⟨go37, 0, none⟩) y470.length co56 : Value).ownBlock ∧ (k_ ≠ gb460 ∧ (k_ ≠ gb461 ∧ k_ ≠ gb473))))) ∧ k_ ≠ gb479)) (n := t475.length) (c := co70) ?_).2.2; exact (by (with_reducible repeat (first | apply Kd.N_alloc | apply Kd.N_drewN | apply Kd.N_drew)); exact (Kd.N_mono (Kd.N_far (p := ⟨gb479, 0, none⟩) (Kd.N_mono HO477.out (fun k_ hk => (⟨hk, hk.2⟩ : _ ∧ k_ ≠ gb479))) (fun _ hk => hk.2) (.slice Ao70 t475.length co70)) (fun _ h_ => h_.1)))); (case side2 => exact (Kd.N_reads' HO477.out).2.1); rintro e w75 ⟨v481, rfl, ho0, hb⟩; refine ⟨_, rfl, ?_⟩; have n0_ := Aside0.mk (Kd.N_elder' (by (with_reducible repeat (first | apply Kd.N_alloc | apply Kd.N_drewN | apply Kd.N_drew)); exact (Kd.N_mono (Kd.N_far (p := ⟨gb479, 0, none⟩) (Kd.N_mono HO_461000.out (fun k_ hk => (⟨hk, hk.2⟩ : _ ∧ k_ ≠ gb479))) (fun _ hk => hk.2) (.slice Ao70 t475.length co70)) (fun _ h_ => h_.1))) (by first | exact Kd.N_base ho0 | exact Kd.S_base ho0 | exact Kd.R_base ho0 | exact Kd.N_base ho0) hb); have n1_ := Aside0.mk (Kd.N_elder' (by (with_reducible repeat (first | apply Kd.N_alloc | apply Kd.N_drewN | apply Kd.N_drew)); exact (Kd.N_mono (Kd.N_far (p := ⟨gb479, 0, none⟩) (Kd.N_mono HO_462000.out (fun k_ hk => (⟨hk, hk.2⟩ : _ ∧ k_ ≠ gb479))) (fun _ hk => hk.2) (.slice Ao70 t475.length co70)) (fun _ h_ => h_.1))) (by first | exact Kd.N_base ho0 | exact Kd.S_base ho0 | exact Kd.R_base ho0 | exact Kd.N_base ho0) hb); have n2_ := Aside0.mk (Kd.R_below (by (with_reducible repeat (first | apply Kd.R_alloc | apply Kd.R_drewN | apply Kd.R_drew)); exact (Kd.R_mono (Kd.R_far (p := ⟨gb479, 0, none⟩) (Kd.R_types HO472.out BK479.out (by decide)) (fun _ hk => hk.2) (.slice Ao70 t475.length co70)) (fun _ h_ => h_.1))) hb); have n3_ := Aside0.mk (Kd.N_elder' (by (with_reducible repeat (first | apply Kd.N_alloc | apply Kd.N_drewN | apply Kd.N_drew)); exact (Kd.N_mono (Kd.N_far (p := ⟨gb479, 0, none⟩) (Kd.N_mono HO477.out (fun k_ hk => (⟨hk, hk.2⟩ : _ ∧ k_ ≠ gb479))) (fun _ hk => hk.2) (.slice Ao70 t475.length co70)) (fun _ h_ => h_.1))) (by first | exact Kd.N_base ho0 | exact Kd.S_base ho0 | exact Kd.R_base ho0 | exact Kd.N_base ho0) hb); have n4_ := Aside0.mk (Kd.N_lower (Kd.N_mono (ok' := fun k_ => some k_ ≠ (.slice Ao12 t454.length co12 : Value).ownBlock ∧ some k_ ≠ (.slice Ao15 t457.length co15 : Value).ownBlock ∧ some k_ ≠ (.slice (some ⟨go37, 0, none⟩) y470.length co56 : Value).ownBlock ∧ some k_ ≠ (.slice Ao70 t475.length co70 : Value).ownBlock ∧ k_ ≠ gb460 ∧ k_ ≠ gb461 ∧ k_ ≠ gb473 ∧ k_ ≠ gb479) (Kd.S_N (Kd.S_bound ho0)) (fun k_ hk_ => ⟨(Kd.fresh' (Kd.N_lt (by (with_reducible repeat (first | apply Kd.N_alloc | apply Kd.N_drewN | apply Kd.N_drew)); exact (Kd.N_mono (Kd.N_far (p := ⟨gb479, 0, none⟩) (Kd.N_mono HO_461000.out (fun k_ hk => (⟨hk, hk.2⟩ : _ ∧ k_ ≠ gb479))) (fun _ hk => hk.2) (.slice Ao70 t475.length co70)) (fun _ h_ => h_.1)))) k_ hk_.2.1), (Kd.fresh' (Kd.N_lt (by (with_reducible repeat (first | apply Kd.N_alloc | apply Kd.N_drewN | apply Kd.N_drew)); exact (Kd.N_mono (Kd.N_far (p := ⟨gb479, 0, none⟩) (Kd.N_mono HO_462000.out (fun k_ hk => (⟨hk, hk.2⟩ : _ ∧ k_ ≠ gb479))) (fun _ hk => hk.2) (.slice Ao70 t475.length co70)) (fun _ h_ => h_.1)))) k_ hk_.2.1), (Kd.fresh' (Kd.R_lt (by (with_reducible repeat (first | apply Kd.R_alloc | apply Kd.R_drewN | apply Kd.R_drew)); exact (Kd.R_mono (Kd.R_far (p := ⟨gb479, 0, none⟩) (Kd.R_types HO472.out BK479.out (by decide)) (fun _ hk => hk.2) (.slice Ao70 t475.length co70)) (fun _ h_ => h_.1)))) k_ hk_.2.1), (Kd.fresh' (Kd.N_lt (by (with_reducible repeat (first | apply Kd.N_alloc | apply Kd.N_drewN | apply Kd.N_drew)); exact (Kd.N_mono (Kd.N_far (p := ⟨gb479, 0, none⟩) (Kd.N_mono HO477.out (fun k_ hk => (⟨hk, hk.2⟩ : _ ∧ k_ ≠ gb479))) (fun _ hk => hk.2) (.slice Ao70 t475.length co70)) (fun _ h_ => h_.1)))) k_ hk_.2.1), (Kd.freshB (g := gb460) (o := .cells #[.slice Ao12 t454.length co12] 24 (0, 0)) (by (with_reducible repeat (first | refine blk_drewN ?_ _ | refine blk_drew ?_ | refine blk_alloc ?_ _)); refine blk_far ?_ NB460_479.out _; (with_reducible repeat (first | refine blk_drewN ?_ _ | refine blk_drew ?_ | refine blk_alloc ?_ _)); exact BK460.out) k_ hk_.2.1), (Kd.freshB (g := gb461) (o := .cells #[.slice Ao15 t457.length co15] 24 (0, 0)) (by (with_reducible repeat (first | refine blk_drewN ?_ _ | refine blk_drew ?_ | refine blk_alloc ?_ _)); refine blk_far ?_ NB461_479.out _; (with_reducible repeat (first | refine blk_drewN ?_ _ | refine blk_drew ?_ | refine blk_alloc ?_ _)); exact BK461.out) k_ hk_.2.1), (Kd.freshB (g := gb473) (o := .cells #[.int .i64 (wrap64 (t469 * 64)), .slice (some ⟨go37, 0, none⟩) y470.length co56] 31 (0, 0)) (by (with_reducible repeat (first | refine blk_drewN ?_ _ | refine blk_drew ?_ | refine blk_alloc ?_ _)); refine blk_far ?_ NB473_479.out _; (with_reducible repeat (first | refine blk_drewN ?_ _ | refine blk_drew ?_ | refine blk_alloc ?_ _)); exact BK473.out) k_ hk_.2.1), (Kd.freshB (g := gb479) (o := .cells #[.slice Ao70 t475.length co70] 24 (0, 0)) (by (with_reducible repeat (first | refine blk_drewN ?_ _ | refine blk_drew ?_ | refine blk_alloc ?_ _)); refine blk_put (cs := #[.slice none 0 0]) ?_ 0 _ rfl; (with_reducible repeat (first | refine blk_drewN ?_ _ | refine blk_drew ?_ | refine blk_alloc ?_ _)); exact BK479.out) k_ hk_.2.1)⟩)) (below_size (Zh4 HB.out GE460.out GE461.out GE473.out GE479.out))); have n5_ := Aside0.mk (blk_below (g := gb460) (o := .cells #[.slice Ao12 t454.length co12] 24 (0, 0)) (by (with_reducible repeat (first | refine blk_drewN ?_ _ | refine blk_drew ?_ | refine blk_alloc ?_ _)); refine blk_far ?_ NB460_479.out _; (with_reducible repeat (first | refine blk_drewN ?_ _ | refine blk_drew ?_ | refine blk_alloc ?_ _)); exact BK460.out) hb); have n6_ := Aside0.mk (blk_below (g := gb461) (o := .cells #[.slice Ao15 t457.length co15] 24 (0, 0)) (by (with_reducible repeat (first | refine blk_drewN ?_ _ | refine blk_drew ?_ | refine blk_alloc ?_ _)); refine blk_far ?_ NB461_479.out _; (with_reducible repeat (first | refine blk_drewN ?_ _ | refine blk_drew ?_ | refine blk_alloc ?_ _)); exact BK461.out) hb); have n7_ := Aside0.mk (blk_below (g := gb473) (o := .cells #[.int .i64 (wrap64 (t469 * 64)), .slice (some ⟨go37, 0, none⟩) y470.length co56] 31 (0, 0)) (by (with_reducible repeat (first | refine blk_drewN ?_ _ | refine blk_drew ?_ | refine blk_alloc ?_ _)); refine blk_far ?_ NB473_479.out _; (with_reducible repeat (first | refine blk_drewN ?_ _ | refine blk_drew ?_ | refine blk_alloc ?_ _)); exact BK473.out) hb); have n8_ := Aside0.mk (blk_below (g := gb479) (o := .cells #[.slice Ao70 t475.length co70] 24 (0, 0)) (by (with_reducible repeat (first | refine blk_drewN ?_ _ | refine blk_drew ?_ | refine blk_alloc ?_ _)); refine blk_put (cs := #[.slice none 0 0]) ?_ 0 _ rfl; (with_reducible repeat (first | refine blk_drewN ?_ _ | refine blk_drew ?_ | refine blk_alloc ?_ _)); exact BK479.out) hb); have n9_ := Aside0.mk (below_step (Zh4 HB.out GE460.out GE461.out GE473.out GE479.out) hb); clear HO_461000; clear HO_462000; clear HO472; clear HO477; clear BK460; clear BK461; clear BK473; clear BK479; clear HB; have HO_461000 := n0_; have HO_462000 := n1_; have HO472 := n2_; have HO477 := n3_; have HO482 := n4_; have BK460 := n5_; have BK461 := n6_; have BK473 := n7_; have BK479 := n8_; have HB := n9_; clear n0_ n1_ n2_ n3_ n4_ n5_ n6_ n7_ n8_ n9_; (try clear hb); (try clear hb2); (try clear hk); (try clear hi); (try clear ho0)) | ((with_reducible refine gate_dst (N := 15) rfl ?_); (try (refine gate_guard (by rfl) ?_; dsimp only)); refine box_event ?hg (N := 15) ?hd (cs := #[.slice none 0 0]) (t := 24) ?hr ?_; (case hd => rfl); (case hg => rfl); (case hr => first | (go_simp; done) | (go_simp; rfl)); intro gb483 hg w76 hbox hb; have n0_ := Aside0.mk (Kd.N_below (Kd.N_elderB (ZN HO_461000.out) gb483 (Nat.le_of_eq hg.symm)) hb); have n1_ := Aside0.mk (Kd.N_below (Kd.N_elderB (ZN HO_462000.out) gb483 (Nat.le_of_eq hg.symm)) hb); have n2_ := Aside0.mk (Kd.R_below (ZR HO472.out) hb); have n3_ := Aside0.mk (Kd.N_below (Kd.N_elderB (ZN HO477.out) gb483 (Nat.le_of_eq hg.symm)) hb); have n4_ := Aside0.mk (Kd.N_below (Kd.N_elderB (ZN HO482.out) gb483 (Nat.le_of_eq hg.symm)) hb); have n5_ := Aside0.mk (blk_below (g := gb460) (o := .cells #[.slice Ao12 t454.length co12] 24 (0, 0)) (Zb BK460.out) hb); have n6_ := Aside0.mk (blk_below (g := gb461) (o := .cells #[.slice Ao15 t457.length co15] 24 (0, 0)) (Zb BK461.out) hb); have n7_ := Aside0.mk (blk_below (g := gb473) (o := .cells #[.int .i64 (wrap64 (t469 * 64)), .slice (some ⟨go37, 0, none⟩) y470.length co56] 31 (0, 0)) (Zb BK473.out) hb); have n8_ := Aside0.mk (blk_below (g := gb479) (o := .cells #[.slice Ao70 t475.length co70] 24 (0, 0)) (Zb BK479.out) hb); have n9_ := Aside0.mk (below_step (Zh4 HB.out GE460.out GE461.out GE473.out GE479.out) hb); have n10_ := Aside0.mk (hbox); have n11_ := Aside0.mk ((by rw [hg]; exact (below_size (Zh4 HB.out GE460.out GE461.out GE473.out GE479.out)) : w.heap.size ≤ gb483)); have n12_ := Aside0.mk ((by rw [hg]; exact (below_size (Zh4 HB.out GE460.out GE461.out GE473.out GE479.out)) : w.heap.size ≤ gb483)); have n13_ := Aside0.mk ((by rw [hg]; exact Nat.ne_of_lt (blk_lt (g := gb460) (o := .cells #[.slice Ao12 t454.length co12] 24 (0, 0)) (Zb BK460.out)) : gb460 ≠ gb483)); have n14_ := Aside0.mk ((by rw [hg]; exact Nat.ne_of_gt (blk_lt (g := gb460) (o := .cells #[.slice Ao12 t454.length co12] 24 (0, 0)) (Zb BK460.out)) : gb483 ≠ gb460)); have n15_ := Aside0.mk ((by rw [hg]; exact Nat.ne_of_lt (blk_lt (g := gb461) (o := .cells #[.slice Ao15 t457.length co15] 24 (0, 0)) (Zb BK461.out)) : gb461 ≠ gb483)); have n16_ := Aside0.mk ((by rw [hg]; exact Nat.ne_of_gt (blk_lt (g := gb461) (o := .cells #[.slice Ao15 t457.length co15] 24 (0, 0)) (Zb BK461.out)) : gb483 ≠ gb461)); have n17_ := Aside0.mk ((by rw [hg]; exact Nat.ne_of_lt (blk_lt (g := gb473) (o := .cells #[.int .i64 (wrap64 (t469 * 64)), .slice (some ⟨go37, 0, none⟩) y470.length co56] 31 (0, 0)) (Zb BK473.out)) : gb473 ≠ gb483)); have n18_ := Aside0.mk ((by rw [hg]; exact Nat.ne_of_gt (blk_lt (g := gb473) (o := .cells #[.int .i64 (wrap64 (t469 * 64)), .slice (some ⟨go37, 0, none⟩) y470.length co56] 31 (0, 0)) (Zb BK473.out)) : gb483 ≠ gb473)); have n19_ := Aside0.mk ((by rw [hg]; exact Nat.ne_of_lt (blk_lt (g := gb479) (o := .cells #[.slice Ao70 t475.length co70] 24 (0, 0)) (Zb BK479.out)) : gb479 ≠ gb483)); have n20_ := Aside0.mk ((by rw [hg]; exact Nat.ne_of_gt (blk_lt (g := gb479) (o := .cells #[.slice Ao70 t475.length co70] 24 (0, 0)) (Zb BK479.out)) : gb483 ≠ gb479)); clear HO_461000; clear HO_462000; clear HO472; clear HO477; clear HO482; clear BK460; clear BK461; clear BK473; clear BK479; clear HB; have HO_461000 := n0_; have HO_462000 := n1_; have HO472 := n2_; have HO477 := n3_; have HO482 := n4_; have BK460 := n5_; have BK461 := n6_; have BK473 := n7_; have BK479 := n8_; have HB := n9_; have BK483 := n10_; have GW483 := n11_; have GE483 := n12_; have NB460_483 := n13_; have NB483_460 := n14_; have NB461_483 := n15_; have NB483_461 := n16_; have NB473_483 := n17_; have NB483_473 := n18_; have NB479_483 := n19_; have NB483_479 := n20_; clear n0_ n1_ n2_ n3_ n4_ n5_ n6_ n7_ n8_ n9_ n10_ n11_ n12_ n13_ n14_ n15_ n16_ n17_ n18_ n19_ n20_; clear hb hbox hg; obtain ⟨Ao77, co77, eo77⟩ := Kd.N_slice HO482.out; subst eo77; have hnb78 := NB483_460.out; have hnc78 := NB460_483.out; have hnb79 := NB483_461.out; have hnc79 := NB461_483.out; have hnb80 := NB483_473.out; have hnc80 := NB473_483.out; have hnb81 := NB483_479.out; have hnc81 := NB479_483.out; have hcz82_0 : w76.cell? ⟨gb483, 0, none⟩ = some (.slice none 0 0) := (blk_cell BK483.out 0).trans rfl; have hfz82_0 := blk_frozen BK483.out 0; have hcz83_0 : w76.cell? ⟨gb479, 0, none⟩ = some (.slice Ao70 t475.length co70) := (blk_cell BK479.out 0).trans rfl; have hfz83_0 := blk_frozen BK479.out 0) | ((with_reducible refine gate_callee (f := 30) rfl ?_); refine goesL_ (some 59) rfl rfl Try.func30 (by kernel_rfl) rfl #[.agg #[.slice Ao70 t475.length co70], .agg #[.slice Ao77 t480.length co77]] rfl Zm ?_; (with_reducible refine (memory_Changed.calls kj6 _ _ t475 _ _ t480 t484 _ ?side1 ?side2 ?side3 ?side4 A40.out).mono ?_); (case side1 => refine (Kd.N_reads' (e := 31) (base := w.heap.size) (ok := fun k_ => ((((some k_ ≠ (.slice Ao12 t454.length co12 : Value).ownBlock ∧ (some k_ ≠ (.slice Ao15 t457.length co15 : Value).ownBlock ∧ (some k_ ≠ (.slice (some ⟨go37, 0, none⟩) y470.length co56 : Value).ownBlock ∧ (k_ ≠ gb460 ∧ (k_ ≠ gb461 ∧ k_ ≠ gb473))))) ∧ k_ ≠ gb479) ∧ some k_ ≠ (.slice Ao77 t480.length co77 : Value).ownBlock) ∧ k_ ≠ gb483)) (n := t475.length) (c := co70) ?_).2.2; exact (by (with_reducible repeat (first | apply Kd.N_alloc | apply Kd.N_drewN | apply Kd.N_drew)); exact (Kd.N_mono (Kd.N_far (p := ⟨gb483, 0, none⟩) (Kd.N_mono HO477.out (fun k_ hk => (⟨hk, hk.2⟩ : _ ∧ k_ ≠ gb483))) (fun _ hk => hk.2) (.slice Ao77 t480.length co77)) (fun _ h_ => h_.1)))); (case side2 => exact (Kd.N_reads' HO477.out).2.1); (case side3 => refine (Kd.N_reads' (e := 31) (base := w.heap.size) (ok := fun k_ => ((some k_ ≠ (.slice Ao12 t454.length co12 : Value).ownBlock ∧ (some k_ ≠ (.slice Ao15 t457.length co15 : Value).ownBlock ∧ (some k_ ≠ (.slice (some ⟨go37, 0, none⟩) y470.length co56 : Value).ownBlock ∧ (some k_ ≠ (.slice Ao70 t475.length co70 : Value).ownBlock ∧ (k_ ≠ gb460 ∧ (k_ ≠ gb461 ∧ (k_ ≠ gb473 ∧ k_ ≠ gb479))))))) ∧ k_ ≠ gb483)) (n := t480.length) (c := co77) ?_).2.2; exact (by (with_reducible repeat (first | apply Kd.N_alloc | apply Kd.N_drewN | apply Kd.N_drew)); exact (Kd.N_mono (Kd.N_far (p := ⟨gb483, 0, none⟩) (Kd.N_mono HO482.out (fun k_ hk => (⟨hk, hk.2⟩ : _ ∧ k_ ≠ gb483))) (fun _ hk => hk.2) (.slice Ao77 t480.length co77)) (fun _ h_ => h_.1)))); (case side4 => exact (Kd.N_reads' HO482.out).2.1); rintro e w84 ⟨v485, rfl, ho0, hb⟩; refine ⟨_, rfl, ?_⟩; have n0_ := Aside0.mk (Kd.N_elder' (by (with_reducible repeat (first | apply Kd.N_alloc | apply Kd.N_drewN | apply Kd.N_drew)); exact (Kd.N_mono (Kd.N_far (p := ⟨gb483, 0, none⟩) (Kd.N_mono HO_461000.out (fun k_ hk => (⟨hk, hk.2⟩ : _ ∧ k_ ≠ gb483))) (fun _ hk => hk.2) (.slice Ao77 t480.length co77)) (fun _ h_ => h_.1))) (by first | exact Kd.R_base ho0 | exact Kd.S_base ho0 | exact Kd.R_base ho0 | exact Kd.N_base ho0) hb); have n1_ := Aside0.mk (Kd.N_elder' (by (with_reducible repeat (first | apply Kd.N_alloc | apply Kd.N_drewN | apply Kd.N_drew)); exact (Kd.N_mono (Kd.N_far (p := ⟨gb483, 0, none⟩) (Kd.N_mono HO_462000.out (fun k_ hk => (⟨hk, hk.2⟩ : _ ∧ k_ ≠ gb483))) (fun _ hk => hk.2) (.slice Ao77 t480.length co77)) (fun _ h_ => h_.1))) (by first | exact Kd.R_base ho0 | exact Kd.S_base ho0 | exact Kd.R_base ho0 | exact Kd.N_base ho0) hb); have n2_ := Aside0.mk (Kd.R_elder' (by (with_reducible repeat (first | apply Kd.R_alloc | apply Kd.R_drewN | apply Kd.R_drew)); exact (Kd.R_mono (Kd.R_far (p := ⟨gb483, 0, none⟩) (Kd.R_types HO472.out BK483.out (by decide)) (fun _ hk => hk.2) (.slice Ao77 t480.length co77)) (fun _ h_ => h_.1))) (by first | exact Kd.R_base ho0 | exact Kd.S_base ho0 | exact Kd.R_base ho0 | exact Kd.N_base ho0) hb); have n3_ := Aside0.mk (Kd.N_elder' (by (with_reducible repeat (first | apply Kd.N_alloc | apply Kd.N_drewN | apply Kd.N_drew)); exact (Kd.N_mono (Kd.N_far (p := ⟨gb483, 0, none⟩) (Kd.N_mono HO477.out (fun k_ hk => (⟨hk, hk.2⟩ : _ ∧ k_ ≠ gb483))) (fun _ hk => hk.2) (.slice Ao77 t480.length co77)) (fun _ h_ => h_.1))) (by first | exact Kd.R_base ho0 | exact Kd.S_base ho0 | exact Kd.R_base ho0 | exact Kd.N_base ho0) hb); have n4_ := Aside0.mk (Kd.N_elder' (by (with_reducible repeat (first | apply Kd.N_alloc | apply Kd.N_drewN | apply Kd.N_drew)); exact (Kd.N_mono (Kd.N_far (p := ⟨gb483, 0, none⟩) (Kd.N_mono HO482.out (fun k_ hk => (⟨hk, hk.2⟩ : _ ∧ k_ ≠ gb483))) (fun _ hk => hk.2) (.slice Ao77 t480.length co77)) (fun _ h_ => h_.1))) (by first | exact Kd.R_base ho0 | exact Kd.S_base ho0 | exact Kd.R_base ho0 | exact Kd.N_base ho0) hb); have n5_ := Aside0.mk (Kd.R_lower (Kd.R_new' ho0 (Kd.R_lt (by (with_reducible repeat (first | apply Kd.R_alloc | apply Kd.R_drewN | apply Kd.R_drew)); exact (Kd.R_mono (Kd.R_far (p := ⟨gb483, 0, none⟩) (Kd.R_types HO472.out BK483.out (by decide)) (fun _ hk => hk.2) (.slice Ao77 t480.length co77)) (fun _ h_ => h_.1))))) (below_size (by repeat (first | (with_reducible first | exact HB.out | apply below_alloc | apply pw_below_drewN | apply below_drew1 | refine below_set ?_ GE460.out | refine below_set ?_ GE461.out | refine below_set ?_ GE473.out | refine below_set ?_ GE479.out | refine below_set ?_ GE483.out) | exact HB.out)))); have n6_ := Aside0.mk (blk_below (g := gb460) (o := .cells #[.slice Ao12 t454.length co12] 24 (0, 0)) (by (with_reducible repeat (first | refine blk_drewN ?_ _ | refine blk_drew ?_ | refine blk_alloc ?_ _)); refine blk_far ?_ NB460_483.out _; (with_reducible repeat (first | refine blk_drewN ?_ _ | refine blk_drew ?_ | refine blk_alloc ?_ _)); exact BK460.out) hb); have n7_ := Aside0.mk (blk_below (g := gb461) (o := .cells #[.slice Ao15 t457.length co15] 24 (0, 0)) (by (with_reducible repeat (first | refine blk_drewN ?_ _ | refine blk_drew ?_ | refine blk_alloc ?_ _)); refine blk_far ?_ NB461_483.out _; (with_reducible repeat (first | refine blk_drewN ?_ _ | refine blk_drew ?_ | refine blk_alloc ?_ _)); exact BK461.out) hb); have n8_ := Aside0.mk (blk_below (g := gb473) (o := .cells #[.int .i64 (wrap64 (t469 * 64)), .slice (some ⟨go37, 0, none⟩) y470.length co56] 31 (0, 0)) (by (with_reducible repeat (first | refine blk_drewN ?_ _ | refine blk_drew ?_ | refine blk_alloc ?_ _)); refine blk_far ?_ NB473_483.out _; (with_reducible repeat (first | refine blk_drewN ?_ _ | refine blk_drew ?_ | refine blk_alloc ?_ _)); exact BK473.out) hb); have n9_ := Aside0.mk (blk_below (g := gb479) (o := .cells #[.slice Ao70 t475.length co70] 24 (0, 0)) (by (with_reducible repeat (first | refine blk_drewN ?_ _ | refine blk_drew ?_ | refine blk_alloc ?_ _)); refine blk_far ?_ NB479_483.out _; (with_reducible repeat (first | refine blk_drewN ?_ _ | refine blk_drew ?_ | refine blk_alloc ?_ _)); exact BK479.out) hb); have n10_ := Aside0.mk (blk_below (g := gb483) (o := .cells #[.slice Ao77 t480.length co77] 24 (0, 0)) (by (with_reducible repeat (first | refine blk_drewN ?_ _ | refine blk_drew ?_ | refine blk_alloc ?_ _)); refine blk_put (cs := #[.slice none 0 0]) ?_ 0 _ rfl; (with_reducible repeat (first | refine blk_drewN ?_ _ | refine blk_drew ?_ | refine blk_alloc ?_ _)); exact BK483.out) hb); have n11_ := Aside0.mk (below_step (by repeat (first | (with_reducible first | exact HB.out | apply below_alloc | apply pw_below_drewN | apply below_drew1 | refine below_set ?_ GE460.out | refine below_set ?_ GE461.out | refine below_set ?_ GE473.out | refine below_set ?_ GE479.out | refine below_set ?_ GE483.out) | exact HB.out)) hb); clear HO_461000; clear HO_462000; clear HO472; clear HO477; clear HO482; clear BK460; clear BK461; clear BK473; clear BK479; clear BK483; clear HB; have HO_461000 := n0_; have HO_462000 := n1_; have HO472 := n2_; have HO477 := n3_; have HO482 := n4_; have HO486 := n5_; have BK460 := n6_; have BK461 := n7_; have BK473 := n8_; have BK479 := n9_; have BK483 := n10_; have HB := n11_; clear n0_ n1_ n2_ n3_ n4_ n5_ n6_ n7_ n8_ n9_ n10_ n11_; (try clear hb); (try clear hb2); (try clear hk); (try clear hi); (try clear ho0)))
             have n0_ := Aside0.mk (Kd.N_drew HO_461000.out)
             have n1_ := Aside0.mk (Kd.N_drew HO_462000.out)
             have n2_ := Aside0.mk (Kd.R_drew HO472.out)
             have n3_ := Aside0.mk (Kd.N_drew HO477.out)
             have n4_ := Aside0.mk (Kd.N_drew HO482.out)
             have n5_ := Aside0.mk (Kd.R_drew HO486.out)
             have n6_ := Aside0.mk (blk_drew BK460.out)
             have n7_ := Aside0.mk (blk_drew BK461.out)
             have n8_ := Aside0.mk (blk_drew BK473.out)
             have n9_ := Aside0.mk (blk_drew BK479.out)
             have n10_ := Aside0.mk (blk_drew BK483.out)
             have n11_ := Aside0.mk (below_drew1 HB.out)
             clear HO_461000
             clear HO_462000
             clear HO472
             clear HO477
             clear HO482
             clear HO486
             clear BK460
             clear BK461
             clear BK473
             clear BK479
             clear BK483
             clear HB
             have HO_461000 := n0_
             have HO_462000 := n1_
             have HO472 := n2_
             have HO477 := n3_
             have HO482 := n4_
             have HO486 := n5_
             have BK460 := n6_
             have BK461 := n7_
             have BK473 := n8_
             have BK479 := n9_
             have BK483 := n10_
             have HB := n11_
             clear n0_ n1_ n2_ n3_ n4_ n5_ n6_ n7_ n8_ n9_ n10_ n11_
             refine start_ (n := 6) (S := fun w' => w'.cell? ⟨gb460, 0, none⟩ = some (.slice Ao12 t454.length co12) ∧ w'.cell? ⟨gb483, 0, none⟩ = some (.slice Ao77 t480.length co77)) (ds := []) #[false, false, false, false, false, false] (by kernel_rfl) rfl rfl ⟨(blk_cell BK460.out 0).trans rfl, (blk_cell BK483.out 0).trans rfl⟩ (fun hHeld => ?_)
             generalize w84.drew = w85 at HO_461000 HO_462000 HO472 HO477 HO482 HO486 BK460 BK461 BK473 BK479 BK483 HB hHeld ⊢
             refine pure_ (i := 1) (N := some 61) (v := ?_) (a' := ?_) #[false, true, false, false, false, false] rfl rfl (by kernel_rfl) (fun _ _ _ h => h) (Or.inl ⟨by rfl, ?_⟩) ?_ ?_
             rotate_left
             ·intro w'
              go_simp
              with_reducible rfl
             rotate_left
             ·simp only [Act.put, List.setIfInBounds_toArray, List.set_cons_zero, List.set_cons_succ, i64_w, i32_w]
              rfl
             refine take_ (i := 0) (N := some 60) (v := ?_) (a' := ?_) #[true, true, false, false, false, false] rfl rfl (by kernel_rfl) (fun _ _ _ h => h) (Or.inl ⟨by rfl, ?_⟩) hHeld ?_ ?_
             rotate_left
             ·rintro w' ⟨s0, s1⟩
              go_simp
              with_reducible rfl
             rotate_left
             ·simp only [Act.put, List.setIfInBounds_toArray, List.set_cons_zero, List.set_cons_succ, i64_w, i32_w]
              rfl
             refine take_ (i := 3) (N := some 63) (v := ?_) (a' := ?_) #[true, true, false, true, false, false] rfl rfl (by kernel_rfl) (fun _ _ _ h => h) (Or.inl ⟨by rfl, ?_⟩) hHeld ?_ ?_
             rotate_left
             ·rintro w' ⟨s0, s1⟩
              go_simp
              with_reducible rfl
             rotate_left
             ·simp only [Act.put, List.setIfInBounds_toArray, List.set_cons_zero, List.set_cons_succ, i64_w, i32_w]
              rfl
             refine one_ (i := 2) (N := some 62) #[true, true, true, true, false, false] rfl rfl (by kernel_rfl) (by decide) (fun K hK => ?_)
             refine goes_ Try.func28 (by kernel_rfl) rfl #[.agg #[.slice Ao12 t454.length co12], .int .i64 (wrap64 (t469 * 64))] (by rfl) rfl rfl Zm ?_
             with_reducible refine (memory_Without.calls kj6 _ _ t454 (wrap64 (t469 * 64)) t487 _ ?side1 ?side2 A41.out).mono ?_
             (case side1 => exact Zc ((Kd.N_reads' HO_461000.out).2.2))
             (case side2 => exact (Kd.N_reads' HO_461000.out).2.1)
             rintro e w86 ⟨v488, rfl, ho0, hb⟩
             refine ⟨_, rfl, ?_⟩
             have n0_ := Aside0.mk (Kd.N_elder' (ZN HO_461000.out) (by first | exact Kd.N_base ho0 | exact Kd.S_base ho0 | exact Kd.R_base ho0 | exact Kd.N_base ho0) hb)
             have n1_ := Aside0.mk (Kd.N_elder' (ZN HO_462000.out) (by first | exact Kd.N_base ho0 | exact Kd.S_base ho0 | exact Kd.R_base ho0 | exact Kd.N_base ho0) hb)
             have n2_ := Aside0.mk (Kd.R_below (ZR HO472.out) hb)
             have n3_ := Aside0.mk (Kd.N_elder' (ZN HO477.out) (by first | exact Kd.N_base ho0 | exact Kd.S_base ho0 | exact Kd.R_base ho0 | exact Kd.N_base ho0) hb)
             have n4_ := Aside0.mk (Kd.N_elder' (ZN HO482.out) (by first | exact Kd.N_base ho0 | exact Kd.S_base ho0 | exact Kd.R_base ho0 | exact Kd.N_base ho0) hb)
             have n5_ := Aside0.mk (Kd.R_below (ZR HO486.out) hb)
             have n6_ := Aside0.mk (Kd.N_lower (Kd.N_mono (ok' := fun k_ => some k_ ≠ (.slice Ao12 t454.length co12 : Value).ownBlock ∧ some k_ ≠ (.slice Ao15 t457.length co15 : Value).ownBlock ∧ some k_ ≠ (.slice (some ⟨go37, 0, none⟩) y470.length co56 : Value).ownBlock ∧ some k_ ≠ (.slice Ao70 t475.length co70 : Value).ownBlock ∧ some k_ ≠ (.slice Ao77 t480.length co77 : Value).ownBlock ∧ some k_ ≠ (v485 : Value).ownBlock ∧ k_ ≠ gb460 ∧ k_ ≠ gb461 ∧ k_ ≠ gb473 ∧ k_ ≠ gb479 ∧ k_ ≠ gb483) (Kd.S_N (Kd.S_bound ho0)) (fun k_ hk_ => ⟨(Kd.fresh' (Kd.N_lt (ZN HO_461000.out)) k_ hk_.2.1), (Kd.fresh' (Kd.N_lt (ZN HO_462000.out)) k_ hk_.2.1), (Kd.fresh' (Kd.R_lt (ZR HO472.out)) k_ hk_.2.1), (Kd.fresh' (Kd.N_lt (ZN HO477.out)) k_ hk_.2.1), (Kd.fresh' (Kd.N_lt (ZN HO482.out)) k_ hk_.2.1), (Kd.fresh' (Kd.R_lt (ZR HO486.out)) k_ hk_.2.1), (Kd.freshB (g := gb460) (o := .cells #[.slice Ao12 t454.length co12] 24 (0, 0)) (Zb BK460.out) k_ hk_.2.1), (Kd.freshB (g := gb461) (o := .cells #[.slice Ao15 t457.length co15] 24 (0, 0)) (Zb BK461.out) k_ hk_.2.1), (Kd.freshB (g := gb473) (o := .cells #[.int .i64 (wrap64 (t469 * 64)), .slice (some ⟨go37, 0, none⟩) y470.length co56] 31 (0, 0)) (Zb BK473.out) k_ hk_.2.1), (Kd.freshB (g := gb479) (o := .cells #[.slice Ao70 t475.length co70] 24 (0, 0)) (Zb BK479.out) k_ hk_.2.1), (Kd.freshB (g := gb483) (o := .cells #[.slice Ao77 t480.length co77] 24 (0, 0)) (Zb BK483.out) k_ hk_.2.1)⟩)) (below_size (by repeat (first | (with_reducible first | exact HB.out | apply below_alloc | apply pw_below_drewN | apply below_drew1 | refine below_set ?_ GE460.out | refine below_set ?_ GE461.out | refine below_set ?_ GE473.out | refine below_set ?_ GE479.out | refine below_set ?_ GE483.out) | exact HB.out))))
             have n7_ := Aside0.mk (blk_below (g := gb460) (o := .cells #[.slice Ao12 t454.length co12] 24 (0, 0)) (Zb BK460.out) hb)
             have n8_ := Aside0.mk (blk_below (g := gb461) (o := .cells #[.slice Ao15 t457.length co15] 24 (0, 0)) (Zb BK461.out) hb)
             have n9_ := Aside0.mk (blk_below (g := gb473) (o := .cells #[.int .i64 (wrap64 (t469 * 64)), .slice (some ⟨go37, 0, none⟩) y470.length co56] 31 (0, 0)) (Zb BK473.out) hb)
             have n10_ := Aside0.mk (blk_below (g := gb479) (o := .cells #[.slice Ao70 t475.length co70] 24 (0, 0)) (Zb BK479.out) hb)
             have n11_ := Aside0.mk (blk_below (g := gb483) (o := .cells #[.slice Ao77 t480.length co77] 24 (0, 0)) (Zb BK483.out) hb)
             have n12_ := Aside0.mk (below_step (by repeat (first | (with_reducible first | exact HB.out | apply below_alloc | apply pw_below_drewN | apply below_drew1 | refine below_set ?_ GE460.out | refine below_set ?_ GE461.out | refine below_set ?_ GE473.out | refine below_set ?_ GE479.out | refine below_set ?_ GE483.out) | exact HB.out)) hb)
             clear HO_461000
             clear HO_462000
             clear HO472
             clear HO477
             clear HO482
             clear HO486
             clear BK460
             clear BK461
             clear BK473
             clear BK479
             clear BK483
             clear HB
             have HO_461000 := n0_
             have HO_462000 := n1_
             have HO472 := n2_
             have HO477 := n3_
             have HO482 := n4_
             have HO486 := n5_
             have HO489 := n6_
             have BK460 := n7_
             have BK461 := n8_
             have BK473 := n9_
             have BK479 := n10_
             have BK483 := n11_
             have HB := n12_
             clear n0_ n1_ n2_ n3_ n4_ n5_ n6_ n7_ n8_ n9_ n10_ n11_ n12_
             (try clear hb)
             (try clear hb2)
             (try clear hk)
             (try clear hi)
             (try clear ho0)
             obtain ⟨Ao87, co87, eo87⟩ := Kd.N_slice HO489.out
             (first | subst eo87 | (injection eo87 with f1_ f2_ f3_; have f4_ := f1_.symm; have f5_ := f3_.symm; clear f1_ f2_ f3_; subst f4_; subst f5_))
             refine hK.out _ _ ⟨(blk_cell BK460.out 0).trans rfl, (blk_cell BK483.out 0).trans rfl⟩ (fun hHeld => ?_)
             clear hK K
             refine norm_ (a' := ?_) ?_ ?_
             rotate_left
             ·show Act.put _ (some 62) _ = _
              simp only [Act.put, List.setIfInBounds_toArray, List.set_cons_zero, List.set_cons_succ, i64_w, i32_w]
              rfl
             refine one_ (i := 4) (N := some 64) #[true, true, true, true, true, false] rfl rfl (by kernel_rfl) (by decide) (fun K hK => ?_)
             refine goes_ Try.func30 (by kernel_rfl) rfl #[.agg #[.slice Ao87 t487.length co87], .agg #[.slice Ao77 t480.length co77]] (by rfl) rfl rfl Zm ?_
             with_reducible refine (memory_Changed.calls kj6 _ _ t487 _ _ t480 t490 _ ?side1 ?side2 ?side3 ?side4 A42.out).mono ?_
             (case side1 => exact Zc ((Kd.N_reads' HO489.out).2.2))
             (case side2 => exact (Kd.N_reads' HO489.out).2.1)
             (case side3 => exact Zc ((Kd.N_reads' HO482.out).2.2))
             (case side4 => exact (Kd.N_reads' HO482.out).2.1)
             rintro e w88 ⟨v491, rfl, ho0, hb⟩
             refine ⟨_, rfl, ?_⟩
             have n0_ := Aside0.mk (Kd.N_elder' (ZN HO_461000.out) (by first | exact Kd.R_base ho0 | exact Kd.S_base ho0 | exact Kd.R_base ho0 | exact Kd.N_base ho0) hb)
             have n1_ := Aside0.mk (Kd.N_elder' (ZN HO_462000.out) (by first | exact Kd.R_base ho0 | exact Kd.S_base ho0 | exact Kd.R_base ho0 | exact Kd.N_base ho0) hb)
             have n2_ := Aside0.mk (Kd.R_elder' (ZR HO472.out) (by first | exact Kd.R_base ho0 | exact Kd.S_base ho0 | exact Kd.R_base ho0 | exact Kd.N_base ho0) hb)
             have n3_ := Aside0.mk (Kd.N_elder' (ZN HO477.out) (by first | exact Kd.R_base ho0 | exact Kd.S_base ho0 | exact Kd.R_base ho0 | exact Kd.N_base ho0) hb)
             have n4_ := Aside0.mk (Kd.N_elder' (ZN HO482.out) (by first | exact Kd.R_base ho0 | exact Kd.S_base ho0 | exact Kd.R_base ho0 | exact Kd.N_base ho0) hb)
             have n5_ := Aside0.mk (Kd.R_elder' (ZR HO486.out) (by first | exact Kd.R_base ho0 | exact Kd.S_base ho0 | exact Kd.R_base ho0 | exact Kd.N_base ho0) hb)
             have n6_ := Aside0.mk (Kd.N_elder' (ZN HO489.out) (by first | exact Kd.R_base ho0 | exact Kd.S_base ho0 | exact Kd.R_base ho0 | exact Kd.N_base ho0) hb)
             have n7_ := Aside0.mk (Kd.R_lower (Kd.R_new' (Kd.R_new' ho0 (Kd.R_lt (ZR HO472.out))) (Kd.R_lt (ZR HO486.out))) (below_size (by repeat (first | (with_reducible first | exact HB.out | apply below_alloc | apply pw_below_drewN | apply below_drew1 | refine below_set ?_ GE460.out | refine below_set ?_ GE461.out | refine below_set ?_ GE473.out | refine below_set ?_ GE479.out | refine below_set ?_ GE483.out) | exact HB.out))))
             have n8_ := Aside0.mk (blk_below (g := gb460) (o := .cells #[.slice Ao12 t454.length co12] 24 (0, 0)) (Zb BK460.out) hb)
             have n9_ := Aside0.mk (blk_below (g := gb461) (o := .cells #[.slice Ao15 t457.length co15] 24 (0, 0)) (Zb BK461.out) hb)
             have n10_ := Aside0.mk (blk_below (g := gb473) (o := .cells #[.int .i64 (wrap64 (t469 * 64)), .slice (some ⟨go37, 0, none⟩) y470.length co56] 31 (0, 0)) (Zb BK473.out) hb)
             have n11_ := Aside0.mk (blk_below (g := gb479) (o := .cells #[.slice Ao70 t475.length co70] 24 (0, 0)) (Zb BK479.out) hb)
             have n12_ := Aside0.mk (blk_below (g := gb483) (o := .cells #[.slice Ao77 t480.length co77] 24 (0, 0)) (Zb BK483.out) hb)
             have n13_ := Aside0.mk (below_step (by repeat (first | (with_reducible first | exact HB.out | apply below_alloc | apply pw_below_drewN | apply below_drew1 | refine below_set ?_ GE460.out | refine below_set ?_ GE461.out | refine below_set ?_ GE473.out | refine below_set ?_ GE479.out | refine below_set ?_ GE483.out) | exact HB.out)) hb)
             clear HO_461000
             clear HO_462000
             clear HO472
             clear HO477
             clear HO482
             clear HO486
             clear HO489
             clear BK460
             clear BK461
             clear BK473
             clear BK479
             clear BK483
             clear HB
             have HO_461000 := n0_
             have HO_462000 := n1_
             have HO472 := n2_
             have HO477 := n3_
             have HO482 := n4_
             have HO486 := n5_
             have HO489 := n6_
             have HO492 := n7_
             have BK460 := n8_
             have BK461 := n9_
             have BK473 := n10_
             have BK479 := n11_
             have BK483 := n12_
             have HB := n13_
             clear n0_ n1_ n2_ n3_ n4_ n5_ n6_ n7_ n8_ n9_ n10_ n11_ n12_ n13_
             (try clear hb)
             (try clear hb2)
             (try clear hk)
             (try clear hi)
             (try clear ho0)
             refine hK.out _ _ ⟨(blk_cell BK460.out 0).trans rfl, (blk_cell BK483.out 0).trans rfl⟩ (fun hHeld => ?_)
             clear hK K
             refine norm_ (a' := ?_) ?_ ?_
             rotate_left
             ·show Act.put _ (some 64) _ = _
              simp only [Act.put, List.setIfInBounds_toArray, List.set_cons_zero, List.set_cons_succ, i64_w, i32_w]
              rfl
             refine pure_ (i := 5) (N := some 17) (v := ?_) (a' := ?_) #[true, true, true, true, true, true] rfl rfl (by kernel_rfl) (fun _ _ _ h => h) (Or.inl ⟨by rfl, ?_⟩) ?_ ?_
             rotate_left
             ·intro w'
              go_simp
              with_reducible rfl
             rotate_left
             ·simp only [Act.put, List.setIfInBounds_toArray, List.set_cons_zero, List.set_cons_succ, i64_w, i32_w]
              rfl
             refine done_ (by kernel_rfl) ?_
             obtain ⟨Ao89, co89, eo89⟩ := Kd.R_slice HO486.out
             subst eo89
             have p493 : 0 ≤ (0 : Int) := (by omega)
             have q493 : 0 < (t484.length : Int) := of_decide_eq_true Za
             obtain ⟨ad493, e493, hx493_0⟩ := Kd.at_int (Kd.R_reads' HO486.out).2.2 0 p493 q493
             cases e493
             have qi493 : (0 < t484.length) = True := eq_true (by omega)
             (try rw [show ((0 : Int)).toNat = 0 from rfl] at hx493_0)
             (try rw [Addr.add_zero'] at hx493_0)
             replace p493 := eq_true p493
             replace q493 := eq_true q493
             obtain ⟨Ao90, co90, eo90⟩ := Kd.R_slice HO492.out
             subst eo90
             have hcz91_0 : w88.cell? ⟨gb479, 0, none⟩ = some (.slice Ao70 t475.length co70) := (blk_cell BK479.out 0).trans rfl
             have hfz91_0 := blk_frozen BK479.out 0
             try go_wp2_with (first | (go_at_call 14; (with_reducible refine (memory_Right.calls kj6 _ _ t475 true _ ?side1 ?side2 A48.out).mono ?_); (case side1 => exact Zc ((Kd.N_reads' HO477.out).2.2)); (case side2 => exact (Kd.N_reads' HO477.out).2.1); rintro e w92 ⟨rfl, hb⟩; have n0_ := Aside0.mk (Kd.N_below (ZN HO_461000.out) hb); have n1_ := Aside0.mk (Kd.N_below (ZN HO_462000.out) hb); have n2_ := Aside0.mk (Kd.R_below (ZR HO472.out) hb); have n3_ := Aside0.mk (Kd.N_below (ZN HO477.out) hb); have n4_ := Aside0.mk (Kd.N_below (ZN HO482.out) hb); have n5_ := Aside0.mk (Kd.R_below (ZR HO486.out) hb); have n6_ := Aside0.mk (Kd.N_below (ZN HO489.out) hb); have n7_ := Aside0.mk (Kd.R_below (ZR HO492.out) hb); have n8_ := Aside0.mk (blk_below (g := gb460) (o := .cells #[.slice Ao12 t454.length co12] 24 (0, 0)) (Zb BK460.out) hb); have n9_ := Aside0.mk (blk_below (g := gb461) (o := .cells #[.slice Ao15 t457.length co15] 24 (0, 0)) (Zb BK461.out) hb); have n10_ := Aside0.mk (blk_below (g := gb473) (o := .cells #[.int .i64 (wrap64 (t469 * 64)), .slice (some ⟨go37, 0, none⟩) y470.length co56] 31 (0, 0)) (Zb BK473.out) hb); have n11_ := Aside0.mk (blk_below (g := gb479) (o := .cells #[.slice Ao70 t475.length co70] 24 (0, 0)) (Zb BK479.out) hb); have n12_ := Aside0.mk (blk_below (g := gb483) (o := .cells #[.slice Ao77 t480.length co77] 24 (0, 0)) (Zb BK483.out) hb); have n13_ := Aside0.mk (below_step (by repeat (first | (with_reducible first | exact HB.out | apply below_alloc | apply pw_below_drewN | apply below_drew1 | refine below_set ?_ GE460.out | refine below_set ?_ GE461.out | refine below_set ?_ GE473.out | refine below_set ?_ GE479.out | refine below_set ?_ GE483.out) | exact HB.out)) hb); clear HO_461000; clear HO_462000; clear HO472; clear HO477; clear HO482; clear HO486; clear HO489; clear HO492; clear BK460; clear BK461; clear BK473; clear BK479; clear BK483; clear HB; have HO_461000 := n0_; have HO_462000 := n1_; have HO472 := n2_; have HO477 := n3_; have HO482 := n4_; have HO486 := n5_; have HO489 := n6_; have HO492 := n7_; have BK460 := n8_; have BK461 := n9_; have BK473 := n10_; have BK479 := n11_; have BK483 := n12_; have HB := n13_; clear n0_ n1_ n2_ n3_ n4_ n5_ n6_ n7_ n8_ n9_ n10_ n11_ n12_ n13_; (try clear hb); (try clear hb2); (try clear hk); (try clear hi); have hcz93_0 : w92.cell? ⟨gb483, 0, none⟩ = some (.slice Ao77 t480.length co77) := (blk_cell BK483.out 0).trans rfl; have hfz93_0 := blk_frozen BK483.out 0) | (go_at_call 14; (with_reducible refine (memory_Right.calls kj6 _ _ t480 true _ ?side1 ?side2 A50.out).mono ?_); (case side1 => exact Zc ((Kd.N_reads' HO482.out).2.2)); (case side2 => exact (Kd.N_reads' HO482.out).2.1); rintro e w94 ⟨rfl, hb⟩; have n0_ := Aside0.mk (Kd.N_below (ZN HO_461000.out) hb); have n1_ := Aside0.mk (Kd.N_below (ZN HO_462000.out) hb); have n2_ := Aside0.mk (Kd.R_below (ZR HO472.out) hb); have n3_ := Aside0.mk (Kd.N_below (ZN HO477.out) hb); have n4_ := Aside0.mk (Kd.N_below (ZN HO482.out) hb); have n5_ := Aside0.mk (Kd.R_below (ZR HO486.out) hb); have n6_ := Aside0.mk (Kd.N_below (ZN HO489.out) hb); have n7_ := Aside0.mk (Kd.R_below (ZR HO492.out) hb); have n8_ := Aside0.mk (blk_below (g := gb460) (o := .cells #[.slice Ao12 t454.length co12] 24 (0, 0)) (Zb BK460.out) hb); have n9_ := Aside0.mk (blk_below (g := gb461) (o := .cells #[.slice Ao15 t457.length co15] 24 (0, 0)) (Zb BK461.out) hb); have n10_ := Aside0.mk (blk_below (g := gb473) (o := .cells #[.int .i64 (wrap64 (t469 * 64)), .slice (some ⟨go37, 0, none⟩) y470.length co56] 31 (0, 0)) (Zb BK473.out) hb); have n11_ := Aside0.mk (blk_below (g := gb479) (o := .cells #[.slice Ao70 t475.length co70] 24 (0, 0)) (Zb BK479.out) hb); have n12_ := Aside0.mk (blk_below (g := gb483) (o := .cells #[.slice Ao77 t480.length co77] 24 (0, 0)) (Zb BK483.out) hb); have n13_ := Aside0.mk (below_step (by repeat (first | (with_reducible first | exact HB.out | apply below_alloc | apply pw_below_drewN | apply below_drew1 | refine below_set ?_ GE460.out | refine below_set ?_ GE461.out | refine below_set ?_ GE473.out | refine below_set ?_ GE479.out | refine below_set ?_ GE483.out) | exact HB.out)) hb); clear HO_461000; clear HO_462000; clear HO472; clear HO477; clear HO482; clear HO486; clear HO489; clear HO492; clear BK460; clear BK461; clear BK473; clear BK479; clear BK483; clear HB; have HO_461000 := n0_; have HO_462000 := n1_; have HO472 := n2_; have HO477 := n3_; have HO482 := n4_; have HO486 := n5_; have HO489 := n6_; have HO492 := n7_; have BK460 := n8_; have BK461 := n9_; have BK473 := n10_; have BK479 := n11_; have BK483 := n12_; have HB := n13_; clear n0_ n1_ n2_ n3_ n4_ n5_ n6_ n7_ n8_ n9_ n10_ n11_ n12_ n13_; (try clear hb); (try clear hb2); (try clear hk); (try clear hi)) | (go_at_call 11; (with_reducible refine (debuggerlaw25_awake.calls kj6  t496 _ A52.out).mono ?_); rintro e w95 ⟨rfl, hb⟩; have n0_ := Aside0.mk (Kd.N_below (ZN HO_461000.out) hb); have n1_ := Aside0.mk (Kd.N_below (ZN HO_462000.out) hb); have n2_ := Aside0.mk (Kd.R_below (ZR HO472.out) hb); have n3_ := Aside0.mk (Kd.N_below (ZN HO477.out) hb); have n4_ := Aside0.mk (Kd.N_below (ZN HO482.out) hb); have n5_ := Aside0.mk (Kd.R_below (ZR HO486.out) hb); have n6_ := Aside0.mk (Kd.N_below (ZN HO489.out) hb); have n7_ := Aside0.mk (Kd.R_below (ZR HO492.out) hb); have n8_ := Aside0.mk (blk_below (g := gb460) (o := .cells #[.slice Ao12 t454.length co12] 24 (0, 0)) (Zb BK460.out) hb); have n9_ := Aside0.mk (blk_below (g := gb461) (o := .cells #[.slice Ao15 t457.length co15] 24 (0, 0)) (Zb BK461.out) hb); have n10_ := Aside0.mk (blk_below (g := gb473) (o := .cells #[.int .i64 (wrap64 (t469 * 64)), .slice (some ⟨go37, 0, none⟩) y470.length co56] 31 (0, 0)) (Zb BK473.out) hb); have n11_ := Aside0.mk (blk_below (g := gb479) (o := .cells #[.slice Ao70 t475.length co70] 24 (0, 0)) (Zb BK479.out) hb); have n12_ := Aside0.mk (blk_below (g := gb483) (o := .cells #[.slice Ao77 t480.length co77] 24 (0, 0)) (Zb BK483.out) hb); have n13_ := Aside0.mk (below_step (by repeat (first | (with_reducible first | exact HB.out | apply below_alloc | apply pw_below_drewN | apply below_drew1 | refine below_set ?_ GE460.out | refine below_set ?_ GE461.out | refine below_set ?_ GE473.out | refine below_set ?_ GE479.out | refine below_set ?_ GE483.out) | exact HB.out)) hb); clear HO_461000; clear HO_462000; clear HO472; clear HO477; clear HO482; clear HO486; clear HO489; clear HO492; clear BK460; clear BK461; clear BK473; clear BK479; clear BK483; clear HB; have HO_461000 := n0_; have HO_462000 := n1_; have HO472 := n2_; have HO477 := n3_; have HO482 := n4_; have HO486 := n5_; have HO489 := n6_; have HO492 := n7_; have BK460 := n8_; have BK461 := n9_; have BK473 := n10_; have BK479 := n11_; have BK483 := n12_; have HB := n13_; clear n0_ n1_ n2_ n3_ n4_ n5_ n6_ n7_ n8_ n9_ n10_ n11_ n12_ n13_; (try clear hb); (try clear hb2); (try clear hk); (try clear hi)))
             go_ret
             exact ⟨by first | rfl | (simp [errW_none, errW_some] <;> rfl) | (simp [*, errW_none, errW_some] <;> rfl), by repeat (first | (with_reducible first | exact HB.out | apply below_alloc | apply pw_below_drewN | apply below_drew1 | refine below_set ?_ GE460.out | refine below_set ?_ GE461.out | refine below_set ?_ GE473.out | refine below_set ?_ GE479.out | refine below_set ?_ GE483.out) | exact HB.out)⟩
            ·replace c51 := Bool.eq_false_iff.mpr c51
             subst c51
             have H1 : (some false) = some r := by rw [if_neg (show ¬ (false = true) by decide)] at H; exact H
             clear H
             have H := H1
             clear H1
             exact absurd (Option.some.inj (H.trans (congrArg some HT0.out))) (by simp)
           ·replace c49 := Bool.eq_false_iff.mpr c49
            subst c49
            have H1 : (some false) = some r := by rw [if_neg (show ¬ (false = true) by decide)] at H; exact H
            clear H
            have H := H1
            clear H1
            exact absurd (Option.some.inj (H.trans (congrArg some HT0.out))) (by simp)
          ·rw [if_neg c47] at H
           have c47b0 : ((t490.length : Int) == 0) = false := beq_eq_false_iff_ne.mpr c47
           have c47b1 : ((t490.length : Int) != 0) = true := bne_iff_ne.mpr c47
           have c47b2 : ¬ (t490 = []) := fun h_ => c47 (by rw [h_]; rfl)
           exact absurd (Option.some.inj (H.trans (congrArg some HT0.out))) (by simp)
         ·rw [if_neg c46] at H
          have c46b0 : ((rd t484 0) == (wrap64 (t469 * 64))) = false := beq_eq_false_iff_ne.mpr c46
          have c46b1 : ((rd t484 0) != (wrap64 (t469 * 64))) = true := bne_iff_ne.mpr c46
          exact absurd (Option.some.inj (H.trans (congrArg some HT0.out))) (by simp)
        ·rw [if_neg c45] at H
         exact absurd H (by simp)
       ·rw [if_neg c44] at H
        have c44b0 : ((t484.length : Int) == 1) = false := beq_eq_false_iff_ne.mpr c44
        have c44b1 : ((t484.length : Int) != 1) = true := bne_iff_ne.mpr c44
        exact absurd (Option.some.inj (H.trans (congrArg some HT0.out))) (by simp)
      ·rw [if_neg c43] at H
       have c43b0 : (t478 == 0) = false := beq_eq_false_iff_ne.mpr c43
       have c43b1 : (t478 != 0) = true := bne_iff_ne.mpr c43
       exact absurd (Option.some.inj (H.trans (congrArg some HT0.out))) (by simp)
     ·rw [if_neg c36] at H
      exact absurd H (by simp)
    ·rw [if_neg c35] at H
     exact absurd H (by simp)

/-- THE ONE PURE STATEMENT of debuggerlaw25_MemoryDiffers: yours. -/
def debuggerlaw25_MemoryDiffers.Pure : Prop := ∀ (l0 : List Int) (l1 : List Int) (a2 : Int) (a3 : Int), l0.length ≤ maxLen → l0.length * 8 ≤ 140737488351232 → (∀ x ∈ l0, (Lit.int .i64 x).wf = true) → l1.length ≤ maxLen → l1.length * 8 ≤ 140737488351232 → (∀ x ∈ l1, (Lit.int .i64 x).wf = true) → (Lit.int .i64 a2).wf = true → (Lit.int .i64 a3).wf = true → ∃ k, debuggerlaw25_MemoryDiffers.f k l0 l1 a2 a3 = some true
theorem debuggerlaw25_MemoryDiffers.walk (P : debuggerlaw25_MemoryDiffers.Pure) (a0 : Option Addr) (len0 cap0 : Nat) (z0 : List Int) (a1 : Option Addr) (len1 cap1 : Nat) (z1 : List Int) (a2 : Int) (a3 : Int) (w : World) (w0 : (a0 = none ∧ len0 = 0 ∧ cap0 = 0 ∧ z0 = []) ∨ ∃ x, a0 = some x ∧ len0 ≤ cap0 ∧ cap0 ≤ maxLen ∧ z0.length = cap0 ∧ (∀ i, i < z0.length → w.cell? (x.add i) = some (.int .i64 (z0.getD i 0))) ∧ ∀ n ∈ z0, (Lit.int .i64 n).wf = true) (y0 : len0 * 8 ≤ 140737488351232) (w1 : (a1 = none ∧ len1 = 0 ∧ cap1 = 0 ∧ z1 = []) ∨ ∃ x, a1 = some x ∧ len1 ≤ cap1 ∧ cap1 ≤ maxLen ∧ z1.length = cap1 ∧ (∀ i, i < z1.length → w.cell? (x.add i) = some (.int .i64 (z1.getD i 0))) ∧ ∀ n ∈ z1, (Lit.int .i64 n).wf = true) (y1 : len1 * 8 ≤ 140737488351232) (w2 : (Lit.int .i64 a2).wf = true) (w3 : (Lit.int .i64 a3).wf = true) :
  Calls Try.prog 9 #[.slice a0 len0 cap0, .slice a1 len1 cap1, .int .i64 a2, .int .i64 a3] w fun e w' => e = .returned (.bool true) ∧ Below w.heap.size w w' := by
 obtain ⟨l0, rfl, hr0, hm0, hw0, hc0⟩ := ReadsInt.ofRowC w0
 obtain ⟨l1, rfl, hr1, hm1, hw1, hc1⟩ := ReadsInt.ofRowC w1
 obtain ⟨k, h⟩ := P l0 l1 a2 a3 hm0 y0 hw0 hm1 y1 hw1 w2 w3
 refine (debuggerlaw25_MemoryDiffers.calls k _ _ l0 _ _ l1 a2 a3 true w (Kd.C_of_reads (d := (0 : Int)) (h1 := fun _ => rfl) hr0) hc0 (Kd.C_of_reads (d := (0 : Int)) (h1 := fun _ => rfl) hr1) hc1 rfl h).mono ?_
 rintro e w' ⟨rfl, hd⟩
 exact ⟨rfl, hd⟩

end Go.Proofs.Ytpifepaflljolaa.PMem
