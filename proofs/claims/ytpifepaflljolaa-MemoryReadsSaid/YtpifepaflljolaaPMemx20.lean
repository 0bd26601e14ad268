-- By wip/xprint.py (a driver of this session's over the kit's print), for this claim.
import Derived.Test.YtpifepaflljolaaPMemx0
import Derived.Test.YtpifepaflljolaaPMemx7
import Derived.Test.YtpifepaflljolaaPMemx8
import Derived.Test.YtpifepaflljolaaPMemx9
import Derived.Test.YtpifepaflljolaaPMemx14
import Derived.Test.YtpifepaflljolaaPMemx19
namespace Go.Proofs.Ytpifepaflljolaa.PMem
open Go.RowKit Go.Proofs.YtpifepaflljolaaW.PrintWords Go.Proofs.YtpifepaflljolaaW.PrintLast Go.Proofs.YtpifepaflljolaaW.PrintMore
attribute [local go_sem] max2_int min2_int max_two min_two max_three min_three max_four min_four   -- for this text's walks alone
set_option linter.unusedVariables false
set_option linter.unusedSimpArgs false

/-! ### debuggerlaw25_MemoryReads: function 5 -/
def debuggerlaw25_MemoryReads.l0 : Nat → Int → Int → List Int → Int → Int → List (S31) → Option (Bool)
 | 0, _, _, _, _, _, _ => none
 | k + 1, x1, x2, x8, x9, x10, x272000 => if x10 < (x8.length : Int) then ((memory_Word.f x272000 (wrap64 (x1 + x10))).bind fun bt278 => (if bt278.2 = true then (if 0 ≤ x10 then (if bt278.1 = (rd x8 x10) then (debuggerlaw25_MemoryReads.l0 k x1 x2 x8 x9 (wrap64 (x10 + 1)) x272000) else (some false)) else (none)) else (some false))) else ((memory_Word.f x272000 (wrap64 (x1 + (x8.length : Int)))).bind fun bt281 => (if x9 = (-1) then (if (x8.length : Int) = x2 then ((debuggerlaw25_awake.f k).bind fun t283 => (some t283)) else (if x9 = (wrap64 (x1 + (x8.length : Int))) then (if (x8.length : Int) < x2 then (if bt281.2 = true then (some false) else ((debuggerlaw25_awake.f k).bind fun t284 => (some t284))) else (some false)) else (some false))) else (if x9 = (wrap64 (x1 + (x8.length : Int))) then (if (x8.length : Int) < x2 then (if bt281.2 = true then (some false) else ((debuggerlaw25_awake.f k).bind fun t285 => (some t285))) else (some false)) else (some false))))
def debuggerlaw25_MemoryReads.f (k : Nat) (l0 : List Int) (a1 : Int) (a2 : Int) : Option (Bool) := (debuggerlaw25_some.f k l0).bind fun t268 => ((debuggerkit_Mod.f a1 768).bind fun t272 => ((debuggerkit_Mod.f a2 129).bind fun t273 => ((memory_Read.f k t268 t272 t273).bind fun bt274 => (debuggerlaw25_MemoryReads.l0 k t272 t273 bt274.1 bt274.2 0 t268))))
theorem debuggerlaw25_MemoryReads.mono_l : ∀ k, (∀ y0 y1 y2 y3 y4 y5, LeO (debuggerlaw25_MemoryReads.l0 k y0 y1 y2 y3 y4 y5) (debuggerlaw25_MemoryReads.l0 (k + 1) y0 y1 y2 y3 y4 y5))
 | 0 => fun _ _ _ _ _ _ r h => by simp [debuggerlaw25_MemoryReads.l0] at h
 | k + 1 => by
  have ih0 := debuggerlaw25_MemoryReads.mono_l k
  ·intro y0 y1 y2 y3 y4 y5
   unfold debuggerlaw25_MemoryReads.l0
   repeat' first
   | (with_reducible exact ih0 _ _ _ _ _ _)
   | (with_reducible exact debuggerlaw25_awake.mono _)
   | (with_reducible exact debuggerlaw25_some.mono _ _)
   | (with_reducible exact memory_Read.mono _ _ _ _)
   | (with_reducible exact LeO.refl _)
   | (with_reducible exact LeO.none _)
   | (with_reducible refine LeO.ite ?_ ?_)
   | (with_reducible refine LeO.bind ?_ (fun _ => ?_))
   | exact ih0 _ _ _ _ _ _
   | exact debuggerlaw25_awake.mono _
   | exact debuggerlaw25_some.mono _ _
   | exact memory_Read.mono _ _ _ _
   | exact LeO.none _
   | refine LeO.ite ?_ ?_
   | refine LeO.bind ?_ (fun _ => ?_)
theorem debuggerlaw25_MemoryReads.mono : ∀ a0 a1 a2 k, LeO (debuggerlaw25_MemoryReads.f k a0 a1 a2) (debuggerlaw25_MemoryReads.f (k + 1) a0 a1 a2) := by
 intro a0 a1 a2 k
 have ih0 := debuggerlaw25_MemoryReads.mono_l k
 unfold debuggerlaw25_MemoryReads.f
 repeat' first
   | (with_reducible exact ih0 _ _ _ _ _ _)
   | (with_reducible exact debuggerlaw25_awake.mono _)
   | (with_reducible exact debuggerlaw25_some.mono _ _)
   | (with_reducible exact memory_Read.mono _ _ _ _)
   | (with_reducible exact LeO.refl _)
   | (with_reducible exact LeO.none _)
   | (with_reducible refine LeO.ite ?_ ?_)
   | (with_reducible refine LeO.bind ?_ (fun _ => ?_))
   | exact ih0 _ _ _ _ _ _
   | exact debuggerlaw25_awake.mono _
   | exact debuggerlaw25_some.mono _ _
   | exact memory_Read.mono _ _ _ _
   | exact LeO.none _
   | refine LeO.ite ?_ ?_
   | refine LeO.bind ?_ (fun _ => ?_)
set_option maxHeartbeats 8000000 in
set_option maxRecDepth 100000 in
theorem debuggerlaw25_MemoryReads.calls (k : Nat) (A0 : Option Addr) (c0 : Nat) (l0 : List Int) (a1 : Int) (a2 : Int) (r : Bool) (w : World) (hr0 : Kd.C (Kd.int .i64) w A0 l0.length l0) (hc0 : l0.length ≤ c0) (h : debuggerlaw25_MemoryReads.f k l0 a1 a2 = some r) :
  Calls Try.prog 5 #[.slice A0 l0.length c0, .int .i64 a1, .int .i64 a2] w fun e w' => e = .returned (.bool r) ∧ Below w.heap.size w w' := by
 have hu24 := Try.underlying24
 have HR0 := Aside0.mk hr0
 have HC0 := Aside0.mk hc0
 clear hr0 hc0
 have HB := Aside0.mk (Below.refl w.heap.size w)
 have H : ((debuggerlaw25_some.f k l0).bind fun t268 => ((debuggerkit_Mod.f a1 768).bind fun t272 => ((debuggerkit_Mod.f a2 129).bind fun t273 => ((memory_Read.f k t268 t272 t273).bind fun bt274 => (debuggerlaw25_MemoryReads.l0 k t272 t273 bt274.1 bt274.2 0 t268))))) = some r := h
 clear h
 replace H := Option.bind_eq_some_iff.mp H
 obtain ⟨t268, A40, H⟩ := H
 replace H : ((debuggerkit_Mod.f a1 768).bind fun t272 => ((debuggerkit_Mod.f a2 129).bind fun t273 => ((memory_Read.f k t268 t272 t273).bind fun bt274 => (debuggerlaw25_MemoryReads.l0 k t272 t273 bt274.1 bt274.2 0 t268)))) = some r := H
 have A4 := Aside0.mk A40
 clear A40
 replace H := Option.bind_eq_some_iff.mp H
 obtain ⟨t272, A50, H⟩ := H
 replace H : ((debuggerkit_Mod.f a2 129).bind fun t273 => ((memory_Read.f k t268 t272 t273).bind fun bt274 => (debuggerlaw25_MemoryReads.l0 k t272 t273 bt274.1 bt274.2 0 t268))) = some r := H
 have A5 := Aside0.mk A50
 clear A50
 replace H := Option.bind_eq_some_iff.mp H
 obtain ⟨t273, A60, H⟩ := H
 replace H : ((memory_Read.f k t268 t272 t273).bind fun bt274 => (debuggerlaw25_MemoryReads.l0 k t272 t273 bt274.1 bt274.2 0 t268)) = some r := H
 have A6 := Aside0.mk A60
 clear A60
 replace H := Option.bind_eq_some_iff.mp H
 obtain ⟨⟨t274, t277⟩, A70, H⟩ := H
 replace H : (debuggerlaw25_MemoryReads.l0 k t272 t273 t274 t277 0 t268) = some r := H
 have A7 := Aside0.mk A70
 clear A70
 have H' := Aside0.mk H
 clear H
 go_enter Try.func5, Try.ntmps5
 go_wp2_with (first | ((with_reducible refine gate_callee (f := 12) rfl ?_); refine goesL_ (some 16) rfl rfl Try.func12 (by kernel_rfl) rfl #[.slice A0 l0.length c0] rfl (by (try simp only [List.map_toArray, List.map_cons, List.map_nil]); first | done | rfl | (simp only [List.length_drop, List.length_take]; rfl)) ?_; (with_reducible refine (debuggerlaw25_some.calls k _ _ l0 t268 _ ?side1 ?side2 A4.out).mono ?_); (case side1 => repeat (first | exact HR0.out | (with_reducible refine Kd.C_alloc ?_ _) | (with_reducible refine Kd.C_drewN ?_ _) | (with_reducible refine Kd.C_drew ?_))); (case side2 => exact HC0.out); rintro e w8 ⟨v269, rfl, ho0, hb⟩; refine ⟨_, rfl, ?_⟩; have n0_ := Aside0.mk (Kd.N_lower (Kd.N_mono (ok' := fun k_ => True) ho0 (fun k_ hk_ => trivial)) (below_size (by repeat (first | (with_reducible first | exact HB.out | apply below_alloc | apply pw_below_drewN | apply below_drew1) | exact HB.out)))); have n1_ := Aside0.mk (below_step (by repeat (first | (with_reducible first | exact HB.out | apply below_alloc | apply pw_below_drewN | apply below_drew1) | exact HB.out)) hb); clear HB; have HO270 := n0_; have HB := n1_; clear n0_ n1_; (try clear hb); (try clear hb2); (try clear hk); (try clear hi); (try clear ho0)) | ((with_reducible refine gate_dst (N := 7) rfl ?_); (try (refine gate_guard (by rfl) ?_; dsimp only)); refine box_event ?hg (N := 7) ?hd (cs := #[.slice none 0 0]) (t := 24) ?hr ?_; (case hd => rfl); (case hg => rfl); (case hr => first | (go_simp; done) | (go_simp; rfl)); intro gb271 hg w9 hbox hb; have n0_ := Aside0.mk (Kd.N_below (Kd.N_elderB (by (with_reducible repeat (first | apply Kd.N_alloc | apply Kd.N_drewN | apply Kd.N_drew)); exact HO270.out) gb271 (Nat.le_of_eq hg.symm)) hb); have n1_ := Aside0.mk (below_step (by repeat (first | (with_reducible first | exact HB.out | apply below_alloc | apply pw_below_drewN | apply below_drew1) | exact HB.out)) hb); have n2_ := Aside0.mk (hbox); have n3_ := Aside0.mk ((by rw [hg]; exact (below_size (by repeat (first | (with_reducible first | exact HB.out | apply below_alloc | apply pw_below_drewN | apply below_drew1) | exact HB.out))) : w.heap.size ≤ gb271)); have n4_ := Aside0.mk ((by rw [hg]; exact (below_size (by repeat (first | (with_reducible first | exact HB.out | apply below_alloc | apply pw_below_drewN | apply below_drew1) | exact HB.out))) : w.heap.size ≤ gb271)); clear HO270; clear HB; have HO270 := n0_; have HB := n1_; have BK271 := n2_; have GW271 := n3_; have GE271 := n4_; clear n0_ n1_ n2_ n3_ n4_; clear hb hbox hg; obtain ⟨Ao10, co10, eo10⟩ := Kd.N_slice HO270.out; subst eo10; have hcz11_0 : w9.cell? ⟨gb271, 0, none⟩ = some (.slice none 0 0) := (blk_cell BK271.out 0).trans rfl; have hfz11_0 := blk_frozen BK271.out 0) | ((with_reducible refine gate_callee (f := 13) rfl ?_); refine goesL_ (some 18) rfl rfl Try.func13 (by kernel_rfl) rfl #[.int .i64 a1, .int .i64 768] rfl (by (try simp only [List.map_toArray, List.map_cons, List.map_nil]); first | done | rfl | (simp only [List.length_drop, List.length_take]; rfl)) ?_; (with_reducible refine (debuggerkit_Mod.calls a1 768 t272 _ A5.out).mono ?_); rintro e w12 ⟨rfl, hb⟩; refine ⟨_, rfl, ?_⟩; have n0_ := Aside0.mk (Kd.N_below (by (with_reducible repeat (first | apply Kd.N_alloc | apply Kd.N_drewN | apply Kd.N_drew)); exact (Kd.N_mono (Kd.N_far (p := ⟨gb271, 0, none⟩) (Kd.N_mono HO270.out (fun k_ hk => (⟨hk, hk.2⟩ : _ ∧ k_ ≠ gb271))) (fun _ hk => hk.2) (.slice Ao10 t268.length co10)) (fun _ h_ => h_.1))) hb); have n1_ := Aside0.mk (blk_below (g := gb271) (o := .cells #[.slice Ao10 t268.length co10] 24 (0, 0)) (by (with_reducible repeat (first | refine blk_drewN ?_ _ | refine blk_drew ?_ | refine blk_alloc ?_ _)); refine blk_put (cs := #[.slice none 0 0]) ?_ 0 _ rfl; (with_reducible repeat (first | refine blk_drewN ?_ _ | refine blk_drew ?_ | refine blk_alloc ?_ _)); exact BK271.out) hb); have n2_ := Aside0.mk (below_step (by repeat (first | (with_reducible first | exact HB.out | apply below_alloc | apply pw_below_drewN | apply below_drew1 | refine below_set ?_ GE271.out) | exact HB.out)) hb); clear HO270; clear BK271; clear HB; have HO270 := n0_; have BK271 := n1_; have HB := n2_; clear n0_ n1_ n2_; (try clear hb); (try clear hb2); (try clear hk); (try clear hi)) | ((with_reducible refine gate_callee (f := 13) rfl ?_); refine goesL_ (some 20) rfl rfl Try.func13 (by kernel_rfl) rfl #[.int .i64 a2, .int .i64 129] rfl (by (try simp only [List.map_toArray, List.map_cons, List.map_nil]); first | done | rfl | (simp only [List.length_drop, List.length_take]; rfl)) ?_; (with_reducible refine (debuggerkit_Mod.calls a2 129 t273 _ A6.out).mono ?_); rintro e w13 ⟨rfl, hb⟩; refine ⟨_, rfl, ?_⟩; have n0_ := Aside0.mk (Kd.N_below (by (with_reducible repeat (first | apply Kd.N_alloc | apply Kd.N_drewN | apply Kd.N_drew)); exact HO270.out) hb); have n1_ := Aside0.mk (blk_below (g := gb271) (o := .cells #[.slice Ao10 t268.length co10] 24 (0, 0)) (by (with_reducible repeat (first | refine blk_drewN ?_ _ | refine blk_drew ?_ | refine blk_alloc ?_ _)); exact BK271.out) hb); have n2_ := Aside0.mk (below_step (by repeat (first | (with_reducible first | exact HB.out | apply below_alloc | apply pw_below_drewN | apply below_drew1 | refine below_set ?_ GE271.out) | exact HB.out)) hb); clear HO270; clear BK271; clear HB; have HO270 := n0_; have BK271 := n1_; have HB := n2_; clear n0_ n1_ n2_; (try clear hb); (try clear hb2); (try clear hk); (try clear hi); have hcz14_0 : w13.cell? ⟨gb271, 0, none⟩ = some (.slice Ao10 t268.length co10) := (blk_cell BK271.out 0).trans rfl; have hfz14_0 := blk_frozen BK271.out 0) | ((with_reducible refine gate_callee (f := 19) rfl ?_); refine goesL_ (some 25) rfl rfl Try.func19 (by kernel_rfl) rfl #[.agg #[.slice Ao10 t268.length co10], .int .i64 t272, .int .i64 t273] rfl (by (try simp only [List.map_toArray, List.map_cons, List.map_nil]); first | done | rfl | (simp only [List.length_drop, List.length_take]; rfl)) ?_; (with_reducible refine (memory_Read.calls k _ _ t268 t272 t273 t274 t277 _ ?side1 ?side2 A7.out).mono ?_); (case side1 => repeat (first | exact (Kd.N_reads' HO270.out).2.2 | (with_reducible refine Kd.C_alloc ?_ _) | (with_reducible refine Kd.C_drewN ?_ _) | (with_reducible refine Kd.C_drew ?_))); (case side2 => exact (Kd.N_reads' HO270.out).2.1); rintro e w15 ⟨v275, rfl, ho0, hb⟩; refine ⟨_, rfl, ?_⟩; have n0_ := Aside0.mk (Kd.N_elder' (by (with_reducible repeat (first | apply Kd.N_alloc | apply Kd.N_drewN | apply Kd.N_drew)); exact HO270.out) (by first | exact Kd.R_base ho0 | exact Kd.S_base ho0 | exact Kd.R_base ho0 | exact Kd.N_base ho0) hb); have n1_ := Aside0.mk (Kd.R_lower ho0 (below_size (by repeat (first | (with_reducible first | exact HB.out | apply below_alloc | apply pw_below_drewN | apply below_drew1 | refine below_set ?_ GE271.out) | exact HB.out)))); have n2_ := Aside0.mk (blk_below (g := gb271) (o := .cells #[.slice Ao10 t268.length co10] 24 (0, 0)) (by (with_reducible repeat (first | refine blk_drewN ?_ _ | refine blk_drew ?_ | refine blk_alloc ?_ _)); exact BK271.out) hb); have n3_ := Aside0.mk (below_step (by repeat (first | (with_reducible first | exact HB.out | apply below_alloc | apply pw_below_drewN | apply below_drew1 | refine below_set ?_ GE271.out) | exact HB.out)) hb); clear HO270; clear BK271; clear HB; have HO270 := n0_; have HO276 := n1_; have BK271 := n2_; have HB := n3_; clear n0_ n1_ n2_ n3_; (try clear hb); (try clear hb2); (try clear hk); (try clear hi); (try clear ho0)))
 go_loopg [10] k (fun kq v10 w' => ∃ (x10_1 : Int), v10 = .int .i64 x10_1 ∧ Aside0 (debuggerlaw25_MemoryReads.l0 kq t272 t273 t274 t277 x10_1 t268 = some r) ∧ Aside0 (kq ≤ k) ∧ Aside0 (Kd.R (Kd.int .i64) 3 w' w.heap.size (fun _ => True) v275 t274) ∧ Aside0 (Kd.N k31 31 w' w.heap.size (fun k_ => some k_ ≠ (v275 : Value).ownBlock ∧ k_ ≠ gb271) (.slice Ao10 t268.length co10) t268) ∧ Aside0 (w'.heap[gb271]? = some (.cells #[(.slice Ao10 t268.length co10)] 24 (0, 0))) ∧ Aside0 (Below w.heap.size w w'))
 case atStart => exact ⟨(0), (by first | rfl | (simp; done) | (simp [*]; done)), H', ⟨Nat.le_refl _⟩, ⟨by (with_reducible repeat (first | apply Kd.R_alloc | apply Kd.R_drewN | apply Kd.R_drew)); exact HO276.out⟩, ⟨by (with_reducible repeat (first | apply Kd.N_alloc | apply Kd.N_drewN | apply Kd.N_drew)); exact Kd.N_mono HO270.out (fun _ hk => ⟨hk.2, hk.1.2⟩)⟩, ⟨by (with_reducible repeat (first | refine blk_drewN ?_ _ | refine blk_drew ?_ | refine blk_alloc ?_ _)); exact BK271.out⟩, ⟨by repeat (first | (with_reducible first | exact HB.out | apply below_alloc | apply pw_below_drewN | apply below_drew1 | refine below_set ?_ GE271.out) | exact HB.out)⟩⟩
 case round =>
  clear H'
  try clear c1
  try clear p2
  try clear c5
  try clear c12
  try clear c13
  try clear hcz11_0
  try clear hcz14_0
  try clear hfz11_0
  try clear hfz14_0
  obtain ⟨x10_1, rfl, HA, HK1, HO_8, HO_272000, BK271, HB⟩ := hrel
  cases gk with
  | zero => exact absurd HA.out (by simp [debuggerlaw25_MemoryReads.l0])
  | succ k1 =>
   have H := HA.out
   clear HA
   simp only [debuggerlaw25_MemoryReads.l0] at H
   by_cases c16 : x10_1 < (t274.length : Int)
   ·rw [if_pos c16] at H
    have c16b0 : decide (x10_1 < (t274.length : Int)) = true := decide_eq_true c16
    clear c16
    replace H := Option.bind_eq_some_iff.mp H
    obtain ⟨⟨t278, t279⟩, A170, H⟩ := H
    replace H : (if t279 = true then (if 0 ≤ x10_1 then (if t278 = (rd t274 x10_1) then (debuggerlaw25_MemoryReads.l0 k1 t272 t273 t274 t277 (wrap64 (x10_1 + 1)) t268) else (some false)) else (none)) else (some false)) = some r := H
    have A17 := Aside0.mk A170
    clear A170
    by_cases c18 : t279 = true
    ·subst c18
     have H1 : (if 0 ≤ x10_1 then (if t278 = (rd t274 x10_1) then (debuggerlaw25_MemoryReads.l0 k1 t272 t273 t274 t277 (wrap64 (x10_1 + 1)) t268) else (some false)) else (none)) = some r := by rw [if_pos rfl] at H; exact H
     clear H
     have H := H1
     clear H1
     by_cases c19 : 0 ≤ x10_1
     ·rw [if_pos c19] at H
      have c19b0 : decide (0 ≤ x10_1) = true := decide_eq_true c19
      clear c19
      by_cases c20 : t278 = (rd t274 x10_1)
      ·rw [if_pos c20] at H
       have c20b0 : (t278 == (rd t274 x10_1)) = true := beq_iff_eq.mpr c20
       have c20b1 : (t278 != (rd t274 x10_1)) = false := bne_eq_false_iff_eq.mpr c20
       clear c20
       have H' := Aside0.mk H
       clear H
       obtain ⟨Ao21, co21, eo21⟩ := Kd.R_slice HO_8.out
       subst eo21
       have hcz22_0 : wr.cell? ⟨gb271, 0, none⟩ = some (.slice Ao10 t268.length co10) := (blk_cell BK271.out 0).trans rfl
       have hfz22_0 := blk_frozen BK271.out 0
       go_wp2_with (first | ((with_reducible refine gate_callee (f := 20) rfl ?_); refine goesL_ (some 39) rfl rfl Try.func20 (by kernel_rfl) rfl #[.agg #[.slice Ao10 t268.length co10], .int .i64 (wrap64 (t272 + x10_1))] rfl (by (try simp only [List.map_toArray, List.map_cons, List.map_nil]); first | done | rfl | (simp only [List.length_drop, List.length_take]; rfl)) ?_; (with_reducible refine (memory_Word.calls _ _ t268 (wrap64 (t272 + x10_1)) t278 true _ ?side1 ?side2 A17.out).mono ?_); (case side1 => repeat (first | exact (Kd.N_reads' HO_272000.out).2.2 | (with_reducible refine Kd.C_alloc ?_ _) | (with_reducible refine Kd.C_drewN ?_ _) | (with_reducible refine Kd.C_drew ?_))); (case side2 => exact (Kd.N_reads' HO_272000.out).2.1); rintro e w23 ⟨rfl, hb⟩; refine ⟨_, rfl, ?_⟩; have n0_ := Aside0.mk (Kd.R_below (by (with_reducible repeat (first | apply Kd.R_alloc | apply Kd.R_drewN | apply Kd.R_drew)); exact HO_8.out) hb); have n1_ := Aside0.mk (Kd.N_below (by (with_reducible repeat (first | apply Kd.N_alloc | apply Kd.N_drewN | apply Kd.N_drew)); exact HO_272000.out) hb); have n2_ := Aside0.mk (blk_below (g := gb271) (o := .cells #[.slice Ao10 t268.length co10] 24 (0, 0)) (by (with_reducible repeat (first | refine blk_drewN ?_ _ | refine blk_drew ?_ | refine blk_alloc ?_ _)); exact BK271.out) hb); have n3_ := Aside0.mk (below_step (by repeat (first | (with_reducible first | exact HB.out | apply below_alloc | apply pw_below_drewN | apply below_drew1 | refine below_set ?_ GE271.out) | exact HB.out)) hb); clear HO_8; clear HO_272000; clear BK271; clear HB; have HO_8 := n0_; have HO_272000 := n1_; have BK271 := n2_; have HB := n3_; clear n0_ n1_ n2_ n3_; (try clear hb); (try clear hb2); (try clear hk); (try clear hi); have p280 : 0 ≤ (x10_1 : Int) := of_decide_eq_true (by first | (with_reducible assumption) | assumption); have q280 : x10_1 < (t274.length : Int) := of_decide_eq_true (by first | (with_reducible assumption) | assumption); obtain ⟨ad280, e280, hx280_0⟩ := Kd.at_int (Kd.R_reads' HO_8.out).2.2 x10_1 p280 q280; cases e280; replace p280 := eq_true p280; replace q280 := eq_true q280))
       go_roundg k1
       case measure => have := HK1.out; omega
       case rel => exact ⟨(wrap64 (x10_1 + 1)), (by first | rfl | (simp; done) | (simp [*]; done)), H', ⟨by have := HK1.out; omega⟩, ⟨by (with_reducible repeat (first | apply Kd.R_alloc | apply Kd.R_drewN | apply Kd.R_drew)); exact HO_8.out⟩, ⟨by (with_reducible repeat (first | apply Kd.N_alloc | apply Kd.N_drewN | apply Kd.N_drew)); exact HO_272000.out⟩, ⟨by (with_reducible repeat (first | refine blk_drewN ?_ _ | refine blk_drew ?_ | refine blk_alloc ?_ _)); exact BK271.out⟩, ⟨by repeat (first | (with_reducible first | exact HB.out | apply below_alloc | apply pw_below_drewN | apply below_drew1 | refine below_set ?_ GE271.out) | exact HB.out)⟩⟩
      ·rw [if_neg c20] at H
       have c20b0 : (t278 == (rd t274 x10_1)) = false := beq_eq_false_iff_ne.mpr c20
       have c20b1 : (t278 != (rd t274 x10_1)) = true := bne_iff_ne.mpr c20
       obtain rfl := Option.some.inj H
       obtain ⟨Ao24, co24, eo24⟩ := Kd.R_slice HO_8.out
       subst eo24
       have hcz25_0 : wr.cell? ⟨gb271, 0, none⟩ = some (.slice Ao10 t268.length co10) := (blk_cell BK271.out 0).trans rfl
       have hfz25_0 := blk_frozen BK271.out 0
       go_wp2_with (first | ((with_reducible refine gate_callee (f := 20) rfl ?_); refine goesL_ (some 39) rfl rfl Try.func20 (by kernel_rfl) rfl #[.agg #[.slice Ao10 t268.length co10], .int .i64 (wrap64 (t272 + x10_1))] rfl (by (try simp only [List.map_toArray, List.map_cons, List.map_nil]); first | done | rfl | (simp only [List.length_drop, List.length_take]; rfl)) ?_; (with_reducible refine (memory_Word.calls _ _ t268 (wrap64 (t272 + x10_1)) t278 true _ ?side1 ?side2 A17.out).mono ?_); (case side1 => repeat (first | exact (Kd.N_reads' HO_272000.out).2.2 | (with_reducible refine Kd.C_alloc ?_ _) | (with_reducible refine Kd.C_drewN ?_ _) | (with_reducible refine Kd.C_drew ?_))); (case side2 => exact (Kd.N_reads' HO_272000.out).2.1); rintro e w26 ⟨rfl, hb⟩; refine ⟨_, rfl, ?_⟩; have n0_ := Aside0.mk (Kd.R_below (by (with_reducible repeat (first | apply Kd.R_alloc | apply Kd.R_drewN | apply Kd.R_drew)); exact HO_8.out) hb); have n1_ := Aside0.mk (Kd.N_below (by (with_reducible repeat (first | apply Kd.N_alloc | apply Kd.N_drewN | apply Kd.N_drew)); exact HO_272000.out) hb); have n2_ := Aside0.mk (blk_below (g := gb271) (o := .cells #[.slice Ao10 t268.length co10] 24 (0, 0)) (by (with_reducible repeat (first | refine blk_drewN ?_ _ | refine blk_drew ?_ | refine blk_alloc ?_ _)); exact BK271.out) hb); have n3_ := Aside0.mk (below_step (by repeat (first | (with_reducible first | exact HB.out | apply below_alloc | apply pw_below_drewN | apply below_drew1 | refine below_set ?_ GE271.out) | exact HB.out)) hb); clear HO_8; clear HO_272000; clear BK271; clear HB; have HO_8 := n0_; have HO_272000 := n1_; have BK271 := n2_; have HB := n3_; clear n0_ n1_ n2_ n3_; (try clear hb); (try clear hb2); (try clear hk); (try clear hi); have p280 : 0 ≤ (x10_1 : Int) := of_decide_eq_true (by first | (with_reducible assumption) | assumption); have q280 : x10_1 < (t274.length : Int) := of_decide_eq_true (by first | (with_reducible assumption) | assumption); obtain ⟨ad280, e280, hx280_0⟩ := Kd.at_int (Kd.R_reads' HO_8.out).2.2 x10_1 p280 q280; cases e280; replace p280 := eq_true p280; replace q280 := eq_true q280))
       go_ret
       exact ⟨by first | rfl | (simp [errW_none, errW_some] <;> rfl) | (simp [*, errW_none, errW_some] <;> rfl), by repeat (first | (with_reducible first | exact HB.out | apply below_alloc | apply pw_below_drewN | apply below_drew1 | refine below_set ?_ GE271.out) | exact HB.out)⟩
     ·rw [if_neg c19] at H
      exact absurd H (by simp)
    ·replace c18 := Bool.eq_false_iff.mpr c18
     subst c18
     have H1 : (some false) = some r := by rw [if_neg (show ¬ (false = true) by decide)] at H; exact H
     clear H
     have H := H1
     clear H1
     obtain rfl := Option.some.inj H
     obtain ⟨Ao27, co27, eo27⟩ := Kd.R_slice HO_8.out
     subst eo27
     have hcz28_0 : wr.cell? ⟨gb271, 0, none⟩ = some (.slice Ao10 t268.length co10) := (blk_cell BK271.out 0).trans rfl
     have hfz28_0 := blk_frozen BK271.out 0
     go_wp2_with (first | ((with_reducible refine gate_callee (f := 20) rfl ?_); refine goesL_ (some 39) rfl rfl Try.func20 (by kernel_rfl) rfl #[.agg #[.slice Ao10 t268.length co10], .int .i64 (wrap64 (t272 + x10_1))] rfl (by (try simp only [List.map_toArray, List.map_cons, List.map_nil]); first | done | rfl | (simp only [List.length_drop, List.length_take]; rfl)) ?_; (with_reducible refine (memory_Word.calls _ _ t268 (wrap64 (t272 + x10_1)) t278 false _ ?side1 ?side2 A17.out).mono ?_); (case side1 => repeat (first | exact (Kd.N_reads' HO_272000.out).2.2 | (with_reducible refine Kd.C_alloc ?_ _) | (with_reducible refine Kd.C_drewN ?_ _) | (with_reducible refine Kd.C_drew ?_))); (case side2 => exact (Kd.N_reads' HO_272000.out).2.1); rintro e w29 ⟨rfl, hb⟩; refine ⟨_, rfl, ?_⟩; have n0_ := Aside0.mk (Kd.R_below (by (with_reducible repeat (first | apply Kd.R_alloc | apply Kd.R_drewN | apply Kd.R_drew)); exact HO_8.out) hb); have n1_ := Aside0.mk (Kd.N_below (by (with_reducible repeat (first | apply Kd.N_alloc | apply Kd.N_drewN | apply Kd.N_drew)); exact HO_272000.out) hb); have n2_ := Aside0.mk (blk_below (g := gb271) (o := .cells #[.slice Ao10 t268.length co10] 24 (0, 0)) (by (with_reducible repeat (first | refine blk_drewN ?_ _ | refine blk_drew ?_ | refine blk_alloc ?_ _)); exact BK271.out) hb); have n3_ := Aside0.mk (below_step (by repeat (first | (with_reducible first | exact HB.out | apply below_alloc | apply pw_below_drewN | apply below_drew1 | refine below_set ?_ GE271.out) | exact HB.out)) hb); clear HO_8; clear HO_272000; clear BK271; clear HB; have HO_8 := n0_; have HO_272000 := n1_; have BK271 := n2_; have HB := n3_; clear n0_ n1_ n2_ n3_; (try clear hb); (try clear hb2); (try clear hk); (try clear hi)))
     go_ret
     exact ⟨by first | rfl | (simp [errW_none, errW_some] <;> rfl) | (simp [*, errW_none, errW_some] <;> rfl), by repeat (first | (with_reducible first | exact HB.out | apply below_alloc | apply pw_below_drewN | apply below_drew1 | refine below_set ?_ GE271.out) | exact HB.out)⟩
   ·rw [if_neg c16] at H
    have c16b0 : decide (x10_1 < (t274.length : Int)) = false := decide_eq_false c16
    clear c16
    replace H := Option.bind_eq_some_iff.mp H
    obtain ⟨⟨t281, t282⟩, A300, H⟩ := H
    replace H : (if t277 = (-1) then (if (t274.length : Int) = t273 then ((debuggerlaw25_awake.f k1).bind fun t283 => (some t283)) else (if t277 = (wrap64 (t272 + (t274.length : Int))) then (if (t274.length : Int) < t273 then (if t282 = true then (some false) else ((debuggerlaw25_awake.f k1).bind fun t284 => (some t284))) else (some false)) else (some false))) else (if t277 = (wrap64 (t272 + (t274.length : Int))) then (if (t274.length : Int) < t273 then (if t282 = true then (some false) else ((debuggerlaw25_awake.f k1).bind fun t285 => (some t285))) else (some false)) else (some false))) = some r := H
    have A30 := Aside0.mk A300
    clear A300
    by_cases c31 : t277 = (-1)
    ·rw [if_pos c31] at H
     have c31b0 : (t277 == (-1)) = true := beq_iff_eq.mpr c31
     have c31b1 : (t277 != (-1)) = false := bne_eq_false_iff_eq.mpr c31
     clear c31
     by_cases c32 : (t274.length : Int) = t273
     ·rw [if_pos c32] at H
      have c32b0 : ((t274.length : Int) == t273) = true := beq_iff_eq.mpr c32
      have c32b1 : ((t274.length : Int) != t273) = false := bne_eq_false_iff_eq.mpr c32
      clear c32
      replace H := Option.bind_eq_some_iff.mp H
      obtain ⟨t283, A330, H⟩ := H
      replace H : (some t283) = some r := H
      have A33 := Aside0.mk A330
      clear A330
      obtain rfl := Option.some.inj H
      obtain ⟨Ao34, co34, eo34⟩ := Kd.R_slice HO_8.out
      subst eo34
      have hcz35_0 : wr.cell? ⟨gb271, 0, none⟩ = some (.slice Ao10 t268.length co10) := (blk_cell BK271.out 0).trans rfl
      have hfz35_0 := blk_frozen BK271.out 0
      go_wp2_with (first | ((with_reducible refine gate_callee (f := 20) rfl ?_); refine goesL_ (some 58) rfl rfl Try.func20 (by kernel_rfl) rfl #[.agg #[.slice Ao10 t268.length co10], .int .i64 (wrap64 (t272 + (t274.length : Int)))] rfl (by (try simp only [List.map_toArray, List.map_cons, List.map_nil]); first | done | rfl | (simp only [List.length_drop, List.length_take]; rfl)) ?_; (with_reducible refine (memory_Word.calls _ _ t268 (wrap64 (t272 + (t274.length : Int))) t281 t282 _ ?side1 ?side2 A30.out).mono ?_); (case side1 => repeat (first | exact (Kd.N_reads' HO_272000.out).2.2 | (with_reducible refine Kd.C_alloc ?_ _) | (with_reducible refine Kd.C_drewN ?_ _) | (with_reducible refine Kd.C_drew ?_))); (case side2 => exact (Kd.N_reads' HO_272000.out).2.1); rintro e w36 ⟨rfl, hb⟩; refine ⟨_, rfl, ?_⟩; have n0_ := Aside0.mk (Kd.R_below (by (with_reducible repeat (first | apply Kd.R_alloc | apply Kd.R_drewN | apply Kd.R_drew)); exact HO_8.out) hb); have n1_ := Aside0.mk (Kd.N_below (by (with_reducible repeat (first | apply Kd.N_alloc | apply Kd.N_drewN | apply Kd.N_drew)); exact HO_272000.out) hb); have n2_ := Aside0.mk (blk_below (g := gb271) (o := .cells #[.slice Ao10 t268.length co10] 24 (0, 0)) (by (with_reducible repeat (first | refine blk_drewN ?_ _ | refine blk_drew ?_ | refine blk_alloc ?_ _)); exact BK271.out) hb); have n3_ := Aside0.mk (below_step (by repeat (first | (with_reducible first | exact HB.out | apply below_alloc | apply pw_below_drewN | apply below_drew1 | refine below_set ?_ GE271.out) | exact HB.out)) hb); clear HO_8; clear HO_272000; clear BK271; clear HB; have HO_8 := n0_; have HO_272000 := n1_; have BK271 := n2_; have HB := n3_; clear n0_ n1_ n2_ n3_; (try clear hb); (try clear hb2); (try clear hk); (try clear hi)) | (go_at_call 11; (with_reducible refine (debuggerlaw25_awake.calls k1  t283 _ A33.out).mono ?_); rintro e w37 ⟨rfl, hb⟩; have n0_ := Aside0.mk (Kd.R_below (by (with_reducible repeat (first | apply Kd.R_alloc | apply Kd.R_drewN | apply Kd.R_drew)); exact HO_8.out) hb); have n1_ := Aside0.mk (Kd.N_below (by (with_reducible repeat (first | apply Kd.N_alloc | apply Kd.N_drewN | apply Kd.N_drew)); exact HO_272000.out) hb); have n2_ := Aside0.mk (blk_below (g := gb271) (o := .cells #[.slice Ao10 t268.length co10] 24 (0, 0)) (by (with_reducible repeat (first | refine blk_drewN ?_ _ | refine blk_drew ?_ | refine blk_alloc ?_ _)); exact BK271.out) hb); have n3_ := Aside0.mk (below_step (by repeat (first | (with_reducible first | exact HB.out | apply below_alloc | apply pw_below_drewN | apply below_drew1 | refine below_set ?_ GE271.out) | exact HB.out)) hb); clear HO_8; clear HO_272000; clear BK271; clear HB; have HO_8 := n0_; have HO_272000 := n1_; have BK271 := n2_; have HB := n3_; clear n0_ n1_ n2_ n3_; (try clear hb); (try clear hb2); (try clear hk); (try clear hi)))
      go_ret
      exact ⟨by first | rfl | (simp [errW_none, errW_some] <;> rfl) | (simp [*, errW_none, errW_some] <;> rfl), by repeat (first | (with_reducible first | exact HB.out | apply below_alloc | apply pw_below_drewN | apply below_drew1 | refine below_set ?_ GE271.out) | exact HB.out)⟩
     ·rw [if_neg c32] at H
      have c32b0 : ((t274.length : Int) == t273) = false := beq_eq_false_iff_ne.mpr c32
      have c32b1 : ((t274.length : Int) != t273) = true := bne_iff_ne.mpr c32
      by_cases c38 : t277 = (wrap64 (t272 + (t274.length : Int)))
      ·rw [if_pos c38] at H
       have c38b0 : (t277 == (wrap64 (t272 + (t274.length : Int)))) = true := beq_iff_eq.mpr c38
       have c38b1 : (t277 != (wrap64 (t272 + (t274.length : Int)))) = false := bne_eq_false_iff_eq.mpr c38
       clear c38
       by_cases c39 : (t274.length : Int) < t273
       ·rw [if_pos c39] at H
        have c39b0 : decide ((t274.length : Int) < t273) = true := decide_eq_true c39
        clear c39
        by_cases c40 : t282 = true
        ·subst c40
         have H1 : (some false) = some r := by rw [if_pos rfl] at H; exact H
         clear H
         have H := H1
         clear H1
         obtain rfl := Option.some.inj H
         obtain ⟨Ao41, co41, eo41⟩ := Kd.R_slice HO_8.out
         subst eo41
         have hcz42_0 : wr.cell? ⟨gb271, 0, none⟩ = some (.slice Ao10 t268.length co10) := (blk_cell BK271.out 0).trans rfl
         have hfz42_0 := blk_frozen BK271.out 0
         go_wp2_with (first | ((with_reducible refine gate_callee (f := 20) rfl ?_); refine goesL_ (some 58) rfl rfl Try.func20 (by kernel_rfl) rfl #[.agg #[.slice Ao10 t268.length co10], .int .i64 (wrap64 (t272 + (t274.length : Int)))] rfl (by (try simp only [List.map_toArray, List.map_cons, List.map_nil]); first | done | rfl | (simp only [List.length_drop, List.length_take]; rfl)) ?_; (with_reducible refine (memory_Word.calls _ _ t268 (wrap64 (t272 + (t274.length : Int))) t281 true _ ?side1 ?side2 A30.out).mono ?_); (case side1 => repeat (first | exact (Kd.N_reads' HO_272000.out).2.2 | (with_reducible refine Kd.C_alloc ?_ _) | (with_reducible refine Kd.C_drewN ?_ _) | (with_reducible refine Kd.C_drew ?_))); (case side2 => exact (Kd.N_reads' HO_272000.out).2.1); rintro e w43 ⟨rfl, hb⟩; refine ⟨_, rfl, ?_⟩; have n0_ := Aside0.mk (Kd.R_below (by (with_reducible repeat (first | apply Kd.R_alloc | apply Kd.R_drewN | apply Kd.R_drew)); exact HO_8.out) hb); have n1_ := Aside0.mk (Kd.N_below (by (with_reducible repeat (first | apply Kd.N_alloc | apply Kd.N_drewN | apply Kd.N_drew)); exact HO_272000.out) hb); have n2_ := Aside0.mk (blk_below (g := gb271) (o := .cells #[.slice Ao10 t268.length co10] 24 (0, 0)) (by (with_reducible repeat (first | refine blk_drewN ?_ _ | refine blk_drew ?_ | refine blk_alloc ?_ _)); exact BK271.out) hb); have n3_ := Aside0.mk (below_step (by repeat (first | (with_reducible first | exact HB.out | apply below_alloc | apply pw_below_drewN | apply below_drew1 | refine below_set ?_ GE271.out) | exact HB.out)) hb); clear HO_8; clear HO_272000; clear BK271; clear HB; have HO_8 := n0_; have HO_272000 := n1_; have BK271 := n2_; have HB := n3_; clear n0_ n1_ n2_ n3_; (try clear hb); (try clear hb2); (try clear hk); (try clear hi)))
         go_ret
         exact ⟨by first | rfl | (simp [errW_none, errW_some] <;> rfl) | (simp [*, errW_none, errW_some] <;> rfl), by repeat (first | (with_reducible first | exact HB.out | apply below_alloc | apply pw_below_drewN | apply below_drew1 | refine below_set ?_ GE271.out) | exact HB.out)⟩
        ·replace c40 := Bool.eq_false_iff.mpr c40
         subst c40
         have H1 : ((debuggerlaw25_awake.f k1).bind fun t284 => (some t284)) = some r := by rw [if_neg (show ¬ (false = true) by decide)] at H; exact H
         clear H
         have H := H1
         clear H1
         replace H := Option.bind_eq_some_iff.mp H
         obtain ⟨t284, A440, H⟩ := H
         replace H : (some t284) = some r := H
         have A44 := Aside0.mk A440
         clear A440
         obtain rfl := Option.some.inj H
         obtain ⟨Ao45, co45, eo45⟩ := Kd.R_slice HO_8.out
         subst eo45
         have hcz46_0 : wr.cell? ⟨gb271, 0, none⟩ = some (.slice Ao10 t268.length co10) := (blk_cell BK271.out 0).trans rfl
         have hfz46_0 := blk_frozen BK271.out 0
         go_wp2_with (first | ((with_reducible refine gate_callee (f := 20) rfl ?_); refine goesL_ (some 58) rfl rfl Try.func20 (by kernel_rfl) rfl #[.agg #[.slice Ao10 t268.length co10], .int .i64 (wrap64 (t272 + (t274.length : Int)))] rfl (by (try simp only [List.map_toArray, List.map_cons, List.map_nil]); first | done | rfl | (simp only [List.length_drop, List.length_take]; rfl)) ?_; (with_reducible refine (memory_Word.calls _ _ t268 (wrap64 (t272 + (t274.length : Int))) t281 false _ ?side1 ?side2 A30.out).mono ?_); (case side1 => repeat (first | exact (Kd.N_reads' HO_272000.out).2.2 | (with_reducible refine Kd.C_alloc ?_ _) | (with_reducible refine Kd.C_drewN ?_ _) | (with_reducible refine Kd.C_drew ?_))); (case side2 => exact (Kd.N_reads' HO_272000.out).2.1); rintro e w47 ⟨rfl, hb⟩; refine ⟨_, rfl, ?_⟩; have n0_ := Aside0.mk (Kd.R_below (by (with_reducible repeat (first | apply Kd.R_alloc | apply Kd.R_drewN | apply Kd.R_drew)); exact HO_8.out) hb); have n1_ := Aside0.mk (Kd.N_below (by (with_reducible repeat (first | apply Kd.N_alloc | apply Kd.N_drewN | apply Kd.N_drew)); exact HO_272000.out) hb); have n2_ := Aside0.mk (blk_below (g := gb271) (o := .cells #[.slice Ao10 t268.length co10] 24 (0, 0)) (by (with_reducible repeat (first | refine blk_drewN ?_ _ | refine blk_drew ?_ | refine blk_alloc ?_ _)); exact BK271.out) hb); have n3_ := Aside0.mk (below_step (by repeat (first | (with_reducible first | exact HB.out | apply below_alloc | apply pw_below_drewN | apply below_drew1 | refine below_set ?_ GE271.out) | exact HB.out)) hb); clear HO_8; clear HO_272000; clear BK271; clear HB; have HO_8 := n0_; have HO_272000 := n1_; have BK271 := n2_; have HB := n3_; clear n0_ n1_ n2_ n3_; (try clear hb); (try clear hb2); (try clear hk); (try clear hi)) | (go_at_call 11; (with_reducible refine (debuggerlaw25_awake.calls k1  t284 _ A44.out).mono ?_); rintro e w48 ⟨rfl, hb⟩; have n0_ := Aside0.mk (Kd.R_below (by (with_reducible repeat (first | apply Kd.R_alloc | apply Kd.R_drewN | apply Kd.R_drew)); exact HO_8.out) hb); have n1_ := Aside0.mk (Kd.N_below (by (with_reducible repeat (first | apply Kd.N_alloc | apply Kd.N_drewN | apply Kd.N_drew)); exact HO_272000.out) hb); have n2_ := Aside0.mk (blk_below (g := gb271) (o := .cells #[.slice Ao10 t268.length co10] 24 (0, 0)) (by (with_reducible repeat (first | refine blk_drewN ?_ _ | refine blk_drew ?_ | refine blk_alloc ?_ _)); exact BK271.out) hb); have n3_ := Aside0.mk (below_step (by repeat (first | (with_reducible first | exact HB.out | apply below_alloc | apply pw_below_drewN | apply below_drew1 | refine below_set ?_ GE271.out) | exact HB.out)) hb); clear HO_8; clear HO_272000; clear BK271; clear HB; have HO_8 := n0_; have HO_272000 := n1_; have BK271 := n2_; have HB := n3_; clear n0_ n1_ n2_ n3_; (try clear hb); (try clear hb2); (try clear hk); (try clear hi)))
         go_ret
         exact ⟨by first | rfl | (simp [errW_none, errW_some] <;> rfl) | (simp [*, errW_none, errW_some] <;> rfl), by repeat (first | (with_reducible first | exact HB.out | apply below_alloc | apply pw_below_drewN | apply below_drew1 | refine below_set ?_ GE271.out) | exact HB.out)⟩
       ·rw [if_neg c39] at H
        have c39b0 : decide ((t274.length : Int) < t273) = false := decide_eq_false c39
        clear c39
        obtain rfl := Option.some.inj H
        obtain ⟨Ao49, co49, eo49⟩ := Kd.R_slice HO_8.out
        subst eo49
        have hcz50_0 : wr.cell? ⟨gb271, 0, none⟩ = some (.slice Ao10 t268.length co10) := (blk_cell BK271.out 0).trans rfl
        have hfz50_0 := blk_frozen BK271.out 0
        go_wp2_with (first | ((with_reducible refine gate_callee (f := 20) rfl ?_); refine goesL_ (some 58) rfl rfl Try.func20 (by kernel_rfl) rfl #[.agg #[.slice Ao10 t268.length co10], .int .i64 (wrap64 (t272 + (t274.length : Int)))] rfl (by (try simp only [List.map_toArray, List.map_cons, List.map_nil]); first | done | rfl | (simp only [List.length_drop, List.length_take]; rfl)) ?_; (with_reducible refine (memory_Word.calls _ _ t268 (wrap64 (t272 + (t274.length : Int))) t281 t282 _ ?side1 ?side2 A30.out).mono ?_); (case side1 => repeat (first | exact (Kd.N_reads' HO_272000.out).2.2 | (with_reducible refine Kd.C_alloc ?_ _) | (with_reducible refine Kd.C_drewN ?_ _) | (with_reducible refine Kd.C_drew ?_))); (case side2 => exact (Kd.N_reads' HO_272000.out).2.1); rintro e w51 ⟨rfl, hb⟩; refine ⟨_, rfl, ?_⟩; have n0_ := Aside0.mk (Kd.R_below (by (with_reducible repeat (first | apply Kd.R_alloc | apply Kd.R_drewN | apply Kd.R_drew)); exact HO_8.out) hb); have n1_ := Aside0.mk (Kd.N_below (by (with_reducible repeat (first | apply Kd.N_alloc | apply Kd.N_drewN | apply Kd.N_drew)); exact HO_272000.out) hb); have n2_ := Aside0.mk (blk_below (g := gb271) (o := .cells #[.slice Ao10 t268.length co10] 24 (0, 0)) (by (with_reducible repeat (first | refine blk_drewN ?_ _ | refine blk_drew ?_ | refine blk_alloc ?_ _)); exact BK271.out) hb); have n3_ := Aside0.mk (below_step (by repeat (first | (with_reducible first | exact HB.out | apply below_alloc | apply pw_below_drewN | apply below_drew1 | refine below_set ?_ GE271.out) | exact HB.out)) hb); clear HO_8; clear HO_272000; clear BK271; clear HB; have HO_8 := n0_; have HO_272000 := n1_; have BK271 := n2_; have HB := n3_; clear n0_ n1_ n2_ n3_; (try clear hb); (try clear hb2); (try clear hk); (try clear hi)))
        go_ret
        exact ⟨by first | rfl | (simp [errW_none, errW_some] <;> rfl) | (simp [*, errW_none, errW_some] <;> rfl), by repeat (first | (with_reducible first | exact HB.out | apply below_alloc | apply pw_below_drewN | apply below_drew1 | refine below_set ?_ GE271.out) | exact HB.out)⟩
      ·rw [if_neg c38] at H
       have c38b0 : (t277 == (wrap64 (t272 + (t274.length : Int)))) = false := beq_eq_false_iff_ne.mpr c38
       have c38b1 : (t277 != (wrap64 (t272 + (t274.length : Int)))) = true := bne_iff_ne.mpr c38
       obtain rfl := Option.some.inj H
       obtain ⟨Ao52, co52, eo52⟩ := Kd.R_slice HO_8.out
       subst eo52
       have hcz53_0 : wr.cell? ⟨gb271, 0, none⟩ = some (.slice Ao10 t268.length co10) := (blk_cell BK271.out 0).trans rfl
       have hfz53_0 := blk_frozen BK271.out 0
       go_wp2_with (first | ((with_reducible refine gate_callee (f := 20) rfl ?_); refine goesL_ (some 58) rfl rfl Try.func20 (by kernel_rfl) rfl #[.agg #[.slice Ao10 t268.length co10], .int .i64 (wrap64 (t272 + (t274.length : Int)))] rfl (by (try simp only [List.map_toArray, List.map_cons, List.map_nil]); first | done | rfl | (simp only [List.length_drop, List.length_take]; rfl)) ?_; (with_reducible refine (memory_Word.calls _ _ t268 (wrap64 (t272 + (t274.length : Int))) t281 t282 _ ?side1 ?side2 A30.out).mono ?_); (case side1 => repeat (first | exact (Kd.N_reads' HO_272000.out).2.2 | (with_reducible refine Kd.C_alloc ?_ _) | (with_reducible refine Kd.C_drewN ?_ _) | (with_reducible refine Kd.C_drew ?_))); (case side2 => exact (Kd.N_reads' HO_272000.out).2.1); rintro e w54 ⟨rfl, hb⟩; refine ⟨_, rfl, ?_⟩; have n0_ := Aside0.mk (Kd.R_below (by (with_reducible repeat (first | apply Kd.R_alloc | apply Kd.R_drewN | apply Kd.R_drew)); exact HO_8.out) hb); have n1_ := Aside0.mk (Kd.N_below (by (with_reducible repeat (first | apply Kd.N_alloc | apply Kd.N_drewN | apply Kd.N_drew)); exact HO_272000.out) hb); have n2_ := Aside0.mk (blk_below (g := gb271) (o := .cells #[.slice Ao10 t268.length co10] 24 (0, 0)) (by (with_reducible repeat (first | refine blk_drewN ?_ _ | refine blk_drew ?_ | refine blk_alloc ?_ _)); exact BK271.out) hb); have n3_ := Aside0.mk (below_step (by repeat (first | (with_reducible first | exact HB.out | apply below_alloc | apply pw_below_drewN | apply below_drew1 | refine below_set ?_ GE271.out) | exact HB.out)) hb); clear HO_8; clear HO_272000; clear BK271; clear HB; have HO_8 := n0_; have HO_272000 := n1_; have BK271 := n2_; have HB := n3_; clear n0_ n1_ n2_ n3_; (try clear hb); (try clear hb2); (try clear hk); (try clear hi)))
       go_ret
       exact ⟨by first | rfl | (simp [errW_none, errW_some] <;> rfl) | (simp [*, errW_none, errW_some] <;> rfl), by repeat (first | (with_reducible first | exact HB.out | apply below_alloc | apply pw_below_drewN | apply below_drew1 | refine below_set ?_ GE271.out) | exact HB.out)⟩
    ·rw [if_neg c31] at H
     have c31b0 : (t277 == (-1)) = false := beq_eq_false_iff_ne.mpr c31
     have c31b1 : (t277 != (-1)) = true := bne_iff_ne.mpr c31
     by_cases c55 : t277 = (wrap64 (t272 + (t274.length : Int)))
     ·rw [if_pos c55] at H
      have c55b0 : (t277 == (wrap64 (t272 + (t274.length : Int)))) = true := beq_iff_eq.mpr c55
      have c55b1 : (t277 != (wrap64 (t272 + (t274.length : Int)))) = false := bne_eq_false_iff_eq.mpr c55
      clear c55
      by_cases c56 : (t274.length : Int) < t273
      ·rw [if_pos c56] at H
       have c56b0 : decide ((t274.length : Int) < t273) = true := decide_eq_true c56
       clear c56
       by_cases c57 : t282 = true
       ·subst c57
        have H1 : (some false) = some r := by rw [if_pos rfl] at H; exact H
        clear H
        have H := H1
        clear H1
        obtain rfl := Option.some.inj H
        obtain ⟨Ao58, co58, eo58⟩ := Kd.R_slice HO_8.out
        subst eo58
        have hcz59_0 : wr.cell? ⟨gb271, 0, none⟩ = some (.slice Ao10 t268.length co10) := (blk_cell BK271.out 0).trans rfl
        have hfz59_0 := blk_frozen BK271.out 0
        go_wp2_with (first | ((with_reducible refine gate_callee (f := 20) rfl ?_); refine goesL_ (some 58) rfl rfl Try.func20 (by kernel_rfl) rfl #[.agg #[.slice Ao10 t268.length co10], .int .i64 (wrap64 (t272 + (t274.length : Int)))] rfl (by (try simp only [List.map_toArray, List.map_cons, List.map_nil]); first | done | rfl | (simp only [List.length_drop, List.length_take]; rfl)) ?_; (with_reducible refine (memory_Word.calls _ _ t268 (wrap64 (t272 + (t274.length : Int))) t281 true _ ?side1 ?side2 A30.out).mono ?_); (case side1 => repeat (first | exact (Kd.N_reads' HO_272000.out).2.2 | (with_reducible refine Kd.C_alloc ?_ _) | (with_reducible refine Kd.C_drewN ?_ _) | (with_reducible refine Kd.C_drew ?_))); (case side2 => exact (Kd.N_reads' HO_272000.out).2.1); rintro e w60 ⟨rfl, hb⟩; refine ⟨_, rfl, ?_⟩; have n0_ := Aside0.mk (Kd.R_below (by (with_reducible repeat (first | apply Kd.R_alloc | apply Kd.R_drewN | apply Kd.R_drew)); exact HO_8.out) hb); have n1_ := Aside0.mk (Kd.N_below (by (with_reducible repeat (first | apply Kd.N_alloc | apply Kd.N_drewN | apply Kd.N_drew)); exact HO_272000.out) hb); have n2_ := Aside0.mk (blk_below (g := gb271) (o := .cells #[.slice Ao10 t268.length co10] 24 (0, 0)) (by (with_reducible repeat (first | refine blk_drewN ?_ _ | refine blk_drew ?_ | refine blk_alloc ?_ _)); exact BK271.out) hb); have n3_ := Aside0.mk (below_step (by repeat (first | (with_reducible first | exact HB.out | apply below_alloc | apply pw_below_drewN | apply below_drew1 | refine below_set ?_ GE271.out) | exact HB.out)) hb); clear HO_8; clear HO_272000; clear BK271; clear HB; have HO_8 := n0_; have HO_272000 := n1_; have BK271 := n2_; have HB := n3_; clear n0_ n1_ n2_ n3_; (try clear hb); (try clear hb2); (try clear hk); (try clear hi)))
        go_ret
        exact ⟨by first | rfl | (simp [errW_none, errW_some] <;> rfl) | (simp [*, errW_none, errW_some] <;> rfl), by repeat (first | (with_reducible first | exact HB.out | apply below_alloc | apply pw_below_drewN | apply below_drew1 | refine below_set ?_ GE271.out) | exact HB.out)⟩
       ·replace c57 := Bool.eq_false_iff.mpr c57
        subst c57
        have H1 : ((debuggerlaw25_awake.f k1).bind fun t285 => (some t285)) = some r := by rw [if_neg (show ¬ (false = true) by decide)] at H; exact H
        clear H
        have H := H1
        clear H1
        replace H := Option.bind_eq_some_iff.mp H
        obtain ⟨t285, A610, H⟩ := H
        replace H : (some t285) = some r := H
        have A61 := Aside0.mk A610
        clear A610
        obtain rfl := Option.some.inj H
        obtain ⟨Ao62, co62, eo62⟩ := Kd.R_slice HO_8.out
        subst eo62
        have hcz63_0 : wr.cell? ⟨gb271, 0, none⟩ = some (.slice Ao10 t268.length co10) := (blk_cell BK271.out 0).trans rfl
        have hfz63_0 := blk_frozen BK271.out 0
        go_wp2_with (first | ((with_reducible refine gate_callee (f := 20) rfl ?_); refine goesL_ (some 58) rfl rfl Try.func20 (by kernel_rfl) rfl #[.agg #[.slice Ao10 t268.length co10], .int .i64 (wrap64 (t272 + (t274.length : Int)))] rfl (by (try simp only [List.map_toArray, List.map_cons, List.map_nil]); first | done | rfl | (simp only [List.length_drop, List.length_take]; rfl)) ?_; (with_reducible refine (memory_Word.calls _ _ t268 (wrap64 (t272 + (t274.length : Int))) t281 false _ ?side1 ?side2 A30.out).mono ?_); (case side1 => repeat (first | exact (Kd.N_reads' HO_272000.out).2.2 | (with_reducible refine Kd.C_alloc ?_ _) | (with_reducible refine Kd.C_drewN ?_ _) | (with_reducible refine Kd.C_drew ?_))); (case side2 => exact (Kd.N_reads' HO_272000.out).2.1); rintro e w64 ⟨rfl, hb⟩; refine ⟨_, rfl, ?_⟩; have n0_ := Aside0.mk (Kd.R_below (by (with_reducible repeat (first | apply Kd.R_alloc | apply Kd.R_drewN | apply Kd.R_drew)); exact HO_8.out) hb); have n1_ := Aside0.mk (Kd.N_below (by (with_reducible repeat (first | apply Kd.N_alloc | apply Kd.N_drewN | apply Kd.N_drew)); exact HO_272000.out) hb); have n2_ := Aside0.mk (blk_below (g := gb271) (o := .cells #[.slice Ao10 t268.length co10] 24 (0, 0)) (by (with_reducible repeat (first | refine blk_drewN ?_ _ | refine blk_drew ?_ | refine blk_alloc ?_ _)); exact BK271.out) hb); have n3_ := Aside0.mk (below_step (by repeat (first | (with_reducible first | exact HB.out | apply below_alloc | apply pw_below_drewN | apply below_drew1 | refine below_set ?_ GE271.out) | exact HB.out)) hb); clear HO_8; clear HO_272000; clear BK271; clear HB; have HO_8 := n0_; have HO_272000 := n1_; have BK271 := n2_; have HB := n3_; clear n0_ n1_ n2_ n3_; (try clear hb); (try clear hb2); (try clear hk); (try clear hi)) | (go_at_call 11; (with_reducible refine (debuggerlaw25_awake.calls k1  t285 _ A61.out).mono ?_); rintro e w65 ⟨rfl, hb⟩; have n0_ := Aside0.mk (Kd.R_below (by (with_reducible repeat (first | apply Kd.R_alloc | apply Kd.R_drewN | apply Kd.R_drew)); exact HO_8.out) hb); have n1_ := Aside0.mk (Kd.N_below (by (with_reducible repeat (first | apply Kd.N_alloc | apply Kd.N_drewN | apply Kd.N_drew)); exact HO_272000.out) hb); have n2_ := Aside0.mk (blk_below (g := gb271) (o := .cells #[.slice Ao10 t268.length co10] 24 (0, 0)) (by (with_reducible repeat (first | refine blk_drewN ?_ _ | refine blk_drew ?_ | refine blk_alloc ?_ _)); exact BK271.out) hb); have n3_ := Aside0.mk (below_step (by repeat (first | (with_reducible first | exact HB.out | apply below_alloc | apply pw_below_drewN | apply below_drew1 | refine below_set ?_ GE271.out) | exact HB.out)) hb); clear HO_8; clear HO_272000; clear BK271; clear HB; have HO_8 := n0_; have HO_272000 := n1_; have BK271 := n2_; have HB := n3_; clear n0_ n1_ n2_ n3_; (try clear hb); (try clear hb2); (try clear hk); (try clear hi)))
        go_ret
        exact ⟨by first | rfl | (simp [errW_none, errW_some] <;> rfl) | (simp [*, errW_none, errW_some] <;> rfl), by repeat (first | (with_reducible first | exact HB.out | apply below_alloc | apply pw_below_drewN | apply below_drew1 | refine below_set ?_ GE271.out) | exact HB.out)⟩
      ·rw [if_neg c56] at H
       have c56b0 : decide ((t274.length : Int) < t273) = false := decide_eq_false c56
       clear c56
       obtain rfl := Option.some.inj H
       obtain ⟨Ao66, co66, eo66⟩ := Kd.R_slice HO_8.out
       subst eo66
       have hcz67_0 : wr.cell? ⟨gb271, 0, none⟩ = some (.slice Ao10 t268.length co10) := (blk_cell BK271.out 0).trans rfl
       have hfz67_0 := blk_frozen BK271.out 0
       go_wp2_with (first | ((with_reducible refine gate_callee (f := 20) rfl ?_); refine goesL_ (some 58) rfl rfl Try.func20 (by kernel_rfl) rfl #[.agg #[.slice Ao10 t268.length co10], .int .i64 (wrap64 (t272 + (t274.length : Int)))] rfl (by (try simp only [List.map_toArray, List.map_cons, List.map_nil]); first | done | rfl | (simp only [List.length_drop, List.length_take]; rfl)) ?_; (with_reducible refine (memory_Word.calls _ _ t268 (wrap64 (t272 + (t274.length : Int))) t281 t282 _ ?side1 ?side2 A30.out).mono ?_); (case side1 => repeat (first | exact (Kd.N_reads' HO_272000.out).2.2 | (with_reducible refine Kd.C_alloc ?_ _) | (with_reducible refine Kd.C_drewN ?_ _) | (with_reducible refine Kd.C_drew ?_))); (case side2 => exact (Kd.N_reads' HO_272000.out).2.1); rintro e w68 ⟨rfl, hb⟩; refine ⟨_, rfl, ?_⟩; have n0_ := Aside0.mk (Kd.R_below (by (with_reducible repeat (first | apply Kd.R_alloc | apply Kd.R_drewN | apply Kd.R_drew)); exact HO_8.out) hb); have n1_ := Aside0.mk (Kd.N_below (by (with_reducible repeat (first | apply Kd.N_alloc | apply Kd.N_drewN | apply Kd.N_drew)); exact HO_272000.out) hb); have n2_ := Aside0.mk (blk_below (g := gb271) (o := .cells #[.slice Ao10 t268.length co10] 24 (0, 0)) (by (with_reducible repeat (first | refine blk_drewN ?_ _ | refine blk_drew ?_ | refine blk_alloc ?_ _)); exact BK271.out) hb); have n3_ := Aside0.mk (below_step (by repeat (first | (with_reducible first | exact HB.out | apply below_alloc | apply pw_below_drewN | apply below_drew1 | refine below_set ?_ GE271.out) | exact HB.out)) hb); clear HO_8; clear HO_272000; clear BK271; clear HB; have HO_8 := n0_; have HO_272000 := n1_; have BK271 := n2_; have HB := n3_; clear n0_ n1_ n2_ n3_; (try clear hb); (try clear hb2); (try clear hk); (try clear hi)))
       go_ret
       exact ⟨by first | rfl | (simp [errW_none, errW_some] <;> rfl) | (simp [*, errW_none, errW_some] <;> rfl), by repeat (first | (with_reducible first | exact HB.out | apply below_alloc | apply pw_below_drewN | apply below_drew1 | refine below_set ?_ GE271.out) | exact HB.out)⟩
     ·rw [if_neg c55] at H
      have c55b0 : (t277 == (wrap64 (t272 + (t274.length : Int)))) = false := beq_eq_false_iff_ne.mpr c55
      have c55b1 : (t277 != (wrap64 (t272 + (t274.length : Int)))) = true := bne_iff_ne.mpr c55
      obtain rfl := Option.some.inj H
      obtain ⟨Ao69, co69, eo69⟩ := Kd.R_slice HO_8.out
      subst eo69
      have hcz70_0 : wr.cell? ⟨gb271, 0, none⟩ = some (.slice Ao10 t268.length co10) := (blk_cell BK271.out 0).trans rfl
      have hfz70_0 := blk_frozen BK271.out 0
      go_wp2_with (first | ((with_reducible refine gate_callee (f := 20) rfl ?_); refine goesL_ (some 58) rfl rfl Try.func20 (by kernel_rfl) rfl #[.agg #[.slice Ao10 t268.length co10], .int .i64 (wrap64 (t272 + (t274.length : Int)))] rfl (by (try simp only [List.map_toArray, List.map_cons, List.map_nil]); first | done | rfl | (simp only [List.length_drop, List.length_take]; rfl)) ?_; (with_reducible refine (memory_Word.calls _ _ t268 (wrap64 (t272 + (t274.length : Int))) t281 t282 _ ?side1 ?side2 A30.out).mono ?_); (case side1 => repeat (first | exact (Kd.N_reads' HO_272000.out).2.2 | (with_reducible refine Kd.C_alloc ?_ _) | (with_reducible refine Kd.C_drewN ?_ _) | (with_reducible refine Kd.C_drew ?_))); (case side2 => exact (Kd.N_reads' HO_272000.out).2.1); rintro e w71 ⟨rfl, hb⟩; refine ⟨_, rfl, ?_⟩; have n0_ := Aside0.mk (Kd.R_below (by (with_reducible repeat (first | apply Kd.R_alloc | apply Kd.R_drewN | apply Kd.R_drew)); exact HO_8.out) hb); have n1_ := Aside0.mk (Kd.N_below (by (with_reducible repeat (first | apply Kd.N_alloc | apply Kd.N_drewN | apply Kd.N_drew)); exact HO_272000.out) hb); have n2_ := Aside0.mk (blk_below (g := gb271) (o := .cells #[.slice Ao10 t268.length co10] 24 (0, 0)) (by (with_reducible repeat (first | refine blk_drewN ?_ _ | refine blk_drew ?_ | refine blk_alloc ?_ _)); exact BK271.out) hb); have n3_ := Aside0.mk (below_step (by repeat (first | (with_reducible first | exact HB.out | apply below_alloc | apply pw_below_drewN | apply below_drew1 | refine below_set ?_ GE271.out) | exact HB.out)) hb); clear HO_8; clear HO_272000; clear BK271; clear HB; have HO_8 := n0_; have HO_272000 := n1_; have BK271 := n2_; have HB := n3_; clear n0_ n1_ n2_ n3_; (try clear hb); (try clear hb2); (try clear hk); (try clear hi)))
      go_ret
      exact ⟨by first | rfl | (simp [errW_none, errW_some] <;> rfl) | (simp [*, errW_none, errW_some] <;> rfl), by repeat (first | (with_reducible first | exact HB.out | apply below_alloc | apply pw_below_drewN | apply below_drew1 | refine below_set ?_ GE271.out) | exact HB.out)⟩

/-- THE ONE PURE STATEMENT of debuggerlaw25_MemoryReads: yours. -/
def debuggerlaw25_MemoryReads.Pure : Prop := ∀ (l0 : List Int) (a1 : Int) (a2 : Int), l0.length ≤ maxLen → l0.length * 8 ≤ 140737488351232 → (∀ x ∈ l0, (Lit.int .i64 x).wf = true) → (Lit.int .i64 a1).wf = true → (Lit.int .i64 a2).wf = true → ∃ k, debuggerlaw25_MemoryReads.f k l0 a1 a2 = some true
theorem debuggerlaw25_MemoryReads.walk (P : debuggerlaw25_MemoryReads.Pure) (a0 : Option Addr) (len0 cap0 : Nat) (z0 : List Int) (a1 : Int) (a2 : Int) (w : World) (w0 : (a0 = none ∧ len0 = 0 ∧ cap0 = 0 ∧ z0 = []) ∨ ∃ x, a0 = some x ∧ len0 ≤ cap0 ∧ cap0 ≤ maxLen ∧ z0.length = cap0 ∧ (∀ i, i < z0.length → w.cell? (x.add i) = some (.int .i64 (z0.getD i 0))) ∧ ∀ n ∈ z0, (Lit.int .i64 n).wf = true) (y0 : len0 * 8 ≤ 140737488351232) (w1 : (Lit.int .i64 a1).wf = true) (w2 : (Lit.int .i64 a2).wf = true) :
  Calls Try.prog 5 #[.slice a0 len0 cap0, .int .i64 a1, .int .i64 a2] w fun e w' => e = .returned (.bool true) ∧ Below w.heap.size w w' := by
 obtain ⟨l0, rfl, hr0, hm0, hw0, hc0⟩ := ReadsInt.ofRowC w0
 obtain ⟨k, h⟩ := P l0 a1 a2 hm0 y0 hw0 w1 w2
 refine (debuggerlaw25_MemoryReads.calls k _ _ l0 a1 a2 true w (Kd.C_of_reads (d := (0 : Int)) (h1 := fun _ => rfl) hr0) hc0 h).mono ?_
 rintro e w' ⟨rfl, hd⟩
 exact ⟨rfl, hd⟩

end Go.Proofs.Ytpifepaflljolaa.PMem
