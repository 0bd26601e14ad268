-- By wip/xprint.py (a driver of this session's over the kit's print), for this claim.
import Derived.Test.YtpifepaflljolaaPMemx0
import Derived.Test.YtpifepaflljolaaPMemx2
import Derived.Test.YtpifepaflljolaaPMemx7
import Derived.Test.YtpifepaflljolaaPMemx9
import Derived.Test.YtpifepaflljolaaPMemx14
import Derived.Test.YtpifepaflljolaaPMemx19
import Derived.Test.YtpifepaflljolaaPMemx25
namespace Go.Proofs.Ytpifepaflljolaa.PMem
open Go.RowKit Go.Proofs.YtpifepaflljolaaW.PrintWords Go.Proofs.YtpifepaflljolaaW.PrintLast Go.Proofs.YtpifepaflljolaaW.PrintMore
attribute [local go_sem] max2_int min2_int max_two min_two max_three min_three max_four min_four   -- for this text's walks alone
set_option linter.unusedVariables false
set_option linter.unusedSimpArgs false

/-! ### debuggerlaw25_MemoryHolds: function 7 -/
def debuggerlaw25_MemoryHolds.j0 : Nat → Int → Int → Int → Int → Bool → List (S31) → Option (Bool)
 | 0, _, _, _, _, _, _ => none
 | k + 1, x1, x3, x12, x18, x77, x395000 => if x77 = true then (some false) else (if x3 = x1 then ((memory_Right.f k x395000).bind fun t399 => (if t399 = true then ((debuggerlaw25_awake.f k).bind fun t400 => (some t400)) else (some false))) else (if x18 = x12 then ((memory_Right.f k x395000).bind fun t401 => (if t401 = true then ((debuggerlaw25_awake.f k).bind fun t402 => (some t402)) else (some false))) else (some false)))
def debuggerlaw25_MemoryHolds.f (k : Nat) (l0 : List Int) (a1 : Int) (a2 : Int) (a3 : Int) : Option (Bool) := (debuggerlaw25_some.f k l0).bind fun t380 => ((debuggerkit_Mod.f a1 768).bind fun t384 => ((debuggerkit_Mod.f a3 768).bind fun t385 => ((memory_Word.f t380 t384).bind fun bt386 => ((memory_Word.f t380 t385).bind fun bt388 => ((memory_With.f k t380 t384 a2).bind fun bt390 => ((memory_Word.f bt390.1 t384).bind fun bt395 => ((memory_Word.f bt390.1 t385).bind fun bt397 => (if (bt390.2 != bt386.2) = true then (debuggerlaw25_MemoryHolds.j0 k t384 t385 bt388.1 bt397.1 true bt390.1) else (if (bt395.2 != bt386.2) = true then (debuggerlaw25_MemoryHolds.j0 k t384 t385 bt388.1 bt397.1 true bt390.1) else (if (bt397.2 != bt388.2) = true then (debuggerlaw25_MemoryHolds.j0 k t384 t385 bt388.1 bt397.1 true bt390.1) else (if bt386.2 = true then (debuggerlaw25_MemoryHolds.j0 k t384 t385 bt388.1 bt397.1 (bt395.1 != a2) bt390.1) else (debuggerlaw25_MemoryHolds.j0 k t384 t385 bt388.1 bt397.1 false bt390.1))))))))))))
theorem debuggerlaw25_MemoryHolds.mono_l : ∀ k, (∀ y0 y1 y2 y3 y4 y5, LeO (debuggerlaw25_MemoryHolds.j0 k y0 y1 y2 y3 y4 y5) (debuggerlaw25_MemoryHolds.j0 (k + 1) y0 y1 y2 y3 y4 y5))
 | 0 => fun _ _ _ _ _ _ r h => by simp [debuggerlaw25_MemoryHolds.j0] at h
 | k + 1 => by
  have ih0 := debuggerlaw25_MemoryHolds.mono_l k
  ·intro y0 y1 y2 y3 y4 y5
   unfold debuggerlaw25_MemoryHolds.j0
   repeat' first
   | (with_reducible exact ih0 _ _ _ _ _ _)
   | (with_reducible exact debuggerlaw25_awake.mono _)
   | (with_reducible exact debuggerlaw25_some.mono _ _)
   | (with_reducible exact memory_Right.mono _ _)
   | (with_reducible exact memory_With.mono _ _ _ _)
   | (with_reducible exact LeO.refl _)
   | (with_reducible exact LeO.none _)
   | (with_reducible refine LeO.ite ?_ ?_)
   | (with_reducible refine LeO.bind ?_ (fun _ => ?_))
   | exact ih0 _ _ _ _ _ _
   | exact debuggerlaw25_awake.mono _
   | exact debuggerlaw25_some.mono _ _
   | exact memory_Right.mono _ _
   | exact memory_With.mono _ _ _ _
   | exact LeO.none _
   | refine LeO.ite ?_ ?_
   | refine LeO.bind ?_ (fun _ => ?_)
theorem debuggerlaw25_MemoryHolds.mono : ∀ a0 a1 a2 a3 k, LeO (debuggerlaw25_MemoryHolds.f k a0 a1 a2 a3) (debuggerlaw25_MemoryHolds.f (k + 1) a0 a1 a2 a3) := by
 intro a0 a1 a2 a3 k
 have ih0 := debuggerlaw25_MemoryHolds.mono_l k
 unfold debuggerlaw25_MemoryHolds.f
 repeat' first
   | (with_reducible exact ih0 _ _ _ _ _ _)
   | (with_reducible exact debuggerlaw25_awake.mono _)
   | (with_reducible exact debuggerlaw25_some.mono _ _)
   | (with_reducible exact memory_Right.mono _ _)
   | (with_reducible exact memory_With.mono _ _ _ _)
   | (with_reducible exact LeO.refl _)
   | (with_reducible exact LeO.none _)
   | (with_reducible refine LeO.ite ?_ ?_)
   | (with_reducible refine LeO.bind ?_ (fun _ => ?_))
   | exact ih0 _ _ _ _ _ _
   | exact debuggerlaw25_awake.mono _
   | exact debuggerlaw25_some.mono _ _
   | exact memory_Right.mono _ _
   | exact memory_With.mono _ _ _ _
   | exact LeO.none _
   | refine LeO.ite ?_ ?_
   | refine LeO.bind ?_ (fun _ => ?_)
set_option maxHeartbeats 8000000 in
set_option maxRecDepth 100000 in
theorem debuggerlaw25_MemoryHolds.calls (k : Nat) (A0 : Option Addr) (c0 : Nat) (l0 : List Int) (a1 : Int) (a2 : Int) (a3 : Int) (r : Bool) (w : World) (hr0 : Kd.C (Kd.int .i64) w A0 l0.length l0) (hc0 : l0.length ≤ c0) (h : debuggerlaw25_MemoryHolds.f k l0 a1 a2 a3 = some r) :
  Calls Try.prog 7 #[.slice A0 l0.length c0, .int .i64 a1, .int .i64 a2, .int .i64 a3] w fun e w' => e = .returned (.bool r) ∧ Below w.heap.size w w' := by
 have hu24 := Try.underlying24
 have HR0 := Aside0.mk hr0
 have HC0 := Aside0.mk hc0
 clear hr0 hc0
 have HB := Aside0.mk (Below.refl w.heap.size w)
 have H : ((debuggerlaw25_some.f k l0).bind fun t380 => ((debuggerkit_Mod.f a1 768).bind fun t384 => ((debuggerkit_Mod.f a3 768).bind fun t385 => ((memory_Word.f t380 t384).bind fun bt386 => ((memory_Word.f t380 t385).bind fun bt388 => ((memory_With.f k t380 t384 a2).bind fun bt390 => ((memory_Word.f bt390.1 t384).bind fun bt395 => ((memory_Word.f bt390.1 t385).bind fun bt397 => (if (bt390.2 != bt386.2) = true then (debuggerlaw25_MemoryHolds.j0 k t384 t385 bt388.1 bt397.1 true bt390.1) else (if (bt395.2 != bt386.2) = true then (debuggerlaw25_MemoryHolds.j0 k t384 t385 bt388.1 bt397.1 true bt390.1) else (if (bt397.2 != bt388.2) = true then (debuggerlaw25_MemoryHolds.j0 k t384 t385 bt388.1 bt397.1 true bt390.1) else (if bt386.2 = true then (debuggerlaw25_MemoryHolds.j0 k t384 t385 bt388.1 bt397.1 (bt395.1 != a2) bt390.1) else (debuggerlaw25_MemoryHolds.j0 k t384 t385 bt388.1 bt397.1 false bt390.1))))))))))))) = some r := h
 clear h
 replace H := Option.bind_eq_some_iff.mp H
 obtain ⟨t380, A50, H⟩ := H
 replace H : ((debuggerkit_Mod.f a1 768).bind fun t384 => ((debuggerkit_Mod.f a3 768).bind fun t385 => ((memory_Word.f t380 t384).bind fun bt386 => ((memory_Word.f t380 t385).bind fun bt388 => ((memory_With.f k t380 t384 a2).bind fun bt390 => ((memory_Word.f bt390.1 t384).bind fun bt395 => ((memory_Word.f bt390.1 t385).bind fun bt397 => (if (bt390.2 != bt386.2) = true then (debuggerlaw25_MemoryHolds.j0 k t384 t385 bt388.1 bt397.1 true bt390.1) else (if (bt395.2 != bt386.2) = true then (debuggerlaw25_MemoryHolds.j0 k t384 t385 bt388.1 bt397.1 true bt390.1) else (if (bt397.2 != bt388.2) = true then (debuggerlaw25_MemoryHolds.j0 k t384 t385 bt388.1 bt397.1 true bt390.1) else (if bt386.2 = true then (debuggerlaw25_MemoryHolds.j0 k t384 t385 bt388.1 bt397.1 (bt395.1 != a2) bt390.1) else (debuggerlaw25_MemoryHolds.j0 k t384 t385 bt388.1 bt397.1 false bt390.1)))))))))))) = some r := H
 have A5 := Aside0.mk A50
 clear A50
 replace H := Option.bind_eq_some_iff.mp H
 obtain ⟨t384, A60, H⟩ := H
 replace H : ((debuggerkit_Mod.f a3 768).bind fun t385 => ((memory_Word.f t380 t384).bind fun bt386 => ((memory_Word.f t380 t385).bind fun bt388 => ((memory_With.f k t380 t384 a2).bind fun bt390 => ((memory_Word.f bt390.1 t384).bind fun bt395 => ((memory_Word.f bt390.1 t385).bind fun bt397 => (if (bt390.2 != bt386.2) = true then (debuggerlaw25_MemoryHolds.j0 k t384 t385 bt388.1 bt397.1 true bt390.1) else (if (bt395.2 != bt386.2) = true then (debuggerlaw25_MemoryHolds.j0 k t384 t385 bt388.1 bt397.1 true bt390.1) else (if (bt397.2 != bt388.2) = true then (debuggerlaw25_MemoryHolds.j0 k t384 t385 bt388.1 bt397.1 true bt390.1) else (if bt386.2 = true then (debuggerlaw25_MemoryHolds.j0 k t384 t385 bt388.1 bt397.1 (bt395.1 != a2) bt390.1) else (debuggerlaw25_MemoryHolds.j0 k t384 t385 bt388.1 bt397.1 false bt390.1))))))))))) = some r := H
 have A6 := Aside0.mk A60
 clear A60
 replace H := Option.bind_eq_some_iff.mp H
 obtain ⟨t385, A70, H⟩ := H
 replace H : ((memory_Word.f t380 t384).bind fun bt386 => ((memory_Word.f t380 t385).bind fun bt388 => ((memory_With.f k t380 t384 a2).bind fun bt390 => ((memory_Word.f bt390.1 t384).bind fun bt395 => ((memory_Word.f bt390.1 t385).bind fun bt397 => (if (bt390.2 != bt386.2) = true then (debuggerlaw25_MemoryHolds.j0 k t384 t385 bt388.1 bt397.1 true bt390.1) else (if (bt395.2 != bt386.2) = true then (debuggerlaw25_MemoryHolds.j0 k t384 t385 bt388.1 bt397.1 true bt390.1) else (if (bt397.2 != bt388.2) = true then (debuggerlaw25_MemoryHolds.j0 k t384 t385 bt388.1 bt397.1 true bt390.1) else (if bt386.2 = true then (debuggerlaw25_MemoryHolds.j0 k t384 t385 bt388.1 bt397.1 (bt395.1 != a2) bt390.1) else (debuggerlaw25_MemoryHolds.j0 k t384 t385 bt388.1 bt397.1 false bt390.1)))))))))) = some r := H
 have A7 := Aside0.mk A70
 clear A70
 replace H := Option.bind_eq_some_iff.mp H
 obtain ⟨⟨t386, t387⟩, A80, H⟩ := H
 replace H : ((memory_Word.f t380 t385).bind fun bt388 => ((memory_With.f k t380 t384 a2).bind fun bt390 => ((memory_Word.f bt390.1 t384).bind fun bt395 => ((memory_Word.f bt390.1 t385).bind fun bt397 => (if (bt390.2 != t387) = true then (debuggerlaw25_MemoryHolds.j0 k t384 t385 bt388.1 bt397.1 true bt390.1) else (if (bt395.2 != t387) = true then (debuggerlaw25_MemoryHolds.j0 k t384 t385 bt388.1 bt397.1 true bt390.1) else (if (bt397.2 != bt388.2) = true then (debuggerlaw25_MemoryHolds.j0 k t384 t385 bt388.1 bt397.1 true bt390.1) else (if t387 = true then (debuggerlaw25_MemoryHolds.j0 k t384 t385 bt388.1 bt397.1 (bt395.1 != a2) bt390.1) else (debuggerlaw25_MemoryHolds.j0 k t384 t385 bt388.1 bt397.1 false bt390.1))))))))) = some r := H
 have A8 := Aside0.mk A80
 clear A80
 replace H := Option.bind_eq_some_iff.mp H
 obtain ⟨⟨t388, t389⟩, A90, H⟩ := H
 replace H : ((memory_With.f k t380 t384 a2).bind fun bt390 => ((memory_Word.f bt390.1 t384).bind fun bt395 => ((memory_Word.f bt390.1 t385).bind fun bt397 => (if (bt390.2 != t387) = true then (debuggerlaw25_MemoryHolds.j0 k t384 t385 t388 bt397.1 true bt390.1) else (if (bt395.2 != t387) = true then (debuggerlaw25_MemoryHolds.j0 k t384 t385 t388 bt397.1 true bt390.1) else (if (bt397.2 != t389) = true then (debuggerlaw25_MemoryHolds.j0 k t384 t385 t388 bt397.1 true bt390.1) else (if t387 = true then (debuggerlaw25_MemoryHolds.j0 k t384 t385 t388 bt397.1 (bt395.1 != a2) bt390.1) else (debuggerlaw25_MemoryHolds.j0 k t384 t385 t388 bt397.1 false bt390.1)))))))) = some r := H
 have A9 := Aside0.mk A90
 clear A90
 replace H := Option.bind_eq_some_iff.mp H
 obtain ⟨⟨t390, t393⟩, A100, H⟩ := H
 replace H : ((memory_Word.f t390 t384).bind fun bt395 => ((memory_Word.f t390 t385).bind fun bt397 => (if (t393 != t387) = true then (debuggerlaw25_MemoryHolds.j0 k t384 t385 t388 bt397.1 true t390) else (if (bt395.2 != t387) = true then (debuggerlaw25_MemoryHolds.j0 k t384 t385 t388 bt397.1 true t390) else (if (bt397.2 != t389) = true then (debuggerlaw25_MemoryHolds.j0 k t384 t385 t388 bt397.1 true t390) else (if t387 = true then (debuggerlaw25_MemoryHolds.j0 k t384 t385 t388 bt397.1 (bt395.1 != a2) t390) else (debuggerlaw25_MemoryHolds.j0 k t384 t385 t388 bt397.1 false t390))))))) = some r := H
 have A10 := Aside0.mk A100
 clear A100
 replace H := Option.bind_eq_some_iff.mp H
 obtain ⟨⟨t395, t396⟩, A110, H⟩ := H
 replace H : ((memory_Word.f t390 t385).bind fun bt397 => (if (t393 != t387) = true then (debuggerlaw25_MemoryHolds.j0 k t384 t385 t388 bt397.1 true t390) else (if (t396 != t387) = true then (debuggerlaw25_MemoryHolds.j0 k t384 t385 t388 bt397.1 true t390) else (if (bt397.2 != t389) = true then (debuggerlaw25_MemoryHolds.j0 k t384 t385 t388 bt397.1 true t390) else (if t387 = true then (debuggerlaw25_MemoryHolds.j0 k t384 t385 t388 bt397.1 (t395 != a2) t390) else (debuggerlaw25_MemoryHolds.j0 k t384 t385 t388 bt397.1 false t390)))))) = some r := H
 have A11 := Aside0.mk A110
 clear A110
 replace H := Option.bind_eq_some_iff.mp H
 obtain ⟨⟨t397, t398⟩, A120, H⟩ := H
 replace H : (if (t393 != t387) = true then (debuggerlaw25_MemoryHolds.j0 k t384 t385 t388 t397 true t390) else (if (t396 != t387) = true then (debuggerlaw25_MemoryHolds.j0 k t384 t385 t388 t397 true t390) else (if (t398 != t389) = true then (debuggerlaw25_MemoryHolds.j0 k t384 t385 t388 t397 true t390) else (if t387 = true then (debuggerlaw25_MemoryHolds.j0 k t384 t385 t388 t397 (t395 != a2) t390) else (debuggerlaw25_MemoryHolds.j0 k t384 t385 t388 t397 false t390))))) = some r := H
 have A12 := Aside0.mk A120
 clear A120
 have HC13 := Aside0.mk H
 clear H
 go_enter Try.func7, Try.ntmps7
 go_upto_region 8 with (first | ((with_reducible refine gate_callee (f := 12) rfl ?_); refine goesL_ (some 21) rfl rfl Try.func12 (by kernel_rfl) rfl #[.slice A0 l0.length c0] rfl (by (try simp only [List.map_toArray, List.map_cons, List.map_nil]); first | done | rfl | (simp only [List.length_drop, List.length_take]; rfl)) ?_; (with_reducible refine (debuggerlaw25_some.calls k _ _ l0 t380 _ ?side1 ?side2 A5.out).mono ?_); (case side1 => repeat (first | exact HR0.out | (with_reducible refine Kd.C_alloc ?_ _) | (with_reducible refine Kd.C_drewN ?_ _) | (with_reducible refine Kd.C_drew ?_))); (case side2 => exact HC0.out); rintro e w14 ⟨v381, rfl, ho0, hb⟩; refine ⟨_, rfl, ?_⟩; have n0_ := Aside0.mk (Kd.N_lower (Kd.N_mono (ok' := fun k_ => True) ho0 (fun k_ hk_ => trivial)) (below_size (by repeat (first | (with_reducible first | exact HB.out | apply below_alloc | apply pw_below_drewN | apply below_drew1) | exact HB.out)))); have n1_ := Aside0.mk (below_step (by repeat (first | (with_reducible first | exact HB.out | apply below_alloc | apply pw_below_drewN | apply below_drew1) | exact HB.out)) hb); clear HB; have HO382 := n0_; have HB := n1_; clear n0_ n1_; (try clear hb); (try clear hb2); (try clear hk); (try clear hi); (try clear ho0)) | ((with_reducible refine gate_dst (N := 9) rfl ?_); refine box_event ?hg (N := 9) ?hd (cs := #[.slice none 0 0]) (t := 24) ?hr ?_; (case hd => rfl); (case hg => rfl); (case hr => first | (go_simp; done) | (go_simp; rfl)); intro gb383 hg w15 hbox hb; have n0_ := Aside0.mk (Kd.N_below (Kd.N_elderB (by (with_reducible repeat (first | apply Kd.N_alloc | apply Kd.N_drewN | apply Kd.N_drew)); exact HO382.out) gb383 (Nat.le_of_eq hg.symm)) hb); have n1_ := Aside0.mk (below_step (by repeat (first | (with_reducible first | exact HB.out | apply below_alloc | apply pw_below_drewN | apply below_drew1) | exact HB.out)) hb); have n2_ := Aside0.mk (hbox); have n3_ := Aside0.mk ((by rw [hg]; exact (below_size (by repeat (first | (with_reducible first | exact HB.out | apply below_alloc | apply pw_below_drewN | apply below_drew1) | exact HB.out))) : w.heap.size ≤ gb383)); have n4_ := Aside0.mk ((by rw [hg]; exact (below_size (by repeat (first | (with_reducible first | exact HB.out | apply below_alloc | apply pw_below_drewN | apply below_drew1) | exact HB.out))) : w.heap.size ≤ gb383)); clear HO382; clear HB; have HO382 := n0_; have HB := n1_; have BK383 := n2_; have GW383 := n3_; have GE383 := n4_; clear n0_ n1_ n2_ n3_ n4_; clear hb hbox hg; obtain ⟨Ao16, co16, eo16⟩ := Kd.N_slice HO382.out; subst eo16; have hcz17_0 : w15.cell? ⟨gb383, 0, none⟩ = some (.slice none 0 0) := (blk_cell BK383.out 0).trans rfl; have hfz17_0 := blk_frozen BK383.out 0) | ((with_reducible refine gate_callee (f := 13) rfl ?_); refine goesL_ (some 23) rfl rfl Try.func13 (by kernel_rfl) rfl #[.int .i64 a1, .int .i64 768] rfl (by (try simp only [List.map_toArray, List.map_cons, List.map_nil]); first | done | rfl | (simp only [List.length_drop, List.length_take]; rfl)) ?_; (with_reducible refine (debuggerkit_Mod.calls a1 768 t384 _ A6.out).mono ?_); rintro e w18 ⟨rfl, hb⟩; refine ⟨_, rfl, ?_⟩; have n0_ := Aside0.mk (Kd.N_below (by (with_reducible repeat (first | apply Kd.N_alloc | apply Kd.N_drewN | apply Kd.N_drew)); exact (Kd.N_mono (Kd.N_far (p := ⟨gb383, 0, none⟩) (Kd.N_mono HO382.out (fun k_ hk => (⟨hk, hk.2⟩ : _ ∧ k_ ≠ gb383))) (fun _ hk => hk.2) (.slice Ao16 t380.length co16)) (fun _ h_ => h_.1))) hb); have n1_ := Aside0.mk (blk_below (g := gb383) (o := .cells #[.slice Ao16 t380.length co16] 24 (0, 0)) (by (with_reducible repeat (first | refine blk_drewN ?_ _ | refine blk_drew ?_ | refine blk_alloc ?_ _)); refine blk_put (cs := #[.slice none 0 0]) ?_ 0 _ rfl; (with_reducible repeat (first | refine blk_drewN ?_ _ | refine blk_drew ?_ | refine blk_alloc ?_ _)); exact BK383.out) hb); have n2_ := Aside0.mk (below_step (by repeat (first | (with_reducible first | exact HB.out | apply below_alloc | apply pw_below_drewN | apply below_drew1 | refine below_set ?_ GE383.out) | exact HB.out)) hb); clear HO382; clear BK383; clear HB; have HO382 := n0_; have BK383 := n1_; have HB := n2_; clear n0_ n1_ n2_; (try clear hb); (try clear hb2); (try clear hk); (try clear hi)) | ((with_reducible refine gate_callee (f := 13) rfl ?_); refine goesL_ (some 25) rfl rfl Try.func13 (by kernel_rfl) rfl #[.int .i64 a3, .int .i64 768] rfl (by (try simp only [List.map_toArray, List.map_cons, List.map_nil]); first | done | rfl | (simp only [List.length_drop, List.length_take]; rfl)) ?_; (with_reducible refine (debuggerkit_Mod.calls a3 768 t385 _ A7.out).mono ?_); rintro e w19 ⟨rfl, hb⟩; refine ⟨_, rfl, ?_⟩; have n0_ := Aside0.mk (Kd.N_below (by (with_reducible repeat (first | apply Kd.N_alloc | apply Kd.N_drewN | apply Kd.N_drew)); exact HO382.out) hb); have n1_ := Aside0.mk (blk_below (g := gb383) (o := .cells #[.slice Ao16 t380.length co16] 24 (0, 0)) (by (with_reducible repeat (first | refine blk_drewN ?_ _ | refine blk_drew ?_ | refine blk_alloc ?_ _)); exact BK383.out) hb); have n2_ := Aside0.mk (below_step (by repeat (first | (with_reducible first | exact HB.out | apply below_alloc | apply pw_below_drewN | apply below_drew1 | refine below_set ?_ GE383.out) | exact HB.out)) hb); clear HO382; clear BK383; clear HB; have HO382 := n0_; have BK383 := n1_; have HB := n2_; clear n0_ n1_ n2_; (try clear hb); (try clear hb2); (try clear hk); (try clear hi); have hcz20_0 : w19.cell? ⟨gb383, 0, none⟩ = some (.slice Ao16 t380.length co16) := (blk_cell BK383.out 0).trans rfl; have hfz20_0 := blk_frozen BK383.out 0) | ((with_reducible refine gate_callee (f := 20) rfl ?_); refine goesL_ (some 29) rfl rfl Try.func20 (by kernel_rfl) rfl #[.agg #[.slice Ao16 t380.length co16], .int .i64 t384] rfl (by (try simp only [List.map_toArray, List.map_cons, List.map_nil]); first | done | rfl | (simp only [List.length_drop, List.length_take]; rfl)) ?_; (with_reducible refine (memory_Word.calls _ _ t380 t384 t386 t387 _ ?side1 ?side2 A8.out).mono ?_); (case side1 => repeat (first | exact (Kd.N_reads' HO382.out).2.2 | (with_reducible refine Kd.C_alloc ?_ _) | (with_reducible refine Kd.C_drewN ?_ _) | (with_reducible refine Kd.C_drew ?_))); (case side2 => exact (Kd.N_reads' HO382.out).2.1); rintro e w21 ⟨rfl, hb⟩; refine ⟨_, rfl, ?_⟩; have n0_ := Aside0.mk (Kd.N_below (by (with_reducible repeat (first | apply Kd.N_alloc | apply Kd.N_drewN | apply Kd.N_drew)); exact HO382.out) hb); have n1_ := Aside0.mk (blk_below (g := gb383) (o := .cells #[.slice Ao16 t380.length co16] 24 (0, 0)) (by (with_reducible repeat (first | refine blk_drewN ?_ _ | refine blk_drew ?_ | refine blk_alloc ?_ _)); exact BK383.out) hb); have n2_ := Aside0.mk (below_step (by repeat (first | (with_reducible first | exact HB.out | apply below_alloc | apply pw_below_drewN | apply below_drew1 | refine below_set ?_ GE383.out) | exact HB.out)) hb); clear HO382; clear BK383; clear HB; have HO382 := n0_; have BK383 := n1_; have HB := n2_; clear n0_ n1_ n2_; (try clear hb); (try clear hb2); (try clear hk); (try clear hi); have hcz22_0 : w21.cell? ⟨gb383, 0, none⟩ = some (.slice Ao16 t380.length co16) := (blk_cell BK383.out 0).trans rfl; have hfz22_0 := blk_frozen BK383.out 0) | ((with_reducible refine gate_callee (f := 20) rfl ?_); refine goesL_ (some 35) rfl rfl Try.func20 (by kernel_rfl) rfl #[.agg #[.slice Ao16 t380.length co16], .int .i64 t385] rfl (by (try simp only [List.map_toArray, List.map_cons, List.map_nil]); first | done | rfl | (simp only [List.length_drop, List.length_take]; rfl)) ?_; (with_reducible refine (memory_Word.calls _ _ t380 t385 t388 t389 _ ?side1 ?side2 A9.out).mono ?_); (case side1 => repeat (first | exact (Kd.N_reads' HO382.out).2.2 | (with_reducible refine Kd.C_alloc ?_ _) | (with_reducible refine Kd.C_drewN ?_ _) | (with_reducible refine Kd.C_drew ?_))); (case side2 => exact (Kd.N_reads' HO382.out).2.1); rintro e w23 ⟨rfl, hb⟩; refine ⟨_, rfl, ?_⟩; have n0_ := Aside0.mk (Kd.N_below (by (with_reducible repeat (first | apply Kd.N_alloc | apply Kd.N_drewN | apply Kd.N_drew)); exact HO382.out) hb); have n1_ := Aside0.mk (blk_below (g := gb383) (o := .cells #[.slice Ao16 t380.length co16] 24 (0, 0)) (by (with_reducible repeat (first | refine blk_drewN ?_ _ | refine blk_drew ?_ | refine blk_alloc ?_ _)); exact BK383.out) hb); have n2_ := Aside0.mk (below_step (by repeat (first | (with_reducible first | exact HB.out | apply below_alloc | apply pw_below_drewN | apply below_drew1 | refine below_set ?_ GE383.out) | exact HB.out)) hb); clear HO382; clear BK383; clear HB; have HO382 := n0_; have BK383 := n1_; have HB := n2_; clear n0_ n1_ n2_; (try clear hb); (try clear hb2); (try clear hk); (try clear hi); have hcz24_0 : w23.cell? ⟨gb383, 0, none⟩ = some (.slice Ao16 t380.length co16) := (blk_cell BK383.out 0).trans rfl; have hfz24_0 := blk_frozen BK383.out 0) | ((with_reducible refine gate_callee (f := 22) rfl ?_); refine goesL_ (some 42) rfl rfl Try.func22 (by kernel_rfl) rfl #[.agg #[.slice Ao16 t380.length co16], .int .i64 t384, .int .i64 a2] rfl (by (try simp only [List.map_toArray, List.map_cons, List.map_nil]); first | done | rfl | (simp only [List.length_drop, List.length_take]; rfl)) ?_; (with_reducible refine (memory_With.calls k _ _ t380 t384 a2 t390 t393 _ ?side1 ?side2 A10.out).mono ?_); (case side1 => repeat (first | exact (Kd.N_reads' HO382.out).2.2 | (with_reducible refine Kd.C_alloc ?_ _) | (with_reducible refine Kd.C_drewN ?_ _) | (with_reducible refine Kd.C_drew ?_))); (case side2 => exact (Kd.N_reads' HO382.out).2.1); rintro e w25 ⟨v391, rfl, ho0, hb⟩; refine ⟨_, rfl, ?_⟩; have n0_ := Aside0.mk (Kd.N_elder' (by (with_reducible repeat (first | apply Kd.N_alloc | apply Kd.N_drewN | apply Kd.N_drew)); exact HO382.out) (by first | exact Kd.N_base ho0 | exact Kd.S_base ho0 | exact Kd.R_base ho0 | exact Kd.N_base ho0) hb); have n1_ := Aside0.mk (Kd.N_lower (Kd.N_mono (ok' := fun k_ => some k_ ≠ (.slice Ao16 t380.length co16 : Value).ownBlock ∧ k_ ≠ gb383) (Kd.S_N (Kd.S_bound ho0)) (fun k_ hk_ => ⟨(Kd.fresh' (Kd.N_lt (by (with_reducible repeat (first | apply Kd.N_alloc | apply Kd.N_drewN | apply Kd.N_drew)); exact HO382.out)) k_ hk_.2.1), (Kd.freshB (g := gb383) (o := .cells #[.slice Ao16 t380.length co16] 24 (0, 0)) (by (with_reducible repeat (first | refine blk_drewN ?_ _ | refine blk_drew ?_ | refine blk_alloc ?_ _)); exact BK383.out) k_ hk_.2.1)⟩)) (below_size (by repeat (first | (with_reducible first | exact HB.out | apply below_alloc | apply pw_below_drewN | apply below_drew1 | refine below_set ?_ GE383.out) | exact HB.out)))); have n2_ := Aside0.mk (blk_below (g := gb383) (o := .cells #[.slice Ao16 t380.length co16] 24 (0, 0)) (by (with_reducible repeat (first | refine blk_drewN ?_ _ | refine blk_drew ?_ | refine blk_alloc ?_ _)); exact BK383.out) hb); have n3_ := Aside0.mk (below_step (by repeat (first | (with_reducible first | exact HB.out | apply below_alloc | apply pw_below_drewN | apply below_drew1 | refine below_set ?_ GE383.out) | exact HB.out)) hb); clear HO382; clear BK383; clear HB; have HO382 := n0_; have HO392 := n1_; have BK383 := n2_; have HB := n3_; clear n0_ n1_ n2_ n3_; (try clear hb); (try clear hb2); (try clear hk); (try clear hi); (try clear ho0)) | ((with_reducible refine gate_dst (N := 14) rfl ?_); refine box_event ?hg (N := 14) ?hd (cs := #[.slice none 0 0]) (t := 24) ?hr ?_; (case hd => rfl); (case hg => rfl); (case hr => first | (go_simp; done) | (go_simp; rfl)); intro gb394 hg w26 hbox hb; have n0_ := Aside0.mk (Kd.N_below (Kd.N_elderB (by (with_reducible repeat (first | apply Kd.N_alloc | apply Kd.N_drewN | apply Kd.N_drew)); exact HO382.out) gb394 (Nat.le_of_eq hg.symm)) hb); have n1_ := Aside0.mk (Kd.N_below (Kd.N_elderB (by (with_reducible repeat (first | apply Kd.N_alloc | apply Kd.N_drewN | apply Kd.N_drew)); exact HO392.out) gb394 (Nat.le_of_eq hg.symm)) hb); have n2_ := Aside0.mk (blk_below (g := gb383) (o := .cells #[.slice Ao16 t380.length co16] 24 (0, 0)) (by (with_reducible repeat (first | refine blk_drewN ?_ _ | refine blk_drew ?_ | refine blk_alloc ?_ _)); exact BK383.out) hb); have n3_ := Aside0.mk (below_step (by repeat (first | (with_reducible first | exact HB.out | apply below_alloc | apply pw_below_drewN | apply below_drew1 | refine below_set ?_ GE383.out) | exact HB.out)) hb); have n4_ := Aside0.mk (hbox); have n5_ := Aside0.mk ((by rw [hg]; exact (below_size (by repeat (first | (with_reducible first | exact HB.out | apply below_alloc | apply pw_below_drewN | apply below_drew1 | refine below_set ?_ GE383.out) | exact HB.out))) : w.heap.size ≤ gb394)); have n6_ := Aside0.mk ((by rw [hg]; exact (below_size (by repeat (first | (with_reducible first | exact HB.out | apply below_alloc | apply pw_below_drewN | apply below_drew1 | refine below_set ?_ GE383.out) | exact HB.out))) : w.heap.size ≤ gb394)); have n7_ := Aside0.mk ((by rw [hg]; exact Nat.ne_of_lt (blk_lt (g := gb383) (o := .cells #[.slice Ao16 t380.length co16] 24 (0, 0)) (by (with_reducible repeat (first | refine blk_drewN ?_ _ | refine blk_drew ?_ | refine blk_alloc ?_ _)); exact BK383.out)) : gb383 ≠ gb394)); have n8_ := Aside0.mk ((by rw [hg]; exact Nat.ne_of_gt (blk_lt (g := gb383) (o := .cells #[.slice Ao16 t380.length co16] 24 (0, 0)) (by (with_reducible repeat (first | refine blk_drewN ?_ _ | refine blk_drew ?_ | refine blk_alloc ?_ _)); exact BK383.out)) : gb394 ≠ gb383)); clear HO382; clear HO392; clear BK383; clear HB; have HO382 := n0_; have HO392 := n1_; have BK383 := n2_; have HB := n3_; have BK394 := n4_; have GW394 := n5_; have GE394 := n6_; have NB383_394 := n7_; have NB394_383 := n8_; clear n0_ n1_ n2_ n3_ n4_ n5_ n6_ n7_ n8_; clear hb hbox hg; obtain ⟨Ao27, co27, eo27⟩ := Kd.N_slice HO392.out; subst eo27; have hnb28 := NB394_383.out; have hnc28 := NB383_394.out; have hcz29_0 : w26.cell? ⟨gb394, 0, none⟩ = some (.slice none 0 0) := (blk_cell BK394.out 0).trans rfl; have hfz29_0 := blk_frozen BK394.out 0) | ((with_reducible refine gate_callee (f := 20) rfl ?_); refine goesL_ (some 48) rfl rfl Try.func20 (by kernel_rfl) rfl #[.agg #[.slice Ao27 t390.length co27], .int .i64 t384] rfl (by (try simp only [List.map_toArray, List.map_cons, List.map_nil]); first | done | rfl | (simp only [List.length_drop, List.length_take]; rfl)) ?_; (with_reducible refine (memory_Word.calls _ _ t390 t384 t395 t396 _ ?side1 ?side2 A11.out).mono ?_); (case side1 => refine (Kd.N_reads' (e := 31) (base := w.heap.size) (ok := fun k_ => ((some k_ ≠ (.slice Ao16 t380.length co16 : Value).ownBlock ∧ k_ ≠ gb383) ∧ k_ ≠ gb394)) (n := t390.length) (c := co27) ?_).2.2; exact (by (with_reducible repeat (first | apply Kd.N_alloc | apply Kd.N_drewN | apply Kd.N_drew)); exact (Kd.N_mono (Kd.N_far (p := ⟨gb394, 0, none⟩) (Kd.N_mono HO392.out (fun k_ hk => (⟨hk, hk.2⟩ : _ ∧ k_ ≠ gb394))) (fun _ hk => hk.2) (.slice Ao27 t390.length co27)) (fun _ h_ => h_.1)))); (case side2 => exact (Kd.N_reads' HO392.out).2.1); rintro e w30 ⟨rfl, hb⟩; refine ⟨_, rfl, ?_⟩; have n0_ := Aside0.mk (Kd.N_below (by (with_reducible repeat (first | apply Kd.N_alloc | apply Kd.N_drewN | apply Kd.N_drew)); exact (Kd.N_mono (Kd.N_far (p := ⟨gb394, 0, none⟩) (Kd.N_mono HO382.out (fun k_ hk => (⟨hk, hk.2⟩ : _ ∧ k_ ≠ gb394))) (fun _ hk => hk.2) (.slice Ao27 t390.length co27)) (fun _ h_ => h_.1))) hb); have n1_ := Aside0.mk (Kd.N_below (by (with_reducible repeat (first | apply Kd.N_alloc | apply Kd.N_drewN | apply Kd.N_drew)); exact (Kd.N_mono (Kd.N_far (p := ⟨gb394, 0, none⟩) (Kd.N_mono HO392.out (fun k_ hk => (⟨hk, hk.2⟩ : _ ∧ k_ ≠ gb394))) (fun _ hk => hk.2) (.slice Ao27 t390.length co27)) (fun _ h_ => h_.1))) hb); have n2_ := Aside0.mk (blk_below (g := gb383) (o := .cells #[.slice Ao16 t380.length co16] 24 (0, 0)) (by (with_reducible repeat (first | refine blk_drewN ?_ _ | refine blk_drew ?_ | refine blk_alloc ?_ _)); refine blk_far ?_ NB383_394.out _; (with_reducible repeat (first | refine blk_drewN ?_ _ | refine blk_drew ?_ | refine blk_alloc ?_ _)); exact BK383.out) hb); have n3_ := Aside0.mk (blk_below (g := gb394) (o := .cells #[.slice Ao27 t390.length co27] 24 (0, 0)) (by (with_reducible repeat (first | refine blk_drewN ?_ _ | refine blk_drew ?_ | refine blk_alloc ?_ _)); refine blk_put (cs := #[.slice none 0 0]) ?_ 0 _ rfl; (with_reducible repeat (first | refine blk_drewN ?_ _ | refine blk_drew ?_ | refine blk_alloc ?_ _)); exact BK394.out) hb); have n4_ := Aside0.mk (below_step (by repeat (first | (with_reducible first | exact HB.out | apply below_alloc | apply pw_below_drewN | apply below_drew1 | refine below_set ?_ GE383.out | refine below_set ?_ GE394.out) | exact HB.out)) hb); clear HO382; clear HO392; clear BK383; clear BK394; clear HB; have HO382 := n0_; have HO392 := n1_; have BK383 := n2_; have BK394 := n3_; have HB := n4_; clear n0_ n1_ n2_ n3_ n4_; (try clear hb); (try clear hb2); (try clear hk); (try clear hi); have hcz31_0 : w30.cell? ⟨gb394, 0, none⟩ = some (.slice Ao27 t390.length co27) := (blk_cell BK394.out 0).trans rfl; have hfz31_0 := blk_frozen BK394.out 0) | ((with_reducible refine gate_callee (f := 20) rfl ?_); refine goesL_ (some 54) rfl rfl Try.func20 (by kernel_rfl) rfl #[.agg #[.slice Ao27 t390.length co27], .int .i64 t385] rfl (by (try simp only [List.map_toArray, List.map_cons, List.map_nil]); first | done | rfl | (simp only [List.length_drop, List.length_take]; rfl)) ?_; (with_reducible refine (memory_Word.calls _ _ t390 t385 t397 t398 _ ?side1 ?side2 A12.out).mono ?_); (case side1 => repeat (first | exact (Kd.N_reads' HO392.out).2.2 | (with_reducible refine Kd.C_alloc ?_ _) | (with_reducible refine Kd.C_drewN ?_ _) | (with_reducible refine Kd.C_drew ?_))); (case side2 => exact (Kd.N_reads' HO392.out).2.1); rintro e w32 ⟨rfl, hb⟩; refine ⟨_, rfl, ?_⟩; have n0_ := Aside0.mk (Kd.N_below (by (with_reducible repeat (first | apply Kd.N_alloc | apply Kd.N_drewN | apply Kd.N_drew)); exact HO382.out) hb); have n1_ := Aside0.mk (Kd.N_below (by (with_reducible repeat (first | apply Kd.N_alloc | apply Kd.N_drewN | apply Kd.N_drew)); exact HO392.out) hb); have n2_ := Aside0.mk (blk_below (g := gb383) (o := .cells #[.slice Ao16 t380.length co16] 24 (0, 0)) (by (with_reducible repeat (first | refine blk_drewN ?_ _ | refine blk_drew ?_ | refine blk_alloc ?_ _)); exact BK383.out) hb); have n3_ := Aside0.mk (blk_below (g := gb394) (o := .cells #[.slice Ao27 t390.length co27] 24 (0, 0)) (by (with_reducible repeat (first | refine blk_drewN ?_ _ | refine blk_drew ?_ | refine blk_alloc ?_ _)); exact BK394.out) hb); have n4_ := Aside0.mk (below_step (by repeat (first | (with_reducible first | exact HB.out | apply below_alloc | apply pw_below_drewN | apply below_drew1 | refine below_set ?_ GE383.out | refine below_set ?_ GE394.out) | exact HB.out)) hb); clear HO382; clear HO392; clear BK383; clear BK394; clear HB; have HO382 := n0_; have HO392 := n1_; have BK383 := n2_; have BK394 := n3_; have HB := n4_; clear n0_ n1_ n2_ n3_ n4_; (try clear hb); (try clear hb2); (try clear hk); (try clear hi)))
 (try simp only [Act.put, List.setIfInBounds_toArray, List.set_cons_zero, List.set_cons_succ])
 go_cut [77] (fun v77 wc => ∃ (kq : Nat) (x77_12 : Bool), v77 = .bool x77_12 ∧ Aside0 (debuggerlaw25_MemoryHolds.j0 kq t384 t385 t388 t397 x77_12 t390 = some r) ∧ Aside0 (kq ≤ k) ∧ Aside0 (Kd.N k31 31 wc w.heap.size (fun k_ => some k_ ≠ ((.slice Ao27 t390.length co27) : Value).ownBlock ∧ k_ ≠ gb383 ∧ k_ ≠ gb394) (.slice Ao16 t380.length co16) t380) ∧ Aside0 (Kd.N k31 31 wc w.heap.size (fun k_ => some k_ ≠ ((.slice Ao16 t380.length co16) : Value).ownBlock ∧ k_ ≠ gb383 ∧ k_ ≠ gb394) (.slice Ao27 t390.length co27) t390) ∧ Aside0 (wc.heap[gb383]? = some (.cells #[(.slice Ao16 t380.length co16)] 24 (0, 0))) ∧ Aside0 (wc.heap[gb394]? = some (.cells #[(.slice Ao27 t390.length co27)] 24 (0, 0))) ∧ Aside0 (Below w.heap.size w wc))
 case first =>
  have H := HC13.out
  clear HC13
  by_cases c33 : (t393 != t387) = true
  ·rw [if_pos c33] at H
   have c33b0 : (t393 != t387) = true := c33
   (try (have c33b1 : decide (t393 = t387) = false := by simpa using c33))
   (try (have c33b2 : (t393 == t387) = false := by simpa using c33))
   (try (have c33b3 : ¬ (t393 = t387) := by simpa using c33))
   clear c33
   (first | rw [c33b0] | (simp only [i64_w, i32_w]; rw [c33b0]) | skip)
   have H' := Aside0.mk H
   clear H
   go_wp2
   go_meet
   case rel => exact ⟨_, (true), (by first | rfl | (simp; done) | (simp [*]; done)), H', ⟨by first | omega | exact Nat.le_refl _⟩, ⟨by (with_reducible repeat (first | apply Kd.N_alloc | apply Kd.N_drewN | apply Kd.N_drew)); exact Kd.N_mono HO382.out (fun _ hk => ⟨hk.1.2, ⟨hk.1.1.2, hk.2⟩⟩)⟩, ⟨by (with_reducible repeat (first | apply Kd.N_alloc | apply Kd.N_drewN | apply Kd.N_drew)); exact Kd.N_mono HO392.out (fun _ hk => ⟨hk.1.1, ⟨hk.1.2, hk.2⟩⟩)⟩, ⟨by (with_reducible repeat (first | refine blk_drewN ?_ _ | refine blk_drew ?_ | refine blk_alloc ?_ _)); exact BK383.out⟩, ⟨by (with_reducible repeat (first | refine blk_drewN ?_ _ | refine blk_drew ?_ | refine blk_alloc ?_ _)); exact BK394.out⟩, ⟨by repeat (first | (with_reducible first | exact HB.out | apply below_alloc | apply pw_below_drewN | apply below_drew1 | refine below_set ?_ GE383.out | refine below_set ?_ GE394.out) | exact HB.out)⟩⟩
  ·rw [if_neg c33] at H
   have c33b0 : (t393 != t387) = false := by simpa using c33
   (try (have c33b1 : decide (t393 = t387) = true := by simpa using c33))
   (try (have c33b2 : (t393 == t387) = true := by simpa using c33))
   clear c33
   (first | rw [c33b0] | (simp only [i64_w, i32_w]; rw [c33b0]) | skip)
   by_cases c34 : (t396 != t387) = true
   ·rw [if_pos c34] at H
    have c34b0 : (t396 != t387) = true := c34
    (try (have c34b1 : decide (t396 = t387) = false := by simpa using c34))
    (try (have c34b2 : (t396 == t387) = false := by simpa using c34))
    (try (have c34b3 : ¬ (t396 = t387) := by simpa using c34))
    clear c34
    have H' := Aside0.mk H
    clear H
    go_wp2
    go_meet
    case rel => exact ⟨_, (true), (by first | rfl | (simp; done) | (simp [*]; done)), H', ⟨by first | omega | exact Nat.le_refl _⟩, ⟨by (with_reducible repeat (first | apply Kd.N_alloc | apply Kd.N_drewN | apply Kd.N_drew)); exact Kd.N_mono HO382.out (fun _ hk => ⟨hk.1.2, ⟨hk.1.1.2, hk.2⟩⟩)⟩, ⟨by (with_reducible repeat (first | apply Kd.N_alloc | apply Kd.N_drewN | apply Kd.N_drew)); exact Kd.N_mono HO392.out (fun _ hk => ⟨hk.1.1, ⟨hk.1.2, hk.2⟩⟩)⟩, ⟨by (with_reducible repeat (first | refine blk_drewN ?_ _ | refine blk_drew ?_ | refine blk_alloc ?_ _)); exact BK383.out⟩, ⟨by (with_reducible repeat (first | refine blk_drewN ?_ _ | refine blk_drew ?_ | refine blk_alloc ?_ _)); exact BK394.out⟩, ⟨by repeat (first | (with_reducible first | exact HB.out | apply below_alloc | apply pw_below_drewN | apply below_drew1 | refine below_set ?_ GE383.out | refine below_set ?_ GE394.out) | exact HB.out)⟩⟩
   ·rw [if_neg c34] at H
    have c34b0 : (t396 != t387) = false := by simpa using c34
    (try (have c34b1 : decide (t396 = t387) = true := by simpa using c34))
    (try (have c34b2 : (t396 == t387) = true := by simpa using c34))
    clear c34
    by_cases c35 : (t398 != t389) = true
    ·rw [if_pos c35] at H
     have c35b0 : (t398 != t389) = true := c35
     (try (have c35b1 : decide (t398 = t389) = false := by simpa using c35))
     (try (have c35b2 : (t398 == t389) = false := by simpa using c35))
     (try (have c35b3 : ¬ (t398 = t389) := by simpa using c35))
     clear c35
     have H' := Aside0.mk H
     clear H
     go_wp2
     go_meet
     case rel => exact ⟨_, (true), (by first | rfl | (simp; done) | (simp [*]; done)), H', ⟨by first | omega | exact Nat.le_refl _⟩, ⟨by (with_reducible repeat (first | apply Kd.N_alloc | apply Kd.N_drewN | apply Kd.N_drew)); exact Kd.N_mono HO382.out (fun _ hk => ⟨hk.1.2, ⟨hk.1.1.2, hk.2⟩⟩)⟩, ⟨by (with_reducible repeat (first | apply Kd.N_alloc | apply Kd.N_drewN | apply Kd.N_drew)); exact Kd.N_mono HO392.out (fun _ hk => ⟨hk.1.1, ⟨hk.1.2, hk.2⟩⟩)⟩, ⟨by (with_reducible repeat (first | refine blk_drewN ?_ _ | refine blk_drew ?_ | refine blk_alloc ?_ _)); exact BK383.out⟩, ⟨by (with_reducible repeat (first | refine blk_drewN ?_ _ | refine blk_drew ?_ | refine blk_alloc ?_ _)); exact BK394.out⟩, ⟨by repeat (first | (with_reducible first | exact HB.out | apply below_alloc | apply pw_below_drewN | apply below_drew1 | refine below_set ?_ GE383.out | refine below_set ?_ GE394.out) | exact HB.out)⟩⟩
    ·rw [if_neg c35] at H
     have c35b0 : (t398 != t389) = false := by simpa using c35
     (try (have c35b1 : decide (t398 = t389) = true := by simpa using c35))
     (try (have c35b2 : (t398 == t389) = true := by simpa using c35))
     clear c35
     by_cases c36 : t387 = true
     ·subst c36
      have H1 : (debuggerlaw25_MemoryHolds.j0 k t384 t385 t388 t397 (t395 != a2) t390) = some r := by rw [if_pos rfl] at H; exact H
      clear H
      have H := H1
      clear H1
      have H' := Aside0.mk H
      clear H
      go_wp2
      go_meet
      case rel => exact ⟨_, ((t395 != a2)), (by first | rfl | (simp; done) | (simp [*]; done)), H', ⟨by first | omega | exact Nat.le_refl _⟩, ⟨by (with_reducible repeat (first | apply Kd.N_alloc | apply Kd.N_drewN | apply Kd.N_drew)); exact Kd.N_mono HO382.out (fun _ hk => ⟨hk.1.2, ⟨hk.1.1.2, hk.2⟩⟩)⟩, ⟨by (with_reducible repeat (first | apply Kd.N_alloc | apply Kd.N_drewN | apply Kd.N_drew)); exact Kd.N_mono HO392.out (fun _ hk => ⟨hk.1.1, ⟨hk.1.2, hk.2⟩⟩)⟩, ⟨by (with_reducible repeat (first | refine blk_drewN ?_ _ | refine blk_drew ?_ | refine blk_alloc ?_ _)); exact BK383.out⟩, ⟨by (with_reducible repeat (first | refine blk_drewN ?_ _ | refine blk_drew ?_ | refine blk_alloc ?_ _)); exact BK394.out⟩, ⟨by repeat (first | (with_reducible first | exact HB.out | apply below_alloc | apply pw_below_drewN | apply below_drew1 | refine below_set ?_ GE383.out | refine below_set ?_ GE394.out) | exact HB.out)⟩⟩
     ·replace c36 := Bool.eq_false_iff.mpr c36
      subst c36
      have H1 : (debuggerlaw25_MemoryHolds.j0 k t384 t385 t388 t397 false t390) = some r := by rw [if_neg (show ¬ (false = true) by decide)] at H; exact H
      clear H
      have H := H1
      clear H1
      have H' := Aside0.mk H
      clear H
      go_wp2
      go_meet
      case rel => exact ⟨_, (false), (by first | rfl | (simp; done) | (simp [*]; done)), H', ⟨by first | omega | exact Nat.le_refl _⟩, ⟨by (with_reducible repeat (first | apply Kd.N_alloc | apply Kd.N_drewN | apply Kd.N_drew)); exact Kd.N_mono HO382.out (fun _ hk => ⟨hk.1.2, ⟨hk.1.1.2, hk.2⟩⟩)⟩, ⟨by (with_reducible repeat (first | apply Kd.N_alloc | apply Kd.N_drewN | apply Kd.N_drew)); exact Kd.N_mono HO392.out (fun _ hk => ⟨hk.1.1, ⟨hk.1.2, hk.2⟩⟩)⟩, ⟨by (with_reducible repeat (first | refine blk_drewN ?_ _ | refine blk_drew ?_ | refine blk_alloc ?_ _)); exact BK383.out⟩, ⟨by (with_reducible repeat (first | refine blk_drewN ?_ _ | refine blk_drew ?_ | refine blk_alloc ?_ _)); exact BK394.out⟩, ⟨by repeat (first | (with_reducible first | exact HB.out | apply below_alloc | apply pw_below_drewN | apply below_drew1 | refine below_set ?_ GE383.out | refine below_set ?_ GE394.out) | exact HB.out)⟩⟩
 case rest =>
  clear HC13
  try clear c1
  try clear c2
  try clear p2
  try clear c3
  try clear c7
  try clear c12
  try clear c13
  try clear c20
  try clear c22
  try clear c28
  try clear c33
  try clear c33b0
  try clear c33b1
  try clear c33b2
  try clear c34
  try clear c34b0
  try clear c34b1
  try clear c34b2
  try clear c35
  try clear c35b0
  try clear c35b1
  try clear c35b2
  try clear c36
  try clear hcz17_0
  try clear hcz20_0
  try clear hcz22_0
  try clear hcz24_0
  try clear hcz29_0
  try clear hcz31_0
  try clear hfz17_0
  try clear hfz20_0
  try clear hfz22_0
  try clear hfz24_0
  try clear hfz29_0
  try clear hfz31_0
  obtain ⟨kq, x77_12, rfl, HA, HJ12, HO_384000, HO_395000, BK383, BK394, HB⟩ := hcut
  cases kq with
  | zero => exact absurd HA.out (by simp [debuggerlaw25_MemoryHolds.j0])
  | succ kj12 =>
   have H := HA.out
   clear HA
   simp only [debuggerlaw25_MemoryHolds.j0] at H
   by_cases c37 : x77_12 = true
   ·subst c37
    have H1 : (some false) = some r := by rw [if_pos rfl] at H; exact H
    clear H
    have H := H1
    clear H1
    obtain rfl := Option.some.inj H
    go_wp2
    go_ret
    exact ⟨by first | rfl | (simp [errW_none, errW_some] <;> rfl) | (simp [*, errW_none, errW_some] <;> rfl), by repeat (first | (with_reducible first | exact HB.out | apply below_alloc | apply pw_below_drewN | apply below_drew1 | refine below_set ?_ GE383.out | refine below_set ?_ GE394.out) | exact HB.out)⟩
   ·replace c37 := Bool.eq_false_iff.mpr c37
    subst c37
    have H1 : (if t385 = t384 then ((memory_Right.f kj12 t390).bind fun t399 => (if t399 = true then ((debuggerlaw25_awake.f kj12).bind fun t400 => (some t400)) else (some false))) else (if t397 = t388 then ((memory_Right.f kj12 t390).bind fun t401 => (if t401 = true then ((debuggerlaw25_awake.f kj12).bind fun t402 => (some t402)) else (some false))) else (some false))) = some r := by rw [if_neg (show ¬ (false = true) by decide)] at H; exact H
    clear H
    have H := H1
    clear H1
    by_cases c38 : t385 = t384
    ·rw [if_pos c38] at H
     have c38b0 : (t385 == t384) = true := beq_iff_eq.mpr c38
     have c38b1 : (t385 != t384) = false := bne_eq_false_iff_eq.mpr c38
     clear c38
     replace H := Option.bind_eq_some_iff.mp H
     obtain ⟨t399, A390, H⟩ := H
     replace H : (if t399 = true then ((debuggerlaw25_awake.f kj12).bind fun t400 => (some t400)) else (some false)) = some r := H
     have A39 := Aside0.mk A390
     clear A390
     by_cases c40 : t399 = true
     ·subst c40
      have H1 : ((debuggerlaw25_awake.f kj12).bind fun t400 => (some t400)) = some r := by rw [if_pos rfl] at H; exact H
      clear H
      have H := H1
      clear H1
      replace H := Option.bind_eq_some_iff.mp H
      obtain ⟨t400, A410, H⟩ := H
      replace H : (some t400) = some r := H
      have A41 := Aside0.mk A410
      clear A410
      obtain rfl := Option.some.inj H
      have hnb42 := NB394_383.out
      have hnc42 := NB383_394.out
      have hcz43_0 : wc.cell? ⟨gb394, 0, none⟩ = some (.slice Ao27 t390.length co27) := (blk_cell BK394.out 0).trans rfl
      have hfz43_0 := blk_frozen BK394.out 0
      go_wp2_with (first | (go_at_call 14; (with_reducible refine (memory_Right.calls kj12 _ _ t390 true _ ?side1 ?side2 A39.out).mono ?_); (case side1 => repeat (first | exact (Kd.N_reads' HO_395000.out).2.2 | (with_reducible refine Kd.C_alloc ?_ _) | (with_reducible refine Kd.C_drewN ?_ _) | (with_reducible refine Kd.C_drew ?_))); (case side2 => exact (Kd.N_reads' HO_395000.out).2.1); rintro e w44 ⟨rfl, hb⟩; have n0_ := Aside0.mk (Kd.N_below (by (with_reducible repeat (first | apply Kd.N_alloc | apply Kd.N_drewN | apply Kd.N_drew)); exact HO_384000.out) hb); have n1_ := Aside0.mk (Kd.N_below (by (with_reducible repeat (first | apply Kd.N_alloc | apply Kd.N_drewN | apply Kd.N_drew)); exact HO_395000.out) hb); have n2_ := Aside0.mk (blk_below (g := gb383) (o := .cells #[.slice Ao16 t380.length co16] 24 (0, 0)) (by (with_reducible repeat (first | refine blk_drewN ?_ _ | refine blk_drew ?_ | refine blk_alloc ?_ _)); exact BK383.out) hb); have n3_ := Aside0.mk (blk_below (g := gb394) (o := .cells #[.slice Ao27 t390.length co27] 24 (0, 0)) (by (with_reducible repeat (first | refine blk_drewN ?_ _ | refine blk_drew ?_ | refine blk_alloc ?_ _)); exact BK394.out) hb); have n4_ := Aside0.mk (below_step (by repeat (first | (with_reducible first | exact HB.out | apply below_alloc | apply pw_below_drewN | apply below_drew1 | refine below_set ?_ GE383.out | refine below_set ?_ GE394.out) | exact HB.out)) hb); clear HO_384000; clear HO_395000; clear BK383; clear BK394; clear HB; have HO_384000 := n0_; have HO_395000 := n1_; have BK383 := n2_; have BK394 := n3_; have HB := n4_; clear n0_ n1_ n2_ n3_ n4_; (try clear hb); (try clear hb2); (try clear hk); (try clear hi)) | (go_at_call 11; (with_reducible refine (debuggerlaw25_awake.calls kj12  t400 _ A41.out).mono ?_); rintro e w45 ⟨rfl, hb⟩; have n0_ := Aside0.mk (Kd.N_below (by (with_reducible repeat (first | apply Kd.N_alloc | apply Kd.N_drewN | apply Kd.N_drew)); exact HO_384000.out) hb); have n1_ := Aside0.mk (Kd.N_below (by (with_reducible repeat (first | apply Kd.N_alloc | apply Kd.N_drewN | apply Kd.N_drew)); exact HO_395000.out) hb); have n2_ := Aside0.mk (blk_below (g := gb383) (o := .cells #[.slice Ao16 t380.length co16] 24 (0, 0)) (by (with_reducible repeat (first | refine blk_drewN ?_ _ | refine blk_drew ?_ | refine blk_alloc ?_ _)); exact BK383.out) hb); have n3_ := Aside0.mk (blk_below (g := gb394) (o := .cells #[.slice Ao27 t390.length co27] 24 (0, 0)) (by (with_reducible repeat (first | refine blk_drewN ?_ _ | refine blk_drew ?_ | refine blk_alloc ?_ _)); exact BK394.out) hb); have n4_ := Aside0.mk (below_step (by repeat (first | (with_reducible first | exact HB.out | apply below_alloc | apply pw_below_drewN | apply below_drew1 | refine below_set ?_ GE383.out | refine below_set ?_ GE394.out) | exact HB.out)) hb); clear HO_384000; clear HO_395000; clear BK383; clear BK394; clear HB; have HO_384000 := n0_; have HO_395000 := n1_; have BK383 := n2_; have BK394 := n3_; have HB := n4_; clear n0_ n1_ n2_ n3_ n4_; (try clear hb); (try clear hb2); (try clear hk); (try clear hi)))
      go_ret
      exact ⟨by first | rfl | (simp [errW_none, errW_some] <;> rfl) | (simp [*, errW_none, errW_some] <;> rfl), by repeat (first | (with_reducible first | exact HB.out | apply below_alloc | apply pw_below_drewN | apply below_drew1 | refine below_set ?_ GE383.out | refine below_set ?_ GE394.out) | exact HB.out)⟩
     ·replace c40 := Bool.eq_false_iff.mpr c40
      subst c40
      have H1 : (some false) = some r := by rw [if_neg (show ¬ (false = true) by decide)] at H; exact H
      clear H
      have H := H1
      clear H1
      obtain rfl := Option.some.inj H
      have hnb46 := NB394_383.out
      have hnc46 := NB383_394.out
      have hcz47_0 : wc.cell? ⟨gb394, 0, none⟩ = some (.slice Ao27 t390.length co27) := (blk_cell BK394.out 0).trans rfl
      have hfz47_0 := blk_frozen BK394.out 0
      go_wp2_with (first | (go_at_call 14; (with_reducible refine (memory_Right.calls kj12 _ _ t390 false _ ?side1 ?side2 A39.out).mono ?_); (case side1 => repeat (first | exact (Kd.N_reads' HO_395000.out).2.2 | (with_reducible refine Kd.C_alloc ?_ _) | (with_reducible refine Kd.C_drewN ?_ _) | (with_reducible refine Kd.C_drew ?_))); (case side2 => exact (Kd.N_reads' HO_395000.out).2.1); rintro e w48 ⟨rfl, hb⟩; have n0_ := Aside0.mk (Kd.N_below (by (with_reducible repeat (first | apply Kd.N_alloc | apply Kd.N_drewN | apply Kd.N_drew)); exact HO_384000.out) hb); have n1_ := Aside0.mk (Kd.N_below (by (with_reducible repeat (first | apply Kd.N_alloc | apply Kd.N_drewN | apply Kd.N_drew)); exact HO_395000.out) hb); have n2_ := Aside0.mk (blk_below (g := gb383) (o := .cells #[.slice Ao16 t380.length co16] 24 (0, 0)) (by (with_reducible repeat (first | refine blk_drewN ?_ _ | refine blk_drew ?_ | refine blk_alloc ?_ _)); exact BK383.out) hb); have n3_ := Aside0.mk (blk_below (g := gb394) (o := .cells #[.slice Ao27 t390.length co27] 24 (0, 0)) (by (with_reducible repeat (first | refine blk_drewN ?_ _ | refine blk_drew ?_ | refine blk_alloc ?_ _)); exact BK394.out) hb); have n4_ := Aside0.mk (below_step (by repeat (first | (with_reducible first | exact HB.out | apply below_alloc | apply pw_below_drewN | apply below_drew1 | refine below_set ?_ GE383.out | refine below_set ?_ GE394.out) | exact HB.out)) hb); clear HO_384000; clear HO_395000; clear BK383; clear BK394; clear HB; have HO_384000 := n0_; have HO_395000 := n1_; have BK383 := n2_; have BK394 := n3_; have HB := n4_; clear n0_ n1_ n2_ n3_ n4_; (try clear hb); (try clear hb2); (try clear hk); (try clear hi)))
      go_ret
      exact ⟨by first | rfl | (simp [errW_none, errW_some] <;> rfl) | (simp [*, errW_none, errW_some] <;> rfl), by repeat (first | (with_reducible first | exact HB.out | apply below_alloc | apply pw_below_drewN | apply below_drew1 | refine below_set ?_ GE383.out | refine below_set ?_ GE394.out) | exact HB.out)⟩
    ·rw [if_neg c38] at H
     have c38b0 : (t385 == t384) = false := beq_eq_false_iff_ne.mpr c38
     have c38b1 : (t385 != t384) = true := bne_iff_ne.mpr c38
     by_cases c49 : t397 = t388
     ·rw [if_pos c49] at H
      have c49b0 : (t397 == t388) = true := beq_iff_eq.mpr c49
      have c49b1 : (t397 != t388) = false := bne_eq_false_iff_eq.mpr c49
      clear c49
      replace H := Option.bind_eq_some_iff.mp H
      obtain ⟨t401, A500, H⟩ := H
      replace H : (if t401 = true then ((debuggerlaw25_awake.f kj12).bind fun t402 => (some t402)) else (some false)) = some r := H
      have A50 := Aside0.mk A500
      clear A500
      by_cases c51 : t401 = true
      ·subst c51
       have H1 : ((debuggerlaw25_awake.f kj12).bind fun t402 => (some t402)) = some r := by rw [if_pos rfl] at H; exact H
       clear H
       have H := H1
       clear H1
       replace H := Option.bind_eq_some_iff.mp H
       obtain ⟨t402, A520, H⟩ := H
       replace H : (some t402) = some r := H
       have A52 := Aside0.mk A520
       clear A520
       obtain rfl := Option.some.inj H
       have hnb53 := NB394_383.out
       have hnc53 := NB383_394.out
       have hcz54_0 : wc.cell? ⟨gb394, 0, none⟩ = some (.slice Ao27 t390.length co27) := (blk_cell BK394.out 0).trans rfl
       have hfz54_0 := blk_frozen BK394.out 0
       go_wp2_with (first | (go_at_call 14; (with_reducible refine (memory_Right.calls kj12 _ _ t390 true _ ?side1 ?side2 A50.out).mono ?_); (case side1 => repeat (first | exact (Kd.N_reads' HO_395000.out).2.2 | (with_reducible refine Kd.C_alloc ?_ _) | (with_reducible refine Kd.C_drewN ?_ _) | (with_reducible refine Kd.C_drew ?_))); (case side2 => exact (Kd.N_reads' HO_395000.out).2.1); rintro e w55 ⟨rfl, hb⟩; have n0_ := Aside0.mk (Kd.N_below (by (with_reducible repeat (first | apply Kd.N_alloc | apply Kd.N_drewN | apply Kd.N_drew)); exact HO_384000.out) hb); have n1_ := Aside0.mk (Kd.N_below (by (with_reducible repeat (first | apply Kd.N_alloc | apply Kd.N_drewN | apply Kd.N_drew)); exact HO_395000.out) hb); have n2_ := Aside0.mk (blk_below (g := gb383) (o := .cells #[.slice Ao16 t380.length co16] 24 (0, 0)) (by (with_reducible repeat (first | refine blk_drewN ?_ _ | refine blk_drew ?_ | refine blk_alloc ?_ _)); exact BK383.out) hb); have n3_ := Aside0.mk (blk_below (g := gb394) (o := .cells #[.slice Ao27 t390.length co27] 24 (0, 0)) (by (with_reducible repeat (first | refine blk_drewN ?_ _ | refine blk_drew ?_ | refine blk_alloc ?_ _)); exact BK394.out) hb); have n4_ := Aside0.mk (below_step (by repeat (first | (with_reducible first | exact HB.out | apply below_alloc | apply pw_below_drewN | apply below_drew1 | refine below_set ?_ GE383.out | refine below_set ?_ GE394.out) | exact HB.out)) hb); clear HO_384000; clear HO_395000; clear BK383; clear BK394; clear HB; have HO_384000 := n0_; have HO_395000 := n1_; have BK383 := n2_; have BK394 := n3_; have HB := n4_; clear n0_ n1_ n2_ n3_ n4_; (try clear hb); (try clear hb2); (try clear hk); (try clear hi)) | (go_at_call 11; (with_reducible refine (debuggerlaw25_awake.calls kj12  t402 _ A52.out).mono ?_); rintro e w56 ⟨rfl, hb⟩; have n0_ := Aside0.mk (Kd.N_below (by (with_reducible repeat (first | apply Kd.N_alloc | apply Kd.N_drewN | apply Kd.N_drew)); exact HO_384000.out) hb); have n1_ := Aside0.mk (Kd.N_below (by (with_reducible repeat (first | apply Kd.N_alloc | apply Kd.N_drewN | apply Kd.N_drew)); exact HO_395000.out) hb); have n2_ := Aside0.mk (blk_below (g := gb383) (o := .cells #[.slice Ao16 t380.length co16] 24 (0, 0)) (by (with_reducible repeat (first | refine blk_drewN ?_ _ | refine blk_drew ?_ | refine blk_alloc ?_ _)); exact BK383.out) hb); have n3_ := Aside0.mk (blk_below (g := gb394) (o := .cells #[.slice Ao27 t390.length co27] 24 (0, 0)) (by (with_reducible repeat (first | refine blk_drewN ?_ _ | refine blk_drew ?_ | refine blk_alloc ?_ _)); exact BK394.out) hb); have n4_ := Aside0.mk (below_step (by repeat (first | (with_reducible first | exact HB.out | apply below_alloc | apply pw_below_drewN | apply below_drew1 | refine below_set ?_ GE383.out | refine below_set ?_ GE394.out) | exact HB.out)) hb); clear HO_384000; clear HO_395000; clear BK383; clear BK394; clear HB; have HO_384000 := n0_; have HO_395000 := n1_; have BK383 := n2_; have BK394 := n3_; have HB := n4_; clear n0_ n1_ n2_ n3_ n4_; (try clear hb); (try clear hb2); (try clear hk); (try clear hi)))
       go_ret
       exact ⟨by first | rfl | (simp [errW_none, errW_some] <;> rfl) | (simp [*, errW_none, errW_some] <;> rfl), by repeat (first | (with_reducible first | exact HB.out | apply below_alloc | apply pw_below_drewN | apply below_drew1 | refine below_set ?_ GE383.out | refine below_set ?_ GE394.out) | exact HB.out)⟩
      ·replace c51 := Bool.eq_false_iff.mpr c51
       subst c51
       have H1 : (some false) = some r := by rw [if_neg (show ¬ (false = true) by decide)] at H; exact H
       clear H
       have H := H1
       clear H1
       obtain rfl := Option.some.inj H
       have hnb57 := NB394_383.out
       have hnc57 := NB383_394.out
       have hcz58_0 : wc.cell? ⟨gb394, 0, none⟩ = some (.slice Ao27 t390.length co27) := (blk_cell BK394.out 0).trans rfl
       have hfz58_0 := blk_frozen BK394.out 0
       go_wp2_with (first | (go_at_call 14; (with_reducible refine (memory_Right.calls kj12 _ _ t390 false _ ?side1 ?side2 A50.out).mono ?_); (case side1 => repeat (first | exact (Kd.N_reads' HO_395000.out).2.2 | (with_reducible refine Kd.C_alloc ?_ _) | (with_reducible refine Kd.C_drewN ?_ _) | (with_reducible refine Kd.C_drew ?_))); (case side2 => exact (Kd.N_reads' HO_395000.out).2.1); rintro e w59 ⟨rfl, hb⟩; have n0_ := Aside0.mk (Kd.N_below (by (with_reducible repeat (first | apply Kd.N_alloc | apply Kd.N_drewN | apply Kd.N_drew)); exact HO_384000.out) hb); have n1_ := Aside0.mk (Kd.N_below (by (with_reducible repeat (first | apply Kd.N_alloc | apply Kd.N_drewN | apply Kd.N_drew)); exact HO_395000.out) hb); have n2_ := Aside0.mk (blk_below (g := gb383) (o := .cells #[.slice Ao16 t380.length co16] 24 (0, 0)) (by (with_reducible repeat (first | refine blk_drewN ?_ _ | refine blk_drew ?_ | refine blk_alloc ?_ _)); exact BK383.out) hb); have n3_ := Aside0.mk (blk_below (g := gb394) (o := .cells #[.slice Ao27 t390.length co27] 24 (0, 0)) (by (with_reducible repeat (first | refine blk_drewN ?_ _ | refine blk_drew ?_ | refine blk_alloc ?_ _)); exact BK394.out) hb); have n4_ := Aside0.mk (below_step (by repeat (first | (with_reducible first | exact HB.out | apply below_alloc | apply pw_below_drewN | apply below_drew1 | refine below_set ?_ GE383.out | refine below_set ?_ GE394.out) | exact HB.out)) hb); clear HO_384000; clear HO_395000; clear BK383; clear BK394; clear HB; have HO_384000 := n0_; have HO_395000 := n1_; have BK383 := n2_; have BK394 := n3_; have HB := n4_; clear n0_ n1_ n2_ n3_ n4_; (try clear hb); (try clear hb2); (try clear hk); (try clear hi)))
       go_ret
       exact ⟨by first | rfl | (simp [errW_none, errW_some] <;> rfl) | (simp [*, errW_none, errW_some] <;> rfl), by repeat (first | (with_reducible first | exact HB.out | apply below_alloc | apply pw_below_drewN | apply below_drew1 | refine below_set ?_ GE383.out | refine below_set ?_ GE394.out) | exact HB.out)⟩
     ·rw [if_neg c49] at H
      have c49b0 : (t397 == t388) = false := beq_eq_false_iff_ne.mpr c49
      have c49b1 : (t397 != t388) = true := bne_iff_ne.mpr c49
      obtain rfl := Option.some.inj H
      go_wp2
      go_ret
      exact ⟨by first | rfl | (simp [errW_none, errW_some] <;> rfl) | (simp [*, errW_none, errW_some] <;> rfl), by repeat (first | (with_reducible first | exact HB.out | apply below_alloc | apply pw_below_drewN | apply below_drew1 | refine below_set ?_ GE383.out | refine below_set ?_ GE394.out) | exact HB.out)⟩

/-- THE ONE PURE STATEMENT of debuggerlaw25_MemoryHolds: yours. -/
def debuggerlaw25_MemoryHolds.Pure : Prop := ∀ (l0 : List Int) (a1 : Int) (a2 : Int) (a3 : Int), l0.length ≤ maxLen → l0.length * 8 ≤ 140737488351232 → (∀ x ∈ l0, (Lit.int .i64 x).wf = true) → (Lit.int .i64 a1).wf = true → (Lit.int .i64 a2).wf = true → (Lit.int .i64 a3).wf = true → ∃ k, debuggerlaw25_MemoryHolds.f k l0 a1 a2 a3 = some true
theorem debuggerlaw25_MemoryHolds.walk (P : debuggerlaw25_MemoryHolds.Pure) (a0 : Option Addr) (len0 cap0 : Nat) (z0 : List Int) (a1 : Int) (a2 : Int) (a3 : Int) (w : World) (w0 : (a0 = none ∧ len0 = 0 ∧ cap0 = 0 ∧ z0 = []) ∨ ∃ x, a0 = some x ∧ len0 ≤ cap0 ∧ cap0 ≤ maxLen ∧ z0.length = cap0 ∧ (∀ i, i < z0.length → w.cell? (x.add i) = some (.int .i64 (z0.getD i 0))) ∧ ∀ n ∈ z0, (Lit.int .i64 n).wf = true) (y0 : len0 * 8 ≤ 140737488351232) (w1 : (Lit.int .i64 a1).wf = true) (w2 : (Lit.int .i64 a2).wf = true) (w3 : (Lit.int .i64 a3).wf = true) :
  Calls Try.prog 7 #[.slice a0 len0 cap0, .int .i64 a1, .int .i64 a2, .int .i64 a3] w fun e w' => e = .returned (.bool true) ∧ Below w.heap.size w w' := by
 obtain ⟨l0, rfl, hr0, hm0, hw0, hc0⟩ := ReadsInt.ofRowC w0
 obtain ⟨k, h⟩ := P l0 a1 a2 a3 hm0 y0 hw0 w1 w2 w3
 refine (debuggerlaw25_MemoryHolds.calls k _ _ l0 a1 a2 a3 true w (Kd.C_of_reads (d := (0 : Int)) (h1 := fun _ => rfl) hr0) hc0 h).mono ?_
 rintro e w' ⟨rfl, hd⟩
 exact ⟨rfl, hd⟩

end Go.Proofs.Ytpifepaflljolaa.PMem
