-- By wip/xprint.py (a driver of this session's over the kit's print), for this claim.
import Derived.Test.YtpifepaflljolaaPMemx0
import Derived.Test.YtpifepaflljolaaPMemx7
import Derived.Test.YtpifepaflljolaaPMemx8
import Derived.Test.YtpifepaflljolaaPMemx9
import Derived.Test.YtpifepaflljolaaPMemx10
import Derived.Test.YtpifepaflljolaaPMemx11
import Derived.Test.YtpifepaflljolaaPMemx14
import Derived.Test.YtpifepaflljolaaPMemx19
import Derived.Test.YtpifepaflljolaaPMemx22
import Derived.Test.YtpifepaflljolaaPMemx25
import Derived.Test.YtpifepaflljolaaPMemx26
import Derived.Test.YtpifepaflljolaaPMemx27
namespace Go.Proofs.Ytpifepaflljolaa.PMem
open Go.RowKit Go.Proofs.YtpifepaflljolaaW.PrintWords Go.Proofs.YtpifepaflljolaaW.PrintLast Go.Proofs.YtpifepaflljolaaW.PrintMore
attribute [local go_sem] max2_int min2_int max_two min_two max_three min_three max_four min_four   -- for this text's walks alone
set_option linter.unusedVariables false
set_option linter.unusedSimpArgs false

/-! ### debuggerlaw25_MemoryWords: function 6 -/
mutual
def debuggerlaw25_MemoryWords.l0 : Nat → List Int → Int → Int → List Int → Int → Int → List (S31) → Option (Bool)
 | 0, _, _, _, _, _, _, _ => none
 | k + 1, x0, x2, x3, x30, x31, x32, x346000 => if x32 < x31 then (if 0 ≤ x32 then (if x32 < (x30.length : Int) then ((memory_Word.f x346000 (rd x30 x32)).bind fun bt351 => ((debuggerref25_Word.f k x346000 (rd x30 x32)).bind fun bt353 => ((memory_With.f k x346000 (rd x30 x32) x2).bind fun bt355 => ((debuggerref25_With.f k x346000 (rd x30 x32) x2).bind fun bt360 => ((memory_Read.f k x346000 (rd x30 x32) x3).bind fun bt365 => ((debuggerref25_Read.f k x346000 (rd x30 x32) x3).bind fun bt369 => (if bt351.1 = bt353.1 then (if (bt351.2 != bt353.2) = true then (debuggerlaw25_MemoryWords.j1 k x0 x2 x3 x30 x31 x32 true x346000) else (if (bt355.2 != bt360.2) = true then (debuggerlaw25_MemoryWords.j1 k x0 x2 x3 x30 x31 x32 true x346000) else ((debuggerref25_Same.f k bt355.1 bt360.1).bind fun t373 => (if t373 = true then (if bt365.2 = bt369.2 then ((debuggerref25_Ints.f k bt365.1 bt369.1).bind fun t374 => (debuggerlaw25_MemoryWords.j1 k x0 x2 x3 x30 x31 x32 (!t374) x346000)) else (debuggerlaw25_MemoryWords.j1 k x0 x2 x3 x30 x31 x32 true x346000)) else (debuggerlaw25_MemoryWords.j1 k x0 x2 x3 x30 x31 x32 true x346000))))) else (debuggerlaw25_MemoryWords.j1 k x0 x2 x3 x30 x31 x32 true x346000)))))))) else (none)) else (none)) else ((debuggerlaw25_some.f k x0).bind fun t375 => ((debuggerref25_Same.f k x346000 t375).bind fun t378 => (if t378 = true then ((debuggerlaw25_awake.f k).bind fun t379 => (some t379)) else (some false))))
def debuggerlaw25_MemoryWords.j1 : Nat → List Int → Int → Int → List Int → Int → Int → Bool → List (S31) → Option (Bool)
 | 0, _, _, _, _, _, _, _, _ => none
 | k + 1, x0, x2, x3, x30, x31, x32, x105, x346000 => if x105 = true then (some false) else (debuggerlaw25_MemoryWords.l0 k x0 x2 x3 x30 x31 (wrap64 (x32 + 1)) x346000)
end
def debuggerlaw25_MemoryWords.f (k : Nat) (l0 : List Int) (a1 : Int) (a2 : Int) (a3 : Int) : Option (Bool) := (debuggerlaw25_some.f k l0).bind fun t342 => ((debuggerkit_Mod.f a1 832).bind fun t346 => ((some (([a1, wrap64 (t346 - 5)] : List Int) : List Int)).bind fun y347 => (debuggerlaw25_MemoryWords.l0 k l0 a2 a3 y347 (y347.length : Int) 0 t342)))
theorem debuggerlaw25_MemoryWords.mono_l : ∀ k, (∀ y0 y1 y2 y3 y4 y5 y6, LeO (debuggerlaw25_MemoryWords.l0 k y0 y1 y2 y3 y4 y5 y6) (debuggerlaw25_MemoryWords.l0 (k + 1) y0 y1 y2 y3 y4 y5 y6)) ∧ (∀ y0 y1 y2 y3 y4 y5 y6 y7, LeO (debuggerlaw25_MemoryWords.j1 k y0 y1 y2 y3 y4 y5 y6 y7) (debuggerlaw25_MemoryWords.j1 (k + 1) y0 y1 y2 y3 y4 y5 y6 y7))
 | 0 => ⟨fun _ _ _ _ _ _ _ r h => by simp [debuggerlaw25_MemoryWords.l0] at h, fun _ _ _ _ _ _ _ _ r h => by simp [debuggerlaw25_MemoryWords.j1] at h⟩
 | k + 1 => by
  obtain ⟨ih0, ih1⟩ := debuggerlaw25_MemoryWords.mono_l k
  refine ⟨?_, ?_⟩
  ·intro y0 y1 y2 y3 y4 y5 y6
   unfold debuggerlaw25_MemoryWords.l0
   repeat' first
   | (with_reducible exact ih0 _ _ _ _ _ _ _)
   | (with_reducible exact ih1 _ _ _ _ _ _ _ _)
   | (with_reducible exact debuggerlaw25_awake.mono _)
   | (with_reducible exact debuggerlaw25_some.mono _ _)
   | (with_reducible exact debuggerref25_Ints.mono _ _ _)
   | (with_reducible exact debuggerref25_Read.mono _ _ _ _)
   | (with_reducible exact debuggerref25_Same.mono _ _ _)
   | (with_reducible exact debuggerref25_With.mono _ _ _ _)
   | (with_reducible exact debuggerref25_Word.mono _ _ _)
   | (with_reducible exact memory_Read.mono _ _ _ _)
   | (with_reducible exact memory_With.mono _ _ _ _)
   | (with_reducible exact LeO.refl _)
   | (with_reducible exact LeO.none _)
   | (with_reducible refine LeO.ite ?_ ?_)
   | (with_reducible refine LeO.bind ?_ (fun _ => ?_))
   | exact ih0 _ _ _ _ _ _ _
   | exact ih1 _ _ _ _ _ _ _ _
   | exact debuggerlaw25_awake.mono _
   | exact debuggerlaw25_some.mono _ _
   | exact debuggerref25_Ints.mono _ _ _
   | exact debuggerref25_Read.mono _ _ _ _
   | exact debuggerref25_Same.mono _ _ _
   | exact debuggerref25_With.mono _ _ _ _
   | exact debuggerref25_Word.mono _ _ _
   | exact memory_Read.mono _ _ _ _
   | exact memory_With.mono _ _ _ _
   | exact LeO.none _
   | refine LeO.ite ?_ ?_
   | refine LeO.bind ?_ (fun _ => ?_)
  ·intro y0 y1 y2 y3 y4 y5 y6 y7
   unfold debuggerlaw25_MemoryWords.j1
   repeat' first
   | (with_reducible exact ih0 _ _ _ _ _ _ _)
   | (with_reducible exact ih1 _ _ _ _ _ _ _ _)
   | (with_reducible exact debuggerlaw25_awake.mono _)
   | (with_reducible exact debuggerlaw25_some.mono _ _)
   | (with_reducible exact debuggerref25_Ints.mono _ _ _)
   | (with_reducible exact debuggerref25_Read.mono _ _ _ _)
   | (with_reducible exact debuggerref25_Same.mono _ _ _)
   | (with_reducible exact debuggerref25_With.mono _ _ _ _)
   | (with_reducible exact debuggerref25_Word.mono _ _ _)
   | (with_reducible exact memory_Read.mono _ _ _ _)
   | (with_reducible exact memory_With.mono _ _ _ _)
   | (with_reducible exact LeO.refl _)
   | (with_reducible exact LeO.none _)
   | (with_reducible refine LeO.ite ?_ ?_)
   | (with_reducible refine LeO.bind ?_ (fun _ => ?_))
   | exact ih0 _ _ _ _ _ _ _
   | exact ih1 _ _ _ _ _ _ _ _
   | exact debuggerlaw25_awake.mono _
   | exact debuggerlaw25_some.mono _ _
   | exact debuggerref25_Ints.mono _ _ _
   | exact debuggerref25_Read.mono _ _ _ _
   | exact debuggerref25_Same.mono _ _ _
   | exact debuggerref25_With.mono _ _ _ _
   | exact debuggerref25_Word.mono _ _ _
   | exact memory_Read.mono _ _ _ _
   | exact memory_With.mono _ _ _ _
   | exact LeO.none _
   | refine LeO.ite ?_ ?_
   | refine LeO.bind ?_ (fun _ => ?_)
theorem debuggerlaw25_MemoryWords.mono : ∀ a0 a1 a2 a3 k, LeO (debuggerlaw25_MemoryWords.f k a0 a1 a2 a3) (debuggerlaw25_MemoryWords.f (k + 1) a0 a1 a2 a3) := by
 intro a0 a1 a2 a3 k
 obtain ⟨ih0, ih1⟩ := debuggerlaw25_MemoryWords.mono_l k
 unfold debuggerlaw25_MemoryWords.f
 repeat' first
   | (with_reducible exact ih0 _ _ _ _ _ _ _)
   | (with_reducible exact ih1 _ _ _ _ _ _ _ _)
   | (with_reducible exact debuggerlaw25_awake.mono _)
   | (with_reducible exact debuggerlaw25_some.mono _ _)
   | (with_reducible exact debuggerref25_Ints.mono _ _ _)
   | (with_reducible exact debuggerref25_Read.mono _ _ _ _)
   | (with_reducible exact debuggerref25_Same.mono _ _ _)
   | (with_reducible exact debuggerref25_With.mono _ _ _ _)
   | (with_reducible exact debuggerref25_Word.mono _ _ _)
   | (with_reducible exact memory_Read.mono _ _ _ _)
   | (with_reducible exact memory_With.mono _ _ _ _)
   | (with_reducible exact LeO.refl _)
   | (with_reducible exact LeO.none _)
   | (with_reducible refine LeO.ite ?_ ?_)
   | (with_reducible refine LeO.bind ?_ (fun _ => ?_))
   | exact ih0 _ _ _ _ _ _ _
   | exact ih1 _ _ _ _ _ _ _ _
   | exact debuggerlaw25_awake.mono _
   | exact debuggerlaw25_some.mono _ _
   | exact debuggerref25_Ints.mono _ _ _
   | exact debuggerref25_Read.mono _ _ _ _
   | exact debuggerref25_Same.mono _ _ _
   | exact debuggerref25_With.mono _ _ _ _
   | exact debuggerref25_Word.mono _ _ _
   | exact memory_Read.mono _ _ _ _
   | exact memory_With.mono _ _ _ _
   | exact LeO.none _
   | refine LeO.ite ?_ ?_
   | refine LeO.bind ?_ (fun _ => ?_)
def debuggerlaw25_MemoryWords.T14 : Bool × List (List Nat × List Nat) := (true, [([], []), ([], []), ([1], [1]), ([0, 2, 2], [0, 2]), ([3, 3], [3]), ([4, 4], [4]), ([4, 5], [4, 5]), ([6, 5, 0, 1, 2, 3, 4, 5, 6], [6])])
def debuggerlaw25_MemoryWords.B14 : List Nat := [0, 0, 2, 7, 15, 31, 63, 127]
theorem debuggerlaw25_MemoryWords.tab14 : rtab .any (opsOf Try.f6 14) = debuggerlaw25_MemoryWords.T14 := by kernel_rfl
theorem debuggerlaw25_MemoryWords.bits14 : waitsOk debuggerlaw25_MemoryWords.T14.2 debuggerlaw25_MemoryWords.B14 = true := by kernel_rfl
set_option maxHeartbeats 8000000 in
set_option maxRecDepth 100000 in
theorem debuggerlaw25_MemoryWords.calls (k : Nat) (A0 : Option Addr) (c0 : Nat) (l0 : List Int) (a1 : Int) (a2 : Int) (a3 : Int) (r : Bool) (w : World) (hr0 : Kd.C (Kd.int .i64) w A0 l0.length l0) (hc0 : l0.length ≤ c0) (h : debuggerlaw25_MemoryWords.f k l0 a1 a2 a3 = some r) :
  Calls Try.prog 6 #[.slice A0 l0.length c0, .int .i64 a1, .int .i64 a2, .int .i64 a3] w fun e w' => e = .returned (.bool r) ∧ Below w.heap.size w w' := by
 have hu24 := Try.underlying24
 have HR0 := Aside0.mk hr0
 have HC0 := Aside0.mk hc0
 clear hr0 hc0
 have HB := Aside0.mk (Below.refl w.heap.size w)
 have H : ((debuggerlaw25_some.f k l0).bind fun t342 => ((debuggerkit_Mod.f a1 832).bind fun t346 => ((some (([a1, wrap64 (t346 - 5)] : List Int) : List Int)).bind fun y347 => (debuggerlaw25_MemoryWords.l0 k l0 a2 a3 y347 (y347.length : Int) 0 t342)))) = some r := h
 clear h
 replace H := Option.bind_eq_some_iff.mp H
 obtain ⟨t342, A50, H⟩ := H
 replace H : ((debuggerkit_Mod.f a1 832).bind fun t346 => ((some (([a1, wrap64 (t346 - 5)] : List Int) : List Int)).bind fun y347 => (debuggerlaw25_MemoryWords.l0 k l0 a2 a3 y347 (y347.length : Int) 0 t342))) = some r := H
 have A5 := Aside0.mk A50
 clear A50
 replace H := Option.bind_eq_some_iff.mp H
 obtain ⟨t346, A60, H⟩ := H
 replace H : ((some (([a1, wrap64 (t346 - 5)] : List Int) : List Int)).bind fun y347 => (debuggerlaw25_MemoryWords.l0 k l0 a2 a3 y347 (y347.length : Int) 0 t342)) = some r := H
 have A6 := Aside0.mk A60
 clear A60
 obtain ⟨y347, hy347⟩ : ∃ y_ : List Int, y_ = (([a1, wrap64 (t346 - 5)] : List Int)) := ⟨_, rfl⟩
 replace H : (debuggerlaw25_MemoryWords.l0 k l0 a2 a3 y347 (y347.length : Int) 0 t342) = some r := by first | (rw [hy347]; with_reducible exact H) | (have H2_ := (Option.bind_some _ _).symm.trans H; rw [hy347]; with_reducible exact H2_) | (have H2_ := (Option.bind_some _ _).symm.trans H; with_reducible exact H2_) | with_reducible exact H | (rw [hy347]; exact H) | exact H
 have Ny347 := Aside0.mk hy347
 clear hy347
 have H' := Aside0.mk H
 clear H
 go_enter Try.func6, Try.ntmps6
 go_wp2_with (first | ((with_reducible refine gate_callee (f := 12) rfl ?_); refine goesL_ (some 25) rfl rfl Try.func12 (by kernel_rfl) rfl #[.slice A0 l0.length c0] rfl (by (try simp only [List.map_toArray, List.map_cons, List.map_nil]); first | done | rfl | (simp only [List.length_drop, List.length_take]; rfl)) ?_; (with_reducible refine (debuggerlaw25_some.calls k _ _ l0 t342 _ ?side1 ?side2 A5.out).mono ?_); (case side1 => repeat (first | exact HR0.out | (with_reducible refine Kd.C_alloc ?_ _) | (with_reducible refine Kd.C_drewN ?_ _) | (with_reducible refine Kd.C_drew ?_))); (case side2 => exact HC0.out); rintro e w7 ⟨v343, rfl, ho0, hb⟩; refine ⟨_, rfl, ?_⟩; have n0_ := Aside0.mk (Kd.N_lower (Kd.N_mono (ok' := fun k_ => True) ho0 (fun k_ hk_ => trivial)) (below_size (by repeat (first | (with_reducible first | exact HB.out | apply below_alloc | apply pw_below_drewN | apply below_drew1) | exact HB.out)))); have n1_ := Aside0.mk (below_step (by repeat (first | (with_reducible first | exact HB.out | apply below_alloc | apply pw_below_drewN | apply below_drew1) | exact HB.out)) hb); clear HB; have HO344 := n0_; have HB := n1_; clear n0_ n1_; (try clear hb); (try clear hb2); (try clear hk); (try clear hi); (try clear ho0)) | ((with_reducible refine gate_dst (N := 9) rfl ?_); refine box_event ?hg (N := 9) ?hd (cs := #[.slice none 0 0]) (t := 24) ?hr ?_; (case hd => rfl); (case hg => rfl); (case hr => first | (go_simp; done) | (go_simp; rfl)); intro gb345 hg w8 hbox hb; have n0_ := Aside0.mk (Kd.N_below (Kd.N_elderB (by (with_reducible repeat (first | apply Kd.N_alloc | apply Kd.N_drewN | apply Kd.N_drew)); exact HO344.out) gb345 (Nat.le_of_eq hg.symm)) hb); have n1_ := Aside0.mk (below_step (by repeat (first | (with_reducible first | exact HB.out | apply below_alloc | apply pw_below_drewN | apply below_drew1) | exact HB.out)) hb); have n2_ := Aside0.mk (hbox); have n3_ := Aside0.mk ((by rw [hg]; exact (below_size (by repeat (first | (with_reducible first | exact HB.out | apply below_alloc | apply pw_below_drewN | apply below_drew1) | exact HB.out))) : w.heap.size ≤ gb345)); have n4_ := Aside0.mk ((by rw [hg]; exact (below_size (by repeat (first | (with_reducible first | exact HB.out | apply below_alloc | apply pw_below_drewN | apply below_drew1) | exact HB.out))) : w.heap.size ≤ gb345)); clear HO344; clear HB; have HO344 := n0_; have HB := n1_; have BK345 := n2_; have GW345 := n3_; have GE345 := n4_; clear n0_ n1_ n2_ n3_ n4_; clear hb hbox hg; obtain ⟨Ao9, co9, eo9⟩ := Kd.N_slice HO344.out; subst eo9; have hcz10_0 : w8.cell? ⟨gb345, 0, none⟩ = some (.slice none 0 0) := (blk_cell BK345.out 0).trans rfl; have hfz10_0 := blk_frozen BK345.out 0) | ((with_reducible refine gate_callee (f := 13) rfl ?_); refine goesL_ (some 28) rfl rfl Try.func13 (by kernel_rfl) rfl #[.int .i64 a1, .int .i64 832] rfl (by (try simp only [List.map_toArray, List.map_cons, List.map_nil]); first | done | rfl | (simp only [List.length_drop, List.length_take]; rfl)) ?_; (with_reducible refine (debuggerkit_Mod.calls a1 832 t346 _ A6.out).mono ?_); rintro e w11 ⟨rfl, hb⟩; refine ⟨_, rfl, ?_⟩; have n0_ := Aside0.mk (Kd.N_below (by (with_reducible repeat (first | apply Kd.N_alloc | apply Kd.N_drewN | apply Kd.N_drew)); exact (Kd.N_mono (Kd.N_far (p := ⟨gb345, 0, none⟩) (Kd.N_mono HO344.out (fun k_ hk => (⟨hk, hk.2⟩ : _ ∧ k_ ≠ gb345))) (fun _ hk => hk.2) (.slice Ao9 t342.length co9)) (fun _ h_ => h_.1))) hb); have n1_ := Aside0.mk (blk_below (g := gb345) (o := .cells #[.slice Ao9 t342.length co9] 24 (0, 0)) (by (with_reducible repeat (first | refine blk_drewN ?_ _ | refine blk_drew ?_ | refine blk_alloc ?_ _)); refine blk_put (cs := #[.slice none 0 0]) ?_ 0 _ rfl; (with_reducible repeat (first | refine blk_drewN ?_ _ | refine blk_drew ?_ | refine blk_alloc ?_ _)); exact BK345.out) hb); have n2_ := Aside0.mk (below_step (by repeat (first | (with_reducible first | exact HB.out | apply below_alloc | apply pw_below_drewN | apply below_drew1 | refine below_set ?_ GE345.out) | exact HB.out)) hb); clear HO344; clear BK345; clear HB; have HO344 := n0_; have BK345 := n1_; have HB := n2_; clear n0_ n1_ n2_; (try clear hb); (try clear hb2); (try clear hk); (try clear hi)) | ((with_reducible refine gate_dst (N := 30) rfl ?_); refine Kd.R_lit (Kd.int .i64) _ 3 ?hg (N := 30) ?hd (xs := ([a1, wrap64 (t346 - 5)] : List Int)) (inner := [.int .i64 a1, .int .i64 (wrap64 (t346 - 5))]) (ok := fun _ => True) (okp := fun _ => True) ?hr ?hp (fun _ hk => hk) trivial (Below.refl _ _) (Nat.le_refl _) (by simp) ?_; (case hd => rfl); (case hg => rfl); (case hr => first | (go_simp; done) | (go_simp; rfl)); (case hp => exact (Reps.one (show Kd.M (Kd.int .i64) _ _ _ a1 [.int .i64 a1] from rfl) (Reps.one (show Kd.M (Kd.int .i64) _ _ _ (wrap64 (t346 - 5)) [.int .i64 (wrap64 (t346 - 5))] from rfl) (Reps.none _ _)))); intro v348 w12 ho13 hb hg_ hnew_; clear hg_ hnew_; (first | rw [← Ny347.out] at ho13 | (simp only [Int.reduceToNat] at ho13; rw [← Ny347.out] at ho13)); have n0_ := Aside0.mk (Kd.N_elder' (by (with_reducible repeat (first | apply Kd.N_alloc | apply Kd.N_drewN | apply Kd.N_drew)); exact HO344.out) (by first | exact Kd.R_base ho13 | exact Kd.S_base ho13 | exact Kd.R_base ho13 | exact Kd.N_base ho13) hb); have n1_ := Aside0.mk (Kd.R_lower ho13 (below_size (by repeat (first | (with_reducible first | exact HB.out | apply below_alloc | apply pw_below_drewN | apply below_drew1 | refine below_set ?_ GE345.out) | exact HB.out)))); have n2_ := Aside0.mk (blk_below (g := gb345) (o := .cells #[.slice Ao9 t342.length co9] 24 (0, 0)) (by (with_reducible repeat (first | refine blk_drewN ?_ _ | refine blk_drew ?_ | refine blk_alloc ?_ _)); exact BK345.out) hb); have n3_ := Aside0.mk (below_step (by repeat (first | (with_reducible first | exact HB.out | apply below_alloc | apply pw_below_drewN | apply below_drew1 | refine below_set ?_ GE345.out) | exact HB.out)) hb); clear HO344; clear BK345; clear HB; have HO344 := n0_; have HO349 := n1_; have BK345 := n2_; have HB := n3_; clear n0_ n1_ n2_ n3_; clear hb ho13; obtain ⟨Ao14, co14, eo14⟩ := Kd.R_slice HO349.out; subst eo14))
 go_loopg [32] k (fun kq v32 w' => ∃ (x32_1 : Int), v32 = .int .i64 x32_1 ∧ Aside0 (debuggerlaw25_MemoryWords.l0 kq l0 a2 a3 y347 (y347.length : Int) x32_1 t342 = some r) ∧ Aside0 (kq ≤ k) ∧ Aside0 (Kd.R (Kd.int .i64) 3 w' w.heap.size (fun _ => True) (.slice Ao14 y347.length co14) y347) ∧ Aside0 (Kd.N k31 31 w' w.heap.size (fun k_ => some k_ ≠ ((.slice Ao14 y347.length co14) : Value).ownBlock ∧ k_ ≠ gb345) (.slice Ao9 t342.length co9) t342) ∧ Aside0 (w'.heap[gb345]? = some (.cells #[(.slice Ao9 t342.length co9)] 24 (0, 0))) ∧ Aside0 (Below w.heap.size w w'))
 case atStart => exact ⟨(0), (by first | rfl | (simp; done) | (simp [*]; done)), H', ⟨Nat.le_refl _⟩, ⟨by (with_reducible repeat (first | apply Kd.R_alloc | apply Kd.R_drewN | apply Kd.R_drew)); exact HO349.out⟩, ⟨by (with_reducible repeat (first | apply Kd.N_alloc | apply Kd.N_drewN | apply Kd.N_drew)); exact Kd.N_mono HO344.out (fun _ hk => ⟨hk.2, hk.1.2⟩)⟩, ⟨by (with_reducible repeat (first | refine blk_drewN ?_ _ | refine blk_drew ?_ | refine blk_alloc ?_ _)); exact BK345.out⟩, ⟨by repeat (first | (with_reducible first | exact HB.out | apply below_alloc | apply pw_below_drewN | apply below_drew1 | refine below_set ?_ GE345.out) | exact HB.out)⟩⟩
 case round =>
  clear H'
  try clear c1
  try clear p2
  try clear c6
  try clear p6
  try clear c12
  try clear c13
  try clear hcz10_0
  try clear hfz10_0
  obtain ⟨x32_1, rfl, HA, HK1, HO_30, HO_346000, BK345, HB⟩ := hrel
  cases gk with
  | zero => exact absurd HA.out (by simp [debuggerlaw25_MemoryWords.l0])
  | succ k1 =>
   have H := HA.out
   clear HA
   simp only [debuggerlaw25_MemoryWords.l0] at H
   by_cases c15 : x32_1 < (y347.length : Int)
   ·rw [if_pos c15] at H
    have c15b0 : decide (x32_1 < (y347.length : Int)) = true := decide_eq_true c15
    clear c15
    by_cases c16 : 0 ≤ x32_1
    ·rw [if_pos c16] at H
     have c16b0 : decide (0 ≤ x32_1) = true := decide_eq_true c16
     clear c16
     by_cases c17 : x32_1 < (y347.length : Int)
     ·rw [if_pos c17] at H
      have c17b0 : decide (x32_1 < (y347.length : Int)) = true := decide_eq_true c17
      clear c17
      replace H := Option.bind_eq_some_iff.mp H
      obtain ⟨⟨t351, t352⟩, A180, H⟩ := H
      replace H : ((debuggerref25_Word.f k1 t342 (rd y347 x32_1)).bind fun bt353 => ((memory_With.f k1 t342 (rd y347 x32_1) a2).bind fun bt355 => ((debuggerref25_With.f k1 t342 (rd y347 x32_1) a2).bind fun bt360 => ((memory_Read.f k1 t342 (rd y347 x32_1) a3).bind fun bt365 => ((debuggerref25_Read.f k1 t342 (rd y347 x32_1) a3).bind fun bt369 => (if t351 = bt353.1 then (if (t352 != bt353.2) = true then (debuggerlaw25_MemoryWords.j1 k1 l0 a2 a3 y347 (y347.length : Int) x32_1 true t342) else (if (bt355.2 != bt360.2) = true then (debuggerlaw25_MemoryWords.j1 k1 l0 a2 a3 y347 (y347.length : Int) x32_1 true t342) else ((debuggerref25_Same.f k1 bt355.1 bt360.1).bind fun t373 => (if t373 = true then (if bt365.2 = bt369.2 then ((debuggerref25_Ints.f k1 bt365.1 bt369.1).bind fun t374 => (debuggerlaw25_MemoryWords.j1 k1 l0 a2 a3 y347 (y347.length : Int) x32_1 (!t374) t342)) else (debuggerlaw25_MemoryWords.j1 k1 l0 a2 a3 y347 (y347.length : Int) x32_1 true t342)) else (debuggerlaw25_MemoryWords.j1 k1 l0 a2 a3 y347 (y347.length : Int) x32_1 true t342))))) else (debuggerlaw25_MemoryWords.j1 k1 l0 a2 a3 y347 (y347.length : Int) x32_1 true t342))))))) = some r := H
      have A18 := Aside0.mk A180
      clear A180
      replace H := Option.bind_eq_some_iff.mp H
      obtain ⟨⟨t353, t354⟩, A190, H⟩ := H
      replace H : ((memory_With.f k1 t342 (rd y347 x32_1) a2).bind fun bt355 => ((debuggerref25_With.f k1 t342 (rd y347 x32_1) a2).bind fun bt360 => ((memory_Read.f k1 t342 (rd y347 x32_1) a3).bind fun bt365 => ((debuggerref25_Read.f k1 t342 (rd y347 x32_1) a3).bind fun bt369 => (if t351 = t353 then (if (t352 != t354) = true then (debuggerlaw25_MemoryWords.j1 k1 l0 a2 a3 y347 (y347.length : Int) x32_1 true t342) else (if (bt355.2 != bt360.2) = true then (debuggerlaw25_MemoryWords.j1 k1 l0 a2 a3 y347 (y347.length : Int) x32_1 true t342) else ((debuggerref25_Same.f k1 bt355.1 bt360.1).bind fun t373 => (if t373 = true then (if bt365.2 = bt369.2 then ((debuggerref25_Ints.f k1 bt365.1 bt369.1).bind fun t374 => (debuggerlaw25_MemoryWords.j1 k1 l0 a2 a3 y347 (y347.length : Int) x32_1 (!t374) t342)) else (debuggerlaw25_MemoryWords.j1 k1 l0 a2 a3 y347 (y347.length : Int) x32_1 true t342)) else (debuggerlaw25_MemoryWords.j1 k1 l0 a2 a3 y347 (y347.length : Int) x32_1 true t342))))) else (debuggerlaw25_MemoryWords.j1 k1 l0 a2 a3 y347 (y347.length : Int) x32_1 true t342)))))) = some r := H
      have A19 := Aside0.mk A190
      clear A190
      replace H := Option.bind_eq_some_iff.mp H
      obtain ⟨⟨t355, t358⟩, A200, H⟩ := H
      replace H : ((debuggerref25_With.f k1 t342 (rd y347 x32_1) a2).bind fun bt360 => ((memory_Read.f k1 t342 (rd y347 x32_1) a3).bind fun bt365 => ((debuggerref25_Read.f k1 t342 (rd y347 x32_1) a3).bind fun bt369 => (if t351 = t353 then (if (t352 != t354) = true then (debuggerlaw25_MemoryWords.j1 k1 l0 a2 a3 y347 (y347.length : Int) x32_1 true t342) else (if (t358 != bt360.2) = true then (debuggerlaw25_MemoryWords.j1 k1 l0 a2 a3 y347 (y347.length : Int) x32_1 true t342) else ((debuggerref25_Same.f k1 t355 bt360.1).bind fun t373 => (if t373 = true then (if bt365.2 = bt369.2 then ((debuggerref25_Ints.f k1 bt365.1 bt369.1).bind fun t374 => (debuggerlaw25_MemoryWords.j1 k1 l0 a2 a3 y347 (y347.length : Int) x32_1 (!t374) t342)) else (debuggerlaw25_MemoryWords.j1 k1 l0 a2 a3 y347 (y347.length : Int) x32_1 true t342)) else (debuggerlaw25_MemoryWords.j1 k1 l0 a2 a3 y347 (y347.length : Int) x32_1 true t342))))) else (debuggerlaw25_MemoryWords.j1 k1 l0 a2 a3 y347 (y347.length : Int) x32_1 true t342))))) = some r := H
      have A20 := Aside0.mk A200
      clear A200
      replace H := Option.bind_eq_some_iff.mp H
      obtain ⟨⟨t360, t363⟩, A210, H⟩ := H
      replace H : ((memory_Read.f k1 t342 (rd y347 x32_1) a3).bind fun bt365 => ((debuggerref25_Read.f k1 t342 (rd y347 x32_1) a3).bind fun bt369 => (if t351 = t353 then (if (t352 != t354) = true then (debuggerlaw25_MemoryWords.j1 k1 l0 a2 a3 y347 (y347.length : Int) x32_1 true t342) else (if (t358 != t363) = true then (debuggerlaw25_MemoryWords.j1 k1 l0 a2 a3 y347 (y347.length : Int) x32_1 true t342) else ((debuggerref25_Same.f k1 t355 t360).bind fun t373 => (if t373 = true then (if bt365.2 = bt369.2 then ((debuggerref25_Ints.f k1 bt365.1 bt369.1).bind fun t374 => (debuggerlaw25_MemoryWords.j1 k1 l0 a2 a3 y347 (y347.length : Int) x32_1 (!t374) t342)) else (debuggerlaw25_MemoryWords.j1 k1 l0 a2 a3 y347 (y347.length : Int) x32_1 true t342)) else (debuggerlaw25_MemoryWords.j1 k1 l0 a2 a3 y347 (y347.length : Int) x32_1 true t342))))) else (debuggerlaw25_MemoryWords.j1 k1 l0 a2 a3 y347 (y347.length : Int) x32_1 true t342)))) = some r := H
      have A21 := Aside0.mk A210
      clear A210
      replace H := Option.bind_eq_some_iff.mp H
      obtain ⟨⟨t365, t368⟩, A220, H⟩ := H
      replace H : ((debuggerref25_Read.f k1 t342 (rd y347 x32_1) a3).bind fun bt369 => (if t351 = t353 then (if (t352 != t354) = true then (debuggerlaw25_MemoryWords.j1 k1 l0 a2 a3 y347 (y347.length : Int) x32_1 true t342) else (if (t358 != t363) = true then (debuggerlaw25_MemoryWords.j1 k1 l0 a2 a3 y347 (y347.length : Int) x32_1 true t342) else ((debuggerref25_Same.f k1 t355 t360).bind fun t373 => (if t373 = true then (if t368 = bt369.2 then ((debuggerref25_Ints.f k1 t365 bt369.1).bind fun t374 => (debuggerlaw25_MemoryWords.j1 k1 l0 a2 a3 y347 (y347.length : Int) x32_1 (!t374) t342)) else (debuggerlaw25_MemoryWords.j1 k1 l0 a2 a3 y347 (y347.length : Int) x32_1 true t342)) else (debuggerlaw25_MemoryWords.j1 k1 l0 a2 a3 y347 (y347.length : Int) x32_1 true t342))))) else (debuggerlaw25_MemoryWords.j1 k1 l0 a2 a3 y347 (y347.length : Int) x32_1 true t342))) = some r := H
      have A22 := Aside0.mk A220
      clear A220
      replace H := Option.bind_eq_some_iff.mp H
      obtain ⟨⟨t369, t372⟩, A230, H⟩ := H
      replace H : (if t351 = t353 then (if (t352 != t354) = true then (debuggerlaw25_MemoryWords.j1 k1 l0 a2 a3 y347 (y347.length : Int) x32_1 true t342) else (if (t358 != t363) = true then (debuggerlaw25_MemoryWords.j1 k1 l0 a2 a3 y347 (y347.length : Int) x32_1 true t342) else ((debuggerref25_Same.f k1 t355 t360).bind fun t373 => (if t373 = true then (if t368 = t372 then ((debuggerref25_Ints.f k1 t365 t369).bind fun t374 => (debuggerlaw25_MemoryWords.j1 k1 l0 a2 a3 y347 (y347.length : Int) x32_1 (!t374) t342)) else (debuggerlaw25_MemoryWords.j1 k1 l0 a2 a3 y347 (y347.length : Int) x32_1 true t342)) else (debuggerlaw25_MemoryWords.j1 k1 l0 a2 a3 y347 (y347.length : Int) x32_1 true t342))))) else (debuggerlaw25_MemoryWords.j1 k1 l0 a2 a3 y347 (y347.length : Int) x32_1 true t342)) = some r := H
      have A23 := Aside0.mk A230
      clear A230
      have HC24 := Aside0.mk H
      clear H
      have p350 : 0 ≤ (x32_1 : Int) := of_decide_eq_true (by first | (with_reducible assumption) | assumption)
      have q350 : x32_1 < (y347.length : Int) := of_decide_eq_true (by first | (with_reducible assumption) | assumption)
      obtain ⟨ad350, e350, hx350_0⟩ := Kd.at_int (Kd.R_reads' HO_30.out).2.2 x32_1 p350 q350
      cases e350
      replace p350 := eq_true p350
      replace q350 := eq_true q350
      have hcz25_0 : wr.cell? ⟨gb345, 0, none⟩ = some (.slice Ao9 t342.length co9) := (blk_cell BK345.out 0).trans rfl
      have hfz25_0 := blk_frozen BK345.out 0
      go_upto_region 11 with (first | ((with_reducible refine gate_callee (f := 20) rfl ?_); refine goesL_ (some 39) rfl rfl Try.func20 (by kernel_rfl) rfl #[.agg #[.slice Ao9 t342.length co9], .int .i64 (rd y347 x32_1)] rfl (by (try simp only [List.map_toArray, List.map_cons, List.map_nil]); first | done | rfl | (simp only [List.length_drop, List.length_take]; rfl)) ?_; (with_reducible refine (memory_Word.calls _ _ t342 (rd y347 x32_1) t351 t352 _ ?side1 ?side2 A18.out).mono ?_); (case side1 => repeat (first | exact (Kd.N_reads' HO_346000.out).2.2 | (with_reducible refine Kd.C_alloc ?_ _) | (with_reducible refine Kd.C_drewN ?_ _) | (with_reducible refine Kd.C_drew ?_))); (case side2 => exact (Kd.N_reads' HO_346000.out).2.1); rintro e w26 ⟨rfl, hb⟩; refine ⟨_, rfl, ?_⟩; have n0_ := Aside0.mk (Kd.R_below (by (with_reducible repeat (first | apply Kd.R_alloc | apply Kd.R_drewN | apply Kd.R_drew)); exact HO_30.out) hb); have n1_ := Aside0.mk (Kd.N_below (by (with_reducible repeat (first | apply Kd.N_alloc | apply Kd.N_drewN | apply Kd.N_drew)); exact HO_346000.out) hb); have n2_ := Aside0.mk (blk_below (g := gb345) (o := .cells #[.slice Ao9 t342.length co9] 24 (0, 0)) (by (with_reducible repeat (first | refine blk_drewN ?_ _ | refine blk_drew ?_ | refine blk_alloc ?_ _)); exact BK345.out) hb); have n3_ := Aside0.mk (below_step (by repeat (first | (with_reducible first | exact HB.out | apply below_alloc | apply pw_below_drewN | apply below_drew1 | refine below_set ?_ GE345.out) | exact HB.out)) hb); clear HO_30; clear HO_346000; clear BK345; clear HB; have HO_30 := n0_; have HO_346000 := n1_; have BK345 := n2_; have HB := n3_; clear n0_ n1_ n2_ n3_; (try clear hb); (try clear hb2); (try clear hk); (try clear hi); have hcz27_0 : w26.cell? ⟨gb345, 0, none⟩ = some (.slice Ao9 t342.length co9) := (blk_cell BK345.out 0).trans rfl; have hfz27_0 := blk_frozen BK345.out 0) | ((with_reducible refine gate_callee (f := 21) rfl ?_); refine goesL_ (some 45) rfl rfl Try.func21 (by kernel_rfl) rfl #[.agg #[.slice Ao9 t342.length co9], .int .i64 (rd y347 x32_1)] rfl (by (try simp only [List.map_toArray, List.map_cons, List.map_nil]); first | done | rfl | (simp only [List.length_drop, List.length_take]; rfl)) ?_; (with_reducible refine (debuggerref25_Word.calls k1 _ _ t342 (rd y347 x32_1) t353 t354 _ ?side1 ?side2 A19.out).mono ?_); (case side1 => repeat (first | exact (Kd.N_reads' HO_346000.out).2.2 | (with_reducible refine Kd.C_alloc ?_ _) | (with_reducible refine Kd.C_drewN ?_ _) | (with_reducible refine Kd.C_drew ?_))); (case side2 => exact (Kd.N_reads' HO_346000.out).2.1); rintro e w28 ⟨rfl, hb⟩; refine ⟨_, rfl, ?_⟩; have n0_ := Aside0.mk (Kd.R_below (by (with_reducible repeat (first | apply Kd.R_alloc | apply Kd.R_drewN | apply Kd.R_drew)); exact HO_30.out) hb); have n1_ := Aside0.mk (Kd.N_below (by (with_reducible repeat (first | apply Kd.N_alloc | apply Kd.N_drewN | apply Kd.N_drew)); exact HO_346000.out) hb); have n2_ := Aside0.mk (blk_below (g := gb345) (o := .cells #[.slice Ao9 t342.length co9] 24 (0, 0)) (by (with_reducible repeat (first | refine blk_drewN ?_ _ | refine blk_drew ?_ | refine blk_alloc ?_ _)); exact BK345.out) hb); have n3_ := Aside0.mk (below_step (by repeat (first | (with_reducible first | exact HB.out | apply below_alloc | apply pw_below_drewN | apply below_drew1 | refine below_set ?_ GE345.out) | exact HB.out)) hb); clear HO_30; clear HO_346000; clear BK345; clear HB; have HO_30 := n0_; have HO_346000 := n1_; have BK345 := n2_; have HB := n3_; clear n0_ n1_ n2_ n3_; (try clear hb); (try clear hb2); (try clear hk); (try clear hi); have hcz29_0 : w28.cell? ⟨gb345, 0, none⟩ = some (.slice Ao9 t342.length co9) := (blk_cell BK345.out 0).trans rfl; have hfz29_0 := blk_frozen BK345.out 0) | ((with_reducible refine gate_callee (f := 22) rfl ?_); refine goesL_ (some 52) rfl rfl Try.func22 (by kernel_rfl) rfl #[.agg #[.slice Ao9 t342.length co9], .int .i64 (rd y347 x32_1), .int .i64 a2] rfl (by (try simp only [List.map_toArray, List.map_cons, List.map_nil]); first | done | rfl | (simp only [List.length_drop, List.length_take]; rfl)) ?_; (with_reducible refine (memory_With.calls k1 _ _ t342 (rd y347 x32_1) a2 t355 t358 _ ?side1 ?side2 A20.out).mono ?_); (case side1 => repeat (first | exact (Kd.N_reads' HO_346000.out).2.2 | (with_reducible refine Kd.C_alloc ?_ _) | (with_reducible refine Kd.C_drewN ?_ _) | (with_reducible refine Kd.C_drew ?_))); (case side2 => exact (Kd.N_reads' HO_346000.out).2.1); rintro e w30 ⟨v356, rfl, ho0, hb⟩; refine ⟨_, rfl, ?_⟩; have n0_ := Aside0.mk (Kd.R_below (by (with_reducible repeat (first | apply Kd.R_alloc | apply Kd.R_drewN | apply Kd.R_drew)); exact HO_30.out) hb); have n1_ := Aside0.mk (Kd.N_elder' (by (with_reducible repeat (first | apply Kd.N_alloc | apply Kd.N_drewN | apply Kd.N_drew)); exact HO_346000.out) (by first | exact Kd.N_base ho0 | exact Kd.S_base ho0 | exact Kd.R_base ho0 | exact Kd.N_base ho0) hb); have n2_ := Aside0.mk (Kd.N_lower (Kd.N_mono (ok' := fun k_ => some k_ ≠ (.slice (some ad350) y347.length co14 : Value).ownBlock ∧ some k_ ≠ (.slice Ao9 t342.length co9 : Value).ownBlock ∧ k_ ≠ gb345) (Kd.S_N (Kd.S_bound ho0)) (fun k_ hk_ => ⟨(Kd.fresh' (Kd.R_lt (by (with_reducible repeat (first | apply Kd.R_alloc | apply Kd.R_drewN | apply Kd.R_drew)); exact HO_30.out)) k_ hk_.2.1), (Kd.fresh' (Kd.N_lt (by (with_reducible repeat (first | apply Kd.N_alloc | apply Kd.N_drewN | apply Kd.N_drew)); exact HO_346000.out)) k_ hk_.2.1), (Kd.freshB (g := gb345) (o := .cells #[.slice Ao9 t342.length co9] 24 (0, 0)) (by (with_reducible repeat (first | refine blk_drewN ?_ _ | refine blk_drew ?_ | refine blk_alloc ?_ _)); exact BK345.out) k_ hk_.2.1)⟩)) (below_size (by repeat (first | (with_reducible first | exact HB.out | apply below_alloc | apply pw_below_drewN | apply below_drew1 | refine below_set ?_ GE345.out) | exact HB.out)))); have n3_ := Aside0.mk (blk_below (g := gb345) (o := .cells #[.slice Ao9 t342.length co9] 24 (0, 0)) (by (with_reducible repeat (first | refine blk_drewN ?_ _ | refine blk_drew ?_ | refine blk_alloc ?_ _)); exact BK345.out) hb); have n4_ := Aside0.mk (below_step (by repeat (first | (with_reducible first | exact HB.out | apply below_alloc | apply pw_below_drewN | apply below_drew1 | refine below_set ?_ GE345.out) | exact HB.out)) hb); clear HO_30; clear HO_346000; clear BK345; clear HB; have HO_30 := n0_; have HO_346000 := n1_; have HO357 := n2_; have BK345 := n3_; have HB := n4_; clear n0_ n1_ n2_ n3_ n4_; (try clear hb); (try clear hb2); (try clear hk); (try clear hi); (try clear ho0)) | ((with_reducible refine gate_dst (N := 16) rfl ?_); refine box_event ?hg (N := 16) ?hd (cs := #[.slice none 0 0]) (t := 24) ?hr ?_; (case hd => rfl); (case hg => rfl); (case hr => first | (go_simp; done) | (go_simp; rfl)); intro gb359 hg w31 hbox hb; have n0_ := Aside0.mk (Kd.R_below (by (with_reducible repeat (first | apply Kd.R_alloc | apply Kd.R_drewN | apply Kd.R_drew)); exact HO_30.out) hb); have n1_ := Aside0.mk (Kd.N_below (Kd.N_elderB (by (with_reducible repeat (first | apply Kd.N_alloc | apply Kd.N_drewN | apply Kd.N_drew)); exact HO_346000.out) gb359 (Nat.le_of_eq hg.symm)) hb); have n2_ := Aside0.mk (Kd.N_below (Kd.N_elderB (by (with_reducible repeat (first | apply Kd.N_alloc | apply Kd.N_drewN | apply Kd.N_drew)); exact HO357.out) gb359 (Nat.le_of_eq hg.symm)) hb); have n3_ := Aside0.mk (blk_below (g := gb345) (o := .cells #[.slice Ao9 t342.length co9] 24 (0, 0)) (by (with_reducible repeat (first | refine blk_drewN ?_ _ | refine blk_drew ?_ | refine blk_alloc ?_ _)); exact BK345.out) hb); have n4_ := Aside0.mk (below_step (by repeat (first | (with_reducible first | exact HB.out | apply below_alloc | apply pw_below_drewN | apply below_drew1 | refine below_set ?_ GE345.out) | exact HB.out)) hb); have n5_ := Aside0.mk (hbox); have n6_ := Aside0.mk ((by rw [hg]; exact (below_size (by repeat (first | (with_reducible first | exact HB.out | apply below_alloc | apply pw_below_drewN | apply below_drew1 | refine below_set ?_ GE345.out) | exact HB.out))) : w.heap.size ≤ gb359)); have n7_ := Aside0.mk ((by rw [hg]; exact (below_size (by repeat (first | (with_reducible first | exact HB.out | apply below_alloc | apply pw_below_drewN | apply below_drew1 | refine below_set ?_ GE345.out) | exact HB.out))) : w.heap.size ≤ gb359)); have n8_ := Aside0.mk ((by rw [hg]; exact Nat.ne_of_lt (blk_lt (g := gb345) (o := .cells #[.slice Ao9 t342.length co9] 24 (0, 0)) (by (with_reducible repeat (first | refine blk_drewN ?_ _ | refine blk_drew ?_ | refine blk_alloc ?_ _)); exact BK345.out)) : gb345 ≠ gb359)); have n9_ := Aside0.mk ((by rw [hg]; exact Nat.ne_of_gt (blk_lt (g := gb345) (o := .cells #[.slice Ao9 t342.length co9] 24 (0, 0)) (by (with_reducible repeat (first | refine blk_drewN ?_ _ | refine blk_drew ?_ | refine blk_alloc ?_ _)); exact BK345.out)) : gb359 ≠ gb345)); clear HO_30; clear HO_346000; clear HO357; clear BK345; clear HB; have HO_30 := n0_; have HO_346000 := n1_; have HO357 := n2_; have BK345 := n3_; have HB := n4_; have BK359 := n5_; have GW359 := n6_; have GE359 := n7_; have NB345_359 := n8_; have NB359_345 := n9_; clear n0_ n1_ n2_ n3_ n4_ n5_ n6_ n7_ n8_ n9_; clear hb hbox hg; obtain ⟨Ao32, co32, eo32⟩ := Kd.N_slice HO357.out; subst eo32; have hnb33 := NB359_345.out; have hnc33 := NB345_359.out; have hcz34_0 : w31.cell? ⟨gb359, 0, none⟩ = some (.slice none 0 0) := (blk_cell BK359.out 0).trans rfl; have hfz34_0 := blk_frozen BK359.out 0; have hcz35_0 : w31.cell? ⟨gb345, 0, none⟩ = some (.slice Ao9 t342.length co9) := (blk_cell BK345.out 0).trans rfl; have hfz35_0 := blk_frozen BK345.out 0) | ((with_reducible refine gate_callee (f := 23) rfl ?_); refine goesL_ (some 59) rfl rfl Try.func23 (by kernel_rfl) rfl #[.agg #[.slice Ao9 t342.length co9], .int .i64 (rd y347 x32_1), .int .i64 a2] rfl (by (try simp only [List.map_toArray, List.map_cons, List.map_nil]); first | done | rfl | (simp only [List.length_drop, List.length_take]; rfl)) ?_; (with_reducible refine (debuggerref25_With.calls k1 _ _ t342 (rd y347 x32_1) a2 t360 t363 _ ?side1 ?side2 A21.out).mono ?_); (case side1 => refine (Kd.N_reads' (e := 31) (base := w.heap.size) (ok := fun k_ => (((some k_ ≠ (.slice (some ad350) y347.length co14 : Value).ownBlock ∧ k_ ≠ gb345) ∧ some k_ ≠ (.slice Ao32 t355.length co32 : Value).ownBlock) ∧ k_ ≠ gb359)) (n := t342.length) (c := co9) ?_).2.2; exact (by (with_reducible repeat (first | apply Kd.N_alloc | apply Kd.N_drewN | apply Kd.N_drew)); exact (Kd.N_mono (Kd.N_far (p := ⟨gb359, 0, none⟩) (Kd.N_mono HO_346000.out (fun k_ hk => (⟨hk, hk.2⟩ : _ ∧ k_ ≠ gb359))) (fun _ hk => hk.2) (.slice Ao32 t355.length co32)) (fun _ h_ => h_.1)))); (case side2 => exact (Kd.N_reads' HO_346000.out).2.1); rintro e w36 ⟨v361, rfl, ho0, hb⟩; refine ⟨_, rfl, ?_⟩; have n0_ := Aside0.mk (Kd.R_below (by (with_reducible repeat (first | apply Kd.R_alloc | apply Kd.R_drewN | apply Kd.R_drew)); exact (Kd.R_mono (Kd.R_far (p := ⟨gb359, 0, none⟩) (Kd.R_types HO_30.out BK359.out (by decide)) (fun _ hk => hk.2) (.slice Ao32 t355.length co32)) (fun _ h_ => h_.1))) hb); have n1_ := Aside0.mk (Kd.N_elder' (by (with_reducible repeat (first | apply Kd.N_alloc | apply Kd.N_drewN | apply Kd.N_drew)); exact (Kd.N_mono (Kd.N_far (p := ⟨gb359, 0, none⟩) (Kd.N_mono HO_346000.out (fun k_ hk => (⟨hk, hk.2⟩ : _ ∧ k_ ≠ gb359))) (fun _ hk => hk.2) (.slice Ao32 t355.length co32)) (fun _ h_ => h_.1))) (by first | exact Kd.N_base ho0 | exact Kd.S_base ho0 | exact Kd.R_base ho0 | exact Kd.N_base ho0) hb); have n2_ := Aside0.mk (Kd.N_elder' (by (with_reducible repeat (first | apply Kd.N_alloc | apply Kd.N_drewN | apply Kd.N_drew)); exact (Kd.N_mono (Kd.N_far (p := ⟨gb359, 0, none⟩) (Kd.N_mono HO357.out (fun k_ hk => (⟨hk, hk.2⟩ : _ ∧ k_ ≠ gb359))) (fun _ hk => hk.2) (.slice Ao32 t355.length co32)) (fun _ h_ => h_.1))) (by first | exact Kd.N_base ho0 | exact Kd.S_base ho0 | exact Kd.R_base ho0 | exact Kd.N_base ho0) hb); have n3_ := Aside0.mk (Kd.N_lower (Kd.N_mono (ok' := fun k_ => some k_ ≠ (.slice (some ad350) y347.length co14 : Value).ownBlock ∧ some k_ ≠ (.slice Ao9 t342.length co9 : Value).ownBlock ∧ some k_ ≠ (.slice Ao32 t355.length co32 : Value).ownBlock ∧ k_ ≠ gb345 ∧ k_ ≠ gb359) (Kd.S_N (Kd.S_bound ho0)) (fun k_ hk_ => ⟨(Kd.fresh' (Kd.R_lt (by (with_reducible repeat (first | apply Kd.R_alloc | apply Kd.R_drewN | apply Kd.R_drew)); exact (Kd.R_mono (Kd.R_far (p := ⟨gb359, 0, none⟩) (Kd.R_types HO_30.out BK359.out (by decide)) (fun _ hk => hk.2) (.slice Ao32 t355.length co32)) (fun _ h_ => h_.1)))) k_ hk_.2.1), (Kd.fresh' (Kd.N_lt (by (with_reducible repeat (first | apply Kd.N_alloc | apply Kd.N_drewN | apply Kd.N_drew)); exact (Kd.N_mono (Kd.N_far (p := ⟨gb359, 0, none⟩) (Kd.N_mono HO_346000.out (fun k_ hk => (⟨hk, hk.2⟩ : _ ∧ k_ ≠ gb359))) (fun _ hk => hk.2) (.slice Ao32 t355.length co32)) (fun _ h_ => h_.1)))) k_ hk_.2.1), (Kd.fresh' (Kd.N_lt (by (with_reducible repeat (first | apply Kd.N_alloc | apply Kd.N_drewN | apply Kd.N_drew)); exact (Kd.N_mono (Kd.N_far (p := ⟨gb359, 0, none⟩) (Kd.N_mono HO357.out (fun k_ hk => (⟨hk, hk.2⟩ : _ ∧ k_ ≠ gb359))) (fun _ hk => hk.2) (.slice Ao32 t355.length co32)) (fun _ h_ => h_.1)))) k_ hk_.2.1), (Kd.freshB (g := gb345) (o := .cells #[.slice Ao9 t342.length co9] 24 (0, 0)) (by (with_reducible repeat (first | refine blk_drewN ?_ _ | refine blk_drew ?_ | refine blk_alloc ?_ _)); refine blk_far ?_ NB345_359.out _; (with_reducible repeat (first | refine blk_drewN ?_ _ | refine blk_drew ?_ | refine blk_alloc ?_ _)); exact BK345.out) k_ hk_.2.1), (Kd.freshB (g := gb359) (o := .cells #[.slice Ao32 t355.length co32] 24 (0, 0)) (by (with_reducible repeat (first | refine blk_drewN ?_ _ | refine blk_drew ?_ | refine blk_alloc ?_ _)); refine blk_put (cs := #[.slice none 0 0]) ?_ 0 _ rfl; (with_reducible repeat (first | refine blk_drewN ?_ _ | refine blk_drew ?_ | refine blk_alloc ?_ _)); exact BK359.out) k_ hk_.2.1)⟩)) (below_size (by repeat (first | (with_reducible first | exact HB.out | apply below_alloc | apply pw_below_drewN | apply below_drew1 | refine below_set ?_ GE345.out | refine below_set ?_ GE359.out) | exact HB.out)))); have n4_ := Aside0.mk (blk_below (g := gb345) (o := .cells #[.slice Ao9 t342.length co9] 24 (0, 0)) (by (with_reducible repeat (first | refine blk_drewN ?_ _ | refine blk_drew ?_ | refine blk_alloc ?_ _)); refine blk_far ?_ NB345_359.out _; (with_reducible repeat (first | refine blk_drewN ?_ _ | refine blk_drew ?_ | refine blk_alloc ?_ _)); exact BK345.out) hb); have n5_ := Aside0.mk (blk_below (g := gb359) (o := .cells #[.slice Ao32 t355.length co32] 24 (0, 0)) (by (with_reducible repeat (first | refine blk_drewN ?_ _ | refine blk_drew ?_ | refine blk_alloc ?_ _)); refine blk_put (cs := #[.slice none 0 0]) ?_ 0 _ rfl; (with_reducible repeat (first | refine blk_drewN ?_ _ | refine blk_drew ?_ | refine blk_alloc ?_ _)); exact BK359.out) hb); have n6_ := Aside0.mk (below_step (by repeat (first | (with_reducible first | exact HB.out | apply below_alloc | apply pw_below_drewN | apply below_drew1 | refine below_set ?_ GE345.out | refine below_set ?_ GE359.out) | exact HB.out)) hb); clear HO_30; clear HO_346000; clear HO357; clear BK345; clear BK359; clear HB; have HO_30 := n0_; have HO_346000 := n1_; have HO357 := n2_; have HO362 := n3_; have BK345 := n4_; have BK359 := n5_; have HB := n6_; clear n0_ n1_ n2_ n3_ n4_ n5_ n6_; (try clear hb); (try clear hb2); (try clear hk); (try clear hi); (try clear ho0)) | ((with_reducible refine gate_dst (N := 18) rfl ?_); refine box_event ?hg (N := 18) ?hd (cs := #[.slice none 0 0]) (t := 24) ?hr ?_; (case hd => rfl); (case hg => rfl); (case hr => first | (go_simp; done) | (go_simp; rfl)); intro gb364 hg w37 hbox hb; have n0_ := Aside0.mk (Kd.R_below (by (with_reducible repeat (first | apply Kd.R_alloc | apply Kd.R_drewN | apply Kd.R_drew)); exact HO_30.out) hb); have n1_ := Aside0.mk (Kd.N_below (Kd.N_elderB (by (with_reducible repeat (first | apply Kd.N_alloc | apply Kd.N_drewN | apply Kd.N_drew)); exact HO_346000.out) gb364 (Nat.le_of_eq hg.symm)) hb); have n2_ := Aside0.mk (Kd.N_below (Kd.N_elderB (by (with_reducible repeat (first | apply Kd.N_alloc | apply Kd.N_drewN | apply Kd.N_drew)); exact HO357.out) gb364 (Nat.le_of_eq hg.symm)) hb); have n3_ := Aside0.mk (Kd.N_below (Kd.N_elderB (by (with_reducible repeat (first | apply Kd.N_alloc | apply Kd.N_drewN | apply Kd.N_drew)); exact HO362.out) gb364 (Nat.le_of_eq hg.symm)) hb); have n4_ := Aside0.mk (blk_below (g := gb345) (o := .cells #[.slice Ao9 t342.length co9] 24 (0, 0)) (by (with_reducible repeat (first | refine blk_drewN ?_ _ | refine blk_drew ?_ | refine blk_alloc ?_ _)); exact BK345.out) hb); have n5_ := Aside0.mk (blk_below (g := gb359) (o := .cells #[.slice Ao32 t355.length co32] 24 (0, 0)) (by (with_reducible repeat (first | refine blk_drewN ?_ _ | refine blk_drew ?_ | refine blk_alloc ?_ _)); exact BK359.out) hb); have n6_ := Aside0.mk (below_step (by repeat (first | (with_reducible first | exact HB.out | apply below_alloc | apply pw_below_drewN | apply below_drew1 | refine below_set ?_ GE345.out | refine below_set ?_ GE359.out) | exact HB.out)) hb); have n7_ := Aside0.mk (hbox); have n8_ := Aside0.mk ((by rw [hg]; exact (below_size (by repeat (first | (with_reducible first | exact HB.out | apply below_alloc | apply pw_below_drewN | apply below_drew1 | refine below_set ?_ GE345.out | refine below_set ?_ GE359.out) | exact HB.out))) : w.heap.size ≤ gb364)); have n9_ := Aside0.mk ((by rw [hg]; exact (below_size (by repeat (first | (with_reducible first | exact HB.out | apply below_alloc | apply pw_below_drewN | apply below_drew1 | refine below_set ?_ GE345.out | refine below_set ?_ GE359.out) | exact HB.out))) : w.heap.size ≤ gb364)); have n10_ := Aside0.mk ((by rw [hg]; exact Nat.ne_of_lt (blk_lt (g := gb345) (o := .cells #[.slice Ao9 t342.length co9] 24 (0, 0)) (by (with_reducible repeat (first | refine blk_drewN ?_ _ | refine blk_drew ?_ | refine blk_alloc ?_ _)); exact BK345.out)) : gb345 ≠ gb364)); have n11_ := Aside0.mk ((by rw [hg]; exact Nat.ne_of_gt (blk_lt (g := gb345) (o := .cells #[.slice Ao9 t342.length co9] 24 (0, 0)) (by (with_reducible repeat (first | refine blk_drewN ?_ _ | refine blk_drew ?_ | refine blk_alloc ?_ _)); exact BK345.out)) : gb364 ≠ gb345)); have n12_ := Aside0.mk ((by rw [hg]; exact Nat.ne_of_lt (blk_lt (g := gb359) (o := .cells #[.slice Ao32 t355.length co32] 24 (0, 0)) (by (with_reducible repeat (first | refine blk_drewN ?_ _ | refine blk_drew ?_ | refine blk_alloc ?_ _)); exact BK359.out)) : gb359 ≠ gb364)); have n13_ := Aside0.mk ((by rw [hg]; exact Nat.ne_of_gt (blk_lt (g := gb359) (o := .cells #[.slice Ao32 t355.length co32] 24 (0, 0)) (by (with_reducible repeat (first | refine blk_drewN ?_ _ | refine blk_drew ?_ | refine blk_alloc ?_ _)); exact BK359.out)) : gb364 ≠ gb359)); clear HO_30; clear HO_346000; clear HO357; clear HO362; clear BK345; clear BK359; clear HB; have HO_30 := n0_; have HO_346000 := n1_; have HO357 := n2_; have HO362 := n3_; have BK345 := n4_; have BK359 := n5_; have HB := n6_; have BK364 := n7_; have GW364 := n8_; have GE364 := n9_; have NB345_364 := n10_; have NB364_345 := n11_; have NB359_364 := n12_; have NB364_359 := n13_; clear n0_ n1_ n2_ n3_ n4_ n5_ n6_ n7_ n8_ n9_ n10_ n11_ n12_ n13_; clear hb hbox hg; obtain ⟨Ao38, co38, eo38⟩ := Kd.N_slice HO362.out; subst eo38; have hnb39 := NB364_345.out; have hnc39 := NB345_364.out; have hnb40 := NB364_359.out; have hnc40 := NB359_364.out; have hcz41_0 : w37.cell? ⟨gb364, 0, none⟩ = some (.slice none 0 0) := (blk_cell BK364.out 0).trans rfl; have hfz41_0 := blk_frozen BK364.out 0; have hcz42_0 : w37.cell? ⟨gb345, 0, none⟩ = some (.slice Ao9 t342.length co9) := (blk_cell BK345.out 0).trans rfl; have hfz42_0 := blk_frozen BK345.out 0) | ((with_reducible refine gate_callee (f := 19) rfl ?_); refine goesL_ (some 66) rfl rfl Try.func19 (by kernel_rfl) rfl #[.agg #[.slice Ao9 t342.length co9], .int .i64 (rd y347 x32_1), .int .i64 a3] rfl (by (try simp only [List.map_toArray, List.map_cons, List.map_nil]); first | done | rfl | (simp only [List.length_drop, List.length_take]; rfl)) ?_; (with_reducible refine (memory_Read.calls k1 _ _ t342 (rd y347 x32_1) a3 t365 t368 _ ?side1 ?side2 A22.out).mono ?_); (case side1 => refine (Kd.N_reads' (e := 31) (base := w.heap.size) (ok := fun k_ => (((((some k_ ≠ (.slice (some ad350) y347.length co14 : Value).ownBlock ∧ k_ ≠ gb345) ∧ some k_ ≠ (.slice Ao32 t355.length co32 : Value).ownBlock) ∧ k_ ≠ gb359) ∧ some k_ ≠ (.slice Ao38 t360.length co38 : Value).ownBlock) ∧ k_ ≠ gb364)) (n := t342.length) (c := co9) ?_).2.2; exact (by (with_reducible repeat (first | apply Kd.N_alloc | apply Kd.N_drewN | apply Kd.N_drew)); exact (Kd.N_mono (Kd.N_far (p := ⟨gb364, 0, none⟩) (Kd.N_mono HO_346000.out (fun k_ hk => (⟨hk, hk.2⟩ : _ ∧ k_ ≠ gb364))) (fun _ hk => hk.2) (.slice Ao38 t360.length co38)) (fun _ h_ => h_.1)))); (case side2 => exact (Kd.N_reads' HO_346000.out).2.1); rintro e w43 ⟨v366, rfl, ho0, hb⟩; refine ⟨_, rfl, ?_⟩; have n0_ := Aside0.mk (Kd.R_elder' (by (with_reducible repeat (first | apply Kd.R_alloc | apply Kd.R_drewN | apply Kd.R_drew)); exact (Kd.R_mono (Kd.R_far (p := ⟨gb364, 0, none⟩) (Kd.R_types HO_30.out BK364.out (by decide)) (fun _ hk => hk.2) (.slice Ao38 t360.length co38)) (fun _ h_ => h_.1))) (by first | exact Kd.R_base ho0 | exact Kd.S_base ho0 | exact Kd.R_base ho0 | exact Kd.N_base ho0) hb); have n1_ := Aside0.mk (Kd.N_elder' (by (with_reducible repeat (first | apply Kd.N_alloc | apply Kd.N_drewN | apply Kd.N_drew)); exact (Kd.N_mono (Kd.N_far (p := ⟨gb364, 0, none⟩) (Kd.N_mono HO_346000.out (fun k_ hk => (⟨hk, hk.2⟩ : _ ∧ k_ ≠ gb364))) (fun _ hk => hk.2) (.slice Ao38 t360.length co38)) (fun _ h_ => h_.1))) (by first | exact Kd.R_base ho0 | exact Kd.S_base ho0 | exact Kd.R_base ho0 | exact Kd.N_base ho0) hb); have n2_ := Aside0.mk (Kd.N_elder' (by (with_reducible repeat (first | apply Kd.N_alloc | apply Kd.N_drewN | apply Kd.N_drew)); exact (Kd.N_mono (Kd.N_far (p := ⟨gb364, 0, none⟩) (Kd.N_mono HO357.out (fun k_ hk => (⟨hk, hk.2⟩ : _ ∧ k_ ≠ gb364))) (fun _ hk => hk.2) (.slice Ao38 t360.length co38)) (fun _ h_ => h_.1))) (by first | exact Kd.R_base ho0 | exact Kd.S_base ho0 | exact Kd.R_base ho0 | exact Kd.N_base ho0) hb); have n3_ := Aside0.mk (Kd.N_elder' (by (with_reducible repeat (first | apply Kd.N_alloc | apply Kd.N_drewN | apply Kd.N_drew)); exact (Kd.N_mono (Kd.N_far (p := ⟨gb364, 0, none⟩) (Kd.N_mono HO362.out (fun k_ hk => (⟨hk, hk.2⟩ : _ ∧ k_ ≠ gb364))) (fun _ hk => hk.2) (.slice Ao38 t360.length co38)) (fun _ h_ => h_.1))) (by first | exact Kd.R_base ho0 | exact Kd.S_base ho0 | exact Kd.R_base ho0 | exact Kd.N_base ho0) hb); have n4_ := Aside0.mk (Kd.R_lower (Kd.R_new' ho0 (Kd.R_lt (by (with_reducible repeat (first | apply Kd.R_alloc | apply Kd.R_drewN | apply Kd.R_drew)); exact (Kd.R_mono (Kd.R_far (p := ⟨gb364, 0, none⟩) (Kd.R_types HO_30.out BK364.out (by decide)) (fun _ hk => hk.2) (.slice Ao38 t360.length co38)) (fun _ h_ => h_.1))))) (below_size (by repeat (first | (with_reducible first | exact HB.out | apply below_alloc | apply pw_below_drewN | apply below_drew1 | refine below_set ?_ GE345.out | refine below_set ?_ GE359.out | refine below_set ?_ GE364.out) | exact HB.out)))); have n5_ := Aside0.mk (blk_below (g := gb345) (o := .cells #[.slice Ao9 t342.length co9] 24 (0, 0)) (by (with_reducible repeat (first | refine blk_drewN ?_ _ | refine blk_drew ?_ | refine blk_alloc ?_ _)); refine blk_far ?_ NB345_364.out _; (with_reducible repeat (first | refine blk_drewN ?_ _ | refine blk_drew ?_ | refine blk_alloc ?_ _)); exact BK345.out) hb); have n6_ := Aside0.mk (blk_below (g := gb359) (o := .cells #[.slice Ao32 t355.length co32] 24 (0, 0)) (by (with_reducible repeat (first | refine blk_drewN ?_ _ | refine blk_drew ?_ | refine blk_alloc ?_ _)); refine blk_far ?_ NB359_364.out _; (with_reducible repeat (first | refine blk_drewN ?_ _ | refine blk_drew ?_ | refine blk_alloc ?_ _)); exact BK359.out) hb); have n7_ := Aside0.mk (blk_below (g := gb364) (o := .cells #[.slice Ao38 t360.length co38] 24 (0, 0)) (by (with_reducible repeat (first | refine blk_drewN ?_ _ | refine blk_drew ?_ | refine blk_alloc ?_ _)); refine blk_put (cs := #[.slice none 0 0]) ?_ 0 _ rfl; (with_reducible repeat (first | refine blk_drewN ?_ _ | refine blk_drew ?_ | refine blk_alloc ?_ _)); exact BK364.out) hb); have n8_ := Aside0.mk (below_step (by repeat (first | (with_reducible first | exact HB.out | apply below_alloc | apply pw_below_drewN | apply below_drew1 | refine below_set ?_ GE345.out | refine below_set ?_ GE359.out | refine below_set ?_ GE364.out) | exact HB.out)) hb); clear HO_30; clear HO_346000; clear HO357; clear HO362; clear BK345; clear BK359; clear BK364; clear HB; have HO_30 := n0_; have HO_346000 := n1_; have HO357 := n2_; have HO362 := n3_; have HO367 := n4_; have BK345 := n5_; have BK359 := n6_; have BK364 := n7_; have HB := n8_; clear n0_ n1_ n2_ n3_ n4_ n5_ n6_ n7_ n8_; (try clear hb); (try clear hb2); (try clear hk); (try clear hi); (try clear ho0); have hcz44_0 : w43.cell? ⟨gb345, 0, none⟩ = some (.slice Ao9 t342.length co9) := (blk_cell BK345.out 0).trans rfl; have hfz44_0 := blk_frozen BK345.out 0) | ((with_reducible refine gate_callee (f := 24) rfl ?_); refine goesL_ (some 73) rfl rfl Try.func24 (by kernel_rfl) rfl #[.agg #[.slice Ao9 t342.length co9], .int .i64 (rd y347 x32_1), .int .i64 a3] rfl (by (try simp only [List.map_toArray, List.map_cons, List.map_nil]); first | done | rfl | (simp only [List.length_drop, List.length_take]; rfl)) ?_; (with_reducible refine (debuggerref25_Read.calls k1 _ _ t342 (rd y347 x32_1) a3 t369 t372 _ ?side1 ?side2 A23.out).mono ?_); (case side1 => repeat (first | exact (Kd.N_reads' HO_346000.out).2.2 | (with_reducible refine Kd.C_alloc ?_ _) | (with_reducible refine Kd.C_drewN ?_ _) | (with_reducible refine Kd.C_drew ?_))); (case side2 => exact (Kd.N_reads' HO_346000.out).2.1); rintro e w45 ⟨v370, rfl, ho0, hb⟩; refine ⟨_, rfl, ?_⟩; have n0_ := Aside0.mk (Kd.R_elder' (by (with_reducible repeat (first | apply Kd.R_alloc | apply Kd.R_drewN | apply Kd.R_drew)); exact HO_30.out) (by first | exact Kd.R_base ho0 | exact Kd.S_base ho0 | exact Kd.R_base ho0 | exact Kd.N_base ho0) hb); have n1_ := Aside0.mk (Kd.N_elder' (by (with_reducible repeat (first | apply Kd.N_alloc | apply Kd.N_drewN | apply Kd.N_drew)); exact HO_346000.out) (by first | exact Kd.R_base ho0 | exact Kd.S_base ho0 | exact Kd.R_base ho0 | exact Kd.N_base ho0) hb); have n2_ := Aside0.mk (Kd.N_elder' (by (with_reducible repeat (first | apply Kd.N_alloc | apply Kd.N_drewN | apply Kd.N_drew)); exact HO357.out) (by first | exact Kd.R_base ho0 | exact Kd.S_base ho0 | exact Kd.R_base ho0 | exact Kd.N_base ho0) hb); have n3_ := Aside0.mk (Kd.N_elder' (by (with_reducible repeat (first | apply Kd.N_alloc | apply Kd.N_drewN | apply Kd.N_drew)); exact HO362.out) (by first | exact Kd.R_base ho0 | exact Kd.S_base ho0 | exact Kd.R_base ho0 | exact Kd.N_base ho0) hb); have n4_ := Aside0.mk (Kd.R_elder' (by (with_reducible repeat (first | apply Kd.R_alloc | apply Kd.R_drewN | apply Kd.R_drew)); exact HO367.out) (by first | exact Kd.R_base ho0 | exact Kd.S_base ho0 | exact Kd.R_base ho0 | exact Kd.N_base ho0) hb); have n5_ := Aside0.mk (Kd.R_lower (Kd.R_new' (Kd.R_new' ho0 (Kd.R_lt (by (with_reducible repeat (first | apply Kd.R_alloc | apply Kd.R_drewN | apply Kd.R_drew)); exact HO_30.out))) (Kd.R_lt (by (with_reducible repeat (first | apply Kd.R_alloc | apply Kd.R_drewN | apply Kd.R_drew)); exact HO367.out))) (below_size (by repeat (first | (with_reducible first | exact HB.out | apply below_alloc | apply pw_below_drewN | apply below_drew1 | refine below_set ?_ GE345.out | refine below_set ?_ GE359.out | refine below_set ?_ GE364.out) | exact HB.out)))); have n6_ := Aside0.mk (blk_below (g := gb345) (o := .cells #[.slice Ao9 t342.length co9] 24 (0, 0)) (by (with_reducible repeat (first | refine blk_drewN ?_ _ | refine blk_drew ?_ | refine blk_alloc ?_ _)); exact BK345.out) hb); have n7_ := Aside0.mk (blk_below (g := gb359) (o := .cells #[.slice Ao32 t355.length co32] 24 (0, 0)) (by (with_reducible repeat (first | refine blk_drewN ?_ _ | refine blk_drew ?_ | refine blk_alloc ?_ _)); exact BK359.out) hb); have n8_ := Aside0.mk (blk_below (g := gb364) (o := .cells #[.slice Ao38 t360.length co38] 24 (0, 0)) (by (with_reducible repeat (first | refine blk_drewN ?_ _ | refine blk_drew ?_ | refine blk_alloc ?_ _)); exact BK364.out) hb); have n9_ := Aside0.mk (below_step (by repeat (first | (with_reducible first | exact HB.out | apply below_alloc | apply pw_below_drewN | apply below_drew1 | refine below_set ?_ GE345.out | refine below_set ?_ GE359.out | refine below_set ?_ GE364.out) | exact HB.out)) hb); clear HO_30; clear HO_346000; clear HO357; clear HO362; clear HO367; clear BK345; clear BK359; clear BK364; clear HB; have HO_30 := n0_; have HO_346000 := n1_; have HO357 := n2_; have HO362 := n3_; have HO367 := n4_; have HO371 := n5_; have BK345 := n6_; have BK359 := n7_; have BK364 := n8_; have HB := n9_; clear n0_ n1_ n2_ n3_ n4_ n5_ n6_ n7_ n8_ n9_; (try clear hb); (try clear hb2); (try clear hk); (try clear hi); (try clear ho0)))
      (try simp only [Act.put, List.setIfInBounds_toArray, List.set_cons_zero, List.set_cons_succ])
      go_cut [105] (fun v105 wc => ∃ (kq : Nat) (x105_23 : Bool), v105 = .bool x105_23 ∧ Aside0 (debuggerlaw25_MemoryWords.j1 kq l0 a2 a3 y347 (y347.length : Int) x32_1 x105_23 t342 = some r) ∧ Aside0 (kq ≤ k1) ∧ Aside0 (Kd.R (Kd.int .i64) 3 wc w.heap.size (fun _ => True) (.slice (some ad350) y347.length co14) y347) ∧ Aside0 (Kd.N k31 31 wc w.heap.size (fun k_ => some k_ ≠ ((.slice (some ad350) y347.length co14) : Value).ownBlock ∧ some k_ ≠ ((.slice Ao32 t355.length co32) : Value).ownBlock ∧ some k_ ≠ ((.slice Ao38 t360.length co38) : Value).ownBlock ∧ k_ ≠ gb345 ∧ k_ ≠ gb359 ∧ k_ ≠ gb364) (.slice Ao9 t342.length co9) t342) ∧ Aside0 (Kd.N k31 31 wc w.heap.size (fun k_ => some k_ ≠ ((.slice (some ad350) y347.length co14) : Value).ownBlock ∧ some k_ ≠ ((.slice Ao9 t342.length co9) : Value).ownBlock ∧ some k_ ≠ ((.slice Ao38 t360.length co38) : Value).ownBlock ∧ k_ ≠ gb345 ∧ k_ ≠ gb359 ∧ k_ ≠ gb364) (.slice Ao32 t355.length co32) t355) ∧ Aside0 (Kd.N k31 31 wc w.heap.size (fun k_ => some k_ ≠ ((.slice (some ad350) y347.length co14) : Value).ownBlock ∧ some k_ ≠ ((.slice Ao9 t342.length co9) : Value).ownBlock ∧ some k_ ≠ ((.slice Ao32 t355.length co32) : Value).ownBlock ∧ k_ ≠ gb345 ∧ k_ ≠ gb359 ∧ k_ ≠ gb364) (.slice Ao38 t360.length co38) t360) ∧ Aside0 (wc.heap[gb345]? = some (.cells #[(.slice Ao9 t342.length co9)] 24 (0, 0))) ∧ Aside0 (wc.heap[gb359]? = some (.cells #[(.slice Ao32 t355.length co32)] 24 (0, 0))) ∧ Aside0 (wc.heap[gb364]? = some (.cells #[(.slice Ao38 t360.length co38)] 24 (0, 0))) ∧ Aside0 (Below w.heap.size w wc))
      case first =>
       have H := HC24.out
       clear HC24
       by_cases c46 : t351 = t353
       ·rw [if_pos c46] at H
        have c46b0 : (t351 == t353) = true := beq_iff_eq.mpr c46
        have c46b1 : (t351 != t353) = false := bne_eq_false_iff_eq.mpr c46
        clear c46
        (first | rw [c46b0] | (simp only [i64_w, i32_w]; rw [c46b0]) | skip)
        by_cases c47 : (t352 != t354) = true
        ·rw [if_pos c47] at H
         have c47b0 : (t352 != t354) = true := c47
         (try (have c47b1 : decide (t352 = t354) = false := by simpa using c47))
         (try (have c47b2 : (t352 == t354) = false := by simpa using c47))
         (try (have c47b3 : ¬ (t352 = t354) := by simpa using c47))
         clear c47
         have H' := Aside0.mk H
         clear H
         go_wp2
         go_meet
         case rel => exact ⟨_, (true), (by first | rfl | (simp; done) | (simp [*]; done)), H', ⟨by have := HK1.out; first | omega | exact Nat.le_refl _⟩, ⟨by (with_reducible repeat (first | apply Kd.R_alloc | apply Kd.R_drewN | apply Kd.R_drew)); exact Kd.R_mono HO_30.out (fun _ hk => trivial)⟩, ⟨by (with_reducible repeat (first | apply Kd.N_alloc | apply Kd.N_drewN | apply Kd.N_drew)); exact Kd.N_mono HO_346000.out (fun _ hk => ⟨hk.1.1.1.1.1.1.1, ⟨hk.1.1.1.1.1.2, ⟨hk.1.1.1.2, ⟨hk.1.1.1.1.1.1.2, ⟨hk.1.1.1.1.2, hk.1.1.2⟩⟩⟩⟩⟩)⟩, ⟨by (with_reducible repeat (first | apply Kd.N_alloc | apply Kd.N_drewN | apply Kd.N_drew)); exact Kd.N_mono HO357.out (fun _ hk => ⟨hk.1.1.1.1.1.1, ⟨hk.1.1.1.1.1.2.1, ⟨hk.1.1.1.2, ⟨hk.1.1.1.1.1.2.2, ⟨hk.1.1.1.1.2, hk.1.1.2⟩⟩⟩⟩⟩)⟩, ⟨by (with_reducible repeat (first | apply Kd.N_alloc | apply Kd.N_drewN | apply Kd.N_drew)); exact Kd.N_mono HO362.out (fun _ hk => ⟨hk.1.1.1.1, ⟨hk.1.1.1.2.1, ⟨hk.1.1.1.2.2.1, ⟨hk.1.1.1.2.2.2.1, ⟨hk.1.1.1.2.2.2.2, hk.1.1.2⟩⟩⟩⟩⟩)⟩, ⟨by (with_reducible repeat (first | refine blk_drewN ?_ _ | refine blk_drew ?_ | refine blk_alloc ?_ _)); exact BK345.out⟩, ⟨by (with_reducible repeat (first | refine blk_drewN ?_ _ | refine blk_drew ?_ | refine blk_alloc ?_ _)); exact BK359.out⟩, ⟨by (with_reducible repeat (first | refine blk_drewN ?_ _ | refine blk_drew ?_ | refine blk_alloc ?_ _)); exact BK364.out⟩, ⟨by repeat (first | (with_reducible first | exact HB.out | apply below_alloc | apply pw_below_drewN | apply below_drew1 | refine below_set ?_ GE345.out | refine below_set ?_ GE359.out | refine below_set ?_ GE364.out) | exact HB.out)⟩⟩
        ·rw [if_neg c47] at H
         have c47b0 : (t352 != t354) = false := by simpa using c47
         (try (have c47b1 : decide (t352 = t354) = true := by simpa using c47))
         (try (have c47b2 : (t352 == t354) = true := by simpa using c47))
         clear c47
         by_cases c48 : (t358 != t363) = true
         ·rw [if_pos c48] at H
          have c48b0 : (t358 != t363) = true := c48
          (try (have c48b1 : decide (t358 = t363) = false := by simpa using c48))
          (try (have c48b2 : (t358 == t363) = false := by simpa using c48))
          (try (have c48b3 : ¬ (t358 = t363) := by simpa using c48))
          clear c48
          have H' := Aside0.mk H
          clear H
          go_wp2
          go_meet
          case rel => exact ⟨_, (true), (by first | rfl | (simp; done) | (simp [*]; done)), H', ⟨by have := HK1.out; first | omega | exact Nat.le_refl _⟩, ⟨by (with_reducible repeat (first | apply Kd.R_alloc | apply Kd.R_drewN | apply Kd.R_drew)); exact Kd.R_mono HO_30.out (fun _ hk => trivial)⟩, ⟨by (with_reducible repeat (first | apply Kd.N_alloc | apply Kd.N_drewN | apply Kd.N_drew)); exact Kd.N_mono HO_346000.out (fun _ hk => ⟨hk.1.1.1.1.1.1.1, ⟨hk.1.1.1.1.1.2, ⟨hk.1.1.1.2, ⟨hk.1.1.1.1.1.1.2, ⟨hk.1.1.1.1.2, hk.1.1.2⟩⟩⟩⟩⟩)⟩, ⟨by (with_reducible repeat (first | apply Kd.N_alloc | apply Kd.N_drewN | apply Kd.N_drew)); exact Kd.N_mono HO357.out (fun _ hk => ⟨hk.1.1.1.1.1.1, ⟨hk.1.1.1.1.1.2.1, ⟨hk.1.1.1.2, ⟨hk.1.1.1.1.1.2.2, ⟨hk.1.1.1.1.2, hk.1.1.2⟩⟩⟩⟩⟩)⟩, ⟨by (with_reducible repeat (first | apply Kd.N_alloc | apply Kd.N_drewN | apply Kd.N_drew)); exact Kd.N_mono HO362.out (fun _ hk => ⟨hk.1.1.1.1, ⟨hk.1.1.1.2.1, ⟨hk.1.1.1.2.2.1, ⟨hk.1.1.1.2.2.2.1, ⟨hk.1.1.1.2.2.2.2, hk.1.1.2⟩⟩⟩⟩⟩)⟩, ⟨by (with_reducible repeat (first | refine blk_drewN ?_ _ | refine blk_drew ?_ | refine blk_alloc ?_ _)); exact BK345.out⟩, ⟨by (with_reducible repeat (first | refine blk_drewN ?_ _ | refine blk_drew ?_ | refine blk_alloc ?_ _)); exact BK359.out⟩, ⟨by (with_reducible repeat (first | refine blk_drewN ?_ _ | refine blk_drew ?_ | refine blk_alloc ?_ _)); exact BK364.out⟩, ⟨by repeat (first | (with_reducible first | exact HB.out | apply below_alloc | apply pw_below_drewN | apply below_drew1 | refine below_set ?_ GE345.out | refine below_set ?_ GE359.out | refine below_set ?_ GE364.out) | exact HB.out)⟩⟩
         ·rw [if_neg c48] at H
          have c48b0 : (t358 != t363) = false := by simpa using c48
          (try (have c48b1 : decide (t358 = t363) = true := by simpa using c48))
          (try (have c48b2 : (t358 == t363) = true := by simpa using c48))
          clear c48
          replace H := Option.bind_eq_some_iff.mp H
          obtain ⟨t373, A490, H⟩ := H
          replace H : (if t373 = true then (if t368 = t372 then ((debuggerref25_Ints.f k1 t365 t369).bind fun t374 => (debuggerlaw25_MemoryWords.j1 k1 l0 a2 a3 y347 (y347.length : Int) x32_1 (!t374) t342)) else (debuggerlaw25_MemoryWords.j1 k1 l0 a2 a3 y347 (y347.length : Int) x32_1 true t342)) else (debuggerlaw25_MemoryWords.j1 k1 l0 a2 a3 y347 (y347.length : Int) x32_1 true t342)) = some r := H
          have A49 := Aside0.mk A490
          clear A490
          by_cases c50 : t373 = true
          ·subst c50
           have H1 : (if t368 = t372 then ((debuggerref25_Ints.f k1 t365 t369).bind fun t374 => (debuggerlaw25_MemoryWords.j1 k1 l0 a2 a3 y347 (y347.length : Int) x32_1 (!t374) t342)) else (debuggerlaw25_MemoryWords.j1 k1 l0 a2 a3 y347 (y347.length : Int) x32_1 true t342)) = some r := by rw [if_pos rfl] at H; exact H
           clear H
           have H := H1
           clear H1
           by_cases c51 : t368 = t372
           ·rw [if_pos c51] at H
            have c51b0 : (t368 == t372) = true := beq_iff_eq.mpr c51
            have c51b1 : (t368 != t372) = false := bne_eq_false_iff_eq.mpr c51
            clear c51
            replace H := Option.bind_eq_some_iff.mp H
            obtain ⟨t374, A520, H⟩ := H
            replace H : (debuggerlaw25_MemoryWords.j1 k1 l0 a2 a3 y347 (y347.length : Int) x32_1 (!t374) t342) = some r := H
            have A52 := Aside0.mk A520
            clear A520
            have H' := Aside0.mk H
            clear H
            have hnb53 := NB359_345.out
            have hnc53 := NB345_359.out
            have hnb54 := NB359_364.out
            have hnc54 := NB364_359.out
            have hcz55_0 : w45.cell? ⟨gb359, 0, none⟩ = some (.slice Ao32 t355.length co32) := (blk_cell BK359.out 0).trans rfl
            have hfz55_0 := blk_frozen BK359.out 0
            have hnb56 := NB364_345.out
            have hnc56 := NB345_364.out
            have hcz57_0 : w45.cell? ⟨gb364, 0, none⟩ = some (.slice Ao38 t360.length co38) := (blk_cell BK364.out 0).trans rfl
            have hfz57_0 := blk_frozen BK364.out 0
            go_wp2_with (first | (go_at_call 16; (with_reducible refine (debuggerref25_Same.calls k1 _ _ t355 _ _ t360 true _ ?side1 ?side2 ?side3 ?side4 A49.out).mono ?_); (case side1 => repeat (first | exact (Kd.N_reads' HO357.out).2.2 | (with_reducible refine Kd.C_alloc ?_ _) | (with_reducible refine Kd.C_drewN ?_ _) | (with_reducible refine Kd.C_drew ?_))); (case side2 => exact (Kd.N_reads' HO357.out).2.1); (case side3 => repeat (first | exact (Kd.N_reads' HO362.out).2.2 | (with_reducible refine Kd.C_alloc ?_ _) | (with_reducible refine Kd.C_drewN ?_ _) | (with_reducible refine Kd.C_drew ?_))); (case side4 => exact (Kd.N_reads' HO362.out).2.1); rintro e w58 ⟨rfl, hb⟩; have n0_ := Aside0.mk (Kd.R_below (by (with_reducible repeat (first | apply Kd.R_alloc | apply Kd.R_drewN | apply Kd.R_drew)); exact HO_30.out) hb); have n1_ := Aside0.mk (Kd.N_below (by (with_reducible repeat (first | apply Kd.N_alloc | apply Kd.N_drewN | apply Kd.N_drew)); exact HO_346000.out) hb); have n2_ := Aside0.mk (Kd.N_below (by (with_reducible repeat (first | apply Kd.N_alloc | apply Kd.N_drewN | apply Kd.N_drew)); exact HO357.out) hb); have n3_ := Aside0.mk (Kd.N_below (by (with_reducible repeat (first | apply Kd.N_alloc | apply Kd.N_drewN | apply Kd.N_drew)); exact HO362.out) hb); have n4_ := Aside0.mk (Kd.R_below (by (with_reducible repeat (first | apply Kd.R_alloc | apply Kd.R_drewN | apply Kd.R_drew)); exact HO367.out) hb); have n5_ := Aside0.mk (Kd.R_below (by (with_reducible repeat (first | apply Kd.R_alloc | apply Kd.R_drewN | apply Kd.R_drew)); exact HO371.out) hb); have n6_ := Aside0.mk (blk_below (g := gb345) (o := .cells #[.slice Ao9 t342.length co9] 24 (0, 0)) (by (with_reducible repeat (first | refine blk_drewN ?_ _ | refine blk_drew ?_ | refine blk_alloc ?_ _)); exact BK345.out) hb); have n7_ := Aside0.mk (blk_below (g := gb359) (o := .cells #[.slice Ao32 t355.length co32] 24 (0, 0)) (by (with_reducible repeat (first | refine blk_drewN ?_ _ | refine blk_drew ?_ | refine blk_alloc ?_ _)); exact BK359.out) hb); have n8_ := Aside0.mk (blk_below (g := gb364) (o := .cells #[.slice Ao38 t360.length co38] 24 (0, 0)) (by (with_reducible repeat (first | refine blk_drewN ?_ _ | refine blk_drew ?_ | refine blk_alloc ?_ _)); exact BK364.out) hb); have n9_ := Aside0.mk (below_step (by repeat (first | (with_reducible first | exact HB.out | apply below_alloc | apply pw_below_drewN | apply below_drew1 | refine below_set ?_ GE345.out | refine below_set ?_ GE359.out | refine below_set ?_ GE364.out) | exact HB.out)) hb); clear HO_30; clear HO_346000; clear HO357; clear HO362; clear HO367; clear HO371; clear BK345; clear BK359; clear BK364; clear HB; have HO_30 := n0_; have HO_346000 := n1_; have HO357 := n2_; have HO362 := n3_; have HO367 := n4_; have HO371 := n5_; have BK345 := n6_; have BK359 := n7_; have BK364 := n8_; have HB := n9_; clear n0_ n1_ n2_ n3_ n4_ n5_ n6_ n7_ n8_ n9_; (try clear hb); (try clear hb2); (try clear hk); (try clear hi); obtain ⟨Ao59, co59, eo59⟩ := Kd.R_slice HO367.out; subst eo59; obtain ⟨Ao60, co60, eo60⟩ := Kd.R_slice HO371.out; subst eo60) | (go_at_call 25; (with_reducible refine (debuggerref25_Ints.calls k1 _ _ t365 _ _ t369 t374 _ ?side1 ?side2 ?side3 ?side4 A52.out).mono ?_); (case side1 => repeat (first | exact (Kd.R_reads' HO367.out).2.2 | (with_reducible refine Kd.C_alloc ?_ _) | (with_reducible refine Kd.C_drewN ?_ _) | (with_reducible refine Kd.C_drew ?_))); (case side2 => exact (Kd.R_reads' HO367.out).2.1); (case side3 => repeat (first | exact (Kd.R_reads' HO371.out).2.2 | (with_reducible refine Kd.C_alloc ?_ _) | (with_reducible refine Kd.C_drewN ?_ _) | (with_reducible refine Kd.C_drew ?_))); (case side4 => exact (Kd.R_reads' HO371.out).2.1); rintro e w' ⟨rfl, ⟨nd, rfl⟩⟩))
            go_meet
            case rel => exact ⟨_, (!t374), (by first | rfl | (simp; done) | (simp [*]; done)), H', ⟨by have := HK1.out; first | omega | exact Nat.le_refl _⟩, ⟨by (with_reducible repeat (first | apply Kd.R_alloc | apply Kd.R_drewN | apply Kd.R_drew)); exact Kd.R_mono HO_30.out (fun _ hk => trivial)⟩, ⟨by (with_reducible repeat (first | apply Kd.N_alloc | apply Kd.N_drewN | apply Kd.N_drew)); exact Kd.N_mono HO_346000.out (fun _ hk => ⟨hk.1.1.1.1.1.1.1, ⟨hk.1.1.1.1.1.2, ⟨hk.1.1.1.2, ⟨hk.1.1.1.1.1.1.2, ⟨hk.1.1.1.1.2, hk.1.1.2⟩⟩⟩⟩⟩)⟩, ⟨by (with_reducible repeat (first | apply Kd.N_alloc | apply Kd.N_drewN | apply Kd.N_drew)); exact Kd.N_mono HO357.out (fun _ hk => ⟨hk.1.1.1.1.1.1, ⟨hk.1.1.1.1.1.2.1, ⟨hk.1.1.1.2, ⟨hk.1.1.1.1.1.2.2, ⟨hk.1.1.1.1.2, hk.1.1.2⟩⟩⟩⟩⟩)⟩, ⟨by (with_reducible repeat (first | apply Kd.N_alloc | apply Kd.N_drewN | apply Kd.N_drew)); exact Kd.N_mono HO362.out (fun _ hk => ⟨hk.1.1.1.1, ⟨hk.1.1.1.2.1, ⟨hk.1.1.1.2.2.1, ⟨hk.1.1.1.2.2.2.1, ⟨hk.1.1.1.2.2.2.2, hk.1.1.2⟩⟩⟩⟩⟩)⟩, ⟨by (with_reducible repeat (first | refine blk_drewN ?_ _ | refine blk_drew ?_ | refine blk_alloc ?_ _)); exact BK345.out⟩, ⟨by (with_reducible repeat (first | refine blk_drewN ?_ _ | refine blk_drew ?_ | refine blk_alloc ?_ _)); exact BK359.out⟩, ⟨by (with_reducible repeat (first | refine blk_drewN ?_ _ | refine blk_drew ?_ | refine blk_alloc ?_ _)); exact BK364.out⟩, ⟨by repeat (first | (with_reducible first | exact HB.out | apply below_alloc | apply pw_below_drewN | apply below_drew1 | refine below_set ?_ GE345.out | refine below_set ?_ GE359.out | refine below_set ?_ GE364.out) | exact HB.out)⟩⟩
           ·rw [if_neg c51] at H
            have c51b0 : (t368 == t372) = false := beq_eq_false_iff_ne.mpr c51
            have c51b1 : (t368 != t372) = true := bne_iff_ne.mpr c51
            have H' := Aside0.mk H
            clear H
            have hnb61 := NB359_345.out
            have hnc61 := NB345_359.out
            have hnb62 := NB359_364.out
            have hnc62 := NB364_359.out
            have hcz63_0 : w45.cell? ⟨gb359, 0, none⟩ = some (.slice Ao32 t355.length co32) := (blk_cell BK359.out 0).trans rfl
            have hfz63_0 := blk_frozen BK359.out 0
            have hnb64 := NB364_345.out
            have hnc64 := NB345_364.out
            have hcz65_0 : w45.cell? ⟨gb364, 0, none⟩ = some (.slice Ao38 t360.length co38) := (blk_cell BK364.out 0).trans rfl
            have hfz65_0 := blk_frozen BK364.out 0
            go_wp2_with (first | (go_at_call 16; (with_reducible refine (debuggerref25_Same.calls k1 _ _ t355 _ _ t360 true _ ?side1 ?side2 ?side3 ?side4 A49.out).mono ?_); (case side1 => repeat (first | exact (Kd.N_reads' HO357.out).2.2 | (with_reducible refine Kd.C_alloc ?_ _) | (with_reducible refine Kd.C_drewN ?_ _) | (with_reducible refine Kd.C_drew ?_))); (case side2 => exact (Kd.N_reads' HO357.out).2.1); (case side3 => repeat (first | exact (Kd.N_reads' HO362.out).2.2 | (with_reducible refine Kd.C_alloc ?_ _) | (with_reducible refine Kd.C_drewN ?_ _) | (with_reducible refine Kd.C_drew ?_))); (case side4 => exact (Kd.N_reads' HO362.out).2.1); rintro e w66 ⟨rfl, hb⟩; have n0_ := Aside0.mk (Kd.R_below (by (with_reducible repeat (first | apply Kd.R_alloc | apply Kd.R_drewN | apply Kd.R_drew)); exact HO_30.out) hb); have n1_ := Aside0.mk (Kd.N_below (by (with_reducible repeat (first | apply Kd.N_alloc | apply Kd.N_drewN | apply Kd.N_drew)); exact HO_346000.out) hb); have n2_ := Aside0.mk (Kd.N_below (by (with_reducible repeat (first | apply Kd.N_alloc | apply Kd.N_drewN | apply Kd.N_drew)); exact HO357.out) hb); have n3_ := Aside0.mk (Kd.N_below (by (with_reducible repeat (first | apply Kd.N_alloc | apply Kd.N_drewN | apply Kd.N_drew)); exact HO362.out) hb); have n4_ := Aside0.mk (Kd.R_below (by (with_reducible repeat (first | apply Kd.R_alloc | apply Kd.R_drewN | apply Kd.R_drew)); exact HO367.out) hb); have n5_ := Aside0.mk (Kd.R_below (by (with_reducible repeat (first | apply Kd.R_alloc | apply Kd.R_drewN | apply Kd.R_drew)); exact HO371.out) hb); have n6_ := Aside0.mk (blk_below (g := gb345) (o := .cells #[.slice Ao9 t342.length co9] 24 (0, 0)) (by (with_reducible repeat (first | refine blk_drewN ?_ _ | refine blk_drew ?_ | refine blk_alloc ?_ _)); exact BK345.out) hb); have n7_ := Aside0.mk (blk_below (g := gb359) (o := .cells #[.slice Ao32 t355.length co32] 24 (0, 0)) (by (with_reducible repeat (first | refine blk_drewN ?_ _ | refine blk_drew ?_ | refine blk_alloc ?_ _)); exact BK359.out) hb); have n8_ := Aside0.mk (blk_below (g := gb364) (o := .cells #[.slice Ao38 t360.length co38] 24 (0, 0)) (by (with_reducible repeat (first | refine blk_drewN ?_ _ | refine blk_drew ?_ | refine blk_alloc ?_ _)); exact BK364.out) hb); have n9_ := Aside0.mk (below_step (by repeat (first | (with_reducible first | exact HB.out | apply below_alloc | apply pw_below_drewN | apply below_drew1 | refine below_set ?_ GE345.out | refine below_set ?_ GE359.out | refine below_set ?_ GE364.out) | exact HB.out)) hb); clear HO_30; clear HO_346000; clear HO357; clear HO362; clear HO367; clear HO371; clear BK345; clear BK359; clear BK364; clear HB; have HO_30 := n0_; have HO_346000 := n1_; have HO357 := n2_; have HO362 := n3_; have HO367 := n4_; have HO371 := n5_; have BK345 := n6_; have BK359 := n7_; have BK364 := n8_; have HB := n9_; clear n0_ n1_ n2_ n3_ n4_ n5_ n6_ n7_ n8_ n9_; (try clear hb); (try clear hb2); (try clear hk); (try clear hi)))
            go_meet
            case rel => exact ⟨_, (true), (by first | rfl | (simp; done) | (simp [*]; done)), H', ⟨by have := HK1.out; first | omega | exact Nat.le_refl _⟩, ⟨by (with_reducible repeat (first | apply Kd.R_alloc | apply Kd.R_drewN | apply Kd.R_drew)); exact Kd.R_mono HO_30.out (fun _ hk => trivial)⟩, ⟨by (with_reducible repeat (first | apply Kd.N_alloc | apply Kd.N_drewN | apply Kd.N_drew)); exact Kd.N_mono HO_346000.out (fun _ hk => ⟨hk.1.1.1.1.1.1.1, ⟨hk.1.1.1.1.1.2, ⟨hk.1.1.1.2, ⟨hk.1.1.1.1.1.1.2, ⟨hk.1.1.1.1.2, hk.1.1.2⟩⟩⟩⟩⟩)⟩, ⟨by (with_reducible repeat (first | apply Kd.N_alloc | apply Kd.N_drewN | apply Kd.N_drew)); exact Kd.N_mono HO357.out (fun _ hk => ⟨hk.1.1.1.1.1.1, ⟨hk.1.1.1.1.1.2.1, ⟨hk.1.1.1.2, ⟨hk.1.1.1.1.1.2.2, ⟨hk.1.1.1.1.2, hk.1.1.2⟩⟩⟩⟩⟩)⟩, ⟨by (with_reducible repeat (first | apply Kd.N_alloc | apply Kd.N_drewN | apply Kd.N_drew)); exact Kd.N_mono HO362.out (fun _ hk => ⟨hk.1.1.1.1, ⟨hk.1.1.1.2.1, ⟨hk.1.1.1.2.2.1, ⟨hk.1.1.1.2.2.2.1, ⟨hk.1.1.1.2.2.2.2, hk.1.1.2⟩⟩⟩⟩⟩)⟩, ⟨by (with_reducible repeat (first | refine blk_drewN ?_ _ | refine blk_drew ?_ | refine blk_alloc ?_ _)); exact BK345.out⟩, ⟨by (with_reducible repeat (first | refine blk_drewN ?_ _ | refine blk_drew ?_ | refine blk_alloc ?_ _)); exact BK359.out⟩, ⟨by (with_reducible repeat (first | refine blk_drewN ?_ _ | refine blk_drew ?_ | refine blk_alloc ?_ _)); exact BK364.out⟩, ⟨by repeat (first | (with_reducible first | exact HB.out | apply below_alloc | apply pw_below_drewN | apply below_drew1 | refine below_set ?_ GE345.out | refine below_set ?_ GE359.out | refine below_set ?_ GE364.out) | exact HB.out)⟩⟩
          ·replace c50 := Bool.eq_false_iff.mpr c50
           subst c50
           have H1 : (debuggerlaw25_MemoryWords.j1 k1 l0 a2 a3 y347 (y347.length : Int) x32_1 true t342) = some r := by rw [if_neg (show ¬ (false = true) by decide)] at H; exact H
           clear H
           have H := H1
           clear H1
           have H' := Aside0.mk H
           clear H
           have hnb67 := NB359_345.out
           have hnc67 := NB345_359.out
           have hnb68 := NB359_364.out
           have hnc68 := NB364_359.out
           have hcz69_0 : w45.cell? ⟨gb359, 0, none⟩ = some (.slice Ao32 t355.length co32) := (blk_cell BK359.out 0).trans rfl
           have hfz69_0 := blk_frozen BK359.out 0
           have hnb70 := NB364_345.out
           have hnc70 := NB345_364.out
           have hcz71_0 : w45.cell? ⟨gb364, 0, none⟩ = some (.slice Ao38 t360.length co38) := (blk_cell BK364.out 0).trans rfl
           have hfz71_0 := blk_frozen BK364.out 0
           go_wp2_with (first | (go_at_call 16; (with_reducible refine (debuggerref25_Same.calls k1 _ _ t355 _ _ t360 false _ ?side1 ?side2 ?side3 ?side4 A49.out).mono ?_); (case side1 => repeat (first | exact (Kd.N_reads' HO357.out).2.2 | (with_reducible refine Kd.C_alloc ?_ _) | (with_reducible refine Kd.C_drewN ?_ _) | (with_reducible refine Kd.C_drew ?_))); (case side2 => exact (Kd.N_reads' HO357.out).2.1); (case side3 => repeat (first | exact (Kd.N_reads' HO362.out).2.2 | (with_reducible refine Kd.C_alloc ?_ _) | (with_reducible refine Kd.C_drewN ?_ _) | (with_reducible refine Kd.C_drew ?_))); (case side4 => exact (Kd.N_reads' HO362.out).2.1); rintro e w72 ⟨rfl, hb⟩; have n0_ := Aside0.mk (Kd.R_below (by (with_reducible repeat (first | apply Kd.R_alloc | apply Kd.R_drewN | apply Kd.R_drew)); exact HO_30.out) hb); have n1_ := Aside0.mk (Kd.N_below (by (with_reducible repeat (first | apply Kd.N_alloc | apply Kd.N_drewN | apply Kd.N_drew)); exact HO_346000.out) hb); have n2_ := Aside0.mk (Kd.N_below (by (with_reducible repeat (first | apply Kd.N_alloc | apply Kd.N_drewN | apply Kd.N_drew)); exact HO357.out) hb); have n3_ := Aside0.mk (Kd.N_below (by (with_reducible repeat (first | apply Kd.N_alloc | apply Kd.N_drewN | apply Kd.N_drew)); exact HO362.out) hb); have n4_ := Aside0.mk (Kd.R_below (by (with_reducible repeat (first | apply Kd.R_alloc | apply Kd.R_drewN | apply Kd.R_drew)); exact HO367.out) hb); have n5_ := Aside0.mk (Kd.R_below (by (with_reducible repeat (first | apply Kd.R_alloc | apply Kd.R_drewN | apply Kd.R_drew)); exact HO371.out) hb); have n6_ := Aside0.mk (blk_below (g := gb345) (o := .cells #[.slice Ao9 t342.length co9] 24 (0, 0)) (by (with_reducible repeat (first | refine blk_drewN ?_ _ | refine blk_drew ?_ | refine blk_alloc ?_ _)); exact BK345.out) hb); have n7_ := Aside0.mk (blk_below (g := gb359) (o := .cells #[.slice Ao32 t355.length co32] 24 (0, 0)) (by (with_reducible repeat (first | refine blk_drewN ?_ _ | refine blk_drew ?_ | refine blk_alloc ?_ _)); exact BK359.out) hb); have n8_ := Aside0.mk (blk_below (g := gb364) (o := .cells #[.slice Ao38 t360.length co38] 24 (0, 0)) (by (with_reducible repeat (first | refine blk_drewN ?_ _ | refine blk_drew ?_ | refine blk_alloc ?_ _)); exact BK364.out) hb); have n9_ := Aside0.mk (below_step (by repeat (first | (with_reducible first | exact HB.out | apply below_alloc | apply pw_below_drewN | apply below_drew1 | refine below_set ?_ GE345.out | refine below_set ?_ GE359.out | refine below_set ?_ GE364.out) | exact HB.out)) hb); clear HO_30; clear HO_346000; clear HO357; clear HO362; clear HO367; clear HO371; clear BK345; clear BK359; clear BK364; clear HB; have HO_30 := n0_; have HO_346000 := n1_; have HO357 := n2_; have HO362 := n3_; have HO367 := n4_; have HO371 := n5_; have BK345 := n6_; have BK359 := n7_; have BK364 := n8_; have HB := n9_; clear n0_ n1_ n2_ n3_ n4_ n5_ n6_ n7_ n8_ n9_; (try clear hb); (try clear hb2); (try clear hk); (try clear hi)))
           go_meet
           case rel => exact ⟨_, (true), (by first | rfl | (simp; done) | (simp [*]; done)), H', ⟨by have := HK1.out; first | omega | exact Nat.le_refl _⟩, ⟨by (with_reducible repeat (first | apply Kd.R_alloc | apply Kd.R_drewN | apply Kd.R_drew)); exact Kd.R_mono HO_30.out (fun _ hk => trivial)⟩, ⟨by (with_reducible repeat (first | apply Kd.N_alloc | apply Kd.N_drewN | apply Kd.N_drew)); exact Kd.N_mono HO_346000.out (fun _ hk => ⟨hk.1.1.1.1.1.1.1, ⟨hk.1.1.1.1.1.2, ⟨hk.1.1.1.2, ⟨hk.1.1.1.1.1.1.2, ⟨hk.1.1.1.1.2, hk.1.1.2⟩⟩⟩⟩⟩)⟩, ⟨by (with_reducible repeat (first | apply Kd.N_alloc | apply Kd.N_drewN | apply Kd.N_drew)); exact Kd.N_mono HO357.out (fun _ hk => ⟨hk.1.1.1.1.1.1, ⟨hk.1.1.1.1.1.2.1, ⟨hk.1.1.1.2, ⟨hk.1.1.1.1.1.2.2, ⟨hk.1.1.1.1.2, hk.1.1.2⟩⟩⟩⟩⟩)⟩, ⟨by (with_reducible repeat (first | apply Kd.N_alloc | apply Kd.N_drewN | apply Kd.N_drew)); exact Kd.N_mono HO362.out (fun _ hk => ⟨hk.1.1.1.1, ⟨hk.1.1.1.2.1, ⟨hk.1.1.1.2.2.1, ⟨hk.1.1.1.2.2.2.1, ⟨hk.1.1.1.2.2.2.2, hk.1.1.2⟩⟩⟩⟩⟩)⟩, ⟨by (with_reducible repeat (first | refine blk_drewN ?_ _ | refine blk_drew ?_ | refine blk_alloc ?_ _)); exact BK345.out⟩, ⟨by (with_reducible repeat (first | refine blk_drewN ?_ _ | refine blk_drew ?_ | refine blk_alloc ?_ _)); exact BK359.out⟩, ⟨by (with_reducible repeat (first | refine blk_drewN ?_ _ | refine blk_drew ?_ | refine blk_alloc ?_ _)); exact BK364.out⟩, ⟨by repeat (first | (with_reducible first | exact HB.out | apply below_alloc | apply pw_below_drewN | apply below_drew1 | refine below_set ?_ GE345.out | refine below_set ?_ GE359.out | refine below_set ?_ GE364.out) | exact HB.out)⟩⟩
       ·rw [if_neg c46] at H
        have c46b0 : (t351 == t353) = false := beq_eq_false_iff_ne.mpr c46
        have c46b1 : (t351 != t353) = true := bne_iff_ne.mpr c46
        (first | rw [c46b0] | (simp only [i64_w, i32_w]; rw [c46b0]) | skip)
        have H' := Aside0.mk H
        clear H
        go_wp2
        go_meet
        case rel => exact ⟨_, (true), (by first | rfl | (simp; done) | (simp [*]; done)), H', ⟨by have := HK1.out; first | omega | exact Nat.le_refl _⟩, ⟨by (with_reducible repeat (first | apply Kd.R_alloc | apply Kd.R_drewN | apply Kd.R_drew)); exact Kd.R_mono HO_30.out (fun _ hk => trivial)⟩, ⟨by (with_reducible repeat (first | apply Kd.N_alloc | apply Kd.N_drewN | apply Kd.N_drew)); exact Kd.N_mono HO_346000.out (fun _ hk => ⟨hk.1.1.1.1.1.1.1, ⟨hk.1.1.1.1.1.2, ⟨hk.1.1.1.2, ⟨hk.1.1.1.1.1.1.2, ⟨hk.1.1.1.1.2, hk.1.1.2⟩⟩⟩⟩⟩)⟩, ⟨by (with_reducible repeat (first | apply Kd.N_alloc | apply Kd.N_drewN | apply Kd.N_drew)); exact Kd.N_mono HO357.out (fun _ hk => ⟨hk.1.1.1.1.1.1, ⟨hk.1.1.1.1.1.2.1, ⟨hk.1.1.1.2, ⟨hk.1.1.1.1.1.2.2, ⟨hk.1.1.1.1.2, hk.1.1.2⟩⟩⟩⟩⟩)⟩, ⟨by (with_reducible repeat (first | apply Kd.N_alloc | apply Kd.N_drewN | apply Kd.N_drew)); exact Kd.N_mono HO362.out (fun _ hk => ⟨hk.1.1.1.1, ⟨hk.1.1.1.2.1, ⟨hk.1.1.1.2.2.1, ⟨hk.1.1.1.2.2.2.1, ⟨hk.1.1.1.2.2.2.2, hk.1.1.2⟩⟩⟩⟩⟩)⟩, ⟨by (with_reducible repeat (first | refine blk_drewN ?_ _ | refine blk_drew ?_ | refine blk_alloc ?_ _)); exact BK345.out⟩, ⟨by (with_reducible repeat (first | refine blk_drewN ?_ _ | refine blk_drew ?_ | refine blk_alloc ?_ _)); exact BK359.out⟩, ⟨by (with_reducible repeat (first | refine blk_drewN ?_ _ | refine blk_drew ?_ | refine blk_alloc ?_ _)); exact BK364.out⟩, ⟨by repeat (first | (with_reducible first | exact HB.out | apply below_alloc | apply pw_below_drewN | apply below_drew1 | refine below_set ?_ GE345.out | refine below_set ?_ GE359.out | refine below_set ?_ GE364.out) | exact HB.out)⟩⟩
      case rest =>
       clear HC24
       try clear c1
       try clear c2
       try clear p2
       try clear c3
       try clear p3
       try clear q3
       try clear hx3
       try clear c4
       try clear c5
       try clear c6
       try clear p6
       try clear c7
       try clear c12
       try clear c13
       try clear c15
       try clear c15b0
       try clear c16
       try clear c16b0
       try clear c17
       try clear c17b0
       try clear c19
       try clear c20
       try clear c21
       try clear c22
       try clear c23
       try clear c24
       try clear c33
       try clear p35
       try clear q35
       try clear hx35
       try clear c39
       try clear c40
       try clear c46
       try clear c46b0
       try clear c46b1
       try clear c47
       try clear c47b0
       try clear c47b1
       try clear c47b2
       try clear c48
       try clear c48b0
       try clear c48b1
       try clear c48b2
       try clear c50
       try clear c51
       try clear c51b0
       try clear c51b1
       try clear c53
       try clear c54
       try clear c56
       try clear c61
       try clear c62
       try clear c64
       try clear p64
       try clear c67
       try clear c68
       try clear c70
       try clear hcz10_0
       try clear hcz25_0
       try clear hcz27_0
       try clear hcz29_0
       try clear hcz34_0
       try clear hcz35_0
       try clear hcz41_0
       try clear hcz42_0
       try clear hcz44_0
       try clear hcz55_0
       try clear hcz57_0
       try clear hcz63_0
       try clear hcz65_0
       try clear hcz69_0
       try clear hcz71_0
       try clear hfz10_0
       try clear hfz25_0
       try clear hfz27_0
       try clear hfz29_0
       try clear hfz34_0
       try clear hfz35_0
       try clear hfz41_0
       try clear hfz42_0
       try clear hfz44_0
       try clear hfz55_0
       try clear hfz57_0
       try clear hfz63_0
       try clear hfz65_0
       try clear hfz69_0
       try clear hfz71_0
       try clear hx350_0
       try clear p2
       try clear p350
       try clear p6
       try clear q350
       obtain ⟨kq, x105_23, rfl, HA, HJ23, HO_30, HO_346000, HO_360000, HO_365000, BK345, BK359, BK364, HB⟩ := hcut
       cases kq with
       | zero => exact absurd HA.out (by simp [debuggerlaw25_MemoryWords.j1])
       | succ kj23 =>
        have H := HA.out
        clear HA
        simp only [debuggerlaw25_MemoryWords.j1] at H
        by_cases c73 : x105_23 = true
        ·subst c73
         have H1 : (some false) = some r := by rw [if_pos rfl] at H; exact H
         clear H
         have H := H1
         clear H1
         obtain rfl := Option.some.inj H
         go_wp2
         go_ret
         exact ⟨by first | rfl | (simp [errW_none, errW_some] <;> rfl) | (simp [*, errW_none, errW_some] <;> rfl), by repeat (first | (with_reducible first | exact HB.out | apply below_alloc | apply pw_below_drewN | apply below_drew1 | refine below_set ?_ GE345.out | refine below_set ?_ GE359.out | refine below_set ?_ GE364.out) | exact HB.out)⟩
        ·replace c73 := Bool.eq_false_iff.mpr c73
         subst c73
         have H1 : (debuggerlaw25_MemoryWords.l0 kj23 l0 a2 a3 y347 (y347.length : Int) (wrap64 (x32_1 + 1)) t342) = some r := by rw [if_neg (show ¬ (false = true) by decide)] at H; exact H
         clear H
         have H := H1
         clear H1
         have H' := Aside0.mk H
         clear H
         go_wp2
         go_roundg kj23
         case measure => have := HK1.out; have := HJ23.out; omega
         case rel => exact ⟨(wrap64 (x32_1 + 1)), (by first | rfl | (simp; done) | (simp [*]; done)), H', ⟨by have := HK1.out; have := HJ23.out; omega⟩, ⟨by (with_reducible repeat (first | apply Kd.R_alloc | apply Kd.R_drewN | apply Kd.R_drew)); exact HO_30.out⟩, ⟨by (with_reducible repeat (first | apply Kd.N_alloc | apply Kd.N_drewN | apply Kd.N_drew)); exact Kd.N_mono HO_346000.out (fun _ hk => ⟨hk.1, hk.2.2.2.1⟩)⟩, ⟨by (with_reducible repeat (first | refine blk_drewN ?_ _ | refine blk_drew ?_ | refine blk_alloc ?_ _)); exact BK345.out⟩, ⟨by repeat (first | (with_reducible first | exact HB.out | apply below_alloc | apply pw_below_drewN | apply below_drew1 | refine below_set ?_ GE345.out | refine below_set ?_ GE359.out | refine below_set ?_ GE364.out) | exact HB.out)⟩⟩
     ·rw [if_neg c17] at H
      exact absurd H (by simp)
    ·rw [if_neg c16] at H
     exact absurd H (by simp)
   ·rw [if_neg c15] at H
    have c15b0 : decide (x32_1 < (y347.length : Int)) = false := decide_eq_false c15
    clear c15
    replace H := Option.bind_eq_some_iff.mp H
    obtain ⟨t375, A740, H⟩ := H
    replace H : ((debuggerref25_Same.f k1 t342 t375).bind fun t378 => (if t378 = true then ((debuggerlaw25_awake.f k1).bind fun t379 => (some t379)) else (some false))) = some r := H
    have A74 := Aside0.mk A740
    clear A740
    replace H := Option.bind_eq_some_iff.mp H
    obtain ⟨t378, A750, H⟩ := H
    replace H : (if t378 = true then ((debuggerlaw25_awake.f k1).bind fun t379 => (some t379)) else (some false)) = some r := H
    have A75 := Aside0.mk A750
    clear A750
    by_cases c76 : t378 = true
    ·subst c76
     have H1 : ((debuggerlaw25_awake.f k1).bind fun t379 => (some t379)) = some r := by rw [if_pos rfl] at H; exact H
     clear H
     have H := H1
     clear H1
     replace H := Option.bind_eq_some_iff.mp H
     obtain ⟨t379, A770, H⟩ := H
     replace H : (some t379) = some r := H
     have A77 := Aside0.mk A770
     clear A770
     obtain rfl := Option.some.inj H
     try go_wp2
     have n0_ := Aside0.mk (Kd.R_drew HO_30.out)
     have n1_ := Aside0.mk (Kd.N_drew HO_346000.out)
     have n2_ := Aside0.mk (blk_drew BK345.out)
     have n3_ := Aside0.mk (below_drew1 HB.out)
     clear HO_30
     clear HO_346000
     clear BK345
     clear HB
     have HO_30 := n0_
     have HO_346000 := n1_
     have BK345 := n2_
     have HB := n3_
     clear n0_ n1_ n2_ n3_
     refine start_ (n := 8) (S := fun w' => w'.cell? ⟨gb345, 0, none⟩ = some (.slice Ao9 t342.length co9)) (ds := []) #[false, false, false, false, false, false, false, false] (by kernel_rfl) rfl rfl ((blk_cell BK345.out 0).trans rfl) (fun hHeld => ?_); refine with_tabW debuggerlaw25_MemoryWords.tab14 debuggerlaw25_MemoryWords.bits14 (fun HT_ HW_ => ?_)
     generalize wr.drew = w78 at HO_30 HO_346000 BK345 HB hHeld ⊢
     refine pure_ (i := 1) (N := some 108) (v := ?_) (a' := ?_) #[false, true, false, false, false, false, false, false] rfl rfl (any_of HT_.out (by kernel_rfl)) (fun _ _ _ h => h) (Or.inl ⟨by rfl, ?_⟩) ?_ ?_
     rotate_left
     ·intro w'
      go_simp
      with_reducible rfl
     rotate_left
     ·simp only [Act.put, List.setIfInBounds_toArray, List.set_cons_zero, List.set_cons_succ, i64_w, i32_w]
      rfl
     refine take_ (i := 0) (N := some 107) (v := ?_) (a' := ?_) #[true, true, false, false, false, false, false, false] rfl rfl (take_ofW HT_.out HW_.out (by kernel_rfl)) (fun _ _ _ h => h) (Or.inl ⟨by rfl, ?_⟩) hHeld ?_ ?_
     rotate_left
     ·intro w' s0
      go_simp
      with_reducible rfl
     rotate_left
     ·simp only [Act.put, List.setIfInBounds_toArray, List.set_cons_zero, List.set_cons_succ, i64_w, i32_w]
      rfl
     refine one_ (i := 2) (N := some 109) #[true, true, true, false, false, false, false, false] rfl rfl (one_of HT_.out (by kernel_rfl)) (by decide) (fun K hK => ?_)
     refine goes_ Try.func12 (by kernel_rfl) rfl #[.slice A0 l0.length c0] (by rfl) rfl rfl (by (try simp only [List.map_toArray, List.map_cons, List.map_nil]); first | done | rfl | (simp only [List.length_drop, List.length_take]; rfl)) ?_
     with_reducible refine (debuggerlaw25_some.calls k1 _ _ l0 t375 _ ?side1 ?side2 A74.out).mono ?_
     (case side1 => repeat (first | exact (Kd.C_below HR0.out HB.out) | (with_reducible refine Kd.C_alloc ?_ _) | (with_reducible refine Kd.C_drewN ?_ _) | (with_reducible refine Kd.C_drew ?_)))
     (case side2 => exact HC0.out)
     rintro e w79 ⟨v376, rfl, ho0, hb⟩
     refine ⟨_, rfl, ?_⟩
     have n0_ := Aside0.mk (Kd.R_below (by (with_reducible repeat (first | apply Kd.R_alloc | apply Kd.R_drewN | apply Kd.R_drew)); exact HO_30.out) hb)
     have n1_ := Aside0.mk (Kd.N_elder' (by (with_reducible repeat (first | apply Kd.N_alloc | apply Kd.N_drewN | apply Kd.N_drew)); exact HO_346000.out) (by first | exact Kd.N_base ho0 | exact Kd.S_base ho0 | exact Kd.R_base ho0 | exact Kd.N_base ho0) hb)
     have n2_ := Aside0.mk (Kd.N_lower (Kd.N_mono (ok' := fun k_ => some k_ ≠ (.slice Ao14 y347.length co14 : Value).ownBlock ∧ some k_ ≠ (.slice Ao9 t342.length co9 : Value).ownBlock ∧ k_ ≠ gb345) ho0 (fun k_ hk_ => ⟨(Kd.fresh' (Kd.R_lt (by (with_reducible repeat (first | apply Kd.R_alloc | apply Kd.R_drewN | apply Kd.R_drew)); exact HO_30.out)) k_ hk_), (Kd.fresh' (Kd.N_lt (by (with_reducible repeat (first | apply Kd.N_alloc | apply Kd.N_drewN | apply Kd.N_drew)); exact HO_346000.out)) k_ hk_), (Kd.freshB (g := gb345) (o := .cells #[.slice Ao9 t342.length co9] 24 (0, 0)) (by (with_reducible repeat (first | refine blk_drewN ?_ _ | refine blk_drew ?_ | refine blk_alloc ?_ _)); exact BK345.out) k_ hk_)⟩)) (below_size (by repeat (first | (with_reducible first | exact HB.out | apply below_alloc | apply pw_below_drewN | apply below_drew1 | refine below_set ?_ GE345.out) | exact HB.out))))
     have n3_ := Aside0.mk (blk_below (g := gb345) (o := .cells #[.slice Ao9 t342.length co9] 24 (0, 0)) (by (with_reducible repeat (first | refine blk_drewN ?_ _ | refine blk_drew ?_ | refine blk_alloc ?_ _)); exact BK345.out) hb)
     have n4_ := Aside0.mk (below_step (by repeat (first | (with_reducible first | exact HB.out | apply below_alloc | apply pw_below_drewN | apply below_drew1 | refine below_set ?_ GE345.out) | exact HB.out)) hb)
     clear HO_30
     clear HO_346000
     clear BK345
     clear HB
     have HO_30 := n0_
     have HO_346000 := n1_
     have HO377 := n2_
     have BK345 := n3_
     have HB := n4_
     clear n0_ n1_ n2_ n3_ n4_
     (try clear hb)
     (try clear hb2)
     (try clear hk)
     (try clear hi)
     (try clear ho0)
     obtain ⟨Ao80, co80, eo80⟩ := Kd.N_slice HO377.out
     (first | subst eo80 | (injection eo80 with f1_ f2_ f3_; have f4_ := f1_.symm; have f5_ := f3_.symm; clear f1_ f2_ f3_; subst f4_; subst f5_))
     refine hK.out _ _ ((blk_cell BK345.out 0).trans rfl) (fun hHeld => ?_)
     clear hK K
     refine norm_ (a' := ?_) ?_ ?_
     rotate_left
     ·show Act.put _ (some 109) _ = _
      simp only [Act.put, List.setIfInBounds_toArray, List.set_cons_zero, List.set_cons_succ, i64_w, i32_w]
      rfl
     refine one_ (i := 3) (N := some 110) #[true, true, true, true, false, false, false, false] rfl rfl (one_of HT_.out (by kernel_rfl)) (by decide) (fun K hK => ?_)
     refine goes_ Try.func16 (by kernel_rfl) rfl #[.agg #[.slice Ao9 t342.length co9], .agg #[.slice Ao80 t375.length co80]] (by rfl) rfl rfl (by (try simp only [List.map_toArray, List.map_cons, List.map_nil]); first | done | rfl | (simp only [List.length_drop, List.length_take]; rfl)) ?_
     with_reducible refine (debuggerref25_Same.calls k1 _ _ t342 _ _ t375 true _ ?side1 ?side2 ?side3 ?side4 A75.out).mono ?_
     (case side1 => repeat (first | exact (Kd.N_reads' HO_346000.out).2.2 | (with_reducible refine Kd.C_alloc ?_ _) | (with_reducible refine Kd.C_drewN ?_ _) | (with_reducible refine Kd.C_drew ?_)))
     (case side2 => exact (Kd.N_reads' HO_346000.out).2.1)
     (case side3 => repeat (first | exact (Kd.N_reads' HO377.out).2.2 | (with_reducible refine Kd.C_alloc ?_ _) | (with_reducible refine Kd.C_drewN ?_ _) | (with_reducible refine Kd.C_drew ?_)))
     (case side4 => exact (Kd.N_reads' HO377.out).2.1)
     rintro e w81 ⟨rfl, hb⟩
     refine ⟨_, rfl, ?_⟩
     have n0_ := Aside0.mk (Kd.R_below (by (with_reducible repeat (first | apply Kd.R_alloc | apply Kd.R_drewN | apply Kd.R_drew)); exact HO_30.out) hb)
     have n1_ := Aside0.mk (Kd.N_below (by (with_reducible repeat (first | apply Kd.N_alloc | apply Kd.N_drewN | apply Kd.N_drew)); exact HO_346000.out) hb)
     have n2_ := Aside0.mk (Kd.N_below (by (with_reducible repeat (first | apply Kd.N_alloc | apply Kd.N_drewN | apply Kd.N_drew)); exact HO377.out) hb)
     have n3_ := Aside0.mk (blk_below (g := gb345) (o := .cells #[.slice Ao9 t342.length co9] 24 (0, 0)) (by (with_reducible repeat (first | refine blk_drewN ?_ _ | refine blk_drew ?_ | refine blk_alloc ?_ _)); exact BK345.out) hb)
     have n4_ := Aside0.mk (below_step (by repeat (first | (with_reducible first | exact HB.out | apply below_alloc | apply pw_below_drewN | apply below_drew1 | refine below_set ?_ GE345.out) | exact HB.out)) hb)
     clear HO_30
     clear HO_346000
     clear HO377
     clear BK345
     clear HB
     have HO_30 := n0_
     have HO_346000 := n1_
     have HO377 := n2_
     have BK345 := n3_
     have HB := n4_
     clear n0_ n1_ n2_ n3_ n4_
     (try clear hb)
     (try clear hb2)
     (try clear hk)
     (try clear hi)
     refine hK.out _ _ ((blk_cell BK345.out 0).trans rfl) (fun hHeld => ?_)
     clear hK K
     refine norm_ (a' := ?_) ?_ ?_
     rotate_left
     ·show Act.put _ (some 110) _ = _
      simp only [Act.put, List.setIfInBounds_toArray, List.set_cons_zero, List.set_cons_succ, i64_w, i32_w]
      rfl
     refine pure_ (i := 4) (N := some 111) (v := ?_) (a' := ?_) #[true, true, true, true, true, false, false, false] rfl rfl (any_of HT_.out (by kernel_rfl)) (fun _ _ _ h => h) (Or.inl ⟨by rfl, ?_⟩) ?_ ?_
     rotate_left
     ·intro w'
      go_simp
      with_reducible rfl
     rotate_left
     ·simp only [Act.put, List.setIfInBounds_toArray, List.set_cons_zero, List.set_cons_succ, i64_w, i32_w]
      rfl
     refine one_ (i := 5) (N := some 112) #[true, true, true, true, true, true, false, false] rfl rfl (one_of HT_.out (by kernel_rfl)) (by decide) (fun K hK => ?_)
     refine goes_ Try.func11 (by kernel_rfl) rfl #[] (by rfl) rfl rfl (by (try simp only [List.map_toArray, List.map_cons, List.map_nil]); first | done | rfl | (simp only [List.length_drop, List.length_take]; rfl)) ?_
     with_reducible refine (debuggerlaw25_awake.calls k1  t379 _ A77.out).mono ?_
     rintro e w82 ⟨rfl, hb⟩
     refine ⟨_, rfl, ?_⟩
     have n0_ := Aside0.mk (Kd.R_below (by (with_reducible repeat (first | apply Kd.R_alloc | apply Kd.R_drewN | apply Kd.R_drew)); exact HO_30.out) hb)
     have n1_ := Aside0.mk (Kd.N_below (by (with_reducible repeat (first | apply Kd.N_alloc | apply Kd.N_drewN | apply Kd.N_drew)); exact HO_346000.out) hb)
     have n2_ := Aside0.mk (Kd.N_below (by (with_reducible repeat (first | apply Kd.N_alloc | apply Kd.N_drewN | apply Kd.N_drew)); exact HO377.out) hb)
     have n3_ := Aside0.mk (blk_below (g := gb345) (o := .cells #[.slice Ao9 t342.length co9] 24 (0, 0)) (by (with_reducible repeat (first | refine blk_drewN ?_ _ | refine blk_drew ?_ | refine blk_alloc ?_ _)); exact BK345.out) hb)
     have n4_ := Aside0.mk (below_step (by repeat (first | (with_reducible first | exact HB.out | apply below_alloc | apply pw_below_drewN | apply below_drew1 | refine below_set ?_ GE345.out) | exact HB.out)) hb)
     clear HO_30
     clear HO_346000
     clear HO377
     clear BK345
     clear HB
     have HO_30 := n0_
     have HO_346000 := n1_
     have HO377 := n2_
     have BK345 := n3_
     have HB := n4_
     clear n0_ n1_ n2_ n3_ n4_
     (try clear hb)
     (try clear hb2)
     (try clear hk)
     (try clear hi)
     refine hK.out _ _ ((blk_cell BK345.out 0).trans rfl) (fun hHeld => ?_)
     clear hK K
     refine norm_ (a' := ?_) ?_ ?_
     rotate_left
     ·show Act.put _ (some 112) _ = _
      simp only [Act.put, List.setIfInBounds_toArray, List.set_cons_zero, List.set_cons_succ, i64_w, i32_w]
      rfl
     refine pure_ (i := 6) (N := some 113) (v := ?_) (a' := ?_) #[true, true, true, true, true, true, true, false] rfl rfl (any_of HT_.out (by kernel_rfl)) (fun _ _ _ h => h) (Or.inl ⟨by rfl, ?_⟩) ?_ ?_
     rotate_left
     ·intro w'
      go_simp
      with_reducible rfl
     rotate_left
     ·simp only [Act.put, List.setIfInBounds_toArray, List.set_cons_zero, List.set_cons_succ, i64_w, i32_w]
      rfl
     refine pure_ (i := 7) (N := some 8) (v := ?_) (a' := ?_) #[true, true, true, true, true, true, true, true] rfl rfl (any_of HT_.out (by kernel_rfl)) (fun _ _ _ h => h) (Or.inl ⟨by rfl, ?_⟩) ?_ ?_
     rotate_left
     ·intro w'
      go_simp
      with_reducible rfl
     rotate_left
     ·simp only [Act.put, List.setIfInBounds_toArray, List.set_cons_zero, List.set_cons_succ, i64_w, i32_w]
      rfl
     refine done_ (done_of HT_.out (by kernel_rfl)) ?_
     try go_wp2
     go_ret
     exact ⟨by first | rfl | (simp [errW_none, errW_some] <;> rfl) | (simp [*, errW_none, errW_some] <;> rfl), by repeat (first | (with_reducible first | exact HB.out | apply below_alloc | apply pw_below_drewN | apply below_drew1 | refine below_set ?_ GE345.out) | exact HB.out)⟩
    ·replace c76 := Bool.eq_false_iff.mpr c76
     subst c76
     have H1 : (some false) = some r := by rw [if_neg (show ¬ (false = true) by decide)] at H; exact H
     clear H
     have H := H1
     clear H1
     obtain rfl := Option.some.inj H
     try go_wp2
     have n0_ := Aside0.mk (Kd.R_drew HO_30.out)
     have n1_ := Aside0.mk (Kd.N_drew HO_346000.out)
     have n2_ := Aside0.mk (blk_drew BK345.out)
     have n3_ := Aside0.mk (below_drew1 HB.out)
     clear HO_30
     clear HO_346000
     clear BK345
     clear HB
     have HO_30 := n0_
     have HO_346000 := n1_
     have BK345 := n2_
     have HB := n3_
     clear n0_ n1_ n2_ n3_
     refine start_ (n := 8) (S := fun w' => w'.cell? ⟨gb345, 0, none⟩ = some (.slice Ao9 t342.length co9)) (ds := []) #[false, false, false, false, false, false, false, false] (by kernel_rfl) rfl rfl ((blk_cell BK345.out 0).trans rfl) (fun hHeld => ?_); refine with_tabW debuggerlaw25_MemoryWords.tab14 debuggerlaw25_MemoryWords.bits14 (fun HT_ HW_ => ?_)
     generalize wr.drew = w83 at HO_30 HO_346000 BK345 HB hHeld ⊢
     refine pure_ (i := 1) (N := some 108) (v := ?_) (a' := ?_) #[false, true, false, false, false, false, false, false] rfl rfl (any_of HT_.out (by kernel_rfl)) (fun _ _ _ h => h) (Or.inl ⟨by rfl, ?_⟩) ?_ ?_
     rotate_left
     ·intro w'
      go_simp
      with_reducible rfl
     rotate_left
     ·simp only [Act.put, List.setIfInBounds_toArray, List.set_cons_zero, List.set_cons_succ, i64_w, i32_w]
      rfl
     refine take_ (i := 0) (N := some 107) (v := ?_) (a' := ?_) #[true, true, false, false, false, false, false, false] rfl rfl (take_ofW HT_.out HW_.out (by kernel_rfl)) (fun _ _ _ h => h) (Or.inl ⟨by rfl, ?_⟩) hHeld ?_ ?_
     rotate_left
     ·intro w' s0
      go_simp
      with_reducible rfl
     rotate_left
     ·simp only [Act.put, List.setIfInBounds_toArray, List.set_cons_zero, List.set_cons_succ, i64_w, i32_w]
      rfl
     refine one_ (i := 2) (N := some 109) #[true, true, true, false, false, false, false, false] rfl rfl (one_of HT_.out (by kernel_rfl)) (by decide) (fun K hK => ?_)
     refine goes_ Try.func12 (by kernel_rfl) rfl #[.slice A0 l0.length c0] (by rfl) rfl rfl (by (try simp only [List.map_toArray, List.map_cons, List.map_nil]); first | done | rfl | (simp only [List.length_drop, List.length_take]; rfl)) ?_
     with_reducible refine (debuggerlaw25_some.calls k1 _ _ l0 t375 _ ?side1 ?side2 A74.out).mono ?_
     (case side1 => repeat (first | exact (Kd.C_below HR0.out HB.out) | (with_reducible refine Kd.C_alloc ?_ _) | (with_reducible refine Kd.C_drewN ?_ _) | (with_reducible refine Kd.C_drew ?_)))
     (case side2 => exact HC0.out)
     rintro e w84 ⟨v376, rfl, ho0, hb⟩
     refine ⟨_, rfl, ?_⟩
     have n0_ := Aside0.mk (Kd.R_below (by (with_reducible repeat (first | apply Kd.R_alloc | apply Kd.R_drewN | apply Kd.R_drew)); exact HO_30.out) hb)
     have n1_ := Aside0.mk (Kd.N_elder' (by (with_reducible repeat (first | apply Kd.N_alloc | apply Kd.N_drewN | apply Kd.N_drew)); exact HO_346000.out) (by first | exact Kd.N_base ho0 | exact Kd.S_base ho0 | exact Kd.R_base ho0 | exact Kd.N_base ho0) hb)
     have n2_ := Aside0.mk (Kd.N_lower (Kd.N_mono (ok' := fun k_ => some k_ ≠ (.slice Ao14 y347.length co14 : Value).ownBlock ∧ some k_ ≠ (.slice Ao9 t342.length co9 : Value).ownBlock ∧ k_ ≠ gb345) ho0 (fun k_ hk_ => ⟨(Kd.fresh' (Kd.R_lt (by (with_reducible repeat (first | apply Kd.R_alloc | apply Kd.R_drewN | apply Kd.R_drew)); exact HO_30.out)) k_ hk_), (Kd.fresh' (Kd.N_lt (by (with_reducible repeat (first | apply Kd.N_alloc | apply Kd.N_drewN | apply Kd.N_drew)); exact HO_346000.out)) k_ hk_), (Kd.freshB (g := gb345) (o := .cells #[.slice Ao9 t342.length co9] 24 (0, 0)) (by (with_reducible repeat (first | refine blk_drewN ?_ _ | refine blk_drew ?_ | refine blk_alloc ?_ _)); exact BK345.out) k_ hk_)⟩)) (below_size (by repeat (first | (with_reducible first | exact HB.out | apply below_alloc | apply pw_below_drewN | apply below_drew1 | refine below_set ?_ GE345.out) | exact HB.out))))
     have n3_ := Aside0.mk (blk_below (g := gb345) (o := .cells #[.slice Ao9 t342.length co9] 24 (0, 0)) (by (with_reducible repeat (first | refine blk_drewN ?_ _ | refine blk_drew ?_ | refine blk_alloc ?_ _)); exact BK345.out) hb)
     have n4_ := Aside0.mk (below_step (by repeat (first | (with_reducible first | exact HB.out | apply below_alloc | apply pw_below_drewN | apply below_drew1 | refine below_set ?_ GE345.out) | exact HB.out)) hb)
     clear HO_30
     clear HO_346000
     clear BK345
     clear HB
     have HO_30 := n0_
     have HO_346000 := n1_
     have HO377 := n2_
     have BK345 := n3_
     have HB := n4_
     clear n0_ n1_ n2_ n3_ n4_
     (try clear hb)
     (try clear hb2)
     (try clear hk)
     (try clear hi)
     (try clear ho0)
     obtain ⟨Ao85, co85, eo85⟩ := Kd.N_slice HO377.out
     (first | subst eo85 | (injection eo85 with f1_ f2_ f3_; have f4_ := f1_.symm; have f5_ := f3_.symm; clear f1_ f2_ f3_; subst f4_; subst f5_))
     refine hK.out _ _ ((blk_cell BK345.out 0).trans rfl) (fun hHeld => ?_)
     clear hK K
     refine norm_ (a' := ?_) ?_ ?_
     rotate_left
     ·show Act.put _ (some 109) _ = _
      simp only [Act.put, List.setIfInBounds_toArray, List.set_cons_zero, List.set_cons_succ, i64_w, i32_w]
      rfl
     refine one_ (i := 3) (N := some 110) #[true, true, true, true, false, false, false, false] rfl rfl (one_of HT_.out (by kernel_rfl)) (by decide) (fun K hK => ?_)
     refine goes_ Try.func16 (by kernel_rfl) rfl #[.agg #[.slice Ao9 t342.length co9], .agg #[.slice Ao85 t375.length co85]] (by rfl) rfl rfl (by (try simp only [List.map_toArray, List.map_cons, List.map_nil]); first | done | rfl | (simp only [List.length_drop, List.length_take]; rfl)) ?_
     with_reducible refine (debuggerref25_Same.calls k1 _ _ t342 _ _ t375 false _ ?side1 ?side2 ?side3 ?side4 A75.out).mono ?_
     (case side1 => repeat (first | exact (Kd.N_reads' HO_346000.out).2.2 | (with_reducible refine Kd.C_alloc ?_ _) | (with_reducible refine Kd.C_drewN ?_ _) | (with_reducible refine Kd.C_drew ?_)))
     (case side2 => exact (Kd.N_reads' HO_346000.out).2.1)
     (case side3 => repeat (first | exact (Kd.N_reads' HO377.out).2.2 | (with_reducible refine Kd.C_alloc ?_ _) | (with_reducible refine Kd.C_drewN ?_ _) | (with_reducible refine Kd.C_drew ?_)))
     (case side4 => exact (Kd.N_reads' HO377.out).2.1)
     rintro e w86 ⟨rfl, hb⟩
     refine ⟨_, rfl, ?_⟩
     have n0_ := Aside0.mk (Kd.R_below (by (with_reducible repeat (first | apply Kd.R_alloc | apply Kd.R_drewN | apply Kd.R_drew)); exact HO_30.out) hb)
     have n1_ := Aside0.mk (Kd.N_below (by (with_reducible repeat (first | apply Kd.N_alloc | apply Kd.N_drewN | apply Kd.N_drew)); exact HO_346000.out) hb)
     have n2_ := Aside0.mk (Kd.N_below (by (with_reducible repeat (first | apply Kd.N_alloc | apply Kd.N_drewN | apply Kd.N_drew)); exact HO377.out) hb)
     have n3_ := Aside0.mk (blk_below (g := gb345) (o := .cells #[.slice Ao9 t342.length co9] 24 (0, 0)) (by (with_reducible repeat (first | refine blk_drewN ?_ _ | refine blk_drew ?_ | refine blk_alloc ?_ _)); exact BK345.out) hb)
     have n4_ := Aside0.mk (below_step (by repeat (first | (with_reducible first | exact HB.out | apply below_alloc | apply pw_below_drewN | apply below_drew1 | refine below_set ?_ GE345.out) | exact HB.out)) hb)
     clear HO_30
     clear HO_346000
     clear HO377
     clear BK345
     clear HB
     have HO_30 := n0_
     have HO_346000 := n1_
     have HO377 := n2_
     have BK345 := n3_
     have HB := n4_
     clear n0_ n1_ n2_ n3_ n4_
     (try clear hb)
     (try clear hb2)
     (try clear hk)
     (try clear hi)
     refine hK.out _ _ ((blk_cell BK345.out 0).trans rfl) (fun hHeld => ?_)
     clear hK K
     refine norm_ (a' := ?_) ?_ ?_
     rotate_left
     ·show Act.put _ (some 110) _ = _
      simp only [Act.put, List.setIfInBounds_toArray, List.set_cons_zero, List.set_cons_succ, i64_w, i32_w]
      rfl
     refine pure_ (i := 4) (N := some 111) (v := ?_) (a' := ?_) #[true, true, true, true, true, false, false, false] rfl rfl (any_of HT_.out (by kernel_rfl)) (fun _ _ _ h => h) (Or.inl ⟨by rfl, ?_⟩) ?_ ?_
     rotate_left
     ·intro w'
      go_simp
      with_reducible rfl
     rotate_left
     ·simp only [Act.put, List.setIfInBounds_toArray, List.set_cons_zero, List.set_cons_succ, i64_w, i32_w]
      rfl
     refine pure_ (i := 5) (N := some 112) (v := undef) (a' := ?_) #[true, true, true, true, true, true, false, false] rfl rfl (any_of HT_.out (by kernel_rfl)) (fun _ _ _ h => h) (Or.inr ⟨by rfl, rfl⟩) ?_ ?_
     rotate_left
     ·simp only [Act.put, List.setIfInBounds_toArray, List.set_cons_zero, List.set_cons_succ, i64_w, i32_w]
      rfl
     refine pure_ (i := 6) (N := some 113) (v := ?_) (a' := ?_) #[true, true, true, true, true, true, true, false] rfl rfl (any_of HT_.out (by kernel_rfl)) (fun _ _ _ h => h) (Or.inl ⟨by rfl, ?_⟩) ?_ ?_
     rotate_left
     ·intro w'
      go_simp
      with_reducible rfl
     rotate_left
     ·simp only [Act.put, List.setIfInBounds_toArray, List.set_cons_zero, List.set_cons_succ, i64_w, i32_w]
      rfl
     refine pure_ (i := 7) (N := some 8) (v := ?_) (a' := ?_) #[true, true, true, true, true, true, true, true] rfl rfl (any_of HT_.out (by kernel_rfl)) (fun _ _ _ h => h) (Or.inl ⟨by rfl, ?_⟩) ?_ ?_
     rotate_left
     ·intro w'
      go_simp
      with_reducible rfl
     rotate_left
     ·simp only [Act.put, List.setIfInBounds_toArray, List.set_cons_zero, List.set_cons_succ, i64_w, i32_w]
      rfl
     refine done_ (done_of HT_.out (by kernel_rfl)) ?_
     try go_wp2
     go_ret
     exact ⟨by first | rfl | (simp [errW_none, errW_some] <;> rfl) | (simp [*, errW_none, errW_some] <;> rfl), by repeat (first | (with_reducible first | exact HB.out | apply below_alloc | apply pw_below_drewN | apply below_drew1 | refine below_set ?_ GE345.out) | exact HB.out)⟩

/-- THE ONE PURE STATEMENT of debuggerlaw25_MemoryWords: yours. -/
def debuggerlaw25_MemoryWords.Pure : Prop := ∀ (l0 : List Int) (a1 : Int) (a2 : Int) (a3 : Int), l0.length ≤ maxLen → l0.length * 8 ≤ 140737488351232 → (∀ x ∈ l0, (Lit.int .i64 x).wf = true) → (Lit.int .i64 a1).wf = true → (Lit.int .i64 a2).wf = true → (Lit.int .i64 a3).wf = true → ∃ k, debuggerlaw25_MemoryWords.f k l0 a1 a2 a3 = some true
theorem debuggerlaw25_MemoryWords.walk (P : debuggerlaw25_MemoryWords.Pure) (a0 : Option Addr) (len0 cap0 : Nat) (z0 : List Int) (a1 : Int) (a2 : Int) (a3 : Int) (w : World) (w0 : (a0 = none ∧ len0 = 0 ∧ cap0 = 0 ∧ z0 = []) ∨ ∃ x, a0 = some x ∧ len0 ≤ cap0 ∧ cap0 ≤ maxLen ∧ z0.length = cap0 ∧ (∀ i, i < z0.length → w.cell? (x.add i) = some (.int .i64 (z0.getD i 0))) ∧ ∀ n ∈ z0, (Lit.int .i64 n).wf = true) (y0 : len0 * 8 ≤ 140737488351232) (w1 : (Lit.int .i64 a1).wf = true) (w2 : (Lit.int .i64 a2).wf = true) (w3 : (Lit.int .i64 a3).wf = true) :
  Calls Try.prog 6 #[.slice a0 len0 cap0, .int .i64 a1, .int .i64 a2, .int .i64 a3] w fun e w' => e = .returned (.bool true) ∧ Below w.heap.size w w' := by
 obtain ⟨l0, rfl, hr0, hm0, hw0, hc0⟩ := ReadsInt.ofRowC w0
 obtain ⟨k, h⟩ := P l0 a1 a2 a3 hm0 y0 hw0 w1 w2 w3
 refine (debuggerlaw25_MemoryWords.calls k _ _ l0 a1 a2 a3 true w (Kd.C_of_reads (d := (0 : Int)) (h1 := fun _ => rfl) hr0) hc0 h).mono ?_
 rintro e w' ⟨rfl, hd⟩
 exact ⟨rfl, hd⟩

end Go.Proofs.Ytpifepaflljolaa.PMem
