-- By wip/xprint.py (a driver of this session's over the kit's print), for this claim.
import Derived.Test.YtpifepaflljolaaPMemx0
import Derived.Test.YtpifepaflljolaaPMemx15
import Derived.Test.YtpifepaflljolaaPMemx21
namespace Go.Proofs.Ytpifepaflljolaa.PMem
open Go.RowKit Go.Proofs.YtpifepaflljolaaW.PrintWords Go.Proofs.YtpifepaflljolaaW.PrintLast Go.Proofs.YtpifepaflljolaaW.PrintMore
attribute [local go_sem] max2_int min2_int max_two min_two max_three min_three max_four min_four   -- for this text's walks alone
set_option linter.unusedVariables false
set_option linter.unusedSimpArgs false

/-! ### debuggerref25_With: function 23 -/
def debuggerref25_With.f (k : Nat) (l0_0 : List (S31)) (a1 : Int) (a2 : Int) : Option ((List (S31)) × Bool) := (debuggerref25_Copy.f k l0_0).bind fun t326 => ((debuggerref25_find.f k l0_0 a1).bind fun t330 => (if t330 < 0 then (some (t326, false)) else (if 0 ≤ t330 then (if t330 < (t326.length : Int) then (if t330 < (l0_0.length : Int) then (if 0 ≤ (wrap64 (a1 - ((rd_T31 l0_0 t330).f0))) then (if (wrap64 (a1 - ((rd_T31 l0_0 t330).f0))) < (((rd_T31 t326 t330).f1).length : Int) then (some ((t326.set (t330 : Int).toNat (⟨(rd_T31 t326 t330).f0, (((rd_T31 t326 t330).f1).set ((wrap64 (a1 - ((rd_T31 l0_0 t330).f0))) : Int).toNat a2)⟩ : S31)), true)) else (none)) else (none)) else (none)) else (none)) else (none))))
theorem debuggerref25_With.mono : ∀ a0 a1 a2 k, LeO (debuggerref25_With.f k a0 a1 a2) (debuggerref25_With.f (k + 1) a0 a1 a2) := by
 intro a0 a1 a2 k
 unfold debuggerref25_With.f
 repeat' first
   | (with_reducible exact debuggerref25_Copy.mono _ _)
   | (with_reducible exact debuggerref25_find.mono _ _ _)
   | (with_reducible exact LeO.refl _)
   | (with_reducible exact LeO.none _)
   | (with_reducible refine LeO.ite ?_ ?_)
   | (with_reducible refine LeO.bind ?_ (fun _ => ?_))
   | exact debuggerref25_Copy.mono _ _
   | exact debuggerref25_find.mono _ _ _
   | exact LeO.none _
   | refine LeO.ite ?_ ?_
   | refine LeO.bind ?_ (fun _ => ?_)
def debuggerref25_With.T5 : Bool × List (List Nat × List Nat) := (true, [([], []), ([0], [0]), ([], []), ([1, 2], [1, 2]), ([3], [3]), ([4], [4]), ([], []), ([], []), ([7], [7]), ([], []), ([8, 9], [8, 9]), ([10], [10]), ([11], [11]), ([6, 12], [6, 12]), ([], []), ([5, 13, 0, 1, 2, 3, 4, 5, 6, 7, 8, 9, 10, 11, 12, 13, 14], [5, 13]), ([15, 14, 0, 1, 2, 3, 4, 5, 6, 7, 8, 9, 10, 11, 12, 13, 14], [14, 15])])
def debuggerref25_With.B5 : List Nat := [0, 1, 0, 7, 15, 31, 0, 0, 128, 0, 896, 1920, 3968, 8128, 0, 32767, 65535]
theorem debuggerref25_With.tab5 : rtab .any (opsOf Try.f23 5) = debuggerref25_With.T5 := by kernel_rfl
theorem debuggerref25_With.bits5 : waitsOk debuggerref25_With.T5.2 debuggerref25_With.B5 = true := by kernel_rfl
set_option maxHeartbeats 8000000 in
set_option maxRecDepth 100000 in
theorem debuggerref25_With.calls (k : Nat) (A0_0 : Option Addr) (c0_0 : Nat) (l0_0 : List (S31)) (a1 : Int) (a2 : Int) (r1 : List (S31)) (r2 : Bool) (w : World) (hr0_0 : Kd.C k31 w A0_0 l0_0.length l0_0) (hc0_0 : l0_0.length ≤ c0_0) (h : debuggerref25_With.f k l0_0 a1 a2 = some (r1, r2)) :
  Calls Try.prog 23 #[.agg #[.slice A0_0 l0_0.length c0_0], .int .i64 a1, .int .i64 a2] w fun e w' => ∃ v0_ : Value, e = .returned (.tuple #[.agg #[v0_], .bool r2]) ∧ Kd.S k31 31 w' w.heap.size (fun _ => True) v0_ r1 ∧ Below w.heap.size w w' := by
 have hu24 := Try.underlying24
 have HR0_0 := Aside0.mk hr0_0
 have HC0_0 := Aside0.mk hc0_0
 clear hr0_0 hc0_0
 have HB := Aside0.mk (Below.refl w.heap.size w)
 have H : ((debuggerref25_Copy.f k l0_0).bind fun t326 => ((debuggerref25_find.f k l0_0 a1).bind fun t330 => (if t330 < 0 then (some (t326, false)) else (if 0 ≤ t330 then (if t330 < (t326.length : Int) then (if t330 < (l0_0.length : Int) then (if 0 ≤ (wrap64 (a1 - ((rd_T31 l0_0 t330).f0))) then (if (wrap64 (a1 - ((rd_T31 l0_0 t330).f0))) < (((rd_T31 t326 t330).f1).length : Int) then (some ((t326.set (t330 : Int).toNat (⟨(rd_T31 t326 t330).f0, (((rd_T31 t326 t330).f1).set ((wrap64 (a1 - ((rd_T31 l0_0 t330).f0))) : Int).toNat a2)⟩ : S31)), true)) else (none)) else (none)) else (none)) else (none)) else (none))))) = some (r1, r2) := h
 clear h
 replace H := Option.bind_eq_some_iff.mp H
 obtain ⟨t326, A40, H⟩ := H
 replace H : ((debuggerref25_find.f k l0_0 a1).bind fun t330 => (if t330 < 0 then (some (t326, false)) else (if 0 ≤ t330 then (if t330 < (t326.length : Int) then (if t330 < (l0_0.length : Int) then (if 0 ≤ (wrap64 (a1 - ((rd_T31 l0_0 t330).f0))) then (if (wrap64 (a1 - ((rd_T31 l0_0 t330).f0))) < (((rd_T31 t326 t330).f1).length : Int) then (some ((t326.set (t330 : Int).toNat (⟨(rd_T31 t326 t330).f0, (((rd_T31 t326 t330).f1).set ((wrap64 (a1 - ((rd_T31 l0_0 t330).f0))) : Int).toNat a2)⟩ : S31)), true)) else (none)) else (none)) else (none)) else (none)) else (none)))) = some (r1, r2) := H
 have A4 := Aside0.mk A40
 clear A40
 replace H := Option.bind_eq_some_iff.mp H
 obtain ⟨t330, A50, H⟩ := H
 replace H : (if t330 < 0 then (some (t326, false)) else (if 0 ≤ t330 then (if t330 < (t326.length : Int) then (if t330 < (l0_0.length : Int) then (if 0 ≤ (wrap64 (a1 - ((rd_T31 l0_0 t330).f0))) then (if (wrap64 (a1 - ((rd_T31 l0_0 t330).f0))) < (((rd_T31 t326 t330).f1).length : Int) then (some ((t326.set (t330 : Int).toNat (⟨(rd_T31 t326 t330).f0, (((rd_T31 t326 t330).f1).set ((wrap64 (a1 - ((rd_T31 l0_0 t330).f0))) : Int).toNat a2)⟩ : S31)), true)) else (none)) else (none)) else (none)) else (none)) else (none))) = some (r1, r2) := H
 have A5 := Aside0.mk A50
 clear A50
 by_cases c6 : t330 < 0
 ·rw [if_pos c6] at H
  have c6b0 : decide (t330 < 0) = true := decide_eq_true c6
  clear c6
  simp only [Option.some.injEq, Prod.mk.injEq] at H
  obtain ⟨rfl, rfl⟩ := H
  go_enter Try.func23, Try.ntmps23
  go_wp2_with (first | ((with_reducible refine gate_dst (N := 3) rfl ?_); refine box_event ?hg (N := 3) ?hd (cs := #[.slice A0_0 l0_0.length c0_0]) (t := 24) ?hr ?_; (case hd => rfl); (case hg => rfl); (case hr => first | (go_simp; done) | (go_simp; rfl)); intro gb324 hg w7 hbox hb; have n0_ := Aside0.mk (below_step (by repeat (first | (with_reducible first | exact HB.out | apply below_alloc | apply pw_below_drewN | apply below_drew1) | exact HB.out)) hb); have n1_ := Aside0.mk (hbox); have n2_ := Aside0.mk ((by rw [hg]; exact (below_size (by repeat (first | (with_reducible first | exact HB.out | apply below_alloc | apply pw_below_drewN | apply below_drew1) | exact HB.out))) : w.heap.size ≤ gb324)); have n3_ := Aside0.mk ((by rw [hg]; exact (below_size (by repeat (first | (with_reducible first | exact HB.out | apply below_alloc | apply pw_below_drewN | apply below_drew1) | exact HB.out))) : w.heap.size ≤ gb324)); clear HB; have HB := n0_; have BK324 := n1_; have GW324 := n2_; have GE324 := n3_; clear n0_ n1_ n2_ n3_; clear hb hbox hg) | ((with_reducible refine gate_dst (N := 6) rfl ?_); refine box_event ?hg (N := 6) ?hd (cs := #[.slice none 0 0]) (t := 24) ?hr ?_; (case hd => rfl); (case hg => rfl); (case hr => first | (go_simp; done) | (go_simp; rfl)); intro gb325 hg w8 hbox hb; have n0_ := Aside0.mk (blk_below (g := gb324) (o := .cells #[.slice A0_0 l0_0.length c0_0] 24 (0, 0)) (by (with_reducible repeat (first | refine blk_drewN ?_ _ | refine blk_drew ?_ | refine blk_alloc ?_ _)); exact BK324.out) hb); have n1_ := Aside0.mk (below_step (by repeat (first | (with_reducible first | exact HB.out | apply below_alloc | apply pw_below_drewN | apply below_drew1 | refine below_set ?_ GE324.out) | exact HB.out)) hb); have n2_ := Aside0.mk (hbox); have n3_ := Aside0.mk ((by rw [hg]; exact (below_size (by repeat (first | (with_reducible first | exact HB.out | apply below_alloc | apply pw_below_drewN | apply below_drew1 | refine below_set ?_ GE324.out) | exact HB.out))) : w.heap.size ≤ gb325)); have n4_ := Aside0.mk ((by rw [hg]; exact (below_size (by repeat (first | (with_reducible first | exact HB.out | apply below_alloc | apply pw_below_drewN | apply below_drew1 | refine below_set ?_ GE324.out) | exact HB.out))) : w.heap.size ≤ gb325)); have n5_ := Aside0.mk ((by rw [hg]; exact Nat.ne_of_lt (blk_lt (g := gb324) (o := .cells #[.slice A0_0 l0_0.length c0_0] 24 (0, 0)) (by (with_reducible repeat (first | refine blk_drewN ?_ _ | refine blk_drew ?_ | refine blk_alloc ?_ _)); exact BK324.out)) : gb324 ≠ gb325)); have n6_ := Aside0.mk ((by rw [hg]; exact Nat.ne_of_gt (blk_lt (g := gb324) (o := .cells #[.slice A0_0 l0_0.length c0_0] 24 (0, 0)) (by (with_reducible repeat (first | refine blk_drewN ?_ _ | refine blk_drew ?_ | refine blk_alloc ?_ _)); exact BK324.out)) : gb325 ≠ gb324)); clear BK324; clear HB; have BK324 := n0_; have HB := n1_; have BK325 := n2_; have GW325 := n3_; have GE325 := n4_; have NB324_325 := n5_; have NB325_324 := n6_; clear n0_ n1_ n2_ n3_ n4_ n5_ n6_; clear hb hbox hg; have hnb9 := NB324_325.out; have hnc9 := NB325_324.out; have hcz10_0 : w8.cell? ⟨gb324, 0, none⟩ = some (.slice A0_0 l0_0.length c0_0) := (blk_cell BK324.out 0).trans rfl; have hfz10_0 := blk_frozen BK324.out 0) | ((with_reducible refine gate_callee (f := 37) rfl ?_); refine goesL_ (some 11) rfl rfl Try.func37 (by kernel_rfl) rfl #[.agg #[.slice A0_0 l0_0.length c0_0]] rfl (by (try simp only [List.map_toArray, List.map_cons, List.map_nil]); first | done | rfl | (simp only [List.length_drop, List.length_take]; rfl)) ?_; (with_reducible refine (debuggerref25_Copy.calls k _ _ l0_0 t326 _ ?side1 ?side2 A4.out).mono ?_); (case side1 => repeat (first | exact (Kd.C_below HR0_0.out HB.out) | (with_reducible refine Kd.C_alloc ?_ _) | (with_reducible refine Kd.C_drewN ?_ _) | (with_reducible refine Kd.C_drew ?_))); (case side2 => exact HC0_0.out); rintro e w11 ⟨v327, rfl, ho0, hb⟩; refine ⟨_, rfl, ?_⟩; have n0_ := Aside0.mk (Kd.S_lower ho0 (below_size (by repeat (first | (with_reducible first | exact HB.out | apply below_alloc | apply pw_below_drewN | apply below_drew1 | refine below_set ?_ GE324.out | refine below_set ?_ GE325.out) | exact HB.out)))); have n1_ := Aside0.mk (blk_below (g := gb324) (o := .cells #[.slice A0_0 l0_0.length c0_0] 24 (0, 0)) (by (with_reducible repeat (first | refine blk_drewN ?_ _ | refine blk_drew ?_ | refine blk_alloc ?_ _)); exact BK324.out) hb); have n2_ := Aside0.mk (blk_below (g := gb325) (o := .cells #[.slice none 0 0] 24 (0, 0)) (by (with_reducible repeat (first | refine blk_drewN ?_ _ | refine blk_drew ?_ | refine blk_alloc ?_ _)); exact BK325.out) hb); have n3_ := Aside0.mk (below_step (by repeat (first | (with_reducible first | exact HB.out | apply below_alloc | apply pw_below_drewN | apply below_drew1 | refine below_set ?_ GE324.out | refine below_set ?_ GE325.out) | exact HB.out)) hb); clear BK324; clear BK325; clear HB; have HO328 := n0_; have BK324 := n1_; have BK325 := n2_; have HB := n3_; clear n0_ n1_ n2_ n3_; (try clear hb); (try clear hb2); (try clear hk); (try clear hi); (try clear ho0)) | ((with_reducible refine gate_dst (N := 8) rfl ?_); refine box_event ?hg (N := 8) ?hd (cs := #[.slice none 0 0]) (t := 24) ?hr ?_; (case hd => rfl); (case hg => rfl); (case hr => first | (go_simp; done) | (go_simp; rfl)); intro gb329 hg w12 hbox hb; have n0_ := Aside0.mk (Kd.S_below (by (with_reducible repeat (first | apply Kd.S_alloc | apply Kd.S_drewN | apply Kd.S_drew)); exact HO328.out) hb); have n1_ := Aside0.mk (blk_below (g := gb324) (o := .cells #[.slice A0_0 l0_0.length c0_0] 24 (0, 0)) (by (with_reducible repeat (first | refine blk_drewN ?_ _ | refine blk_drew ?_ | refine blk_alloc ?_ _)); exact BK324.out) hb); have n2_ := Aside0.mk (blk_below (g := gb325) (o := .cells #[.slice none 0 0] 24 (0, 0)) (by (with_reducible repeat (first | refine blk_drewN ?_ _ | refine blk_drew ?_ | refine blk_alloc ?_ _)); exact BK325.out) hb); have n3_ := Aside0.mk (below_step (by repeat (first | (with_reducible first | exact HB.out | apply below_alloc | apply pw_below_drewN | apply below_drew1 | refine below_set ?_ GE324.out | refine below_set ?_ GE325.out) | exact HB.out)) hb); have n4_ := Aside0.mk (hbox); have n5_ := Aside0.mk ((by rw [hg]; exact (below_size (by repeat (first | (with_reducible first | exact HB.out | apply below_alloc | apply pw_below_drewN | apply below_drew1 | refine below_set ?_ GE324.out | refine below_set ?_ GE325.out) | exact HB.out))) : w.heap.size ≤ gb329)); have n6_ := Aside0.mk ((by rw [hg]; exact (below_size (by repeat (first | (with_reducible first | exact HB.out | apply below_alloc | apply pw_below_drewN | apply below_drew1 | refine below_set ?_ GE324.out | refine below_set ?_ GE325.out) | exact HB.out))) : w.heap.size ≤ gb329)); have n7_ := Aside0.mk ((by rw [hg]; exact Nat.ne_of_lt (blk_lt (g := gb324) (o := .cells #[.slice A0_0 l0_0.length c0_0] 24 (0, 0)) (by (with_reducible repeat (first | refine blk_drewN ?_ _ | refine blk_drew ?_ | refine blk_alloc ?_ _)); exact BK324.out)) : gb324 ≠ gb329)); have n8_ := Aside0.mk ((by rw [hg]; exact Nat.ne_of_gt (blk_lt (g := gb324) (o := .cells #[.slice A0_0 l0_0.length c0_0] 24 (0, 0)) (by (with_reducible repeat (first | refine blk_drewN ?_ _ | refine blk_drew ?_ | refine blk_alloc ?_ _)); exact BK324.out)) : gb329 ≠ gb324)); have n9_ := Aside0.mk ((by rw [hg]; exact Nat.ne_of_lt (blk_lt (g := gb325) (o := .cells #[.slice none 0 0] 24 (0, 0)) (by (with_reducible repeat (first | refine blk_drewN ?_ _ | refine blk_drew ?_ | refine blk_alloc ?_ _)); exact BK325.out)) : gb325 ≠ gb329)); have n10_ := Aside0.mk ((by rw [hg]; exact Nat.ne_of_gt (blk_lt (g := gb325) (o := .cells #[.slice none 0 0] 24 (0, 0)) (by (with_reducible repeat (first | refine blk_drewN ?_ _ | refine blk_drew ?_ | refine blk_alloc ?_ _)); exact BK325.out)) : gb329 ≠ gb325)); clear HO328; clear BK324; clear BK325; clear HB; have HO328 := n0_; have BK324 := n1_; have BK325 := n2_; have HB := n3_; have BK329 := n4_; have GW329 := n5_; have GE329 := n6_; have NB324_329 := n7_; have NB329_324 := n8_; have NB325_329 := n9_; have NB329_325 := n10_; clear n0_ n1_ n2_ n3_ n4_ n5_ n6_ n7_ n8_ n9_ n10_; clear hb hbox hg; obtain ⟨Ao13, co13, eo13⟩ := Kd.S_slice HO328.out; subst eo13; have hnb14 := NB329_324.out; have hnc14 := NB324_329.out; have hnb15 := NB329_325.out; have hnc15 := NB325_329.out; have hcz16_0 : w12.cell? ⟨gb329, 0, none⟩ = some (.slice none 0 0) := (blk_cell BK329.out 0).trans rfl; have hfz16_0 := blk_frozen BK329.out 0; have hcz17_0 : w12.cell? ⟨gb324, 0, none⟩ = some (.slice A0_0 l0_0.length c0_0) := (blk_cell BK324.out 0).trans rfl; have hfz17_0 := blk_frozen BK324.out 0) | ((with_reducible refine gate_callee (f := 35) rfl ?_); refine goesL_ (some 14) rfl rfl Try.func35 (by kernel_rfl) rfl #[.agg #[.slice A0_0 l0_0.length c0_0], .int .i64 a1] rfl (by (try simp only [List.map_toArray, List.map_cons, List.map_nil]); first | done | rfl | (simp only [List.length_drop, List.length_take]; rfl)) ?_; (with_reducible refine (debuggerref25_find.calls k _ _ l0_0 a1 t330 _ ?side1 ?side2 A5.out).mono ?_); (case side1 => exact Kd.C_below HR0_0.out (by repeat (first | (with_reducible first | exact HB.out | apply below_alloc | apply pw_below_drewN | apply below_drew1 | refine below_set ?_ GE324.out | refine below_set ?_ GE325.out | refine below_set ?_ GE329.out) | exact HB.out))); (case side2 => exact HC0_0.out); rintro e w18 ⟨rfl, hb⟩; refine ⟨_, rfl, ?_⟩; have n0_ := Aside0.mk (Kd.S_below (by (with_reducible repeat (first | apply Kd.S_alloc | apply Kd.S_drewN | apply Kd.S_drew)); exact (Kd.S_mono (Kd.S_far (p := ⟨gb329, 0, none⟩) (Kd.S_types HO328.out BK329.out (by decide)) (fun _ hk => hk.2) (.slice Ao13 t326.length co13)) (fun _ h_ => h_.1))) hb); have n1_ := Aside0.mk (blk_below (g := gb324) (o := .cells #[.slice A0_0 l0_0.length c0_0] 24 (0, 0)) (by (with_reducible repeat (first | refine blk_drewN ?_ _ | refine blk_drew ?_ | refine blk_alloc ?_ _)); refine blk_far ?_ NB324_329.out _; (with_reducible repeat (first | refine blk_drewN ?_ _ | refine blk_drew ?_ | refine blk_alloc ?_ _)); exact BK324.out) hb); have n2_ := Aside0.mk (blk_below (g := gb325) (o := .cells #[.slice none 0 0] 24 (0, 0)) (by (with_reducible repeat (first | refine blk_drewN ?_ _ | refine blk_drew ?_ | refine blk_alloc ?_ _)); refine blk_far ?_ NB325_329.out _; (with_reducible repeat (first | refine blk_drewN ?_ _ | refine blk_drew ?_ | refine blk_alloc ?_ _)); exact BK325.out) hb); have n3_ := Aside0.mk (blk_below (g := gb329) (o := .cells #[.slice Ao13 t326.length co13] 24 (0, 0)) (by (with_reducible repeat (first | refine blk_drewN ?_ _ | refine blk_drew ?_ | refine blk_alloc ?_ _)); refine blk_put (cs := #[.slice none 0 0]) ?_ 0 _ rfl; (with_reducible repeat (first | refine blk_drewN ?_ _ | refine blk_drew ?_ | refine blk_alloc ?_ _)); exact BK329.out) hb); have n4_ := Aside0.mk (below_step (by repeat (first | (with_reducible first | exact HB.out | apply below_alloc | apply pw_below_drewN | apply below_drew1 | refine below_set ?_ GE324.out | refine below_set ?_ GE325.out | refine below_set ?_ GE329.out) | exact HB.out)) hb); clear HO328; clear BK324; clear BK325; clear BK329; clear HB; have HO328 := n0_; have BK324 := n1_; have BK325 := n2_; have BK329 := n3_; have HB := n4_; clear n0_ n1_ n2_ n3_ n4_; (try clear hb); (try clear hb2); (try clear hk); (try clear hi); have hcz19_0 : w18.cell? ⟨gb329, 0, none⟩ = some (.slice Ao13 t326.length co13) := (blk_cell BK329.out 0).trans rfl; have hfz19_0 := blk_frozen BK329.out 0; have hcz20_0 : w18.cell? ⟨gb325, 0, none⟩ = some (.slice none 0 0) := (blk_cell BK325.out 0).trans rfl; have hfz20_0 := blk_frozen BK325.out 0))
  refine bodyPost_ret (results_ct rfl _ _ gb325 24 #[.slice Ao13 t326.length co13] (0, 0) _ rfl (by (with_reducible repeat (first | refine blk_drewN ?_ _ | refine blk_drew ?_ | refine blk_alloc ?_ _)); refine blk_put (cs := #[.slice none 0 0]) ?_ 0 _ rfl; (with_reducible repeat (first | refine blk_drewN ?_ _ | refine blk_drew ?_ | refine blk_alloc ?_ _)); exact BK325.out) Try.underlying24 rfl (by kernel_rfl)) rfl ?_
  exact ⟨_, by first | rfl | (simp [errW_none, errW_some] <;> rfl) | (simp [*, errW_none, errW_some] <;> rfl), by (with_reducible repeat (first | apply Kd.S_alloc | apply Kd.S_drewN | apply Kd.S_drew)); exact Kd.S_mono (Kd.S_far (p := ⟨gb325, 0, none⟩) (Kd.S_types HO328.out BK325.out (by decide)) (fun _ hk => hk.2) (.slice Ao13 t326.length co13)) (fun _ hk => trivial), by repeat (first | (with_reducible first | exact HB.out | apply below_alloc | apply pw_below_drewN | apply below_drew1 | refine below_set ?_ GE324.out | refine below_set ?_ GE325.out | refine below_set ?_ GE329.out) | exact HB.out)⟩
 ·rw [if_neg c6] at H
  have c6b0 : decide (t330 < 0) = false := decide_eq_false c6
  clear c6
  by_cases c21 : 0 ≤ t330
  ·rw [if_pos c21] at H
   have c21b0 : decide (0 ≤ t330) = true := decide_eq_true c21
   clear c21
   by_cases c22 : t330 < (t326.length : Int)
   ·rw [if_pos c22] at H
    have c22b0 : decide (t330 < (t326.length : Int)) = true := decide_eq_true c22
    clear c22
    by_cases c23 : t330 < (l0_0.length : Int)
    ·rw [if_pos c23] at H
     have c23b0 : decide (t330 < (l0_0.length : Int)) = true := decide_eq_true c23
     clear c23
     obtain ⟨ji24, hji24⟩ : ∃ j_ : Int, (wrap64 (a1 - ((rd_T31 l0_0 t330).f0))) = j_ := ⟨_, rfl⟩
     replace H : (if 0 ≤ (ji24) then (if (ji24) < (((rd_T31 t326 t330).f1).length : Int) then (some ((t326.set (t330 : Int).toNat (⟨(rd_T31 t326 t330).f0, (((rd_T31 t326 t330).f1).set ((ji24) : Int).toNat a2)⟩ : S31)), true)) else (none)) else (none)) = some (r1, r2) := by first | (rw [hji24] at H; exact H) | (simp only [hji24] at H ⊢; exact H)
     (try rw [hji24] at A4)
     (try rw [hji24] at A5)
     have hji24w : (IntKind.i64.wrap (a1 - ((rd_T31 l0_0 t330).f0))) = ji24 := (i64_w _).trans hji24
     by_cases c25 : 0 ≤ (ji24)
     ·rw [if_pos c25] at H
      have c25b0 : decide (0 ≤ (ji24)) = true := decide_eq_true c25
      clear c25
      by_cases c26 : (ji24) < (((rd_T31 t326 t330).f1).length : Int)
      ·rw [if_pos c26] at H
       have c26b0 : decide ((ji24) < (((rd_T31 t326 t330).f1).length : Int)) = true := decide_eq_true c26
       clear c26
       obtain ⟨y333, hy333⟩ : ∃ y_ : List Int, y_ = (((rd_T31 t326 t330).f1).set ((ji24) : Int).toNat a2) := ⟨_, rfl⟩
       replace H : (some ((t326.set (t330 : Int).toNat (⟨(rd_T31 t326 t330).f0, y333⟩ : S31)), true)) = some (r1, r2) := by first | (rw [hy333]; with_reducible exact H) | (have H2_ := (Option.bind_some _ _).symm.trans H; rw [hy333]; with_reducible exact H2_) | (have H2_ := (Option.bind_some _ _).symm.trans H; with_reducible exact H2_) | with_reducible exact H | (rw [hy333]; exact H) | exact H
       have Ny333 := Aside0.mk hy333
       clear hy333
       obtain ⟨y335, hy335⟩ : ∃ y_ : List (S31), y_ = (t326.set (t330 : Int).toNat (⟨(rd_T31 t326 t330).f0, y333⟩ : S31)) := ⟨_, rfl⟩
       replace H : (some (y335, true)) = some (r1, r2) := by first | (rw [hy335]; with_reducible exact H) | (have H2_ := (Option.bind_some _ _).symm.trans H; rw [hy335]; with_reducible exact H2_) | (have H2_ := (Option.bind_some _ _).symm.trans H; with_reducible exact H2_) | with_reducible exact H | (rw [hy335]; exact H) | exact H
       have Ny335 := Aside0.mk hy335
       clear hy335
       simp only [Option.some.injEq, Prod.mk.injEq] at H
       obtain ⟨rfl, rfl⟩ := H
       go_enter Try.func23, Try.ntmps23
       try go_wp2_with (first | ((with_reducible refine gate_dst (N := 3) rfl ?_); refine box_event ?hg (N := 3) ?hd (cs := #[.slice A0_0 l0_0.length c0_0]) (t := 24) ?hr ?_; (case hd => rfl); (case hg => rfl); (case hr => first | (go_simp; done) | (go_simp; rfl)); intro gb324 hg w28 hbox hb; have n0_ := Aside0.mk (below_step (by repeat (first | (with_reducible first | exact HB.out | apply below_alloc | apply pw_below_drewN | apply below_drew1) | exact HB.out)) hb); have n1_ := Aside0.mk (hbox); have n2_ := Aside0.mk ((by rw [hg]; exact (below_size (by repeat (first | (with_reducible first | exact HB.out | apply below_alloc | apply pw_below_drewN | apply below_drew1) | exact HB.out))) : w.heap.size ≤ gb324)); have n3_ := Aside0.mk ((by rw [hg]; exact (below_size (by repeat (first | (with_reducible first | exact HB.out | apply below_alloc | apply pw_below_drewN | apply below_drew1) | exact HB.out))) : w.heap.size ≤ gb324)); clear HB; have HB := n0_; have BK324 := n1_; have GW324 := n2_; have GE324 := n3_; clear n0_ n1_ n2_ n3_; clear hb hbox hg) | ((with_reducible refine gate_dst (N := 6) rfl ?_); refine box_event ?hg (N := 6) ?hd (cs := #[.slice none 0 0]) (t := 24) ?hr ?_; (case hd => rfl); (case hg => rfl); (case hr => first | (go_simp; done) | (go_simp; rfl)); intro gb325 hg w29 hbox hb; have n0_ := Aside0.mk (blk_below (g := gb324) (o := .cells #[.slice A0_0 l0_0.length c0_0] 24 (0, 0)) (by (with_reducible repeat (first | refine blk_drewN ?_ _ | refine blk_drew ?_ | refine blk_alloc ?_ _)); exact BK324.out) hb); have n1_ := Aside0.mk (below_step (by repeat (first | (with_reducible first | exact HB.out | apply below_alloc | apply pw_below_drewN | apply below_drew1 | refine below_set ?_ GE324.out) | exact HB.out)) hb); have n2_ := Aside0.mk (hbox); have n3_ := Aside0.mk ((by rw [hg]; exact (below_size (by repeat (first | (with_reducible first | exact HB.out | apply below_alloc | apply pw_below_drewN | apply below_drew1 | refine below_set ?_ GE324.out) | exact HB.out))) : w.heap.size ≤ gb325)); have n4_ := Aside0.mk ((by rw [hg]; exact (below_size (by repeat (first | (with_reducible first | exact HB.out | apply below_alloc | apply pw_below_drewN | apply below_drew1 | refine below_set ?_ GE324.out) | exact HB.out))) : w.heap.size ≤ gb325)); have n5_ := Aside0.mk ((by rw [hg]; exact Nat.ne_of_lt (blk_lt (g := gb324) (o := .cells #[.slice A0_0 l0_0.length c0_0] 24 (0, 0)) (by (with_reducible repeat (first | refine blk_drewN ?_ _ | refine blk_drew ?_ | refine blk_alloc ?_ _)); exact BK324.out)) : gb324 ≠ gb325)); have n6_ := Aside0.mk ((by rw [hg]; exact Nat.ne_of_gt (blk_lt (g := gb324) (o := .cells #[.slice A0_0 l0_0.length c0_0] 24 (0, 0)) (by (with_reducible repeat (first | refine blk_drewN ?_ _ | refine blk_drew ?_ | refine blk_alloc ?_ _)); exact BK324.out)) : gb325 ≠ gb324)); clear BK324; clear HB; have BK324 := n0_; have HB := n1_; have BK325 := n2_; have GW325 := n3_; have GE325 := n4_; have NB324_325 := n5_; have NB325_324 := n6_; clear n0_ n1_ n2_ n3_ n4_ n5_ n6_; clear hb hbox hg; have hnb30 := NB324_325.out; have hnc30 := NB325_324.out; have hcz31_0 : w29.cell? ⟨gb324, 0, none⟩ = some (.slice A0_0 l0_0.length c0_0) := (blk_cell BK324.out 0).trans rfl; have hfz31_0 := blk_frozen BK324.out 0) | ((with_reducible refine gate_callee (f := 37) rfl ?_); refine goesL_ (some 11) rfl rfl Try.func37 (by kernel_rfl) rfl #[.agg #[.slice A0_0 l0_0.length c0_0]] rfl (by (try simp only [List.map_toArray, List.map_cons, List.map_nil]); first | done | rfl | (simp only [List.length_drop, List.length_take]; rfl)) ?_; (with_reducible refine (debuggerref25_Copy.calls k _ _ l0_0 t326 _ ?side1 ?side2 A4.out).mono ?_); (case side1 => repeat (first | exact (Kd.C_below HR0_0.out HB.out) | (with_reducible refine Kd.C_alloc ?_ _) | (with_reducible refine Kd.C_drewN ?_ _) | (with_reducible refine Kd.C_drew ?_))); (case side2 => exact HC0_0.out); rintro e w32 ⟨v327, rfl, ho0, hb⟩; refine ⟨_, rfl, ?_⟩; have n0_ := Aside0.mk (Kd.S_lower ho0 (below_size (by repeat (first | (with_reducible first | exact HB.out | apply below_alloc | apply pw_below_drewN | apply below_drew1 | refine below_set ?_ GE324.out | refine below_set ?_ GE325.out) | exact HB.out)))); have n1_ := Aside0.mk (blk_below (g := gb324) (o := .cells #[.slice A0_0 l0_0.length c0_0] 24 (0, 0)) (by (with_reducible repeat (first | refine blk_drewN ?_ _ | refine blk_drew ?_ | refine blk_alloc ?_ _)); exact BK324.out) hb); have n2_ := Aside0.mk (blk_below (g := gb325) (o := .cells #[.slice none 0 0] 24 (0, 0)) (by (with_reducible repeat (first | refine blk_drewN ?_ _ | refine blk_drew ?_ | refine blk_alloc ?_ _)); exact BK325.out) hb); have n3_ := Aside0.mk (below_step (by repeat (first | (with_reducible first | exact HB.out | apply below_alloc | apply pw_below_drewN | apply below_drew1 | refine below_set ?_ GE324.out | refine below_set ?_ GE325.out) | exact HB.out)) hb); clear BK324; clear BK325; clear HB; have HO328 := n0_; have BK324 := n1_; have BK325 := n2_; have HB := n3_; clear n0_ n1_ n2_ n3_; (try clear hb); (try clear hb2); (try clear hk); (try clear hi); (try clear ho0)) | ((with_reducible refine gate_dst (N := 8) rfl ?_); refine box_event ?hg (N := 8) ?hd (cs := #[.slice none 0 0]) (t := 24) ?hr ?_; (case hd => rfl); (case hg => rfl); (case hr => first | (go_simp; done) | (go_simp; rfl)); intro gb329 hg w33 hbox hb; have n0_ := Aside0.mk (Kd.S_below (by (with_reducible repeat (first | apply Kd.S_alloc | apply Kd.S_drewN | apply Kd.S_drew)); exact HO328.out) hb); have n1_ := Aside0.mk (blk_below (g := gb324) (o := .cells #[.slice A0_0 l0_0.length c0_0] 24 (0, 0)) (by (with_reducible repeat (first | refine blk_drewN ?_ _ | refine blk_drew ?_ | refine blk_alloc ?_ _)); exact BK324.out) hb); have n2_ := Aside0.mk (blk_below (g := gb325) (o := .cells #[.slice none 0 0] 24 (0, 0)) (by (with_reducible repeat (first | refine blk_drewN ?_ _ | refine blk_drew ?_ | refine blk_alloc ?_ _)); exact BK325.out) hb); have n3_ := Aside0.mk (below_step (by repeat (first | (with_reducible first | exact HB.out | apply below_alloc | apply pw_below_drewN | apply below_drew1 | refine below_set ?_ GE324.out | refine below_set ?_ GE325.out) | exact HB.out)) hb); have n4_ := Aside0.mk (hbox); have n5_ := Aside0.mk ((by rw [hg]; exact (below_size (by repeat (first | (with_reducible first | exact HB.out | apply below_alloc | apply pw_below_drewN | apply below_drew1 | refine below_set ?_ GE324.out | refine below_set ?_ GE325.out) | exact HB.out))) : w.heap.size ≤ gb329)); have n6_ := Aside0.mk ((by rw [hg]; exact (below_size (by repeat (first | (with_reducible first | exact HB.out | apply below_alloc | apply pw_below_drewN | apply below_drew1 | refine below_set ?_ GE324.out | refine below_set ?_ GE325.out) | exact HB.out))) : w.heap.size ≤ gb329)); have n7_ := Aside0.mk ((by rw [hg]; exact Nat.ne_of_lt (blk_lt (g := gb324) (o := .cells #[.slice A0_0 l0_0.length c0_0] 24 (0, 0)) (by (with_reducible repeat (first | refine blk_drewN ?_ _ | refine blk_drew ?_ | refine blk_alloc ?_ _)); exact BK324.out)) : gb324 ≠ gb329)); have n8_ := Aside0.mk ((by rw [hg]; exact Nat.ne_of_gt (blk_lt (g := gb324) (o := .cells #[.slice A0_0 l0_0.length c0_0] 24 (0, 0)) (by (with_reducible repeat (first | refine blk_drewN ?_ _ | refine blk_drew ?_ | refine blk_alloc ?_ _)); exact BK324.out)) : gb329 ≠ gb324)); have n9_ := Aside0.mk ((by rw [hg]; exact Nat.ne_of_lt (blk_lt (g := gb325) (o := .cells #[.slice none 0 0] 24 (0, 0)) (by (with_reducible repeat (first | refine blk_drewN ?_ _ | refine blk_drew ?_ | refine blk_alloc ?_ _)); exact BK325.out)) : gb325 ≠ gb329)); have n10_ := Aside0.mk ((by rw [hg]; exact Nat.ne_of_gt (blk_lt (g := gb325) (o := .cells #[.slice none 0 0] 24 (0, 0)) (by (with_reducible repeat (first | refine blk_drewN ?_ _ | refine blk_drew ?_ | refine blk_alloc ?_ _)); exact BK325.out)) : gb329 ≠ gb325)); clear HO328; clear BK324; clear BK325; clear HB; have HO328 := n0_; have BK324 := n1_; have BK325 := n2_; have HB := n3_; have BK329 := n4_; have GW329 := n5_; have GE329 := n6_; have NB324_329 := n7_; have NB329_324 := n8_; have NB325_329 := n9_; have NB329_325 := n10_; clear n0_ n1_ n2_ n3_ n4_ n5_ n6_ n7_ n8_ n9_ n10_; clear hb hbox hg; obtain ⟨Ao34, co34, eo34⟩ := Kd.S_slice HO328.out; subst eo34; have hnb35 := NB329_324.out; have hnc35 := NB324_329.out; have hnb36 := NB329_325.out; have hnc36 := NB325_329.out; have hcz37_0 : w33.cell? ⟨gb329, 0, none⟩ = some (.slice none 0 0) := (blk_cell BK329.out 0).trans rfl; have hfz37_0 := blk_frozen BK329.out 0; have hcz38_0 : w33.cell? ⟨gb324, 0, none⟩ = some (.slice A0_0 l0_0.length c0_0) := (blk_cell BK324.out 0).trans rfl; have hfz38_0 := blk_frozen BK324.out 0) | ((with_reducible refine gate_callee (f := 35) rfl ?_); refine goesL_ (some 14) rfl rfl Try.func35 (by kernel_rfl) rfl #[.agg #[.slice A0_0 l0_0.length c0_0], .int .i64 a1] rfl (by (try simp only [List.map_toArray, List.map_cons, List.map_nil]); first | done | rfl | (simp only [List.length_drop, List.length_take]; rfl)) ?_; (with_reducible refine (debuggerref25_find.calls k _ _ l0_0 a1 t330 _ ?side1 ?side2 A5.out).mono ?_); (case side1 => exact Kd.C_below HR0_0.out (by repeat (first | (with_reducible first | exact HB.out | apply below_alloc | apply pw_below_drewN | apply below_drew1 | refine below_set ?_ GE324.out | refine below_set ?_ GE325.out | refine below_set ?_ GE329.out) | exact HB.out))); (case side2 => exact HC0_0.out); rintro e w39 ⟨rfl, hb⟩; refine ⟨_, rfl, ?_⟩; have n0_ := Aside0.mk (Kd.S_below (by (with_reducible repeat (first | apply Kd.S_alloc | apply Kd.S_drewN | apply Kd.S_drew)); exact (Kd.S_mono (Kd.S_far (p := ⟨gb329, 0, none⟩) (Kd.S_types HO328.out BK329.out (by decide)) (fun _ hk => hk.2) (.slice Ao34 t326.length co34)) (fun _ h_ => h_.1))) hb); have n1_ := Aside0.mk (blk_below (g := gb324) (o := .cells #[.slice A0_0 l0_0.length c0_0] 24 (0, 0)) (by (with_reducible repeat (first | refine blk_drewN ?_ _ | refine blk_drew ?_ | refine blk_alloc ?_ _)); refine blk_far ?_ NB324_329.out _; (with_reducible repeat (first | refine blk_drewN ?_ _ | refine blk_drew ?_ | refine blk_alloc ?_ _)); exact BK324.out) hb); have n2_ := Aside0.mk (blk_below (g := gb325) (o := .cells #[.slice none 0 0] 24 (0, 0)) (by (with_reducible repeat (first | refine blk_drewN ?_ _ | refine blk_drew ?_ | refine blk_alloc ?_ _)); refine blk_far ?_ NB325_329.out _; (with_reducible repeat (first | refine blk_drewN ?_ _ | refine blk_drew ?_ | refine blk_alloc ?_ _)); exact BK325.out) hb); have n3_ := Aside0.mk (blk_below (g := gb329) (o := .cells #[.slice Ao34 t326.length co34] 24 (0, 0)) (by (with_reducible repeat (first | refine blk_drewN ?_ _ | refine blk_drew ?_ | refine blk_alloc ?_ _)); refine blk_put (cs := #[.slice none 0 0]) ?_ 0 _ rfl; (with_reducible repeat (first | refine blk_drewN ?_ _ | refine blk_drew ?_ | refine blk_alloc ?_ _)); exact BK329.out) hb); have n4_ := Aside0.mk (below_step (by repeat (first | (with_reducible first | exact HB.out | apply below_alloc | apply pw_below_drewN | apply below_drew1 | refine below_set ?_ GE324.out | refine below_set ?_ GE325.out | refine below_set ?_ GE329.out) | exact HB.out)) hb); clear HO328; clear BK324; clear BK325; clear BK329; clear HB; have HO328 := n0_; have BK324 := n1_; have BK325 := n2_; have BK329 := n3_; have HB := n4_; clear n0_ n1_ n2_ n3_ n4_; (try clear hb); (try clear hb2); (try clear hk); (try clear hi)))
       have n0_ := Aside0.mk (Kd.S_drew HO328.out)
       have n1_ := Aside0.mk (blk_drew BK324.out)
       have n2_ := Aside0.mk (blk_drew BK325.out)
       have n3_ := Aside0.mk (blk_drew BK329.out)
       have n4_ := Aside0.mk (below_drew1 HB.out)
       clear HO328
       clear BK324
       clear BK325
       clear BK329
       clear HB
       have HO328 := n0_
       have BK324 := n1_
       have BK325 := n2_
       have BK329 := n3_
       have HB := n4_
       clear n0_ n1_ n2_ n3_ n4_
       have p331 : 0 ≤ (t330 : Int) := of_decide_eq_true (by first | (with_reducible assumption) | assumption)
       have q331 : t330 < (t326.length : Int) := of_decide_eq_true (by first | (with_reducible assumption) | assumption)
       obtain ⟨ad331, A331_1, c331_1, e331, hx331_0, hx331_1, hl331_1, hi331_1⟩ := at_T31 (Kd.S_reads' HO328.out).2.2 t330 p331 q331
       cases e331
       obtain ⟨ce331, hce331, hMe331, hcc331⟩ := Kd.S_get HO328.out z31 t330 p331 (by first | exact q331 | exact of_decide_eq_true (by first | (with_reducible assumption) | assumption) | (have e_ := (Kd.S_reads' HO328.out).1; omega))
       obtain ⟨ve331_1, rfl, ge331_1⟩ := k31_openM hMe331
       have hv331_1 := hcc331 1 _ rfl
       rw [add_field _ _ 1 (by omega)] at hv331_1
       replace hv331_1 := Option.some.inj (hv331_1.symm.trans hx331_1)
       rw [hv331_1] at ge331_1
       have HL331_1 := Aside0.mk (show Kd.R (Kd.int .i64) 3 _ _ _ _ ((rd_T31 t326 t330).f1) from ge331_1)
       clear hv331_1 ge331_1
       have HX331_1 := Aside0.mk hx331_1
       clear hcc331 hce331
       have HR331_1 := Aside0.mk hi331_1
       have HC331_1 := Aside0.mk hl331_1
       clear hi331_1 hl331_1
       replace p331 := eq_true p331
       replace q331 := eq_true q331
       have p332 : 0 ≤ (t330 : Int) := of_decide_eq_true (by first | (with_reducible assumption) | assumption)
       have q332 : t330 < (l0_0.length : Int) := of_decide_eq_true (by first | (with_reducible assumption) | assumption)
       obtain ⟨ad332, A332_1, c332_1, e332, hx332_0, hx332_1, hl332_1, hi332_1⟩ := at_T31 HR0_0.out t330 p332 q332
       have hw332_1 := hx332_1
       have hw332_0 := hx332_0
       cases e332
       replace hx332_0 := (HB.out.cell (World.block_lt_of_cell? w _ hx332_0)).trans hx332_0
       replace hx332_1 := (HB.out.cell (World.block_lt_of_cell? w _ hx332_1)).trans hx332_1
       have HR332_1 := Aside0.mk hi332_1
       have HC332_1 := Aside0.mk hl332_1
       clear hi332_1 hl332_1
       replace p332 := eq_true p332
       replace q332 := eq_true q332
       have p27 : 0 ≤ ((ji24) : Int) := of_decide_eq_true (by first | (with_reducible assumption) | assumption)
       have q27 : ((ji24) : Int) < ((((rd_T31 t326 t330).f1).length : Int) : Int) := of_decide_eq_true (by first | (with_reducible assumption) | assumption)
       obtain ⟨go27, co27, eo27, gb27, gl27, cl27, HG27⟩ := Kd.R_form HL331_1.out (by omega)
       (first | cases eo27 | (injection eo27 with ea_ en_ ec_; (first | subst ea_ | (injection ea_ with ea_; subst ea_)); subst ec_; clear en_))
       have GB27 := Aside0.mk gb27
       have GG27 := Aside0.mk HG27
       clear gb27 gl27 HG27
       obtain ⟨hx27_0, hf27_0⟩ := Kd.R_celln 0 HL331_1.out ((ji24) : Int) p27 q27
       replace p27 := eq_true p27
       replace q27 := eq_true q27
       have hq41 : (t330 : Int) < (t326.length : Int) := (by have h_ : (t330 : Int) < ((t326.length : Int) : Int) := of_decide_eq_true (by first | (with_reducible assumption) | assumption); first | exact h_ | (have e_ := (Kd.S_reads' HO328.out).1; omega) | simpa only [List.length_set, cpy_length, List.length_set, cpy_length] using h_)
       obtain ⟨oki41, ce41, hcl41, hM41, hcc41, hok41, hbk41⟩ := Kd.S_borrow HO328.out z31 (t330 : Int) (of_decide_eq_true (by first | (with_reducible assumption) | assumption)) hq41
       obtain ⟨ve41_1, rfl, ge41_1⟩ := k31_openM hM41
       have hv41 := hcc41 1 _ rfl
       rw [add_field _ _ 1 (by omega)] at hv41
       replace hv41 := Option.some.inj (hv41.symm.trans HX331_1.out)
       subst hv41
       clear hcc41 hcl41
       replace ge41_1 := (show Kd.R (Kd.int .i64) 3 _ _ _ _ ((rd_T31 t326 t330).f1) from ge41_1)
       have HP41 := Kd.R_putg ge41_1 ((ji24) : Int) a2
       rw [← Ny333.out] at HP41
       have HS41 := hbk41 HP41.2 (fun k_ e_ => by injection e_ with e_; subst e_; exact ge41_1.1 _ rfl) (x' := (⟨(rd_T31 t326 t330).f0, y333⟩ : S31)) (k31_mkM _ _ _ (⟨(rd_T31 t326 t330).f0, y333⟩ : S31) HP41.1)
       rw [← Ny335.out] at HS41
       have HQ41 := Aside0.mk HS41
       clear HP41 HS41 hbk41 hok41
       refine start_ (n := 17) (S := fun w' => w'.cell? ⟨gb329, 0, none⟩ = some (.slice (some ad331) t326.length co34) ∧ w'.cell? ⟨gb324, 0, none⟩ = some (.slice (some ad332) l0_0.length c0_0) ∧ w'.cell? (ad331.add ((t330).toNat * 2)) = some (.int .i64 ((rd_T31 t326 t330).f0)) ∧ w'.cell? ⟨(ad331.add ((t330).toNat * 2)).block, (ad331.add ((t330).toNat * 2)).off + 1, none⟩ = some (.slice (some ⟨go27, 0, none⟩) ((rd_T31 t326 t330).f1).length c331_1) ∧ w'.cell? (ad332.add ((t330).toNat * 2)) = some (.int .i64 ((rd_T31 l0_0 t330).f0)) ∧ w'.cell? ⟨(ad332.add ((t330).toNat * 2)).block, (ad332.add ((t330).toNat * 2)).off + 1, none⟩ = some (.slice A332_1 ((rd_T31 l0_0 t330).f1).length c332_1)) (ds := [16]) #[false, false, false, false, false, false, false, false, false, false, false, false, false, false, false, false, false] (by kernel_rfl) rfl rfl ⟨(blk_cell BK329.out 0).trans rfl, (blk_cell BK324.out 0).trans rfl, hx331_0, hx331_1, ((HB.out.cell (World.block_lt_of_cell? w _ hw332_0)).trans hw332_0), ((HB.out.cell (World.block_lt_of_cell? w _ hw332_1)).trans hw332_1)⟩ (fun hHeld => ?_); refine with_tabW debuggerref25_With.tab5 debuggerref25_With.bits5 (fun HT_ HW_ => ?_)
       generalize w39.drew = w40 at HO328 BK324 BK325 BK329 HB GG27 HL331_1 HQ41 HR331_1 HR332_1 HX331_1 hf27_0 hx27_0 hx331_0 hx331_1 hx332_0 hx332_1 hHeld ⊢
       refine pure_ (i := 0) (N := some 18) (v := ?_) (a' := ?_) #[true, false, false, false, false, false, false, false, false, false, false, false, false, false, false, false, false] rfl rfl (any_of HT_.out (by kernel_rfl)) (fun _ _ _ h => h) (Or.inl ⟨by rfl, ?_⟩) ?_ ?_
       rotate_left
       ·intro w'
        go_simp
        with_reducible rfl
       rotate_left
       ·simp only [Act.put, List.setIfInBounds_toArray, List.set_cons_zero, List.set_cons_succ, i64_w, i32_w]
        rfl
       refine pure_ (i := 2) (N := some 20) (v := ?_) (a' := ?_) #[true, false, true, false, false, false, false, false, false, false, false, false, false, false, false, false, false] rfl rfl (any_of HT_.out (by kernel_rfl)) (fun _ _ _ h => h) (Or.inl ⟨by rfl, ?_⟩) ?_ ?_
       rotate_left
       ·intro w'
        go_simp
        with_reducible rfl
       rotate_left
       ·simp only [Act.put, List.setIfInBounds_toArray, List.set_cons_zero, List.set_cons_succ, i64_w, i32_w]
        rfl
       refine pure_ (i := 6) (N := some 24) (v := ?_) (a' := ?_) #[true, false, true, false, false, false, true, false, false, false, false, false, false, false, false, false, false] rfl rfl (any_of HT_.out (by kernel_rfl)) (fun _ _ _ h => h) (Or.inl ⟨by rfl, ?_⟩) ?_ ?_
       rotate_left
       ·intro w'
        go_simp
        with_reducible rfl
       rotate_left
       ·simp only [Act.put, List.setIfInBounds_toArray, List.set_cons_zero, List.set_cons_succ, i64_w, i32_w]
        rfl
       refine pure_ (i := 7) (N := some 25) (v := ?_) (a' := ?_) #[true, false, true, false, false, false, true, true, false, false, false, false, false, false, false, false, false] rfl rfl (any_of HT_.out (by kernel_rfl)) (fun _ _ _ h => h) (Or.inl ⟨by rfl, ?_⟩) ?_ ?_
       rotate_left
       ·intro w'
        go_simp
        with_reducible rfl
       rotate_left
       ·simp only [Act.put, List.setIfInBounds_toArray, List.set_cons_zero, List.set_cons_succ, i64_w, i32_w]
        rfl
       refine pure_ (i := 9) (N := some 27) (v := ?_) (a' := ?_) #[true, false, true, false, false, false, true, true, false, true, false, false, false, false, false, false, false] rfl rfl (any_of HT_.out (by kernel_rfl)) (fun _ _ _ h => h) (Or.inl ⟨by rfl, ?_⟩) ?_ ?_
       rotate_left
       ·intro w'
        go_simp
        with_reducible rfl
       rotate_left
       ·simp only [Act.put, List.setIfInBounds_toArray, List.set_cons_zero, List.set_cons_succ, i64_w, i32_w]
        rfl
       refine pure_ (i := 14) (N := some 32) (v := ?_) (a' := ?_) #[true, false, true, false, false, false, true, true, false, true, false, false, false, false, true, false, false] rfl rfl (any_of HT_.out (by kernel_rfl)) (fun _ _ _ h => h) (Or.inl ⟨by rfl, ?_⟩) ?_ ?_
       rotate_left
       ·intro w'
        go_simp
        with_reducible rfl
       rotate_left
       ·simp only [Act.put, List.setIfInBounds_toArray, List.set_cons_zero, List.set_cons_succ, i64_w, i32_w]
        rfl
       refine take_ (i := 1) (N := some 19) (v := ?_) (a' := ?_) #[true, true, true, false, false, false, true, true, false, true, false, false, false, false, true, false, false] rfl rfl (take_ofW HT_.out HW_.out (by kernel_rfl)) (fun _ _ _ h => h) (Or.inl ⟨by rfl, ?_⟩) hHeld ?_ ?_
       rotate_left
       ·rintro w' ⟨s0, s1, s2, s3, s4, s5⟩
        go_simp
        with_reducible rfl
       rotate_left
       ·simp only [Act.put, List.setIfInBounds_toArray, List.set_cons_zero, List.set_cons_succ, i64_w, i32_w]
        rfl
       refine pure_ (i := 3) (N := some 21) (v := ?_) (a' := ?_) #[true, true, true, true, false, false, true, true, false, true, false, false, false, false, true, false, false] rfl rfl (any_of HT_.out (by kernel_rfl)) (fun _ _ _ h => h) (Or.inl ⟨by rfl, ?_⟩) ?_ ?_
       rotate_left
       ·intro w'
        go_simp
        with_reducible rfl
       rotate_left
       ·simp only [Act.put, List.setIfInBounds_toArray, List.set_cons_zero, List.set_cons_succ, i64_w, i32_w]
        rfl
       refine pure_ (i := 4) (N := some 22) (v := ?_) (a' := ?_) #[true, true, true, true, true, false, true, true, false, true, false, false, false, false, true, false, false] rfl rfl (any_of HT_.out (by kernel_rfl)) (fun _ _ _ h => h) (Or.inl ⟨by rfl, ?_⟩) ?_ ?_
       rotate_left
       ·intro w'
        go_simp
        with_reducible rfl
       rotate_left
       ·simp only [Act.put, List.setIfInBounds_toArray, List.set_cons_zero, List.set_cons_succ, i64_w, i32_w]
        rfl
       refine take_ (i := 5) (N := some 23) (v := ?_) (a' := ?_) #[true, true, true, true, true, true, true, true, false, true, false, false, false, false, true, false, false] rfl rfl (take_ofW HT_.out HW_.out (by kernel_rfl)) (fun _ _ _ h => h) (Or.inl ⟨by rfl, ?_⟩) hHeld ?_ ?_
       rotate_left
       ·rintro w' ⟨s0, s1, s2, s3, s4, s5⟩
        go_simp
        with_reducible rfl
       rotate_left
       ·simp only [Act.put, List.setIfInBounds_toArray, List.set_cons_zero, List.set_cons_succ, i64_w, i32_w]
        rfl
       refine take_ (i := 8) (N := some 26) (v := ?_) (a' := ?_) #[true, true, true, true, true, true, true, true, true, true, false, false, false, false, true, false, false] rfl rfl (take_ofW HT_.out HW_.out (by kernel_rfl)) (fun _ _ _ h => h) (Or.inl ⟨by rfl, ?_⟩) hHeld ?_ ?_
       rotate_left
       ·rintro w' ⟨s0, s1, s2, s3, s4, s5⟩
        go_simp
        with_reducible rfl
       rotate_left
       ·simp only [Act.put, List.setIfInBounds_toArray, List.set_cons_zero, List.set_cons_succ, i64_w, i32_w]
        rfl
       refine pure_ (i := 10) (N := some 28) (v := ?_) (a' := ?_) #[true, true, true, true, true, true, true, true, true, true, true, false, false, false, true, false, false] rfl rfl (any_of HT_.out (by kernel_rfl)) (fun _ _ _ h => h) (Or.inl ⟨by rfl, ?_⟩) ?_ ?_
       rotate_left
       ·intro w'
        go_simp
        with_reducible rfl
       rotate_left
       ·simp only [Act.put, List.setIfInBounds_toArray, List.set_cons_zero, List.set_cons_succ, i64_w, i32_w]
        rfl
       refine pure_ (i := 11) (N := some 29) (v := ?_) (a' := ?_) #[true, true, true, true, true, true, true, true, true, true, true, true, false, false, true, false, false] rfl rfl (any_of HT_.out (by kernel_rfl)) (fun _ _ _ h => h) (Or.inl ⟨by rfl, ?_⟩) ?_ ?_
       rotate_left
       ·intro w'
        go_simp
        with_reducible rfl
       rotate_left
       ·simp only [Act.put, List.setIfInBounds_toArray, List.set_cons_zero, List.set_cons_succ, i64_w, i32_w]
        rfl
       refine take_ (i := 12) (N := some 30) (v := ?_) (a' := ?_) #[true, true, true, true, true, true, true, true, true, true, true, true, true, false, true, false, false] rfl rfl (take_ofW HT_.out HW_.out (by kernel_rfl)) (fun _ _ _ h => h) (Or.inl ⟨by rfl, ?_⟩) hHeld ?_ ?_
       rotate_left
       ·rintro w' ⟨s0, s1, s2, s3, s4, s5⟩
        go_simp
        with_reducible rfl
       rotate_left
       ·simp only [Act.put, List.setIfInBounds_toArray, List.set_cons_zero, List.set_cons_succ, i64_w, i32_w]
        rfl
       refine pure_ (i := 13) (N := some 31) (v := ?_) (a' := ?_) #[true, true, true, true, true, true, true, true, true, true, true, true, true, true, true, false, false] rfl rfl (any_of HT_.out (by kernel_rfl)) (fun _ _ _ h => h) (Or.inl ⟨by rfl, ?_⟩) ?_ ?_
       rotate_left
       ·intro w'
        go_simp
        with_reducible rfl
       rotate_left
       ·simp only [Act.put, List.setIfInBounds_toArray, List.set_cons_zero, List.set_cons_succ, i64_w, i32_w]
        rfl
       refine pure_ (i := 15) (N := some 33) (v := ?_) (a' := ?_) #[true, true, true, true, true, true, true, true, true, true, true, true, true, true, true, true, false] rfl rfl (any_of HT_.out (by kernel_rfl)) (fun _ _ _ h => h) (Or.inl ⟨by rfl, ?_⟩) ?_ ?_
       rotate_left
       ·intro w'
        go_simp
        with_reducible rfl
       rotate_left
       ·simp only [Act.put, List.setIfInBounds_toArray, List.set_cons_zero, List.set_cons_succ, i64_w, i32_w]
        rfl
       refine last_ (i := 16) (N := none) #[true, true, true, true, true, true, true, true, true, true, true, true, true, true, true, true, true] rfl rfl (one_of HT_.out (by kernel_rfl)) (by decide) (fun K hK => ?_)
       refine skip_ (w1 := ?_) (by rfl) rfl ?_ ?_
       rotate_left
       ·go_simp
        rfl
       refine hK.out _ _ ?_
       clear hK K
       refine done_ (done_of HT_.out (by kernel_rfl)) ?_
       have n0_ : Aside0 (Kd.S k31 31 (w40.setCell ⟨go27, ((ji24) : Int).toNat, none⟩ (.int .i64 a2)) w.heap.size (fun _ => True) (.slice (some ad331) t326.length co34) y335) := ⟨by (with_reducible repeat (first | apply Kd.S_alloc | apply Kd.S_drewN | apply Kd.S_drew)); exact HQ41.out⟩
       have n1_ : Aside0 ((w40.setCell ⟨go27, ((ji24) : Int).toNat, none⟩ (.int .i64 a2)).heap[gb324]? = some (.cells #[.slice (some ad332) l0_0.length c0_0] 24 (0, 0))) := ⟨by (with_reducible repeat (first | refine blk_drewN ?_ _ | refine blk_drew ?_ | refine blk_alloc ?_ _)); refine blk_far ?_ (by have h_ := Kd.R_ne HL331_1.out BK324.out (by decide); intro e_; exact h_ (by rw [e_]; rfl)) _; (with_reducible repeat (first | refine blk_drewN ?_ _ | refine blk_drew ?_ | refine blk_alloc ?_ _)); exact BK324.out⟩
       have n2_ : Aside0 ((w40.setCell ⟨go27, ((ji24) : Int).toNat, none⟩ (.int .i64 a2)).heap[gb325]? = some (.cells #[.slice none 0 0] 24 (0, 0))) := ⟨by (with_reducible repeat (first | refine blk_drewN ?_ _ | refine blk_drew ?_ | refine blk_alloc ?_ _)); refine blk_far ?_ (by have h_ := Kd.R_ne HL331_1.out BK325.out (by decide); intro e_; exact h_ (by rw [e_]; rfl)) _; (with_reducible repeat (first | refine blk_drewN ?_ _ | refine blk_drew ?_ | refine blk_alloc ?_ _)); exact BK325.out⟩
       have n3_ : Aside0 ((w40.setCell ⟨go27, ((ji24) : Int).toNat, none⟩ (.int .i64 a2)).heap[gb329]? = some (.cells #[.slice (some ad331) t326.length co34] 24 (0, 0))) := ⟨by (with_reducible repeat (first | refine blk_drewN ?_ _ | refine blk_drew ?_ | refine blk_alloc ?_ _)); refine blk_far ?_ (by have h_ := Kd.R_ne HL331_1.out BK329.out (by decide); intro e_; exact h_ (by rw [e_]; rfl)) _; (with_reducible repeat (first | refine blk_drewN ?_ _ | refine blk_drew ?_ | refine blk_alloc ?_ _)); exact BK329.out⟩
       have n4_ : Aside0 (Below w.heap.size w (w40.setCell ⟨go27, ((ji24) : Int).toNat, none⟩ (.int .i64 a2))) := ⟨by repeat (first | (with_reducible first | exact HB.out | apply below_alloc | apply pw_below_drewN | apply below_drew1 | refine below_set ?_ GB27.out | refine below_set ?_ GE324.out | refine below_set ?_ GE325.out | refine below_set ?_ GE329.out) | exact HB.out)⟩
       (try clear HO328)
       (try clear BK324)
       (try clear BK325)
       (try clear BK329)
       (try clear HB)
       generalize (w40.setCell ⟨go27, ((ji24) : Int).toNat, none⟩ (.int .i64 a2)) = w43 at n0_ n1_ n2_ n3_ n4_ ⊢
       have HO328 := n0_
       have BK324 := n1_
       have BK325 := n2_
       have BK329 := n3_
       have HB := n4_
       clear n0_ n1_ n2_ n3_ n4_
       have hcz44_0 : w43.cell? ⟨gb329, 0, none⟩ = some (.slice (some ad331) t326.length co34) := (blk_cell BK329.out 0).trans rfl
       have hfz44_0 := blk_frozen BK329.out 0
       have hcz45_0 : w43.cell? ⟨gb325, 0, none⟩ = some (.slice none 0 0) := (blk_cell BK325.out 0).trans rfl
       have hfz45_0 := blk_frozen BK325.out 0
       try go_wp2
       refine bodyPost_ret (results_ct rfl _ _ gb325 24 #[.slice (some ad331) t326.length co34] (0, 0) _ rfl (by (with_reducible repeat (first | refine blk_drewN ?_ _ | refine blk_drew ?_ | refine blk_alloc ?_ _)); refine blk_put (cs := #[.slice none 0 0]) ?_ 0 _ rfl; (with_reducible repeat (first | refine blk_drewN ?_ _ | refine blk_drew ?_ | refine blk_alloc ?_ _)); exact BK325.out) Try.underlying24 rfl (by kernel_rfl)) rfl ?_
       exact ⟨_, by first | rfl | (simp [errW_none, errW_some] <;> rfl) | (simp only [← hji24]; first | rfl | (simp [errW_none, errW_some] <;> rfl)) | (simp [*, errW_none, errW_some] <;> rfl), by (with_reducible repeat (first | apply Kd.S_alloc | apply Kd.S_drewN | apply Kd.S_drew)); exact Kd.S_mono (Kd.S_far (p := ⟨gb325, 0, none⟩) (Kd.S_types HO328.out BK325.out (by decide)) (fun _ hk => hk.2) (.slice (some ad331) t326.length co34)) (fun _ hk => trivial), by repeat (first | (with_reducible first | exact HB.out | apply below_alloc | apply pw_below_drewN | apply below_drew1 | refine below_set ?_ GE324.out | refine below_set ?_ GE325.out | refine below_set ?_ GE329.out) | exact HB.out)⟩
      ·rw [if_neg c26] at H
       exact absurd H (by simp)
     ·rw [if_neg c25] at H
      exact absurd H (by simp)
    ·rw [if_neg c23] at H
     exact absurd H (by simp)
   ·rw [if_neg c22] at H
    exact absurd H (by simp)
  ·rw [if_neg c21] at H
   exact absurd H (by simp)

end Go.Proofs.Ytpifepaflljolaa.PMem
