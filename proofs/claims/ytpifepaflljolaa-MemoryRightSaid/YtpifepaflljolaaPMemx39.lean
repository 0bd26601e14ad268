-- By wip/xprint.py (a driver of this session's over the kit's print), for this claim.
import Derived.Test.YtpifepaflljolaaPMemx0
import Derived.Test.YtpifepaflljolaaPMemx2
import Derived.Test.YtpifepaflljolaaPMemx9
import Derived.Test.YtpifepaflljolaaPMemx14
import Derived.Test.YtpifepaflljolaaPMemx19
import Derived.Test.YtpifepaflljolaaPMemx37
import Derived.Test.YtpifepaflljolaaPMemx38
namespace Go.Proofs.Ytpifepaflljolaa.PMem
open Go.RowKit Go.Proofs.YtpifepaflljolaaW.PrintWords Go.Proofs.YtpifepaflljolaaW.PrintLast Go.Proofs.YtpifepaflljolaaW.PrintMore
attribute [local go_sem] max2_int min2_int max_two min_two max_three min_three max_four min_four   -- for this text's walks alone
set_option linter.unusedVariables false
set_option linter.unusedSimpArgs false

/-! ### debuggerlaw25_MemoryRight: function 3 -/
def debuggerlaw25_MemoryRight.m (x : List S31) (a2 a3 a4 : Int) : Option (List S31) := if x.length = 0 then some x else (debuggerkit_Mod.f a2 (x.length : Int)).bind fun i => (debuggerkit_Mod.f a4 65).bind fun n => if (0 ≤ i ∧ i < (x.length : Int)) ∧ (0 ≤ n ∧ n.toNat ≤ (rd_T31 x i).f1.length ∧ 0 < (rd_T31 x i).f1.length) then some (x.set i.toNat ⟨a3, (rd_T31 x i).f1.take n.toNat⟩) else none
def debuggerlaw25_MemoryRight.T8 : Bool × List (List Nat × List Nat) := (true, [([], []), ([], []), ([1], [1]), ([2], [2]), ([3], [3]), ([], []), ([5], [5]), ([4, 6], [4, 6]), ([0, 0, 1, 2, 3, 4, 5, 6, 7], [0]), ([8, 0, 1, 2, 3, 4, 5, 6, 7], [8]), ([9, 7, 6, 0, 1, 2, 3, 4, 5, 6, 7], [7, 9])])
def debuggerlaw25_MemoryRight.B8 : List Nat := [0, 0, 2, 6, 14, 0, 32, 126, 255, 511, 1023]
theorem debuggerlaw25_MemoryRight.tab8 : rtab .any (opsOf Try.f3 8) = debuggerlaw25_MemoryRight.T8 := by kernel_rfl
theorem debuggerlaw25_MemoryRight.bits8 : waitsOk debuggerlaw25_MemoryRight.T8.2 debuggerlaw25_MemoryRight.B8 = true := by kernel_rfl
def debuggerlaw25_MemoryRight.f (k : Nat) (l0_0 : List (S31)) (l1 : List Int) (a2 : Int) (a3 : Int) (a4 : Int) : Option (Bool) := (debuggerlaw25_small.f k l0_0).bind fun t231 => (if t231 = true then ((debuggerlaw25_some.f k l1).bind fun x233 => ((debuggerlaw25_MemoryRight.m x233 a2 a3 a4).bind fun t233 => ((memory_Right.f k l0_0).bind fun t237 => ((debuggerref25_Right.f k l0_0).bind fun t238 => (if (t237 == t238) = true then ((memory_Right.f k t233).bind fun t239 => ((debuggerref25_Right.f k t233).bind fun t240 => (if (t239 == t240) = true then ((debuggerlaw25_some.f k l1).bind fun t241 => ((memory_Right.f k t241).bind fun t244 => (if t244 = true then ((debuggerlaw25_awake.f k).bind fun t245 => (some t245)) else (some false)))) else (some false)))) else (some false)))))) else ((debuggerlaw25_awake.f k).bind fun t232 => (some t232)))
theorem debuggerlaw25_MemoryRight.mono : ∀ a0 a1 a2 a3 a4 k, LeO (debuggerlaw25_MemoryRight.f k a0 a1 a2 a3 a4) (debuggerlaw25_MemoryRight.f (k + 1) a0 a1 a2 a3 a4) := by
 intro a0 a1 a2 a3 a4 k
 unfold debuggerlaw25_MemoryRight.f
 repeat' first
   | (with_reducible exact debuggerlaw25_awake.mono _)
   | (with_reducible exact debuggerlaw25_small.mono _ _)
   | (with_reducible exact debuggerlaw25_some.mono _ _)
   | (with_reducible exact debuggerref25_Right.mono _ _)
   | (with_reducible exact memory_Right.mono _ _)
   | (with_reducible exact LeO.refl _)
   | (with_reducible exact LeO.none _)
   | (with_reducible refine LeO.ite ?_ ?_)
   | (with_reducible refine LeO.bind ?_ (fun _ => ?_))
   | exact debuggerlaw25_awake.mono _
   | exact debuggerlaw25_small.mono _ _
   | exact debuggerlaw25_some.mono _ _
   | exact debuggerref25_Right.mono _ _
   | exact memory_Right.mono _ _
   | exact LeO.none _
   | refine LeO.ite ?_ ?_
   | refine LeO.bind ?_ (fun _ => ?_)
def debuggerlaw25_MemoryRight.T9 : Bool × List (List Nat × List Nat) := (true, [([], []), ([0], [0]), ([], []), ([2, 1], [2]), ([1, 3], [1, 3]), ([4, 3], [4]), ([5], [5]), ([6, 5, 5], [5, 6]), ([5], [5]), ([8, 7, 5], [5, 8]), ([7, 9, 5], [5, 7, 9]), ([5, 10], [5, 10]), ([11, 9], [11]), ([12], [12]), ([13, 12, 12], [12, 13]), ([14, 14, 12], [12, 14]), ([12, 15], [12, 15]), ([16, 15], [16]), ([17, 17], [17]), ([17, 18], [17, 18]), ([19, 18, 0, 1, 2, 3, 4, 5, 6, 7, 8, 9, 10, 11, 12, 13, 14, 15, 16, 17, 18, 19], [19])])
def debuggerlaw25_MemoryRight.B9 : List Nat := [0, 1, 0, 7, 15, 31, 63, 127, 63, 511, 1023, 2047, 4095, 8191, 16383, 32767, 65535, 131071, 262143, 524287, 1048575]
theorem debuggerlaw25_MemoryRight.tab9 : rtab .any (opsOf Try.f3 9) = debuggerlaw25_MemoryRight.T9 := by kernel_rfl
theorem debuggerlaw25_MemoryRight.bits9 : waitsOk debuggerlaw25_MemoryRight.T9.2 debuggerlaw25_MemoryRight.B9 = true := by kernel_rfl
set_option maxHeartbeats 8000000 in
set_option maxRecDepth 100000 in
theorem debuggerlaw25_MemoryRight.calls (k : Nat) (A0_0 : Option Addr) (c0_0 : Nat) (l0_0 : List (S31)) (A1 : Option Addr) (c1 : Nat) (l1 : List Int) (a2 : Int) (a3 : Int) (a4 : Int) (r : Bool) (w : World) (hr0_0 : Kd.C k31 w A0_0 l0_0.length l0_0) (hc0_0 : l0_0.length ≤ c0_0) (hr1 : Kd.C (Kd.int .i64) w A1 l1.length l1) (hc1 : l1.length ≤ c1) (hT0 : r = true) (h : debuggerlaw25_MemoryRight.f k l0_0 l1 a2 a3 a4 = some r) :
  Calls Try.prog 3 #[.agg #[.slice A0_0 l0_0.length c0_0], .slice A1 l1.length c1, .int .i64 a2, .int .i64 a3, .int .i64 a4] w fun e w' => e = .returned (.bool r) ∧ Below w.heap.size w w' := by
 have hu24 := Try.underlying24
 have HT0 := Aside0.mk hT0
 clear hT0
 have HR0_0 := Aside0.mk hr0_0
 have HC0_0 := Aside0.mk hc0_0
 clear hr0_0 hc0_0
 have HR1 := Aside0.mk hr1
 have HC1 := Aside0.mk hc1
 clear hr1 hc1
 have HB := Zw (Below.refl w.heap.size w)
 have H : ((debuggerlaw25_small.f k l0_0).bind fun t231 => (if t231 = true then ((debuggerlaw25_some.f k l1).bind fun x233 => ((debuggerlaw25_MemoryRight.m x233 a2 a3 a4).bind fun t233 => ((memory_Right.f k l0_0).bind fun t237 => ((debuggerref25_Right.f k l0_0).bind fun t238 => (if (t237 == t238) = true then ((memory_Right.f k t233).bind fun t239 => ((debuggerref25_Right.f k t233).bind fun t240 => (if (t239 == t240) = true then ((debuggerlaw25_some.f k l1).bind fun t241 => ((memory_Right.f k t241).bind fun t244 => (if t244 = true then ((debuggerlaw25_awake.f k).bind fun t245 => (some t245)) else (some false)))) else (some false)))) else (some false)))))) else ((debuggerlaw25_awake.f k).bind fun t232 => (some t232)))) = some r := h
 clear h
 replace H := Option.bind_eq_some_iff.mp H
 obtain ⟨t231, A60, H⟩ := H
 replace H : (if t231 = true then ((debuggerlaw25_some.f k l1).bind fun x233 => ((debuggerlaw25_MemoryRight.m x233 a2 a3 a4).bind fun t233 => ((memory_Right.f k l0_0).bind fun t237 => ((debuggerref25_Right.f k l0_0).bind fun t238 => (if (t237 == t238) = true then ((memory_Right.f k t233).bind fun t239 => ((debuggerref25_Right.f k t233).bind fun t240 => (if (t239 == t240) = true then ((debuggerlaw25_some.f k l1).bind fun t241 => ((memory_Right.f k t241).bind fun t244 => (if t244 = true then ((debuggerlaw25_awake.f k).bind fun t245 => (some t245)) else (some false)))) else (some false)))) else (some false)))))) else ((debuggerlaw25_awake.f k).bind fun t232 => (some t232))) = some r := H
 have A6 := Aside0.mk A60
 clear A60
 by_cases c7 : t231 = true
 ·subst c7
  have H1 : ((debuggerlaw25_some.f k l1).bind fun x233 => ((debuggerlaw25_MemoryRight.m x233 a2 a3 a4).bind fun t233 => ((memory_Right.f k l0_0).bind fun t237 => ((debuggerref25_Right.f k l0_0).bind fun t238 => (if (t237 == t238) = true then ((memory_Right.f k t233).bind fun t239 => ((debuggerref25_Right.f k t233).bind fun t240 => (if (t239 == t240) = true then ((debuggerlaw25_some.f k l1).bind fun t241 => ((memory_Right.f k t241).bind fun t244 => (if t244 = true then ((debuggerlaw25_awake.f k).bind fun t245 => (some t245)) else (some false)))) else (some false)))) else (some false)))))) = some r := by rw [if_pos rfl] at H; exact H
  clear H
  have H := H1
  clear H1
  replace H := Option.bind_eq_some_iff.mp H
  obtain ⟨x233, A80, H⟩ := H
  replace H : ((debuggerlaw25_MemoryRight.m x233 a2 a3 a4).bind fun t233 => ((memory_Right.f k l0_0).bind fun t237 => ((debuggerref25_Right.f k l0_0).bind fun t238 => (if (t237 == t238) = true then ((memory_Right.f k t233).bind fun t239 => ((debuggerref25_Right.f k t233).bind fun t240 => (if (t239 == t240) = true then ((debuggerlaw25_some.f k l1).bind fun t241 => ((memory_Right.f k t241).bind fun t244 => (if t244 = true then ((debuggerlaw25_awake.f k).bind fun t245 => (some t245)) else (some false)))) else (some false)))) else (some false))))) = some r := H
  have A8 := Aside0.mk A80
  clear A80
  replace H := Option.bind_eq_some_iff.mp H
  obtain ⟨t233, Am, H⟩ := H
  replace H : ((memory_Right.f k l0_0).bind fun t237 => ((debuggerref25_Right.f k l0_0).bind fun t238 => (if (t237 == t238) = true then ((memory_Right.f k t233).bind fun t239 => ((debuggerref25_Right.f k t233).bind fun t240 => (if (t239 == t240) = true then ((debuggerlaw25_some.f k l1).bind fun t241 => ((memory_Right.f k t241).bind fun t244 => (if t244 = true then ((debuggerlaw25_awake.f k).bind fun t245 => (some t245)) else (some false)))) else (some false)))) else (some false)))) = some r := H
  replace H := Option.bind_eq_some_iff.mp H
  obtain ⟨t237, A90, H⟩ := H
  replace H : ((debuggerref25_Right.f k l0_0).bind fun t238 => (if (t237 == t238) = true then ((memory_Right.f k t233).bind fun t239 => ((debuggerref25_Right.f k t233).bind fun t240 => (if (t239 == t240) = true then ((debuggerlaw25_some.f k l1).bind fun t241 => ((memory_Right.f k t241).bind fun t244 => (if t244 = true then ((debuggerlaw25_awake.f k).bind fun t245 => (some t245)) else (some false)))) else (some false)))) else (some false))) = some r := H
  have A9 := Aside0.mk A90
  clear A90
  replace H := Option.bind_eq_some_iff.mp H
  obtain ⟨t238, A100, H⟩ := H
  replace H : (if (t237 == t238) = true then ((memory_Right.f k t233).bind fun t239 => ((debuggerref25_Right.f k t233).bind fun t240 => (if (t239 == t240) = true then ((debuggerlaw25_some.f k l1).bind fun t241 => ((memory_Right.f k t241).bind fun t244 => (if t244 = true then ((debuggerlaw25_awake.f k).bind fun t245 => (some t245)) else (some false)))) else (some false)))) else (some false)) = some r := H
  have A10 := Aside0.mk A100
  clear A100
  by_cases c11 : (t237 == t238) = true
  ·rw [if_pos c11] at H
   have c11b0 : (t237 == t238) = true := c11
   (try (have c11b1 : decide (t237 = t238) = true := by simpa using c11))
   (try (have c11b2 : (t237 == t238) = true := by simpa using c11))
   clear c11
   replace H := Option.bind_eq_some_iff.mp H
   obtain ⟨t239, A120, H⟩ := H
   replace H : ((debuggerref25_Right.f k t233).bind fun t240 => (if (t239 == t240) = true then ((debuggerlaw25_some.f k l1).bind fun t241 => ((memory_Right.f k t241).bind fun t244 => (if t244 = true then ((debuggerlaw25_awake.f k).bind fun t245 => (some t245)) else (some false)))) else (some false))) = some r := H
   have A12 := Aside0.mk A120
   clear A120
   replace H := Option.bind_eq_some_iff.mp H
   obtain ⟨t240, A130, H⟩ := H
   replace H : (if (t239 == t240) = true then ((debuggerlaw25_some.f k l1).bind fun t241 => ((memory_Right.f k t241).bind fun t244 => (if t244 = true then ((debuggerlaw25_awake.f k).bind fun t245 => (some t245)) else (some false)))) else (some false)) = some r := H
   have A13 := Aside0.mk A130
   clear A130
   by_cases c14 : (t239 == t240) = true
   ·rw [if_pos c14] at H
    have c14b0 : (t239 == t240) = true := c14
    (try (have c14b1 : decide (t239 = t240) = true := by simpa using c14))
    (try (have c14b2 : (t239 == t240) = true := by simpa using c14))
    clear c14
    replace H := Option.bind_eq_some_iff.mp H
    obtain ⟨t241, A150, H⟩ := H
    replace H : ((memory_Right.f k t241).bind fun t244 => (if t244 = true then ((debuggerlaw25_awake.f k).bind fun t245 => (some t245)) else (some false))) = some r := H
    have A15 := Aside0.mk A150
    clear A150
    replace H := Option.bind_eq_some_iff.mp H
    obtain ⟨t244, A160, H⟩ := H
    replace H : (if t244 = true then ((debuggerlaw25_awake.f k).bind fun t245 => (some t245)) else (some false)) = some r := H
    have A16 := Aside0.mk A160
    clear A160
    by_cases c17 : t244 = true
    ·subst c17
     have H1 : ((debuggerlaw25_awake.f k).bind fun t245 => (some t245)) = some r := by rw [if_pos rfl] at H; exact H
     clear H
     have H := H1
     clear H1
     replace H := Option.bind_eq_some_iff.mp H
     obtain ⟨t245, A180, H⟩ := H
     replace H : (some t245) = some r := H
     have A18 := Aside0.mk A180
     clear A180
     obtain rfl := Option.some.inj H
     by_cases cx : x233.length = 0
     ·have hm0 : t233 = x233 := by
       unfold debuggerlaw25_MemoryRight.m at Am
       rw [if_pos cx] at Am
       exact (Option.some.inj Am).symm
      subst hm0
      have cxb0 : decide (0 < (t233.length : Int)) = false := decide_eq_false (by omega)
      have cxb1 : decide (0 < t233.length) = false := decide_eq_false (by omega)
      clear cx Am
      go_enter Try.func3, Try.ntmps3
      try go_wp2_with (first | ((with_reducible refine gate_dst (N := 5) rfl ?_); refine box_event ?hg (N := 5) ?hd (cs := #[.slice A0_0 l0_0.length c0_0]) (t := 24) ?hr ?_; (case hd => rfl); (case hg => rfl); (case hr => first | (go_simp; done) | (go_simp; rfl)); intro gb230 hg w19 hbox hb; have n0_ := Zw (below_step (Zh HB.out) hb); have n1_ := Zw (hbox); have n2_ := Zw ((by rw [hg]; exact (below_size (Zh HB.out)) : w.heap.size ≤ gb230)); have n3_ := Zw ((by rw [hg]; exact (below_size (Zh HB.out)) : w.heap.size ≤ gb230)); clear HB; have HB := n0_; have BK230 := n1_; have GW230 := n2_; have GE230 := n3_; clear n0_ n1_ n2_ n3_; clear hb hbox hg; have hcz20_0 := Zcl BK230.out 0 rfl; have hfz20_0 := blk_frozen BK230.out 0) | ((with_reducible refine gate_callee (f := 10) rfl ?_); refine goesL_ (some 15) rfl rfl Try.func10 (by kernel_rfl) rfl #[.agg #[.slice A0_0 l0_0.length c0_0]] rfl Zm ?_; (with_reducible refine (debuggerlaw25_small.calls k _ _ l0_0 true _ ?side1 ?side2 A6.out).mono ?_); (case side1 => exact Zc (Kd.C_below HR0_0.out HB.out)); (case side2 => exact HC0_0.out); rintro e w21 ⟨rfl, hb⟩; refine ⟨_, rfl, ?_⟩; have n0_ := Zw (blk_below (g := gb230) (o := .cells #[.slice A0_0 l0_0.length c0_0] 24 (0, 0)) (Zb BK230.out) hb); have n1_ := Zw (below_step (Zh1 HB.out GE230.out) hb); clear BK230; clear HB; have BK230 := n0_; have HB := n1_; clear n0_ n1_; (try clear hb); (try clear hb2); (try clear hk); (try clear hi)) | ((with_reducible refine gate_callee (f := 12) rfl ?_); refine goesL_ (some 19) rfl rfl Try.func12 (by kernel_rfl) rfl #[.slice A1 l1.length c1] rfl Zm ?_; (with_reducible refine (debuggerlaw25_some.calls k _ _ l1 t233 _ ?side1 ?side2 A8.out).mono ?_); (case side1 => exact Zc (Kd.C_below HR1.out HB.out)); (case side2 => exact HC1.out); rintro e w22 ⟨v234, rfl, ho0, hb⟩; refine ⟨_, rfl, ?_⟩; have n0_ := Zw (Kd.N_lower (Kd.N_mono (ok' := fun k_ => k_ ≠ gb230) ho0 (fun k_ hk_ => (Kd.freshB (g := gb230) (o := .cells #[.slice A0_0 l0_0.length c0_0] 24 (0, 0)) (Zb BK230.out) k_ hk_))) (below_size (Zh1 HB.out GE230.out))); have n1_ := Zw (blk_below (g := gb230) (o := .cells #[.slice A0_0 l0_0.length c0_0] 24 (0, 0)) (Zb BK230.out) hb); have n2_ := Zw (below_step (Zh1 HB.out GE230.out) hb); clear BK230; clear HB; have HO235 := n0_; have BK230 := n1_; have HB := n2_; clear n0_ n1_ n2_; (try clear hb); (try clear hb2); (try clear hk); (try clear hi); (try clear ho0)) | ((with_reducible refine gate_dst (N := 11) rfl ?_); refine box_event ?hg (N := 11) ?hd (cs := #[.slice none 0 0]) (t := 24) ?hr ?_; (case hd => rfl); (case hg => rfl); (case hr => first | (go_simp; done) | (go_simp; rfl)); intro gb236 hg w23 hbox hb; have n0_ := Zw (Kd.N_below (Kd.N_elderB (ZN HO235.out) gb236 (Nat.le_of_eq hg.symm)) hb); have n1_ := Zw (blk_below (g := gb230) (o := .cells #[.slice A0_0 l0_0.length c0_0] 24 (0, 0)) (Zb BK230.out) hb); have n2_ := Zw (below_step (Zh1 HB.out GE230.out) hb); have n3_ := Zw (hbox); have n4_ := Zw ((by rw [hg]; exact (below_size (Zh1 HB.out GE230.out)) : w.heap.size ≤ gb236)); have n5_ := Zw ((by rw [hg]; exact (below_size (Zh1 HB.out GE230.out)) : w.heap.size ≤ gb236)); have n6_ := Zw ((by rw [hg]; exact Nat.ne_of_lt (blk_lt (Zb BK230.out)) : gb230 ≠ gb236)); have n7_ := Zw ((by rw [hg]; exact Nat.ne_of_gt (blk_lt (Zb BK230.out)) : gb236 ≠ gb230)); clear HO235; clear BK230; clear HB; have HO235 := n0_; have BK230 := n1_; have HB := n2_; have BK236 := n3_; have GW236 := n4_; have GE236 := n5_; have NB230_236 := n6_; have NB236_230 := n7_; clear n0_ n1_ n2_ n3_ n4_ n5_ n6_ n7_; clear hb hbox hg; obtain ⟨Ao24, co24, eo24⟩ := Kd.N_slice HO235.out; subst eo24; have hnb25 := NB236_230.out; have hnc25 := NB230_236.out; have hcz26_0 := Zcl BK236.out 0 rfl; have hfz26_0 := blk_frozen BK236.out 0))
      have n0_ : Aside0 (Kd.N k31 31 (w23.setCell ⟨gb236, 0, none⟩ (.slice Ao24 t233.length co24)) w.heap.size (fun k_ => k_ ≠ gb230 ∧ k_ ≠ gb236) (.slice Ao24 t233.length co24) t233) := ⟨by refine ZNk ?_; exact Kd.N_mono (Kd.N_far (p := ⟨gb236, 0, none⟩) (Kd.N_mono HO235.out (fun k_ hk => (⟨hk, hk.2⟩ : _ ∧ k_ ≠ gb236))) (fun _ hk => hk.2) (.slice Ao24 t233.length co24)) (fun _ hk => ⟨hk.1.1, hk.1.2⟩)⟩
      have n1_ : Aside0 ((w23.setCell ⟨gb236, 0, none⟩ (.slice Ao24 t233.length co24)).heap[gb230]? = some (.cells #[.slice A0_0 l0_0.length c0_0] 24 (0, 0))) := ⟨by refine Zbk ?_; refine blk_far ?_ NB230_236.out _; refine Zbk ?_; exact BK230.out⟩
      have n2_ : Aside0 ((w23.setCell ⟨gb236, 0, none⟩ (.slice Ao24 t233.length co24)).heap[gb236]? = some (.cells #[.slice Ao24 t233.length co24] 24 (0, 0))) := ⟨by refine Zbk ?_; refine blk_put (cs := #[.slice none 0 0]) ?_ 0 _ rfl; refine Zbk ?_; exact BK236.out⟩
      have n3_ : Aside0 (Below w.heap.size w (w23.setCell ⟨gb236, 0, none⟩ (.slice Ao24 t233.length co24))) := ⟨Zh2 HB.out GE230.out GE236.out⟩
      (try clear HO235)
      (try clear BK230)
      (try clear BK236)
      (try clear HB)
      generalize (w23.setCell ⟨gb236, 0, none⟩ (.slice Ao24 t233.length co24)) = w27 at n0_ n1_ n2_ n3_ ⊢
      have HO235 := n0_
      have BK230 := n1_
      have BK236 := n2_
      have HB := n3_
      clear n0_ n1_ n2_ n3_
      have n0_ := Zw (Kd.N_drew HO235.out)
      have n1_ := Zw (blk_drew BK230.out)
      have n2_ := Zw (blk_drew BK236.out)
      have n3_ := Zw (below_drew1 HB.out)
      clear HO235
      clear BK230
      clear BK236
      clear HB
      have HO235 := n0_
      have BK230 := n1_
      have BK236 := n2_
      have HB := n3_
      clear n0_ n1_ n2_ n3_
      refine start_ (n := 21) (S := fun w' => w'.cell? ⟨gb230, 0, none⟩ = some (.slice A0_0 l0_0.length c0_0) ∧ w'.cell? ⟨gb236, 0, none⟩ = some (.slice Ao24 t233.length co24)) (ds := []) #[false, false, false, false, false, false, false, false, false, false, false, false, false, false, false, false, false, false, false, false, false] (by kernel_rfl) rfl rfl ⟨(blk_cell BK230.out 0).trans rfl, (blk_cell BK236.out 0).trans rfl⟩ (fun hHeld => ?_); refine with_tabW debuggerlaw25_MemoryRight.tab9 debuggerlaw25_MemoryRight.bits9 (fun HT_ HW_ => ?_)
      generalize w27.drew = w28 at HO235 BK230 BK236 HB hHeld ⊢
      refine take_ (i := 0) (N := some 45) (v := ?_) (a' := ?_) #[true, false, false, false, false, false, false, false, false, false, false, false, false, false, false, false, false, false, false, false, false] rfl rfl (take_ofW HT_.out HW_.out (by kernel_rfl)) (fun _ _ _ h => h) (Or.inl ⟨by rfl, ?_⟩) hHeld ?_ ?_
      rotate_left
      ·rintro w' ⟨s0, s1⟩
       go_simp
       with_reducible rfl
      rotate_left
      ·simp only [Act.put, zsA, zsZ, zsS, i64_w, i32_w]
       rfl
      refine take_ (i := 2) (N := some 47) (v := ?_) (a' := ?_) #[true, false, true, false, false, false, false, false, false, false, false, false, false, false, false, false, false, false, false, false, false] rfl rfl (take_ofW HT_.out HW_.out (by kernel_rfl)) (fun _ _ _ h => h) (Or.inl ⟨by rfl, ?_⟩) hHeld ?_ ?_
      rotate_left
      ·rintro w' ⟨s0, s1⟩
       go_simp
       with_reducible rfl
      rotate_left
      ·simp only [Act.put, zsA, zsZ, zsS, i64_w, i32_w]
       rfl
      refine one_ (i := 1) (N := some 46) #[true, true, true, false, false, false, false, false, false, false, false, false, false, false, false, false, false, false, false, false, false] rfl rfl (one_of HT_.out (by kernel_rfl)) (by decide) (fun K hK => ?_)
      refine goes_ Try.func14 (by kernel_rfl) rfl #[.agg #[.slice A0_0 l0_0.length c0_0]] (by rfl) rfl rfl Zm ?_
      with_reducible refine (memory_Right.calls k _ _ l0_0 t237 _ ?side1 ?side2 A9.out).mono ?_
      (case side1 => exact Zc (Kd.C_below HR0_0.out HB.out))
      (case side2 => exact HC0_0.out)
      rintro e w29 ⟨rfl, hb⟩
      refine ⟨_, rfl, ?_⟩
      have n0_ := Zw (Kd.N_below (ZN HO235.out) hb)
      have n1_ := Zw (blk_below (g := gb230) (o := .cells #[.slice A0_0 l0_0.length c0_0] 24 (0, 0)) (Zb BK230.out) hb)
      have n2_ := Zw (blk_below (g := gb236) (o := .cells #[.slice Ao24 t233.length co24] 24 (0, 0)) (Zb BK236.out) hb)
      have n3_ := Zw (below_step (Zh2 HB.out GE230.out GE236.out) hb)
      clear HO235
      clear BK230
      clear BK236
      clear HB
      have HO235 := n0_
      have BK230 := n1_
      have BK236 := n2_
      have HB := n3_
      clear n0_ n1_ n2_ n3_
      (try clear hb)
      (try clear hb2)
      (try clear hk)
      (try clear hi)
      refine hK.out _ _ ⟨(blk_cell BK230.out 0).trans rfl, (blk_cell BK236.out 0).trans rfl⟩ (fun hHeld => ?_)
      clear hK K
      refine norm_ (a' := ?_) ?_ ?_
      rotate_left
      ·show Act.put _ (some 46) _ = _
       simp only [Act.put, zsA, zsZ, zsS, i64_w, i32_w]
       rfl
      refine one_ (i := 3) (N := some 48) #[true, true, true, true, false, false, false, false, false, false, false, false, false, false, false, false, false, false, false, false, false] rfl rfl (one_of HT_.out (by kernel_rfl)) (by decide) (fun K hK => ?_)
      refine goes_ Try.func15 (by kernel_rfl) rfl #[.agg #[.slice A0_0 l0_0.length c0_0]] (by rfl) rfl rfl Zm ?_
      with_reducible refine (debuggerref25_Right.calls k _ _ l0_0 t238 _ ?side1 ?side2 A10.out).mono ?_
      (case side1 => exact Zc (Kd.C_below HR0_0.out HB.out))
      (case side2 => exact HC0_0.out)
      rintro e w30 ⟨rfl, hb⟩
      refine ⟨_, rfl, ?_⟩
      have n0_ := Zw (Kd.N_below (ZN HO235.out) hb)
      have n1_ := Zw (blk_below (g := gb230) (o := .cells #[.slice A0_0 l0_0.length c0_0] 24 (0, 0)) (Zb BK230.out) hb)
      have n2_ := Zw (blk_below (g := gb236) (o := .cells #[.slice Ao24 t233.length co24] 24 (0, 0)) (Zb BK236.out) hb)
      have n3_ := Zw (below_step (Zh2 HB.out GE230.out GE236.out) hb)
      clear HO235
      clear BK230
      clear BK236
      clear HB
      have HO235 := n0_
      have BK230 := n1_
      have BK236 := n2_
      have HB := n3_
      clear n0_ n1_ n2_ n3_
      (try clear hb)
      (try clear hb2)
      (try clear hk)
      (try clear hi)
      refine hK.out _ _ ⟨(blk_cell BK230.out 0).trans rfl, (blk_cell BK236.out 0).trans rfl⟩ (fun hHeld => ?_)
      clear hK K
      refine norm_ (a' := ?_) ?_ ?_
      rotate_left
      ·show Act.put _ (some 48) _ = _
       simp only [Act.put, zsA, zsZ, zsS, i64_w, i32_w]
       rfl
      refine pure_ (i := 4) (N := some 49) (v := ?_) (a' := ?_) #[true, true, true, true, true, false, false, false, false, false, false, false, false, false, false, false, false, false, false, false, false] rfl rfl (any_of HT_.out (by kernel_rfl)) (fun _ _ _ h => h) (Or.inl ⟨by rfl, ?_⟩) ?_ ?_
      rotate_left
      ·intro w'
       go_simp
       with_reducible rfl
      rotate_left
      ·simp only [Act.put, zsA, zsZ, zsS, i64_w, i32_w]
       rfl
      refine pure_ (i := 5) (N := some 50) (v := ?_) (a' := ?_) #[true, true, true, true, true, true, false, false, false, false, false, false, false, false, false, false, false, false, false, false, false] rfl rfl (any_of HT_.out (by kernel_rfl)) (fun _ _ _ h => h) (Or.inl ⟨by rfl, ?_⟩) ?_ ?_
      rotate_left
      ·intro w'
       go_simp
       with_reducible rfl
      rotate_left
      ·simp only [Act.put, zsA, zsZ, zsS, i64_w, i32_w]
       rfl
      refine take_ (i := 6) (N := some 51) (v := ?_) (a' := ?_) #[true, true, true, true, true, true, true, false, false, false, false, false, false, false, false, false, false, false, false, false, false] rfl rfl (take_ofW HT_.out HW_.out (by kernel_rfl)) (fun _ _ _ h => h) (Or.inl ⟨by rfl, ?_⟩) hHeld ?_ ?_
      rotate_left
      ·rintro w' ⟨s0, s1⟩
       go_simp
       with_reducible rfl
      rotate_left
      ·simp only [Act.put, zsA, zsZ, zsS, i64_w, i32_w]
       rfl
      refine take_ (i := 8) (N := some 53) (v := ?_) (a' := ?_) #[true, true, true, true, true, true, true, false, true, false, false, false, false, false, false, false, false, false, false, false, false] rfl rfl (take_ofW HT_.out HW_.out (by kernel_rfl)) (fun _ _ _ h => h) (Or.inl ⟨by rfl, ?_⟩) hHeld ?_ ?_
      rotate_left
      ·rintro w' ⟨s0, s1⟩
       go_simp
       with_reducible rfl
      rotate_left
      ·simp only [Act.put, zsA, zsZ, zsS, i64_w, i32_w]
       rfl
      refine one_ (i := 7) (N := some 52) #[true, true, true, true, true, true, true, true, true, false, false, false, false, false, false, false, false, false, false, false, false] rfl rfl (one_of HT_.out (by kernel_rfl)) (by decide) (fun K hK => ?_)
      refine goes_ Try.func14 (by kernel_rfl) rfl #[.agg #[.slice Ao24 t233.length co24]] (by rfl) rfl rfl Zm ?_
      with_reducible refine (memory_Right.calls k _ _ t233 t239 _ ?side1 ?side2 A12.out).mono ?_
      (case side1 => exact Zc ((Kd.N_reads' HO235.out).2.2))
      (case side2 => exact (Kd.N_reads' HO235.out).2.1)
      rintro e w31 ⟨rfl, hb⟩
      refine ⟨_, rfl, ?_⟩
      have n0_ := Zw (Kd.N_below (ZN HO235.out) hb)
      have n1_ := Zw (blk_below (g := gb230) (o := .cells #[.slice A0_0 l0_0.length c0_0] 24 (0, 0)) (Zb BK230.out) hb)
      have n2_ := Zw (blk_below (g := gb236) (o := .cells #[.slice Ao24 t233.length co24] 24 (0, 0)) (Zb BK236.out) hb)
      have n3_ := Zw (below_step (Zh2 HB.out GE230.out GE236.out) hb)
      clear HO235
      clear BK230
      clear BK236
      clear HB
      have HO235 := n0_
      have BK230 := n1_
      have BK236 := n2_
      have HB := n3_
      clear n0_ n1_ n2_ n3_
      (try clear hb)
      (try clear hb2)
      (try clear hk)
      (try clear hi)
      refine hK.out _ _ ⟨(blk_cell BK230.out 0).trans rfl, (blk_cell BK236.out 0).trans rfl⟩ (fun hHeld => ?_)
      clear hK K
      refine norm_ (a' := ?_) ?_ ?_
      rotate_left
      ·show Act.put _ (some 52) _ = _
       simp only [Act.put, zsA, zsZ, zsS, i64_w, i32_w]
       rfl
      refine one_ (i := 9) (N := some 54) #[true, true, true, true, true, true, true, true, true, true, false, false, false, false, false, false, false, false, false, false, false] rfl rfl (one_of HT_.out (by kernel_rfl)) (by decide) (fun K hK => ?_)
      refine goes_ Try.func15 (by kernel_rfl) rfl #[.agg #[.slice Ao24 t233.length co24]] (by rfl) rfl rfl Zm ?_
      with_reducible refine (debuggerref25_Right.calls k _ _ t233 t240 _ ?side1 ?side2 A13.out).mono ?_
      (case side1 => exact Zc ((Kd.N_reads' HO235.out).2.2))
      (case side2 => exact (Kd.N_reads' HO235.out).2.1)
      rintro e w32 ⟨rfl, hb⟩
      refine ⟨_, rfl, ?_⟩
      have n0_ := Zw (Kd.N_below (ZN HO235.out) hb)
      have n1_ := Zw (blk_below (g := gb230) (o := .cells #[.slice A0_0 l0_0.length c0_0] 24 (0, 0)) (Zb BK230.out) hb)
      have n2_ := Zw (blk_below (g := gb236) (o := .cells #[.slice Ao24 t233.length co24] 24 (0, 0)) (Zb BK236.out) hb)
      have n3_ := Zw (below_step (Zh2 HB.out GE230.out GE236.out) hb)
      clear HO235
      clear BK230
      clear BK236
      clear HB
      have HO235 := n0_
      have BK230 := n1_
      have BK236 := n2_
      have HB := n3_
      clear n0_ n1_ n2_ n3_
      (try clear hb)
      (try clear hb2)
      (try clear hk)
      (try clear hi)
      refine hK.out _ _ ⟨(blk_cell BK230.out 0).trans rfl, (blk_cell BK236.out 0).trans rfl⟩ (fun hHeld => ?_)
      clear hK K
      refine norm_ (a' := ?_) ?_ ?_
      rotate_left
      ·show Act.put _ (some 54) _ = _
       simp only [Act.put, zsA, zsZ, zsS, i64_w, i32_w]
       rfl
      refine pure_ (i := 10) (N := some 55) (v := ?_) (a' := ?_) #[true, true, true, true, true, true, true, true, true, true, true, false, false, false, false, false, false, false, false, false, false] rfl rfl (any_of HT_.out (by kernel_rfl)) (fun _ _ _ h => h) (Or.inl ⟨by rfl, ?_⟩) ?_ ?_
      rotate_left
      ·intro w'
       go_simp
       with_reducible rfl
      rotate_left
      ·simp only [Act.put, zsA, zsZ, zsS, i64_w, i32_w]
       rfl
      refine pure_ (i := 11) (N := some 56) (v := ?_) (a' := ?_) #[true, true, true, true, true, true, true, true, true, true, true, true, false, false, false, false, false, false, false, false, false] rfl rfl (any_of HT_.out (by kernel_rfl)) (fun _ _ _ h => h) (Or.inl ⟨by rfl, ?_⟩) ?_ ?_
      rotate_left
      ·intro w'
       go_simp
       with_reducible rfl
      rotate_left
      ·simp only [Act.put, zsA, zsZ, zsS, i64_w, i32_w]
       rfl
      refine pure_ (i := 12) (N := some 57) (v := ?_) (a' := ?_) #[true, true, true, true, true, true, true, true, true, true, true, true, true, false, false, false, false, false, false, false, false] rfl rfl (any_of HT_.out (by kernel_rfl)) (fun _ _ _ h => h) (Or.inl ⟨by rfl, ?_⟩) ?_ ?_
      rotate_left
      ·intro w'
       go_simp
       with_reducible rfl
      rotate_left
      ·simp only [Act.put, zsA, zsZ, zsS, i64_w, i32_w]
       rfl
      refine pure_ (i := 13) (N := some 58) (v := ?_) (a' := ?_) #[true, true, true, true, true, true, true, true, true, true, true, true, true, true, false, false, false, false, false, false, false] rfl rfl (any_of HT_.out (by kernel_rfl)) (fun _ _ _ h => h) (Or.inl ⟨by rfl, ?_⟩) ?_ ?_
      rotate_left
      ·intro w'
       go_simp
       with_reducible rfl
      rotate_left
      ·simp only [Act.put, zsA, zsZ, zsS, i64_w, i32_w]
       rfl
      refine one_ (i := 14) (N := some 59) #[true, true, true, true, true, true, true, true, true, true, true, true, true, true, true, false, false, false, false, false, false] rfl rfl (one_of HT_.out (by kernel_rfl)) (by decide) (fun K hK => ?_)
      refine goes_ Try.func12 (by kernel_rfl) rfl #[.slice A1 l1.length c1] (by rfl) rfl rfl Zm ?_
      with_reducible refine (debuggerlaw25_some.calls k _ _ l1 t241 _ ?side1 ?side2 A15.out).mono ?_
      (case side1 => exact Zc (Kd.C_below HR1.out HB.out))
      (case side2 => exact HC1.out)
      rintro e w33 ⟨v242, rfl, ho0, hb⟩
      refine ⟨_, rfl, ?_⟩
      have n0_ := Zw (Kd.N_elder' (ZN HO235.out) (by first | exact Kd.N_base ho0 | exact Kd.S_base ho0 | exact Kd.R_base ho0 | exact Kd.N_base ho0) hb)
      have n1_ := Zw (Kd.N_lower (Kd.N_mono (ok' := fun k_ => some k_ ≠ (.slice Ao24 t233.length co24 : Value).ownBlock ∧ k_ ≠ gb230 ∧ k_ ≠ gb236) ho0 (fun k_ hk_ => ⟨(Kd.fresh' (Kd.N_lt (ZN HO235.out)) k_ hk_), (Kd.freshB (g := gb230) (o := .cells #[.slice A0_0 l0_0.length c0_0] 24 (0, 0)) (Zb BK230.out) k_ hk_), (Kd.freshB (g := gb236) (o := .cells #[.slice Ao24 t233.length co24] 24 (0, 0)) (Zb BK236.out) k_ hk_)⟩)) (below_size (Zh2 HB.out GE230.out GE236.out)))
      have n2_ := Zw (blk_below (g := gb230) (o := .cells #[.slice A0_0 l0_0.length c0_0] 24 (0, 0)) (Zb BK230.out) hb)
      have n3_ := Zw (blk_below (g := gb236) (o := .cells #[.slice Ao24 t233.length co24] 24 (0, 0)) (Zb BK236.out) hb)
      have n4_ := Zw (below_step (Zh2 HB.out GE230.out GE236.out) hb)
      clear HO235
      clear BK230
      clear BK236
      clear HB
      have HO235 := n0_
      have HO243 := n1_
      have BK230 := n2_
      have BK236 := n3_
      have HB := n4_
      clear n0_ n1_ n2_ n3_ n4_
      (try clear hb)
      (try clear hb2)
      (try clear hk)
      (try clear hi)
      (try clear ho0)
      obtain ⟨Ao34, co34, eo34⟩ := Kd.N_slice HO243.out
      (first | subst eo34 | (injection eo34 with f1_ f2_ f3_; have f4_ := f1_.symm; have f5_ := f3_.symm; clear f1_ f2_ f3_; subst f4_; subst f5_))
      refine hK.out _ _ ⟨(blk_cell BK230.out 0).trans rfl, (blk_cell BK236.out 0).trans rfl⟩ (fun hHeld => ?_)
      clear hK K
      refine norm_ (a' := ?_) ?_ ?_
      rotate_left
      ·show Act.put _ (some 59) _ = _
       simp only [Act.put, zsA, zsZ, zsS, i64_w, i32_w]
       rfl
      refine one_ (i := 15) (N := some 60) #[true, true, true, true, true, true, true, true, true, true, true, true, true, true, true, true, false, false, false, false, false] rfl rfl (one_of HT_.out (by kernel_rfl)) (by decide) (fun K hK => ?_)
      refine goes_ Try.func14 (by kernel_rfl) rfl #[.agg #[.slice Ao34 t241.length co34]] (by rfl) rfl rfl Zm ?_
      with_reducible refine (memory_Right.calls k _ _ t241 true _ ?side1 ?side2 A16.out).mono ?_
      (case side1 => exact Zc ((Kd.N_reads' HO243.out).2.2))
      (case side2 => exact (Kd.N_reads' HO243.out).2.1)
      rintro e w35 ⟨rfl, hb⟩
      refine ⟨_, rfl, ?_⟩
      have n0_ := Zw (Kd.N_below (ZN HO235.out) hb)
      have n1_ := Zw (Kd.N_below (ZN HO243.out) hb)
      have n2_ := Zw (blk_below (g := gb230) (o := .cells #[.slice A0_0 l0_0.length c0_0] 24 (0, 0)) (Zb BK230.out) hb)
      have n3_ := Zw (blk_below (g := gb236) (o := .cells #[.slice Ao24 t233.length co24] 24 (0, 0)) (Zb BK236.out) hb)
      have n4_ := Zw (below_step (Zh2 HB.out GE230.out GE236.out) hb)
      clear HO235
      clear HO243
      clear BK230
      clear BK236
      clear HB
      have HO235 := n0_
      have HO243 := n1_
      have BK230 := n2_
      have BK236 := n3_
      have HB := n4_
      clear n0_ n1_ n2_ n3_ n4_
      (try clear hb)
      (try clear hb2)
      (try clear hk)
      (try clear hi)
      refine hK.out _ _ ⟨(blk_cell BK230.out 0).trans rfl, (blk_cell BK236.out 0).trans rfl⟩ (fun hHeld => ?_)
      clear hK K
      refine norm_ (a' := ?_) ?_ ?_
      rotate_left
      ·show Act.put _ (some 60) _ = _
       simp only [Act.put, zsA, zsZ, zsS, i64_w, i32_w]
       rfl
      refine pure_ (i := 16) (N := some 61) (v := ?_) (a' := ?_) #[true, true, true, true, true, true, true, true, true, true, true, true, true, true, true, true, true, false, false, false, false] rfl rfl (any_of HT_.out (by kernel_rfl)) (fun _ _ _ h => h) (Or.inl ⟨by rfl, ?_⟩) ?_ ?_
      rotate_left
      ·intro w'
       go_simp
       with_reducible rfl
      rotate_left
      ·simp only [Act.put, zsA, zsZ, zsS, i64_w, i32_w]
       rfl
      refine pure_ (i := 17) (N := some 62) (v := ?_) (a' := ?_) #[true, true, true, true, true, true, true, true, true, true, true, true, true, true, true, true, true, true, false, false, false] rfl rfl (any_of HT_.out (by kernel_rfl)) (fun _ _ _ h => h) (Or.inl ⟨by rfl, ?_⟩) ?_ ?_
      rotate_left
      ·intro w'
       go_simp
       with_reducible rfl
      rotate_left
      ·simp only [Act.put, zsA, zsZ, zsS, i64_w, i32_w]
       rfl
      refine one_ (i := 18) (N := some 63) #[true, true, true, true, true, true, true, true, true, true, true, true, true, true, true, true, true, true, true, false, false] rfl rfl (one_of HT_.out (by kernel_rfl)) (by decide) (fun K hK => ?_)
      refine goes_ Try.func11 (by kernel_rfl) rfl #[] (by rfl) rfl rfl Zm ?_
      with_reducible refine (debuggerlaw25_awake.calls k  t245 _ A18.out).mono ?_
      rintro e w36 ⟨rfl, hb⟩
      refine ⟨_, rfl, ?_⟩
      have n0_ := Zw (Kd.N_below (ZN HO235.out) hb)
      have n1_ := Zw (Kd.N_below (ZN HO243.out) hb)
      have n2_ := Zw (blk_below (g := gb230) (o := .cells #[.slice A0_0 l0_0.length c0_0] 24 (0, 0)) (Zb BK230.out) hb)
      have n3_ := Zw (blk_below (g := gb236) (o := .cells #[.slice Ao24 t233.length co24] 24 (0, 0)) (Zb BK236.out) hb)
      have n4_ := Zw (below_step (Zh2 HB.out GE230.out GE236.out) hb)
      clear HO235
      clear HO243
      clear BK230
      clear BK236
      clear HB
      have HO235 := n0_
      have HO243 := n1_
      have BK230 := n2_
      have BK236 := n3_
      have HB := n4_
      clear n0_ n1_ n2_ n3_ n4_
      (try clear hb)
      (try clear hb2)
      (try clear hk)
      (try clear hi)
      refine hK.out _ _ ⟨(blk_cell BK230.out 0).trans rfl, (blk_cell BK236.out 0).trans rfl⟩ (fun hHeld => ?_)
      clear hK K
      refine norm_ (a' := ?_) ?_ ?_
      rotate_left
      ·show Act.put _ (some 63) _ = _
       simp only [Act.put, zsA, zsZ, zsS, i64_w, i32_w]
       rfl
      refine pure_ (i := 19) (N := some 64) (v := ?_) (a' := ?_) #[true, true, true, true, true, true, true, true, true, true, true, true, true, true, true, true, true, true, true, true, false] rfl rfl (any_of HT_.out (by kernel_rfl)) (fun _ _ _ h => h) (Or.inl ⟨by rfl, ?_⟩) ?_ ?_
      rotate_left
      ·intro w'
       go_simp
       with_reducible rfl
      rotate_left
      ·simp only [Act.put, zsA, zsZ, zsS, i64_w, i32_w]
       rfl
      refine pure_ (i := 20) (N := some 10) (v := ?_) (a' := ?_) #[true, true, true, true, true, true, true, true, true, true, true, true, true, true, true, true, true, true, true, true, true] rfl rfl (any_of HT_.out (by kernel_rfl)) (fun _ _ _ h => h) (Or.inl ⟨by rfl, ?_⟩) ?_ ?_
      rotate_left
      ·intro w'
       go_simp
       with_reducible rfl
      rotate_left
      ·simp only [Act.put, zsA, zsZ, zsS, i64_w, i32_w]
       rfl
      refine done_ (done_of HT_.out (by kernel_rfl)) ?_
      try go_wp2
      go_ret
      exact ⟨by first | rfl | (simp [errW_none, errW_some] <;> rfl) | (simp [*, errW_none, errW_some] <;> rfl), Zh2 HB.out GE230.out GE236.out⟩
     ·have cxb0 : decide (0 < (x233.length : Int)) = true := decide_eq_true (by omega)
      have cxb1 : decide (0 < x233.length) = true := decide_eq_true (by omega)
      go_enter Try.func3, Try.ntmps3
      try go_wp2_with (first | ((with_reducible refine gate_dst (N := 5) rfl ?_); refine box_event ?hg (N := 5) ?hd (cs := #[.slice A0_0 l0_0.length c0_0]) (t := 24) ?hr ?_; (case hd => rfl); (case hg => rfl); (case hr => first | (go_simp; done) | (go_simp; rfl)); intro gb230 hg w19 hbox hb; have n0_ := Zw (below_step (Zh HB.out) hb); have n1_ := Zw (hbox); have n2_ := Zw ((by rw [hg]; exact (below_size (Zh HB.out)) : w.heap.size ≤ gb230)); have n3_ := Zw ((by rw [hg]; exact (below_size (Zh HB.out)) : w.heap.size ≤ gb230)); clear HB; have HB := n0_; have BK230 := n1_; have GW230 := n2_; have GE230 := n3_; clear n0_ n1_ n2_ n3_; clear hb hbox hg; have hcz20_0 := Zcl BK230.out 0 rfl; have hfz20_0 := blk_frozen BK230.out 0) | ((with_reducible refine gate_callee (f := 10) rfl ?_); refine goesL_ (some 15) rfl rfl Try.func10 (by kernel_rfl) rfl #[.agg #[.slice A0_0 l0_0.length c0_0]] rfl Zm ?_; (with_reducible refine (debuggerlaw25_small.calls k _ _ l0_0 true _ ?side1 ?side2 A6.out).mono ?_); (case side1 => exact Zc (Kd.C_below HR0_0.out HB.out)); (case side2 => exact HC0_0.out); rintro e w21 ⟨rfl, hb⟩; refine ⟨_, rfl, ?_⟩; have n0_ := Zw (blk_below (g := gb230) (o := .cells #[.slice A0_0 l0_0.length c0_0] 24 (0, 0)) (Zb BK230.out) hb); have n1_ := Zw (below_step (Zh1 HB.out GE230.out) hb); clear BK230; clear HB; have BK230 := n0_; have HB := n1_; clear n0_ n1_; (try clear hb); (try clear hb2); (try clear hk); (try clear hi)) | ((with_reducible refine gate_callee (f := 12) rfl ?_); refine goesL_ (some 19) rfl rfl Try.func12 (by kernel_rfl) rfl #[.slice A1 l1.length c1] rfl Zm ?_; (with_reducible refine (debuggerlaw25_some.calls k _ _ l1 x233 _ ?side1 ?side2 A8.out).mono ?_); (case side1 => exact Zc (Kd.C_below HR1.out HB.out)); (case side2 => exact HC1.out); rintro e w22 ⟨v234, rfl, ho0, hb⟩; refine ⟨_, rfl, ?_⟩; have n0_ := Zw (Kd.N_lower (Kd.N_mono (ok' := fun k_ => k_ ≠ gb230) ho0 (fun k_ hk_ => (Kd.freshB (g := gb230) (o := .cells #[.slice A0_0 l0_0.length c0_0] 24 (0, 0)) (Zb BK230.out) k_ hk_))) (below_size (Zh1 HB.out GE230.out))); have n1_ := Zw (blk_below (g := gb230) (o := .cells #[.slice A0_0 l0_0.length c0_0] 24 (0, 0)) (Zb BK230.out) hb); have n2_ := Zw (below_step (Zh1 HB.out GE230.out) hb); clear BK230; clear HB; have HO235 := n0_; have BK230 := n1_; have HB := n2_; clear n0_ n1_ n2_; (try clear hb); (try clear hb2); (try clear hk); (try clear hi); (try clear ho0)) | ((with_reducible refine gate_dst (N := 11) rfl ?_); refine box_event ?hg (N := 11) ?hd (cs := #[.slice none 0 0]) (t := 24) ?hr ?_; (case hd => rfl); (case hg => rfl); (case hr => first | (go_simp; done) | (go_simp; rfl)); intro gb236 hg w23 hbox hb; have n0_ := Zw (Kd.N_below (Kd.N_elderB (ZN HO235.out) gb236 (Nat.le_of_eq hg.symm)) hb); have n1_ := Zw (blk_below (g := gb230) (o := .cells #[.slice A0_0 l0_0.length c0_0] 24 (0, 0)) (Zb BK230.out) hb); have n2_ := Zw (below_step (Zh1 HB.out GE230.out) hb); have n3_ := Zw (hbox); have n4_ := Zw ((by rw [hg]; exact (below_size (Zh1 HB.out GE230.out)) : w.heap.size ≤ gb236)); have n5_ := Zw ((by rw [hg]; exact (below_size (Zh1 HB.out GE230.out)) : w.heap.size ≤ gb236)); have n6_ := Zw ((by rw [hg]; exact Nat.ne_of_lt (blk_lt (Zb BK230.out)) : gb230 ≠ gb236)); have n7_ := Zw ((by rw [hg]; exact Nat.ne_of_gt (blk_lt (Zb BK230.out)) : gb236 ≠ gb230)); clear HO235; clear BK230; clear HB; have HO235 := n0_; have BK230 := n1_; have HB := n2_; have BK236 := n3_; have GW236 := n4_; have GE236 := n5_; have NB230_236 := n6_; have NB236_230 := n7_; clear n0_ n1_ n2_ n3_ n4_ n5_ n6_ n7_; clear hb hbox hg; obtain ⟨Ao24, co24, eo24⟩ := Kd.N_slice HO235.out; subst eo24; have hnb25 := NB236_230.out; have hnc25 := NB230_236.out; have hcz26_0 := Zcl BK236.out 0 rfl; have hfz26_0 := blk_frozen BK236.out 0))
      have n0_ : Aside0 (Kd.N k31 31 (w23.setCell ⟨gb236, 0, none⟩ (.slice Ao24 x233.length co24)) w.heap.size (fun k_ => k_ ≠ gb230 ∧ k_ ≠ gb236) (.slice Ao24 x233.length co24) x233) := ⟨by refine ZNk ?_; exact Kd.N_mono (Kd.N_far (p := ⟨gb236, 0, none⟩) (Kd.N_mono HO235.out (fun k_ hk => (⟨hk, hk.2⟩ : _ ∧ k_ ≠ gb236))) (fun _ hk => hk.2) (.slice Ao24 x233.length co24)) (fun _ hk => ⟨hk.1.1, hk.1.2⟩)⟩
      have n1_ : Aside0 ((w23.setCell ⟨gb236, 0, none⟩ (.slice Ao24 x233.length co24)).heap[gb230]? = some (.cells #[.slice A0_0 l0_0.length c0_0] 24 (0, 0))) := ⟨by refine Zbk ?_; refine blk_far ?_ NB230_236.out _; refine Zbk ?_; exact BK230.out⟩
      have n2_ : Aside0 ((w23.setCell ⟨gb236, 0, none⟩ (.slice Ao24 x233.length co24)).heap[gb236]? = some (.cells #[.slice Ao24 x233.length co24] 24 (0, 0))) := ⟨by refine Zbk ?_; refine blk_put (cs := #[.slice none 0 0]) ?_ 0 _ rfl; refine Zbk ?_; exact BK236.out⟩
      have n3_ : Aside0 (Below w.heap.size w (w23.setCell ⟨gb236, 0, none⟩ (.slice Ao24 x233.length co24))) := ⟨Zh2 HB.out GE230.out GE236.out⟩
      (try clear HO235)
      (try clear BK230)
      (try clear BK236)
      (try clear HB)
      generalize (w23.setCell ⟨gb236, 0, none⟩ (.slice Ao24 x233.length co24)) = w27 at n0_ n1_ n2_ n3_ ⊢
      have HO235 := n0_
      have BK230 := n1_
      have BK236 := n2_
      have HB := n3_
      clear n0_ n1_ n2_ n3_
      obtain ⟨gx, ea⟩ : ∃ gx, Ao24 = some ⟨gx, 0, none⟩ := by
       obtain ⟨ad, ea, _⟩ := (Kd.N_reads' HO235.out).2.2.2.2 (by omega)
       subst ea
       obtain ⟨_, rows, _, hR, _⟩ := HO235.out
       obtain ⟨g, rfl⟩ := Kd.R_head hR
       exact ⟨g, rfl⟩
      subst ea
      unfold debuggerlaw25_MemoryRight.m at Am
      rw [if_neg cx] at Am
      obtain ⟨i, hmi, Am⟩ := Option.bind_eq_some_iff.mp Am
      obtain ⟨n, hmn, Am⟩ := Option.bind_eq_some_iff.mp Am
      replace Am : (if (0 ≤ i ∧ i < (x233.length : Int)) ∧ (0 ≤ n ∧ n.toNat ≤ (rd_T31 x233 i).f1.length ∧ 0 < (rd_T31 x233 i).f1.length) then some (x233.set i.toNat ⟨a3, (rd_T31 x233 i).f1.take n.toNat⟩) else none) = some t233 := Am
      have cc : (0 ≤ i ∧ i < (x233.length : Int)) ∧ (0 ≤ n ∧ n.toNat ≤ (rd_T31 x233 i).f1.length ∧ 0 < (rd_T31 x233 i).f1.length) := by
       by_cases h_ : (0 ≤ i ∧ i < (x233.length : Int)) ∧ (0 ≤ n ∧ n.toNat ≤ (rd_T31 x233 i).f1.length ∧ 0 < (rd_T31 x233 i).f1.length)
       ·exact h_
       ·rw [if_neg h_] at Am
        cases Am
      rw [if_pos cc] at Am
      have ht := Zw (Option.some.inj Am)
      have AI := Aside0.mk hmi
      have AN := Aside0.mk hmn
      clear hmi hmn Am
      obtain ⟨⟨ci0, ci1⟩, cn0, cn1, cn2⟩ := cc
      have hx_0 : w27.cell? ⟨gb236, 0, none⟩ = some (.slice (some ⟨gx, 0, none⟩) x233.length co24) := (blk_cell BK236.out 0).trans rfl
      have pi0 := eq_true ci0
      have qi0 := eq_true ci1
      have hne27 := World.new_ne w27 _ hx_0
      go_region_held3 (fun w' => w'.cell? ⟨gb236, 0, none⟩ = some (.slice (some ⟨gx, 0, none⟩) x233.length co24)) (go_keep)
       (first | (go_at_call 13; (with_reducible refine (debuggerkit_Mod.calls a2 (x233.length : Int) i _ AI.out).mono ?_); rintro e w9 ⟨rfl, hb⟩; have n0_ := Zw (Kd.N_below (ZN HO235.out) hb); have n1_ := Zw (blk_below (g := gb230) (o := .cells #[.slice A0_0 l0_0.length c0_0] 24 (0, 0)) (Zb BK230.out) hb); have n2_ := Zw (blk_below (g := gb236) (o := .cells #[.slice (some ⟨gx, 0, none⟩) x233.length co24] 24 (0, 0)) (Zb BK236.out) hb); have n3_ := Zw (below_step (Zh2 HB.out GE230.out GE236.out) hb); clear HO235 BK230 BK236 HB; have HO235 := n0_; have BK230 := n1_; have BK236 := n2_; have HB := n3_; clear n0_ n1_ n2_ n3_; have hc9 : w9.cell? ⟨gb236, 0, none⟩ = some (.slice (some ⟨gx, 0, none⟩) x233.length co24) := (blk_cell BK236.out 0).trans rfl; have hn9 := World.new_ne w9 _ hc9; clear hb))
      have hok : ∀ k_ : Nat, (k_ ≠ gb230 ∧ k_ ≠ gb236) → True := fun _ _ => trivial
      have hgxw : w.heap.size ≤ (⟨gx, i.toNat * 2, none⟩ : Addr).block := Kd.N_base HO235.out gx rfl
      have ng230 : gb230 ≠ gx := fun e_ => (Kd.N_away (g := gb230) HO235.out (fun _ hk => hk.1)) (by rw [e_]; rfl)
      have ng236 : gb236 ≠ gx := fun e_ => (Kd.N_away (g := gb236) HO235.out (fun _ hk => hk.2)) (by rw [e_]; rfl)
      obtain ⟨cx_, hcl, hF, hcc, hfr⟩ := Kd.N_elem HO235.out z31 i ci0 ci1
      obtain ⟨A1x, c1x, hcx, hl1, hF1⟩ := k31_openF (x := rd_T31 x233 i) hF
      subst hcx
      have hcx0 : w9.cell? ⟨gx, i.toNat * 2, none⟩ = some (.int .i64 (rd_T31 x233 i).f0) := hcc 0 _ rfl
      have hfx0 : w9.frozen? ⟨gx, i.toNat * 2, none⟩ = false := hfr 0
      have hM1 : Kd.FK k31 w9 (fun k_ => (k_ ≠ gb230 ∧ k_ ≠ gb236) ∧ k_ ≠ gx) (⟨a3, (rd_T31 x233 i).f1⟩ : S31) [.int .i64 a3, .slice A1x (rd_T31 x233 i).f1.length c1x] := fun W' hW => k31_mk W' (⟨a3, (rd_T31 x233 i).f1⟩ : S31) hl1 (hF1 W' hW)
      have hs1 := (Kd.N_seg HO235.out i ci0 ci1 (c := [.int .i64 (rd_T31 x233 i).f0, .slice A1x (rd_T31 x233 i).f1.length c1x]) (seg := [.int .i64 a3]) (j := 0) rfl hcc (show 0 + 1 ≤ 2 by decide) (x' := (⟨a3, (rd_T31 x233 i).f1⟩ : S31)) hM1 (fun _ hk => hk)).1
      replace hs1 : Kd.N k31 31 (w9.setCell ⟨gx, i.toNat * 2, none⟩ (.int .i64 a3)) w.heap.size (fun k_ => k_ ≠ gb230 ∧ k_ ≠ gb236) (.slice (some ⟨gx, 0, none⟩) x233.length co24) (x233.set i.toNat (⟨a3, (rd_T31 x233 i).f1⟩ : S31)) := hs1
      have n1_ := blk_far BK230.out (p := ⟨gx, i.toNat * 2, none⟩) ng230 (.int .i64 a3)
      have n2_ := blk_far BK236.out (p := ⟨gx, i.toNat * 2, none⟩) ng236 (.int .i64 a3)
      have n3_ : Below w.heap.size w (w9.setCell ⟨gx, i.toNat * 2, none⟩ (.int .i64 a3)) := below_set HB.out hgxw
      go_upto_region 8 with (fail)
      clear HO235 BK230 BK236 HB hcx0 hfx0 hc9 hn9 hcc hfr hF hM1 hl1 hF1
      generalize (w9.setCell ⟨gx, i.toNat * 2, none⟩ (.int .i64 a3)) = w7 at hs1 n1_ n2_ n3_ ⊢
      have HO235 := Aside0.mk hs1
      have BK230 := Aside0.mk n1_
      have BK236 := Aside0.mk n2_
      have HB := Aside0.mk n3_
      clear hs1 n1_ n2_ n3_
      have hil : i.toNat < x233.length := by omega
      have hel : rd_T31 (x233.set i.toNat (⟨a3, (rd_T31 x233 i).f1⟩ : S31)) i = (⟨a3, (rd_T31 x233 i).f1⟩ : S31) := by
       unfold rd_T31
       rw [List.getD_eq_getElem?_getD, List.getElem?_set_self hil]
       rfl
      have hlen7 : (x233.set i.toNat (⟨a3, (rd_T31 x233 i).f1⟩ : S31)).length = x233.length := List.length_set
      obtain ⟨cy, hcl7, hF7, hcc7, hfr7⟩ := Kd.N_elem HO235.out z31 i ci0 ci1
      replace hF7 : Kd.FK k31 w7 (fun k_ => (k_ ≠ gb230 ∧ k_ ≠ gb236) ∧ k_ ≠ gx) (⟨a3, (rd_T31 x233 i).f1⟩ : S31) cy := by
       rw [← hel]
       exact hF7
      obtain ⟨A7, c7x, hcx7, hl7, hFF7⟩ := k31_openF (x := (⟨a3, (rd_T31 x233 i).f1⟩ : S31)) hF7
      subst hcx7
      obtain ⟨adx, rfl, _⟩ := (hFF7 w7 (fun _ _ _ => rfl)).2.2 cn2
      have hcy : w7.cell? ⟨gx, i.toNat * 2 + 1, none⟩ = some (.slice (some adx) (rd_T31 x233 i).f1.length c7x) := hcc7 1 _ rfl
      have hfy : w7.frozen? ⟨gx, i.toNat * 2 + 1, none⟩ = false := hfr7 1
      have hny := World.new_ne w7 _ hcy
      replace hl7 : (rd_T31 x233 i).f1.length ≤ c7x := hl7
      have cn3 : n ≤ (c7x : Int) := by omega
      have pn0 := eq_true cn0
      have pn1 := eq_true cn3
      clear hF7 hcc7 hfr7 hFF7 hcl7
      have n0_ := Zw (Kd.N_drew HO235.out)
      have n1_ := Zw (blk_drew BK230.out)
      have n2_ := Zw (blk_drew BK236.out)
      have n3_ := Zw (below_drew1 HB.out)
      clear HO235 BK230 BK236 HB
      have HO235 := n0_
      have BK230 := n1_
      have BK236 := n2_
      have HB := n3_
      clear n0_ n1_ n2_ n3_
      refine start_ (n := 11) (S := fun w' => w'.cell? ⟨gx, i.toNat * 2 + 1, none⟩ = some (.slice (some adx) (rd_T31 x233 i).f1.length c7x)) (ds := [10]) #[false, false, false, false, false, false, false, false, false, false, false] (by kernel_rfl) rfl rfl hcy (fun hHeld => ?_); refine with_tabW debuggerlaw25_MemoryRight.tab8 debuggerlaw25_MemoryRight.bits8 (fun HT_ HW_ => ?_)
      have hcy' : w7.drew.cell? ⟨gx, i.toNat * 2 + 1, none⟩ = some (.slice (some adx) (rd_T31 x233 i).f1.length c7x) := hcy
      generalize w7.drew = w8 at HO235 BK230 BK236 HB hcy' hHeld ⊢
      refine pure_ (i := 0) (N := some 35) (v := ?_) (a' := ?_) #[true, false, false, false, false, false, false, false, false, false, false] rfl rfl (any_of HT_.out (by kernel_rfl)) (fun _ _ _ h => h) (Or.inl ⟨by rfl, ?_⟩) ?_ ?_
      rotate_left
      ·intro w'
       go_simp
       with_reducible rfl
      rotate_left
      ·simp only [Act.put, zsA, zsZ, zsS, i64_w, i32_w]
       rfl
      refine pure_ (i := 1) (N := some 36) (v := ?_) (a' := ?_) #[true, true, false, false, false, false, false, false, false, false, false] rfl rfl (any_of HT_.out (by kernel_rfl)) (fun _ _ _ h => h) (Or.inl ⟨by rfl, ?_⟩) ?_ ?_
      rotate_left
      ·intro w'
       go_simp
       with_reducible rfl
      rotate_left
      ·simp only [Act.put, zsA, zsZ, zsS, i64_w, i32_w]
       rfl
      refine pure_ (i := 2) (N := some 37) (v := ?_) (a' := ?_) #[true, true, true, false, false, false, false, false, false, false, false] rfl rfl (any_of HT_.out (by kernel_rfl)) (fun _ _ _ h => h) (Or.inl ⟨by rfl, ?_⟩) ?_ ?_
      rotate_left
      ·intro w'
       go_simp
       with_reducible rfl
      rotate_left
      ·simp only [Act.put, zsA, zsZ, zsS, i64_w, i32_w]
       rfl
      refine pure_ (i := 3) (N := some 38) (v := ?_) (a' := ?_) #[true, true, true, true, false, false, false, false, false, false, false] rfl rfl (any_of HT_.out (by kernel_rfl)) (fun _ _ _ h => h) (Or.inl ⟨by rfl, ?_⟩) ?_ ?_
      rotate_left
      ·intro w'
       go_simp
       with_reducible rfl
      rotate_left
      ·simp only [Act.put, zsA, zsZ, zsS, i64_w, i32_w]
       rfl
      refine pure_ (i := 5) (N := some 40) (v := ?_) (a' := ?_) #[true, true, true, true, false, true, false, false, false, false, false] rfl rfl (any_of HT_.out (by kernel_rfl)) (fun _ _ _ h => h) (Or.inl ⟨by rfl, ?_⟩) ?_ ?_
      rotate_left
      ·intro w'
       go_simp
       with_reducible rfl
      rotate_left
      ·simp only [Act.put, zsA, zsZ, zsS, i64_w, i32_w]
       rfl
      refine take_ (i := 4) (N := some 39) (v := ?_) (a' := ?_) #[true, true, true, true, true, true, false, false, false, false, false] rfl rfl (take_ofW HT_.out HW_.out (by kernel_rfl)) (fun _ _ _ h => h) (Or.inl ⟨by rfl, ?_⟩) hHeld ?_ ?_
      rotate_left
      ·rintro w' s0
       go_simp
       with_reducible rfl
      rotate_left
      ·simp only [Act.put, zsA, zsZ, zsS, i64_w, i32_w]
       rfl
      refine one_ (i := 6) (N := some 41) #[true, true, true, true, true, true, true, false, false, false, false] rfl rfl (one_of HT_.out (by kernel_rfl)) (by decide) (fun K hK => ?_)
      refine goes_ Try.func13 (by kernel_rfl) rfl #[.int .i64 a4, .int .i64 65] (by rfl) rfl rfl Zm ?_
      with_reducible refine (debuggerkit_Mod.calls a4 65 n _ AN.out).mono ?_
      rintro e w10 ⟨rfl, hb⟩
      refine ⟨_, rfl, ?_⟩
      have n0_ := Zw (Kd.N_below (ZN HO235.out) hb)
      have n1_ := Zw (blk_below (g := gb230) (o := .cells #[.slice A0_0 l0_0.length c0_0] 24 (0, 0)) (Zb BK230.out) hb)
      have n2_ := Zw (blk_below (g := gb236) (o := .cells #[.slice (some ⟨gx, 0, none⟩) x233.length co24] 24 (0, 0)) (Zb BK236.out) hb)
      have n3_ := Zw (below_step (Zh HB.out) hb)
      clear HO235 BK230 BK236 HB
      have HO235 := n0_
      have BK230 := n1_
      have BK236 := n2_
      have HB := n3_
      clear n0_ n1_ n2_ n3_
      have hc10 : w10.cell? ⟨gx, i.toNat * 2 + 1, none⟩ = some (.slice (some adx) (rd_T31 x233 i).f1.length c7x) := (hb.cell (World.block_lt_of_cell? _ _ hcy')).trans hcy'
      obtain ⟨cz, hcl8, hF8, hcc8, hfr8⟩ := Kd.N_elem HO235.out z31 i ci0 ci1
      have hz10 : w10.frozen? ⟨gx, i.toNat * 2 + 1, none⟩ = false := hfr8 1
      refine hK.out _ _ hc10 (fun hHeld => ?_)
      clear hK K
      refine norm_ (a' := ?_) ?_ ?_
      rotate_left
      ·show Act.put _ (some 41) _ = _
       simp only [Act.put, zsA, zsZ, zsS, i64_w, i32_w]
       rfl
      refine pure_ (i := 7) (N := some 42) (v := ?_) (a' := ?_) #[true, true, true, true, true, true, true, true, false, false, false] rfl rfl (any_of HT_.out (by kernel_rfl)) (fun _ _ _ h => h) (Or.inl ⟨by rfl, ?_⟩) ?_ ?_
      rotate_left
      ·intro w'
       go_simp
       with_reducible rfl
      rotate_left
      ·simp only [Act.put, zsA, zsZ, zsS, i64_w, i32_w]
       rfl
      refine pure_ (i := 8) (N := some 43) (v := ?_) (a' := ?_) #[true, true, true, true, true, true, true, true, true, false, false] rfl rfl (any_of HT_.out (by kernel_rfl)) (fun _ _ _ h => h) (Or.inl ⟨by rfl, ?_⟩) ?_ ?_
      rotate_left
      ·intro w'
       go_simp
       with_reducible rfl
      rotate_left
      ·simp only [Act.put, zsA, zsZ, zsS, i64_w, i32_w]
       rfl
      refine pure_ (i := 9) (N := some 44) (v := ?_) (a' := ?_) #[true, true, true, true, true, true, true, true, true, true, false] rfl rfl (any_of HT_.out (by kernel_rfl)) (fun _ _ _ h => h) (Or.inl ⟨by rfl, ?_⟩) ?_ ?_
      rotate_left
      ·intro w'
       go_simp
       with_reducible rfl
      rotate_left
      ·simp only [Act.put, zsA, zsZ, zsS, i64_w, i32_w]
       rfl
      refine last_ (i := 10) (N := none) #[true, true, true, true, true, true, true, true, true, true, true] rfl rfl (one_of HT_.out (by kernel_rfl)) (by decide) (fun K hK => ?_)
      refine skip_ (w1 := ?_) (by rfl) rfl ?_ ?_
      rotate_left
      ·go_simp
       rfl
      refine hK.out _ _ ?_
      clear hK K
      refine done_ (done_of HT_.out (by kernel_rfl)) ?_
      replace hF8 : Kd.FK k31 w10 (fun k_ => (k_ ≠ gb230 ∧ k_ ≠ gb236) ∧ k_ ≠ gx) (⟨a3, (rd_T31 x233 i).f1⟩ : S31) cz := by
       rw [← hel]
       exact hF8
      obtain ⟨A8x, c8x, hcx8, hl8, hFF8⟩ := k31_openF (x := (⟨a3, (rd_T31 x233 i).f1⟩ : S31)) hF8
      subst hcx8
      have he8 : w10.cell? ⟨gx, i.toNat * 2 + 1, none⟩ = some (.slice A8x (rd_T31 x233 i).f1.length c8x) := hcc8 1 _ rfl
      rw [hc10] at he8
      injection he8 with he8
      injection he8 with he8 _ he9
      subst he8 he9
      have e8 : ((rd_T31 x233 i).f1.take n.toNat).length = n.toNat := by rw [List.length_take]; omega
      have hM2 : Kd.FK k31 w10 (fun k_ => (k_ ≠ gb230 ∧ k_ ≠ gb236) ∧ k_ ≠ gx) (⟨a3, (rd_T31 x233 i).f1.take n.toNat⟩ : S31) [.int .i64 a3, .slice (some adx) n.toNat c7x] := fun W' hW => by
       have h_ : k31.K W' (⟨a3, (rd_T31 x233 i).f1.take n.toNat⟩ : S31) [.int .i64 a3, .slice (some adx) ((rd_T31 x233 i).f1.take n.toNat).length c7x] := k31_mk W' (⟨a3, (rd_T31 x233 i).f1.take n.toNat⟩ : S31) (by show ((rd_T31 x233 i).f1.take n.toNat).length ≤ c7x; omega) (Kd.C_take (hFF8 W' hW) cn1)
       rw [e8] at h_
       exact h_
      have hs2 := (Kd.N_seg HO235.out i ci0 ci1 (c := [.int .i64 a3, .slice (some adx) (rd_T31 x233 i).f1.length c7x]) (seg := [.slice (some adx) n.toNat c7x]) (j := 1) rfl hcc8 (show 1 + 1 ≤ 2 by decide) (x' := (⟨a3, (rd_T31 x233 i).f1.take n.toNat⟩ : S31)) hM2 (fun _ hk => hk)).1
      rw [List.set_set, ht.out] at hs2
      have hlt : t233.length = x233.length := by rw [← ht.out, List.length_set]
      rw [← hlt] at hs2
      replace hs2 : Kd.N k31 31 (w10.setCell ⟨gx, i.toNat * 2 + 1, none⟩ (.slice (some adx) n.toNat c7x)) w.heap.size (fun k_ => k_ ≠ gb230 ∧ k_ ≠ gb236) (.slice (some ⟨gx, 0, none⟩) t233.length co24) t233 := hs2
      have n1_ := blk_far BK230.out (p := ⟨gx, i.toNat * 2 + 1, none⟩) ng230 (.slice (some adx) n.toNat c7x)
      have n2_ := blk_far BK236.out (p := ⟨gx, i.toNat * 2 + 1, none⟩) ng236 (.slice (some adx) n.toNat c7x)
      rw [← hlt] at n2_
      have n3_ : Below w.heap.size w (w10.setCell ⟨gx, i.toNat * 2 + 1, none⟩ (.slice (some adx) n.toNat c7x)) := below_set HB.out hgxw
      clear HO235 BK230 BK236 HB
      generalize (w10.setCell ⟨gx, i.toNat * 2 + 1, none⟩ (.slice (some adx) n.toNat c7x)) = w27 at hs2 n1_ n2_ n3_ ⊢
      have HO235 := Aside0.mk hs2
      have BK230 := Aside0.mk n1_
      have BK236 := Aside0.mk n2_
      have HB := Aside0.mk n3_
      clear hs2 n1_ n2_ n3_ hcy hfy hny hcy' hc10 hcc8 hfr8 hF8 hFF8 hM2 hz10 hl7 hl8 cxb0 cxb1 pi0 qi0 pn0 pn1 hHeld HT_ HW_ hlt hel hlen7 hil e8
      try go_wp2
      have n0_ := Zw (Kd.N_drew HO235.out)
      have n1_ := Zw (blk_drew BK230.out)
      have n2_ := Zw (blk_drew BK236.out)
      have n3_ := Zw (below_drew1 HB.out)
      clear HO235
      clear BK230
      clear BK236
      clear HB
      have HO235 := n0_
      have BK230 := n1_
      have BK236 := n2_
      have HB := n3_
      clear n0_ n1_ n2_ n3_
      refine start_ (n := 21) (S := fun w' => w'.cell? ⟨gb230, 0, none⟩ = some (.slice A0_0 l0_0.length c0_0) ∧ w'.cell? ⟨gb236, 0, none⟩ = some (.slice (some ⟨gx, 0, none⟩) t233.length co24)) (ds := []) #[false, false, false, false, false, false, false, false, false, false, false, false, false, false, false, false, false, false, false, false, false] (by kernel_rfl) rfl rfl ⟨(blk_cell BK230.out 0).trans rfl, (blk_cell BK236.out 0).trans rfl⟩ (fun hHeld => ?_); refine with_tabW debuggerlaw25_MemoryRight.tab9 debuggerlaw25_MemoryRight.bits9 (fun HT_ HW_ => ?_)
      generalize w27.drew = w28 at HO235 BK230 BK236 HB hHeld ⊢
      refine take_ (i := 0) (N := some 45) (v := ?_) (a' := ?_) #[true, false, false, false, false, false, false, false, false, false, false, false, false, false, false, false, false, false, false, false, false] rfl rfl (take_ofW HT_.out HW_.out (by kernel_rfl)) (fun _ _ _ h => h) (Or.inl ⟨by rfl, ?_⟩) hHeld ?_ ?_
      rotate_left
      ·rintro w' ⟨s0, s1⟩
       go_simp
       with_reducible rfl
      rotate_left
      ·simp only [Act.put, zsA, zsZ, zsS, i64_w, i32_w]
       rfl
      refine take_ (i := 2) (N := some 47) (v := ?_) (a' := ?_) #[true, false, true, false, false, false, false, false, false, false, false, false, false, false, false, false, false, false, false, false, false] rfl rfl (take_ofW HT_.out HW_.out (by kernel_rfl)) (fun _ _ _ h => h) (Or.inl ⟨by rfl, ?_⟩) hHeld ?_ ?_
      rotate_left
      ·rintro w' ⟨s0, s1⟩
       go_simp
       with_reducible rfl
      rotate_left
      ·simp only [Act.put, zsA, zsZ, zsS, i64_w, i32_w]
       rfl
      refine one_ (i := 1) (N := some 46) #[true, true, true, false, false, false, false, false, false, false, false, false, false, false, false, false, false, false, false, false, false] rfl rfl (one_of HT_.out (by kernel_rfl)) (by decide) (fun K hK => ?_)
      refine goes_ Try.func14 (by kernel_rfl) rfl #[.agg #[.slice A0_0 l0_0.length c0_0]] (by rfl) rfl rfl Zm ?_
      with_reducible refine (memory_Right.calls k _ _ l0_0 t237 _ ?side1 ?side2 A9.out).mono ?_
      (case side1 => exact Zc (Kd.C_below HR0_0.out HB.out))
      (case side2 => exact HC0_0.out)
      rintro e w29 ⟨rfl, hb⟩
      refine ⟨_, rfl, ?_⟩
      have n0_ := Zw (Kd.N_below (ZN HO235.out) hb)
      have n1_ := Zw (blk_below (g := gb230) (o := .cells #[.slice A0_0 l0_0.length c0_0] 24 (0, 0)) (Zb BK230.out) hb)
      have n2_ := Zw (blk_below (g := gb236) (o := .cells #[.slice (some ⟨gx, 0, none⟩) t233.length co24] 24 (0, 0)) (Zb BK236.out) hb)
      have n3_ := Zw (below_step (Zh2 HB.out GE230.out GE236.out) hb)
      clear HO235
      clear BK230
      clear BK236
      clear HB
      have HO235 := n0_
      have BK230 := n1_
      have BK236 := n2_
      have HB := n3_
      clear n0_ n1_ n2_ n3_
      (try clear hb)
      (try clear hb2)
      (try clear hk)
      (try clear hi)
      refine hK.out _ _ ⟨(blk_cell BK230.out 0).trans rfl, (blk_cell BK236.out 0).trans rfl⟩ (fun hHeld => ?_)
      clear hK K
      refine norm_ (a' := ?_) ?_ ?_
      rotate_left
      ·show Act.put _ (some 46) _ = _
       simp only [Act.put, zsA, zsZ, zsS, i64_w, i32_w]
       rfl
      refine one_ (i := 3) (N := some 48) #[true, true, true, true, false, false, false, false, false, false, false, false, false, false, false, false, false, false, false, false, false] rfl rfl (one_of HT_.out (by kernel_rfl)) (by decide) (fun K hK => ?_)
      refine goes_ Try.func15 (by kernel_rfl) rfl #[.agg #[.slice A0_0 l0_0.length c0_0]] (by rfl) rfl rfl Zm ?_
      with_reducible refine (debuggerref25_Right.calls k _ _ l0_0 t238 _ ?side1 ?side2 A10.out).mono ?_
      (case side1 => exact Zc (Kd.C_below HR0_0.out HB.out))
      (case side2 => exact HC0_0.out)
      rintro e w30 ⟨rfl, hb⟩
      refine ⟨_, rfl, ?_⟩
      have n0_ := Zw (Kd.N_below (ZN HO235.out) hb)
      have n1_ := Zw (blk_below (g := gb230) (o := .cells #[.slice A0_0 l0_0.length c0_0] 24 (0, 0)) (Zb BK230.out) hb)
      have n2_ := Zw (blk_below (g := gb236) (o := .cells #[.slice (some ⟨gx, 0, none⟩) t233.length co24] 24 (0, 0)) (Zb BK236.out) hb)
      have n3_ := Zw (below_step (Zh2 HB.out GE230.out GE236.out) hb)
      clear HO235
      clear BK230
      clear BK236
      clear HB
      have HO235 := n0_
      have BK230 := n1_
      have BK236 := n2_
      have HB := n3_
      clear n0_ n1_ n2_ n3_
      (try clear hb)
      (try clear hb2)
      (try clear hk)
      (try clear hi)
      refine hK.out _ _ ⟨(blk_cell BK230.out 0).trans rfl, (blk_cell BK236.out 0).trans rfl⟩ (fun hHeld => ?_)
      clear hK K
      refine norm_ (a' := ?_) ?_ ?_
      rotate_left
      ·show Act.put _ (some 48) _ = _
       simp only [Act.put, zsA, zsZ, zsS, i64_w, i32_w]
       rfl
      refine pure_ (i := 4) (N := some 49) (v := ?_) (a' := ?_) #[true, true, true, true, true, false, false, false, false, false, false, false, false, false, false, false, false, false, false, false, false] rfl rfl (any_of HT_.out (by kernel_rfl)) (fun _ _ _ h => h) (Or.inl ⟨by rfl, ?_⟩) ?_ ?_
      rotate_left
      ·intro w'
       go_simp
       with_reducible rfl
      rotate_left
      ·simp only [Act.put, zsA, zsZ, zsS, i64_w, i32_w]
       rfl
      refine pure_ (i := 5) (N := some 50) (v := ?_) (a' := ?_) #[true, true, true, true, true, true, false, false, false, false, false, false, false, false, false, false, false, false, false, false, false] rfl rfl (any_of HT_.out (by kernel_rfl)) (fun _ _ _ h => h) (Or.inl ⟨by rfl, ?_⟩) ?_ ?_
      rotate_left
      ·intro w'
       go_simp
       with_reducible rfl
      rotate_left
      ·simp only [Act.put, zsA, zsZ, zsS, i64_w, i32_w]
       rfl
      refine take_ (i := 6) (N := some 51) (v := ?_) (a' := ?_) #[true, true, true, true, true, true, true, false, false, false, false, false, false, false, false, false, false, false, false, false, false] rfl rfl (take_ofW HT_.out HW_.out (by kernel_rfl)) (fun _ _ _ h => h) (Or.inl ⟨by rfl, ?_⟩) hHeld ?_ ?_
      rotate_left
      ·rintro w' ⟨s0, s1⟩
       go_simp
       with_reducible rfl
      rotate_left
      ·simp only [Act.put, zsA, zsZ, zsS, i64_w, i32_w]
       rfl
      refine take_ (i := 8) (N := some 53) (v := ?_) (a' := ?_) #[true, true, true, true, true, true, true, false, true, false, false, false, false, false, false, false, false, false, false, false, false] rfl rfl (take_ofW HT_.out HW_.out (by kernel_rfl)) (fun _ _ _ h => h) (Or.inl ⟨by rfl, ?_⟩) hHeld ?_ ?_
      rotate_left
      ·rintro w' ⟨s0, s1⟩
       go_simp
       with_reducible rfl
      rotate_left
      ·simp only [Act.put, zsA, zsZ, zsS, i64_w, i32_w]
       rfl
      refine one_ (i := 7) (N := some 52) #[true, true, true, true, true, true, true, true, true, false, false, false, false, false, false, false, false, false, false, false, false] rfl rfl (one_of HT_.out (by kernel_rfl)) (by decide) (fun K hK => ?_)
      refine goes_ Try.func14 (by kernel_rfl) rfl #[.agg #[.slice (some ⟨gx, 0, none⟩) t233.length co24]] (by rfl) rfl rfl Zm ?_
      with_reducible refine (memory_Right.calls k _ _ t233 t239 _ ?side1 ?side2 A12.out).mono ?_
      (case side1 => exact Zc ((Kd.N_reads' HO235.out).2.2))
      (case side2 => exact (Kd.N_reads' HO235.out).2.1)
      rintro e w31 ⟨rfl, hb⟩
      refine ⟨_, rfl, ?_⟩
      have n0_ := Zw (Kd.N_below (ZN HO235.out) hb)
      have n1_ := Zw (blk_below (g := gb230) (o := .cells #[.slice A0_0 l0_0.length c0_0] 24 (0, 0)) (Zb BK230.out) hb)
      have n2_ := Zw (blk_below (g := gb236) (o := .cells #[.slice (some ⟨gx, 0, none⟩) t233.length co24] 24 (0, 0)) (Zb BK236.out) hb)
      have n3_ := Zw (below_step (Zh2 HB.out GE230.out GE236.out) hb)
      clear HO235
      clear BK230
      clear BK236
      clear HB
      have HO235 := n0_
      have BK230 := n1_
      have BK236 := n2_
      have HB := n3_
      clear n0_ n1_ n2_ n3_
      (try clear hb)
      (try clear hb2)
      (try clear hk)
      (try clear hi)
      refine hK.out _ _ ⟨(blk_cell BK230.out 0).trans rfl, (blk_cell BK236.out 0).trans rfl⟩ (fun hHeld => ?_)
      clear hK K
      refine norm_ (a' := ?_) ?_ ?_
      rotate_left
      ·show Act.put _ (some 52) _ = _
       simp only [Act.put, zsA, zsZ, zsS, i64_w, i32_w]
       rfl
      refine one_ (i := 9) (N := some 54) #[true, true, true, true, true, true, true, true, true, true, false, false, false, false, false, false, false, false, false, false, false] rfl rfl (one_of HT_.out (by kernel_rfl)) (by decide) (fun K hK => ?_)
      refine goes_ Try.func15 (by kernel_rfl) rfl #[.agg #[.slice (some ⟨gx, 0, none⟩) t233.length co24]] (by rfl) rfl rfl Zm ?_
      with_reducible refine (debuggerref25_Right.calls k _ _ t233 t240 _ ?side1 ?side2 A13.out).mono ?_
      (case side1 => exact Zc ((Kd.N_reads' HO235.out).2.2))
      (case side2 => exact (Kd.N_reads' HO235.out).2.1)
      rintro e w32 ⟨rfl, hb⟩
      refine ⟨_, rfl, ?_⟩
      have n0_ := Zw (Kd.N_below (ZN HO235.out) hb)
      have n1_ := Zw (blk_below (g := gb230) (o := .cells #[.slice A0_0 l0_0.length c0_0] 24 (0, 0)) (Zb BK230.out) hb)
      have n2_ := Zw (blk_below (g := gb236) (o := .cells #[.slice (some ⟨gx, 0, none⟩) t233.length co24] 24 (0, 0)) (Zb BK236.out) hb)
      have n3_ := Zw (below_step (Zh2 HB.out GE230.out GE236.out) hb)
      clear HO235
      clear BK230
      clear BK236
      clear HB
      have HO235 := n0_
      have BK230 := n1_
      have BK236 := n2_
      have HB := n3_
      clear n0_ n1_ n2_ n3_
      (try clear hb)
      (try clear hb2)
      (try clear hk)
      (try clear hi)
      refine hK.out _ _ ⟨(blk_cell BK230.out 0).trans rfl, (blk_cell BK236.out 0).trans rfl⟩ (fun hHeld => ?_)
      clear hK K
      refine norm_ (a' := ?_) ?_ ?_
      rotate_left
      ·show Act.put _ (some 54) _ = _
       simp only [Act.put, zsA, zsZ, zsS, i64_w, i32_w]
       rfl
      refine pure_ (i := 10) (N := some 55) (v := ?_) (a' := ?_) #[true, true, true, true, true, true, true, true, true, true, true, false, false, false, false, false, false, false, false, false, false] rfl rfl (any_of HT_.out (by kernel_rfl)) (fun _ _ _ h => h) (Or.inl ⟨by rfl, ?_⟩) ?_ ?_
      rotate_left
      ·intro w'
       go_simp
       with_reducible rfl
      rotate_left
      ·simp only [Act.put, zsA, zsZ, zsS, i64_w, i32_w]
       rfl
      refine pure_ (i := 11) (N := some 56) (v := ?_) (a' := ?_) #[true, true, true, true, true, true, true, true, true, true, true, true, false, false, false, false, false, false, false, false, false] rfl rfl (any_of HT_.out (by kernel_rfl)) (fun _ _ _ h => h) (Or.inl ⟨by rfl, ?_⟩) ?_ ?_
      rotate_left
      ·intro w'
       go_simp
       with_reducible rfl
      rotate_left
      ·simp only [Act.put, zsA, zsZ, zsS, i64_w, i32_w]
       rfl
      refine pure_ (i := 12) (N := some 57) (v := ?_) (a' := ?_) #[true, true, true, true, true, true, true, true, true, true, true, true, true, false, false, false, false, false, false, false, false] rfl rfl (any_of HT_.out (by kernel_rfl)) (fun _ _ _ h => h) (Or.inl ⟨by rfl, ?_⟩) ?_ ?_
      rotate_left
      ·intro w'
       go_simp
       with_reducible rfl
      rotate_left
      ·simp only [Act.put, zsA, zsZ, zsS, i64_w, i32_w]
       rfl
      refine pure_ (i := 13) (N := some 58) (v := ?_) (a' := ?_) #[true, true, true, true, true, true, true, true, true, true, true, true, true, true, false, false, false, false, false, false, false] rfl rfl (any_of HT_.out (by kernel_rfl)) (fun _ _ _ h => h) (Or.inl ⟨by rfl, ?_⟩) ?_ ?_
      rotate_left
      ·intro w'
       go_simp
       with_reducible rfl
      rotate_left
      ·simp only [Act.put, zsA, zsZ, zsS, i64_w, i32_w]
       rfl
      refine one_ (i := 14) (N := some 59) #[true, true, true, true, true, true, true, true, true, true, true, true, true, true, true, false, false, false, false, false, false] rfl rfl (one_of HT_.out (by kernel_rfl)) (by decide) (fun K hK => ?_)
      refine goes_ Try.func12 (by kernel_rfl) rfl #[.slice A1 l1.length c1] (by rfl) rfl rfl Zm ?_
      with_reducible refine (debuggerlaw25_some.calls k _ _ l1 t241 _ ?side1 ?side2 A15.out).mono ?_
      (case side1 => exact Zc (Kd.C_below HR1.out HB.out))
      (case side2 => exact HC1.out)
      rintro e w33 ⟨v242, rfl, ho0, hb⟩
      refine ⟨_, rfl, ?_⟩
      have n0_ := Zw (Kd.N_elder' (ZN HO235.out) (by first | exact Kd.N_base ho0 | exact Kd.S_base ho0 | exact Kd.R_base ho0 | exact Kd.N_base ho0) hb)
      have n1_ := Zw (Kd.N_lower (Kd.N_mono (ok' := fun k_ => some k_ ≠ (.slice (some ⟨gx, 0, none⟩) t233.length co24 : Value).ownBlock ∧ k_ ≠ gb230 ∧ k_ ≠ gb236) ho0 (fun k_ hk_ => ⟨(Kd.fresh' (Kd.N_lt (ZN HO235.out)) k_ hk_), (Kd.freshB (g := gb230) (o := .cells #[.slice A0_0 l0_0.length c0_0] 24 (0, 0)) (Zb BK230.out) k_ hk_), (Kd.freshB (g := gb236) (o := .cells #[.slice (some ⟨gx, 0, none⟩) t233.length co24] 24 (0, 0)) (Zb BK236.out) k_ hk_)⟩)) (below_size (Zh2 HB.out GE230.out GE236.out)))
      have n2_ := Zw (blk_below (g := gb230) (o := .cells #[.slice A0_0 l0_0.length c0_0] 24 (0, 0)) (Zb BK230.out) hb)
      have n3_ := Zw (blk_below (g := gb236) (o := .cells #[.slice (some ⟨gx, 0, none⟩) t233.length co24] 24 (0, 0)) (Zb BK236.out) hb)
      have n4_ := Zw (below_step (Zh2 HB.out GE230.out GE236.out) hb)
      clear HO235
      clear BK230
      clear BK236
      clear HB
      have HO235 := n0_
      have HO243 := n1_
      have BK230 := n2_
      have BK236 := n3_
      have HB := n4_
      clear n0_ n1_ n2_ n3_ n4_
      (try clear hb)
      (try clear hb2)
      (try clear hk)
      (try clear hi)
      (try clear ho0)
      obtain ⟨Ao34, co34, eo34⟩ := Kd.N_slice HO243.out
      (first | subst eo34 | (injection eo34 with f1_ f2_ f3_; have f4_ := f1_.symm; have f5_ := f3_.symm; clear f1_ f2_ f3_; subst f4_; subst f5_))
      refine hK.out _ _ ⟨(blk_cell BK230.out 0).trans rfl, (blk_cell BK236.out 0).trans rfl⟩ (fun hHeld => ?_)
      clear hK K
      refine norm_ (a' := ?_) ?_ ?_
      rotate_left
      ·show Act.put _ (some 59) _ = _
       simp only [Act.put, zsA, zsZ, zsS, i64_w, i32_w]
       rfl
      refine one_ (i := 15) (N := some 60) #[true, true, true, true, true, true, true, true, true, true, true, true, true, true, true, true, false, false, false, false, false] rfl rfl (one_of HT_.out (by kernel_rfl)) (by decide) (fun K hK => ?_)
      refine goes_ Try.func14 (by kernel_rfl) rfl #[.agg #[.slice Ao34 t241.length co34]] (by rfl) rfl rfl Zm ?_
      with_reducible refine (memory_Right.calls k _ _ t241 true _ ?side1 ?side2 A16.out).mono ?_
      (case side1 => exact Zc ((Kd.N_reads' HO243.out).2.2))
      (case side2 => exact (Kd.N_reads' HO243.out).2.1)
      rintro e w35 ⟨rfl, hb⟩
      refine ⟨_, rfl, ?_⟩
      have n0_ := Zw (Kd.N_below (ZN HO235.out) hb)
      have n1_ := Zw (Kd.N_below (ZN HO243.out) hb)
      have n2_ := Zw (blk_below (g := gb230) (o := .cells #[.slice A0_0 l0_0.length c0_0] 24 (0, 0)) (Zb BK230.out) hb)
      have n3_ := Zw (blk_below (g := gb236) (o := .cells #[.slice (some ⟨gx, 0, none⟩) t233.length co24] 24 (0, 0)) (Zb BK236.out) hb)
      have n4_ := Zw (below_step (Zh2 HB.out GE230.out GE236.out) hb)
      clear HO235
      clear HO243
      clear BK230
      clear BK236
      clear HB
      have HO235 := n0_
      have HO243 := n1_
      have BK230 := n2_
      have BK236 := n3_
      have HB := n4_
      clear n0_ n1_ n2_ n3_ n4_
      (try clear hb)
      (try clear hb2)
      (try clear hk)
      (try clear hi)
      refine hK.out _ _ ⟨(blk_cell BK230.out 0).trans rfl, (blk_cell BK236.out 0).trans rfl⟩ (fun hHeld => ?_)
      clear hK K
      refine norm_ (a' := ?_) ?_ ?_
      rotate_left
      ·show Act.put _ (some 60) _ = _
       simp only [Act.put, zsA, zsZ, zsS, i64_w, i32_w]
       rfl
      refine pure_ (i := 16) (N := some 61) (v := ?_) (a' := ?_) #[true, true, true, true, true, true, true, true, true, true, true, true, true, true, true, true, true, false, false, false, false] rfl rfl (any_of HT_.out (by kernel_rfl)) (fun _ _ _ h => h) (Or.inl ⟨by rfl, ?_⟩) ?_ ?_
      rotate_left
      ·intro w'
       go_simp
       with_reducible rfl
      rotate_left
      ·simp only [Act.put, zsA, zsZ, zsS, i64_w, i32_w]
       rfl
      refine pure_ (i := 17) (N := some 62) (v := ?_) (a' := ?_) #[true, true, true, true, true, true, true, true, true, true, true, true, true, true, true, true, true, true, false, false, false] rfl rfl (any_of HT_.out (by kernel_rfl)) (fun _ _ _ h => h) (Or.inl ⟨by rfl, ?_⟩) ?_ ?_
      rotate_left
      ·intro w'
       go_simp
       with_reducible rfl
      rotate_left
      ·simp only [Act.put, zsA, zsZ, zsS, i64_w, i32_w]
       rfl
      refine one_ (i := 18) (N := some 63) #[true, true, true, true, true, true, true, true, true, true, true, true, true, true, true, true, true, true, true, false, false] rfl rfl (one_of HT_.out (by kernel_rfl)) (by decide) (fun K hK => ?_)
      refine goes_ Try.func11 (by kernel_rfl) rfl #[] (by rfl) rfl rfl Zm ?_
      with_reducible refine (debuggerlaw25_awake.calls k  t245 _ A18.out).mono ?_
      rintro e w36 ⟨rfl, hb⟩
      refine ⟨_, rfl, ?_⟩
      have n0_ := Zw (Kd.N_below (ZN HO235.out) hb)
      have n1_ := Zw (Kd.N_below (ZN HO243.out) hb)
      have n2_ := Zw (blk_below (g := gb230) (o := .cells #[.slice A0_0 l0_0.length c0_0] 24 (0, 0)) (Zb BK230.out) hb)
      have n3_ := Zw (blk_below (g := gb236) (o := .cells #[.slice (some ⟨gx, 0, none⟩) t233.length co24] 24 (0, 0)) (Zb BK236.out) hb)
      have n4_ := Zw (below_step (Zh2 HB.out GE230.out GE236.out) hb)
      clear HO235
      clear HO243
      clear BK230
      clear BK236
      clear HB
      have HO235 := n0_
      have HO243 := n1_
      have BK230 := n2_
      have BK236 := n3_
      have HB := n4_
      clear n0_ n1_ n2_ n3_ n4_
      (try clear hb)
      (try clear hb2)
      (try clear hk)
      (try clear hi)
      refine hK.out _ _ ⟨(blk_cell BK230.out 0).trans rfl, (blk_cell BK236.out 0).trans rfl⟩ (fun hHeld => ?_)
      clear hK K
      refine norm_ (a' := ?_) ?_ ?_
      rotate_left
      ·show Act.put _ (some 63) _ = _
       simp only [Act.put, zsA, zsZ, zsS, i64_w, i32_w]
       rfl
      refine pure_ (i := 19) (N := some 64) (v := ?_) (a' := ?_) #[true, true, true, true, true, true, true, true, true, true, true, true, true, true, true, true, true, true, true, true, false] rfl rfl (any_of HT_.out (by kernel_rfl)) (fun _ _ _ h => h) (Or.inl ⟨by rfl, ?_⟩) ?_ ?_
      rotate_left
      ·intro w'
       go_simp
       with_reducible rfl
      rotate_left
      ·simp only [Act.put, zsA, zsZ, zsS, i64_w, i32_w]
       rfl
      refine pure_ (i := 20) (N := some 10) (v := ?_) (a' := ?_) #[true, true, true, true, true, true, true, true, true, true, true, true, true, true, true, true, true, true, true, true, true] rfl rfl (any_of HT_.out (by kernel_rfl)) (fun _ _ _ h => h) (Or.inl ⟨by rfl, ?_⟩) ?_ ?_
      rotate_left
      ·intro w'
       go_simp
       with_reducible rfl
      rotate_left
      ·simp only [Act.put, zsA, zsZ, zsS, i64_w, i32_w]
       rfl
      refine done_ (done_of HT_.out (by kernel_rfl)) ?_
      try go_wp2
      go_ret
      exact ⟨by first | rfl | (simp [errW_none, errW_some] <;> rfl) | (simp [*, errW_none, errW_some] <;> rfl), Zh2 HB.out GE230.out GE236.out⟩
    ·replace c17 := Bool.eq_false_iff.mpr c17
     subst c17
     have H1 : (some false) = some r := by rw [if_neg (show ¬ (false = true) by decide)] at H; exact H
     clear H
     have H := H1
     clear H1
     exact absurd (Option.some.inj (H.trans (congrArg some HT0.out))) (by simp)
   ·rw [if_neg c14] at H
    have c14b0 : (t239 == t240) = false := by simpa using c14
    (try (have c14b1 : decide (t239 = t240) = false := by simpa using c14))
    (try (have c14b2 : (t239 == t240) = false := by simpa using c14))
    (try (have c14b3 : ¬ (t239 = t240) := by simpa using c14))
    clear c14
    exact absurd (Option.some.inj (H.trans (congrArg some HT0.out))) (by simp)
  ·rw [if_neg c11] at H
   have c11b0 : (t237 == t238) = false := by simpa using c11
   (try (have c11b1 : decide (t237 = t238) = false := by simpa using c11))
   (try (have c11b2 : (t237 == t238) = false := by simpa using c11))
   (try (have c11b3 : ¬ (t237 = t238) := by simpa using c11))
   clear c11
   exact absurd (Option.some.inj (H.trans (congrArg some HT0.out))) (by simp)
 ·replace c7 := Bool.eq_false_iff.mpr c7
  subst c7
  have H1 : ((debuggerlaw25_awake.f k).bind fun t232 => (some t232)) = some r := by rw [if_neg (show ¬ (false = true) by decide)] at H; exact H
  clear H
  have H := H1
  clear H1
  replace H := Option.bind_eq_some_iff.mp H
  obtain ⟨t232, A370, H⟩ := H
  replace H : (some t232) = some r := H
  have A37 := Aside0.mk A370
  clear A370
  obtain rfl := Option.some.inj H
  go_enter Try.func3, Try.ntmps3
  go_wp2_with (first | ((with_reducible refine gate_dst (N := 5) rfl ?_); refine box_event ?hg (N := 5) ?hd (cs := #[.slice A0_0 l0_0.length c0_0]) (t := 24) ?hr ?_; (case hd => rfl); (case hg => rfl); (case hr => first | (go_simp; done) | (go_simp; rfl)); intro gb230 hg w38 hbox hb; have n0_ := Zw (below_step (Zh HB.out) hb); have n1_ := Zw (hbox); have n2_ := Zw ((by rw [hg]; exact (below_size (Zh HB.out)) : w.heap.size ≤ gb230)); have n3_ := Zw ((by rw [hg]; exact (below_size (Zh HB.out)) : w.heap.size ≤ gb230)); clear HB; have HB := n0_; have BK230 := n1_; have GW230 := n2_; have GE230 := n3_; clear n0_ n1_ n2_ n3_; clear hb hbox hg; have hcz39_0 := Zcl BK230.out 0 rfl; have hfz39_0 := blk_frozen BK230.out 0) | ((with_reducible refine gate_callee (f := 10) rfl ?_); refine goesL_ (some 15) rfl rfl Try.func10 (by kernel_rfl) rfl #[.agg #[.slice A0_0 l0_0.length c0_0]] rfl Zm ?_; (with_reducible refine (debuggerlaw25_small.calls k _ _ l0_0 false _ ?side1 ?side2 A6.out).mono ?_); (case side1 => exact Zc (Kd.C_below HR0_0.out HB.out)); (case side2 => exact HC0_0.out); rintro e w40 ⟨rfl, hb⟩; refine ⟨_, rfl, ?_⟩; have n0_ := Zw (blk_below (g := gb230) (o := .cells #[.slice A0_0 l0_0.length c0_0] 24 (0, 0)) (Zb BK230.out) hb); have n1_ := Zw (below_step (Zh1 HB.out GE230.out) hb); clear BK230; clear HB; have BK230 := n0_; have HB := n1_; clear n0_ n1_; (try clear hb); (try clear hb2); (try clear hk); (try clear hi)) | ((with_reducible refine gate_callee (f := 11) rfl ?_); refine goesL_ (some 17) rfl rfl Try.func11 (by kernel_rfl) rfl #[] rfl Zm ?_; (with_reducible refine (debuggerlaw25_awake.calls k  t232 _ A37.out).mono ?_); rintro e w41 ⟨rfl, hb⟩; refine ⟨_, rfl, ?_⟩; have n0_ := Zw (blk_below (g := gb230) (o := .cells #[.slice A0_0 l0_0.length c0_0] 24 (0, 0)) (Zb BK230.out) hb); have n1_ := Zw (below_step (Zh1 HB.out GE230.out) hb); clear BK230; clear HB; have BK230 := n0_; have HB := n1_; clear n0_ n1_; (try clear hb); (try clear hb2); (try clear hk); (try clear hi)))
  go_ret
  exact ⟨by first | rfl | (simp [errW_none, errW_some] <;> rfl) | (simp [*, errW_none, errW_some] <;> rfl), Zh1 HB.out GE230.out⟩

end Go.Proofs.Ytpifepaflljolaa.PMem
