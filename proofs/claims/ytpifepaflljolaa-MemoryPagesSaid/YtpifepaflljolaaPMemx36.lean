-- By wip/xprint.py (a driver of this session's over the kit's print), for this claim.
import Derived.Test.YtpifepaflljolaaPMemx0
import Derived.Test.YtpifepaflljolaaPMemx9
import Derived.Test.YtpifepaflljolaaPMemx10
import Derived.Test.YtpifepaflljolaaPMemx11
import Derived.Test.YtpifepaflljolaaPMemx14
import Derived.Test.YtpifepaflljolaaPMemx16
import Derived.Test.YtpifepaflljolaaPMemx18
import Derived.Test.YtpifepaflljolaaPMemx19
import Derived.Test.YtpifepaflljolaaPMemx30
import Derived.Test.YtpifepaflljolaaPMemx31
import Derived.Test.YtpifepaflljolaaPMemx33
import Derived.Test.YtpifepaflljolaaPMemx35
namespace Go.Proofs.Ytpifepaflljolaa.PMem
open Go.RowKit Go.Proofs.YtpifepaflljolaaW.PrintWords Go.Proofs.YtpifepaflljolaaW.PrintLast Go.Proofs.YtpifepaflljolaaW.PrintMore
attribute [local go_sem] max2_int min2_int max_two min_two max_three min_three max_four min_four   -- for this text's walks alone
set_option linter.unusedVariables false
set_option linter.unusedSimpArgs false

/-! ### debuggerlaw25_MemoryPages: function 8 -/
def debuggerlaw25_MemoryPages.j0 : Nat → Int → Bool → List (S31) → List (S31) → Int → List Int → Option (Bool)
 | 0, _, _, _, _, _, _ => none
 | k + 1, x3, x77, x527000, x528000, x533000, x533001 => if x77 = true then (some false) else ((memory_Without.f k x527000 x3).bind fun t555 => ((debuggerref25_Without.f k x527000 x3).bind fun t558 => ((debuggerref25_Same.f k t555 t558).bind fun t561 => (if t561 = true then ((memory_Without.f k x527000 x533000).bind fun t562 => ((debuggerref25_Without.f k x527000 x533000).bind fun t565 => ((debuggerref25_Same.f k t562 t565).bind fun t568 => (if t568 = true then ((memory_Changed.f k x527000 x528000).bind fun t569 => ((debuggerref25_Changed.f k x527000 x528000).bind fun t572 => ((debuggerref25_Ints.f k t569 t572).bind fun t575 => (if t575 = true then ((debuggerlaw25_awake.f k).bind fun t576 => (some t576)) else (some false))))) else (some false))))) else (some false)))))
def debuggerlaw25_MemoryPages.f (k : Nat) (l0 : List Int) (l1 : List Int) (a2_0 : Int) (l2_1 : List Int) (a3 : Int) : Option (Bool) := if (l2_1.length : Int) > 200 then ((debuggerlaw25_awake.f k).bind fun t519 => (some t519)) else ((debuggerlaw25_some.f k l0).bind fun t520 => ((debuggerlaw25_some.f k l1).bind fun t523 => ((debuggerkit_Mod.f a3 14).bind fun t528 => (if 64 ≤ 35184372088832 then ((some (List.replicate 64 0 : List Int)).bind fun y529 => ((memory_Add.f k t520 a2_0 l2_1).bind fun bt533 => ((debuggerref25_Add.f k t520 a2_0 l2_1).bind fun bt538 => ((memory_Add.f k t520 (wrap64 (t528 * 64)) y529).bind fun bt543 => ((debuggerref25_Add.f k t520 (wrap64 (t528 * 64)) y529).bind fun bt548 => (if bt533.2 = bt538.2 then (if bt543.2 = bt548.2 then ((debuggerref25_Same.f k bt533.1 bt538.1).bind fun t553 => (if t553 = true then ((debuggerref25_Same.f k bt543.1 bt548.1).bind fun t554 => (debuggerlaw25_MemoryPages.j0 k a3 (!t554) t520 t523 (wrap64 (t528 * 64)) y529)) else (debuggerlaw25_MemoryPages.j0 k a3 true t520 t523 (wrap64 (t528 * 64)) y529))) else (debuggerlaw25_MemoryPages.j0 k a3 true t520 t523 (wrap64 (t528 * 64)) y529)) else (debuggerlaw25_MemoryPages.j0 k a3 true t520 t523 (wrap64 (t528 * 64)) y529))))))) else (none)))))
theorem debuggerlaw25_MemoryPages.mono_l : ∀ k, (∀ y0 y1 y2 y3 y4 y5, LeO (debuggerlaw25_MemoryPages.j0 k y0 y1 y2 y3 y4 y5) (debuggerlaw25_MemoryPages.j0 (k + 1) y0 y1 y2 y3 y4 y5))
 | 0 => fun _ _ _ _ _ _ r h => by simp [debuggerlaw25_MemoryPages.j0] at h
 | k + 1 => by
  have ih0 := debuggerlaw25_MemoryPages.mono_l k
  ·intro y0 y1 y2 y3 y4 y5
   unfold debuggerlaw25_MemoryPages.j0
   repeat' first
   | (with_reducible exact ih0 _ _ _ _ _ _)
   | (with_reducible exact debuggerlaw25_awake.mono _)
   | (with_reducible exact debuggerlaw25_some.mono _ _)
   | (with_reducible exact debuggerref25_Add.mono _ _ _ _)
   | (with_reducible exact debuggerref25_Changed.mono _ _ _)
   | (with_reducible exact debuggerref25_Ints.mono _ _ _)
   | (with_reducible exact debuggerref25_Same.mono _ _ _)
   | (with_reducible exact debuggerref25_Without.mono _ _ _)
   | (with_reducible exact memory_Add.mono _ _ _ _)
   | (with_reducible exact memory_Changed.mono _ _ _)
   | (with_reducible exact memory_Without.mono _ _ _)
   | (with_reducible exact LeO.refl _)
   | (with_reducible exact LeO.none _)
   | (with_reducible refine LeO.ite ?_ ?_)
   | (with_reducible refine LeO.bind ?_ (fun _ => ?_))
   | exact ih0 _ _ _ _ _ _
   | exact debuggerlaw25_awake.mono _
   | exact debuggerlaw25_some.mono _ _
   | exact debuggerref25_Add.mono _ _ _ _
   | exact debuggerref25_Changed.mono _ _ _
   | exact debuggerref25_Ints.mono _ _ _
   | exact debuggerref25_Same.mono _ _ _
   | exact debuggerref25_Without.mono _ _ _
   | exact memory_Add.mono _ _ _ _
   | exact memory_Changed.mono _ _ _
   | exact memory_Without.mono _ _ _
   | exact LeO.none _
   | refine LeO.ite ?_ ?_
   | refine LeO.bind ?_ (fun _ => ?_)
theorem debuggerlaw25_MemoryPages.mono : ∀ a0 a1 a2 a3 a4 k, LeO (debuggerlaw25_MemoryPages.f k a0 a1 a2 a3 a4) (debuggerlaw25_MemoryPages.f (k + 1) a0 a1 a2 a3 a4) := by
 intro a0 a1 a2 a3 a4 k
 have ih0 := debuggerlaw25_MemoryPages.mono_l k
 unfold debuggerlaw25_MemoryPages.f
 repeat' first
   | (with_reducible exact ih0 _ _ _ _ _ _)
   | (with_reducible exact debuggerlaw25_awake.mono _)
   | (with_reducible exact debuggerlaw25_some.mono _ _)
   | (with_reducible exact debuggerref25_Add.mono _ _ _ _)
   | (with_reducible exact debuggerref25_Changed.mono _ _ _)
   | (with_reducible exact debuggerref25_Ints.mono _ _ _)
   | (with_reducible exact debuggerref25_Same.mono _ _ _)
   | (with_reducible exact debuggerref25_Without.mono _ _ _)
   | (with_reducible exact memory_Add.mono _ _ _ _)
   | (with_reducible exact memory_Changed.mono _ _ _)
   | (with_reducible exact memory_Without.mono _ _ _)
   | (with_reducible exact LeO.refl _)
   | (with_reducible exact LeO.none _)
   | (with_reducible refine LeO.ite ?_ ?_)
   | (with_reducible refine LeO.bind ?_ (fun _ => ?_))
   | exact ih0 _ _ _ _ _ _
   | exact debuggerlaw25_awake.mono _
   | exact debuggerlaw25_some.mono _ _
   | exact debuggerref25_Add.mono _ _ _ _
   | exact debuggerref25_Changed.mono _ _ _
   | exact debuggerref25_Ints.mono _ _ _
   | exact debuggerref25_Same.mono _ _ _
   | exact debuggerref25_Without.mono _ _ _
   | exact memory_Add.mono _ _ _ _
   | exact memory_Changed.mono _ _ _
   | exact memory_Without.mono _ _ _
   | exact LeO.none _
   | refine LeO.ite ?_ ?_
   | refine LeO.bind ?_ (fun _ => ?_)
def debuggerlaw25_MemoryPages.T11 : Bool × List (List Nat × List Nat) := (true, [([], []), ([], []), ([0, 1], [0, 1]), ([], []), ([], []), ([3, 4, 2], [3, 4]), ([2, 5, 5], [2, 5]), ([6, 6], [6]), ([7], [7]), ([7], [7]), ([9, 7], [7, 9]), ([8, 10, 7, 7], [7, 8, 10]), ([7], [7]), ([7], [7]), ([13, 7], [7, 13]), ([12, 14, 11, 7], [7, 12, 14]), ([11, 15, 15, 7], [7, 11, 15]), ([7, 16], [7, 16]), ([17, 16], [17]), ([18], [18]), ([18], [18]), ([19, 20, 18, 18], [18, 19, 20]), ([18], [18]), ([18], [18]), ([22, 23, 21, 18], [18, 22, 23]), ([21, 24, 24, 18], [18, 21, 24]), ([18, 25], [18, 25]), ([26, 25], [26]), ([27, 27], [27]), ([27, 28], [27, 28]), ([29, 28, 0, 1, 2, 3, 4, 5, 6, 7, 8, 9, 10, 11, 12, 13, 14, 15, 16, 17, 18, 19, 20, 21, 22, 23, 24, 25, 26, 27, 28, 29], [29])])
def debuggerlaw25_MemoryPages.B11 : List Nat := [0, 0, 3, 0, 0, 31, 63, 127, 255, 255, 767, 2047, 255, 255, 8447, 32767, 65535, 131071, 262143, 524287, 524287, 2097151, 524287, 524287, 16777215, 33554431, 67108863, 134217727, 268435455, 536870911, 1073741823]
theorem debuggerlaw25_MemoryPages.tab11 : rtab .any (opsOf Try.f8 11) = debuggerlaw25_MemoryPages.T11 := by kernel_rfl
theorem debuggerlaw25_MemoryPages.bits11 : waitsOk debuggerlaw25_MemoryPages.T11.2 debuggerlaw25_MemoryPages.B11 = true := by kernel_rfl
set_option maxHeartbeats 8000000 in
set_option maxRecDepth 100000 in
theorem debuggerlaw25_MemoryPages.calls (k : Nat) (A0 : Option Addr) (c0 : Nat) (l0 : List Int) (A1 : Option Addr) (c1 : Nat) (l1 : List Int) (a2_0 : Int) (A2_1 : Option Addr) (c2_1 : Nat) (l2_1 : List Int) (a3 : Int) (r : Bool) (w : World) (hr0 : Kd.C (Kd.int .i64) w A0 l0.length l0) (hc0 : l0.length ≤ c0) (hr1 : Kd.C (Kd.int .i64) w A1 l1.length l1) (hc1 : l1.length ≤ c1) (hr2_1 : Kd.C (Kd.int .i64) w A2_1 l2_1.length l2_1) (hc2_1 : l2_1.length ≤ c2_1) (hT0 : r = true) (h : debuggerlaw25_MemoryPages.f k l0 l1 a2_0 l2_1 a3 = some r) :
  Calls Try.prog 8 #[.slice A0 l0.length c0, .slice A1 l1.length c1, .agg #[.int .i64 a2_0, .slice A2_1 l2_1.length c2_1], .int .i64 a3] w fun e w' => e = .returned (.bool r) ∧ Below w.heap.size w w' := by
 have hu31 := Try.underlying31
 have hu24 := Try.underlying24
 have HT0 := Aside0.mk hT0
 clear hT0
 have HR0 := Aside0.mk hr0
 have HC0 := Aside0.mk hc0
 clear hr0 hc0
 have HR1 := Aside0.mk hr1
 have HC1 := Aside0.mk hc1
 clear hr1 hc1
 have HR2_1 := Aside0.mk hr2_1
 have HC2_1 := Aside0.mk hc2_1
 clear hr2_1 hc2_1
 have HB := Zw (Below.refl w.heap.size w)
 have H : (if (l2_1.length : Int) > 200 then ((debuggerlaw25_awake.f k).bind fun t519 => (some t519)) else ((debuggerlaw25_some.f k l0).bind fun t520 => ((debuggerlaw25_some.f k l1).bind fun t523 => ((debuggerkit_Mod.f a3 14).bind fun t528 => (if 64 ≤ 35184372088832 then ((some (List.replicate 64 0 : List Int)).bind fun y529 => ((memory_Add.f k t520 a2_0 l2_1).bind fun bt533 => ((debuggerref25_Add.f k t520 a2_0 l2_1).bind fun bt538 => ((memory_Add.f k t520 (wrap64 (t528 * 64)) y529).bind fun bt543 => ((debuggerref25_Add.f k t520 (wrap64 (t528 * 64)) y529).bind fun bt548 => (if bt533.2 = bt538.2 then (if bt543.2 = bt548.2 then ((debuggerref25_Same.f k bt533.1 bt538.1).bind fun t553 => (if t553 = true then ((debuggerref25_Same.f k bt543.1 bt548.1).bind fun t554 => (debuggerlaw25_MemoryPages.j0 k a3 (!t554) t520 t523 (wrap64 (t528 * 64)) y529)) else (debuggerlaw25_MemoryPages.j0 k a3 true t520 t523 (wrap64 (t528 * 64)) y529))) else (debuggerlaw25_MemoryPages.j0 k a3 true t520 t523 (wrap64 (t528 * 64)) y529)) else (debuggerlaw25_MemoryPages.j0 k a3 true t520 t523 (wrap64 (t528 * 64)) y529))))))) else (none)))))) = some r := h
 clear h
 by_cases c5 : (l2_1.length : Int) > 200
 ·rw [if_pos c5] at H
  have c5b0 : decide (200 < (l2_1.length : Int)) = true := decide_eq_true c5
  have c5b1 : decide (200 < l2_1.length) = true := decide_eq_true (by omega)
  clear c5
  replace H := Option.bind_eq_some_iff.mp H
  obtain ⟨t519, A60, H⟩ := H
  replace H : (some t519) = some r := H
  have A6 := Aside0.mk A60
  clear A60
  obtain rfl := Option.some.inj H
  go_enter Try.func8, Try.ntmps8
  go_wp2_with (first | ((with_reducible refine gate_dst (N := 6) rfl ?_); refine box_event ?hg (N := 6) ?hd (cs := #[.int .i64 a2_0, .slice A2_1 l2_1.length c2_1]) (t := 31) ?hr ?_; (case hd => rfl); (case hg => rfl); (case hr => first | (go_simp; done) | (go_simp; rfl)); intro gb518 hg w7 hbox hb; have n0_ := Zw (below_step (Zh HB.out) hb); have n1_ := Zw (hbox); have n2_ := Zw ((by rw [hg]; exact (below_size (Zh HB.out)) : w.heap.size ≤ gb518)); have n3_ := Zw ((by rw [hg]; exact (below_size (Zh HB.out)) : w.heap.size ≤ gb518)); clear HB; have HB := n0_; have BK518 := n1_; have GW518 := n2_; have GE518 := n3_; clear n0_ n1_ n2_ n3_; clear hb hbox hg; have hcz8_0 := Zcl BK518.out 0 rfl; have hcz8_1 := Zcl BK518.out 1 rfl; have hfz8_0 := blk_frozen BK518.out 0; have hfz8_1 := blk_frozen BK518.out 1) | ((with_reducible refine gate_callee (f := 11) rfl ?_); refine goesL_ (some 24) rfl rfl Try.func11 (by kernel_rfl) rfl #[] rfl Zm ?_; (with_reducible refine (debuggerlaw25_awake.calls k  t519 _ A6.out).mono ?_); rintro e w9 ⟨rfl, hb⟩; refine ⟨_, rfl, ?_⟩; have n0_ := Zw (blk_below (g := gb518) (o := .cells #[.int .i64 a2_0, .slice A2_1 l2_1.length c2_1] 31 (0, 0)) (Zb BK518.out) hb); have n1_ := Zw (below_step (Zh1 HB.out GE518.out) hb); clear BK518; clear HB; have BK518 := n0_; have HB := n1_; clear n0_ n1_; (try clear hb); (try clear hb2); (try clear hk); (try clear hi)))
  go_ret
  exact ⟨by first | rfl | (simp [errW_none, errW_some] <;> rfl) | (simp [*, errW_none, errW_some] <;> rfl), Zh1 HB.out GE518.out⟩
 ·rw [if_neg c5] at H
  have c5b0 : decide (200 < (l2_1.length : Int)) = false := decide_eq_false c5
  have c5b1 : decide (200 < l2_1.length) = false := decide_eq_false (by omega)
  clear c5
  replace H := Option.bind_eq_some_iff.mp H
  obtain ⟨t520, A100, H⟩ := H
  replace H : ((debuggerlaw25_some.f k l1).bind fun t523 => ((debuggerkit_Mod.f a3 14).bind fun t528 => (if 64 ≤ 35184372088832 then ((some (List.replicate 64 0 : List Int)).bind fun y529 => ((memory_Add.f k t520 a2_0 l2_1).bind fun bt533 => ((debuggerref25_Add.f k t520 a2_0 l2_1).bind fun bt538 => ((memory_Add.f k t520 (wrap64 (t528 * 64)) y529).bind fun bt543 => ((debuggerref25_Add.f k t520 (wrap64 (t528 * 64)) y529).bind fun bt548 => (if bt533.2 = bt538.2 then (if bt543.2 = bt548.2 then ((debuggerref25_Same.f k bt533.1 bt538.1).bind fun t553 => (if t553 = true then ((debuggerref25_Same.f k bt543.1 bt548.1).bind fun t554 => (debuggerlaw25_MemoryPages.j0 k a3 (!t554) t520 t523 (wrap64 (t528 * 64)) y529)) else (debuggerlaw25_MemoryPages.j0 k a3 true t520 t523 (wrap64 (t528 * 64)) y529))) else (debuggerlaw25_MemoryPages.j0 k a3 true t520 t523 (wrap64 (t528 * 64)) y529)) else (debuggerlaw25_MemoryPages.j0 k a3 true t520 t523 (wrap64 (t528 * 64)) y529))))))) else (none)))) = some r := H
  have A10 := Aside0.mk A100
  clear A100
  replace H := Option.bind_eq_some_iff.mp H
  obtain ⟨t523, A110, H⟩ := H
  replace H : ((debuggerkit_Mod.f a3 14).bind fun t528 => (if 64 ≤ 35184372088832 then ((some (List.replicate 64 0 : List Int)).bind fun y529 => ((memory_Add.f k t520 a2_0 l2_1).bind fun bt533 => ((debuggerref25_Add.f k t520 a2_0 l2_1).bind fun bt538 => ((memory_Add.f k t520 (wrap64 (t528 * 64)) y529).bind fun bt543 => ((debuggerref25_Add.f k t520 (wrap64 (t528 * 64)) y529).bind fun bt548 => (if bt533.2 = bt538.2 then (if bt543.2 = bt548.2 then ((debuggerref25_Same.f k bt533.1 bt538.1).bind fun t553 => (if t553 = true then ((debuggerref25_Same.f k bt543.1 bt548.1).bind fun t554 => (debuggerlaw25_MemoryPages.j0 k a3 (!t554) t520 t523 (wrap64 (t528 * 64)) y529)) else (debuggerlaw25_MemoryPages.j0 k a3 true t520 t523 (wrap64 (t528 * 64)) y529))) else (debuggerlaw25_MemoryPages.j0 k a3 true t520 t523 (wrap64 (t528 * 64)) y529)) else (debuggerlaw25_MemoryPages.j0 k a3 true t520 t523 (wrap64 (t528 * 64)) y529))))))) else (none))) = some r := H
  have A11 := Aside0.mk A110
  clear A110
  replace H := Option.bind_eq_some_iff.mp H
  obtain ⟨t528, A120, H⟩ := H
  replace H : (if 64 ≤ 35184372088832 then ((some (List.replicate 64 0 : List Int)).bind fun y529 => ((memory_Add.f k t520 a2_0 l2_1).bind fun bt533 => ((debuggerref25_Add.f k t520 a2_0 l2_1).bind fun bt538 => ((memory_Add.f k t520 (wrap64 (t528 * 64)) y529).bind fun bt543 => ((debuggerref25_Add.f k t520 (wrap64 (t528 * 64)) y529).bind fun bt548 => (if bt533.2 = bt538.2 then (if bt543.2 = bt548.2 then ((debuggerref25_Same.f k bt533.1 bt538.1).bind fun t553 => (if t553 = true then ((debuggerref25_Same.f k bt543.1 bt548.1).bind fun t554 => (debuggerlaw25_MemoryPages.j0 k a3 (!t554) t520 t523 (wrap64 (t528 * 64)) y529)) else (debuggerlaw25_MemoryPages.j0 k a3 true t520 t523 (wrap64 (t528 * 64)) y529))) else (debuggerlaw25_MemoryPages.j0 k a3 true t520 t523 (wrap64 (t528 * 64)) y529)) else (debuggerlaw25_MemoryPages.j0 k a3 true t520 t523 (wrap64 (t528 * 64)) y529))))))) else (none)) = some r := H
  have A12 := Aside0.mk A120
  clear A120
  by_cases c13 : 64 ≤ 35184372088832
  ·rw [if_pos c13] at H
   have c13b0 := eq_true c13
   have c13b1 : decide (64 ≤ 35184372088832) = true := decide_eq_true c13
   clear c13
   obtain ⟨y529, hy529⟩ : ∃ y_ : List Int, y_ = (List.replicate 64 0) := ⟨_, rfl⟩
   replace H : ((memory_Add.f k t520 a2_0 l2_1).bind fun bt533 => ((debuggerref25_Add.f k t520 a2_0 l2_1).bind fun bt538 => ((memory_Add.f k t520 (wrap64 (t528 * 64)) y529).bind fun bt543 => ((debuggerref25_Add.f k t520 (wrap64 (t528 * 64)) y529).bind fun bt548 => (if bt533.2 = bt538.2 then (if bt543.2 = bt548.2 then ((debuggerref25_Same.f k bt533.1 bt538.1).bind fun t553 => (if t553 = true then ((debuggerref25_Same.f k bt543.1 bt548.1).bind fun t554 => (debuggerlaw25_MemoryPages.j0 k a3 (!t554) t520 t523 (wrap64 (t528 * 64)) y529)) else (debuggerlaw25_MemoryPages.j0 k a3 true t520 t523 (wrap64 (t528 * 64)) y529))) else (debuggerlaw25_MemoryPages.j0 k a3 true t520 t523 (wrap64 (t528 * 64)) y529)) else (debuggerlaw25_MemoryPages.j0 k a3 true t520 t523 (wrap64 (t528 * 64)) y529)))))) = some r := by first | (rw [hy529]; with_reducible exact H) | (have H2_ := (Option.bind_some _ _).symm.trans H; rw [hy529]; with_reducible exact H2_) | (have H2_ := (Option.bind_some _ _).symm.trans H; with_reducible exact H2_) | with_reducible exact H | (rw [hy529]; exact H) | exact H
   have Ny529 := Aside0.mk hy529
   clear hy529
   replace H := Option.bind_eq_some_iff.mp H
   obtain ⟨⟨t533, t536⟩, A140, H⟩ := H
   replace H : ((debuggerref25_Add.f k t520 a2_0 l2_1).bind fun bt538 => ((memory_Add.f k t520 (wrap64 (t528 * 64)) y529).bind fun bt543 => ((debuggerref25_Add.f k t520 (wrap64 (t528 * 64)) y529).bind fun bt548 => (if t536 = bt538.2 then (if bt543.2 = bt548.2 then ((debuggerref25_Same.f k t533 bt538.1).bind fun t553 => (if t553 = true then ((debuggerref25_Same.f k bt543.1 bt548.1).bind fun t554 => (debuggerlaw25_MemoryPages.j0 k a3 (!t554) t520 t523 (wrap64 (t528 * 64)) y529)) else (debuggerlaw25_MemoryPages.j0 k a3 true t520 t523 (wrap64 (t528 * 64)) y529))) else (debuggerlaw25_MemoryPages.j0 k a3 true t520 t523 (wrap64 (t528 * 64)) y529)) else (debuggerlaw25_MemoryPages.j0 k a3 true t520 t523 (wrap64 (t528 * 64)) y529))))) = some r := H
   have A14 := Aside0.mk A140
   clear A140
   replace H := Option.bind_eq_some_iff.mp H
   obtain ⟨⟨t538, t541⟩, A150, H⟩ := H
   replace H : ((memory_Add.f k t520 (wrap64 (t528 * 64)) y529).bind fun bt543 => ((debuggerref25_Add.f k t520 (wrap64 (t528 * 64)) y529).bind fun bt548 => (if t536 = t541 then (if bt543.2 = bt548.2 then ((debuggerref25_Same.f k t533 t538).bind fun t553 => (if t553 = true then ((debuggerref25_Same.f k bt543.1 bt548.1).bind fun t554 => (debuggerlaw25_MemoryPages.j0 k a3 (!t554) t520 t523 (wrap64 (t528 * 64)) y529)) else (debuggerlaw25_MemoryPages.j0 k a3 true t520 t523 (wrap64 (t528 * 64)) y529))) else (debuggerlaw25_MemoryPages.j0 k a3 true t520 t523 (wrap64 (t528 * 64)) y529)) else (debuggerlaw25_MemoryPages.j0 k a3 true t520 t523 (wrap64 (t528 * 64)) y529)))) = some r := H
   have A15 := Aside0.mk A150
   clear A150
   replace H := Option.bind_eq_some_iff.mp H
   obtain ⟨⟨t543, t546⟩, A160, H⟩ := H
   replace H : ((debuggerref25_Add.f k t520 (wrap64 (t528 * 64)) y529).bind fun bt548 => (if t536 = t541 then (if t546 = bt548.2 then ((debuggerref25_Same.f k t533 t538).bind fun t553 => (if t553 = true then ((debuggerref25_Same.f k t543 bt548.1).bind fun t554 => (debuggerlaw25_MemoryPages.j0 k a3 (!t554) t520 t523 (wrap64 (t528 * 64)) y529)) else (debuggerlaw25_MemoryPages.j0 k a3 true t520 t523 (wrap64 (t528 * 64)) y529))) else (debuggerlaw25_MemoryPages.j0 k a3 true t520 t523 (wrap64 (t528 * 64)) y529)) else (debuggerlaw25_MemoryPages.j0 k a3 true t520 t523 (wrap64 (t528 * 64)) y529))) = some r := H
   have A16 := Aside0.mk A160
   clear A160
   replace H := Option.bind_eq_some_iff.mp H
   obtain ⟨⟨t548, t551⟩, A170, H⟩ := H
   replace H : (if t536 = t541 then (if t546 = t551 then ((debuggerref25_Same.f k t533 t538).bind fun t553 => (if t553 = true then ((debuggerref25_Same.f k t543 t548).bind fun t554 => (debuggerlaw25_MemoryPages.j0 k a3 (!t554) t520 t523 (wrap64 (t528 * 64)) y529)) else (debuggerlaw25_MemoryPages.j0 k a3 true t520 t523 (wrap64 (t528 * 64)) y529))) else (debuggerlaw25_MemoryPages.j0 k a3 true t520 t523 (wrap64 (t528 * 64)) y529)) else (debuggerlaw25_MemoryPages.j0 k a3 true t520 t523 (wrap64 (t528 * 64)) y529)) = some r := H
   have A17 := Aside0.mk A170
   clear A170
   have HC18 := Aside0.mk H
   clear H
   go_enter Try.func8, Try.ntmps8
   try go_wp2_with (first | ((with_reducible refine gate_dst (N := 6) rfl ?_); refine box_event ?hg (N := 6) ?hd (cs := #[.int .i64 a2_0, .slice A2_1 l2_1.length c2_1]) (t := 31) ?hr ?_; (case hd => rfl); (case hg => rfl); (case hr => first | (go_simp; done) | (go_simp; rfl)); intro gb518 hg w19 hbox hb; have n0_ := Zw (below_step (Zh HB.out) hb); have n1_ := Zw (hbox); have n2_ := Zw ((by rw [hg]; exact (below_size (Zh HB.out)) : w.heap.size ≤ gb518)); have n3_ := Zw ((by rw [hg]; exact (below_size (Zh HB.out)) : w.heap.size ≤ gb518)); clear HB; have HB := n0_; have BK518 := n1_; have GW518 := n2_; have GE518 := n3_; clear n0_ n1_ n2_ n3_; clear hb hbox hg; have hcz20_0 := Zcl BK518.out 0 rfl; have hcz20_1 := Zcl BK518.out 1 rfl; have hfz20_0 := blk_frozen BK518.out 0; have hfz20_1 := blk_frozen BK518.out 1) | ((with_reducible refine gate_callee (f := 12) rfl ?_); refine goesL_ (some 26) rfl rfl Try.func12 (by kernel_rfl) rfl #[.slice A0 l0.length c0] rfl Zm ?_; (with_reducible refine (debuggerlaw25_some.calls k _ _ l0 t520 _ ?side1 ?side2 A10.out).mono ?_); (case side1 => exact Zc (Kd.C_below HR0.out HB.out)); (case side2 => exact HC0.out); rintro e w21 ⟨v521, rfl, ho0, hb⟩; refine ⟨_, rfl, ?_⟩; have n0_ := Zw (Kd.N_lower (Kd.N_mono (ok' := fun k_ => k_ ≠ gb518) ho0 (fun k_ hk_ => (Kd.freshB (g := gb518) (o := .cells #[.int .i64 a2_0, .slice A2_1 l2_1.length c2_1] 31 (0, 0)) (Zb BK518.out) k_ hk_))) (below_size (Zh1 HB.out GE518.out))); have n1_ := Zw (blk_below (g := gb518) (o := .cells #[.int .i64 a2_0, .slice A2_1 l2_1.length c2_1] 31 (0, 0)) (Zb BK518.out) hb); have n2_ := Zw (below_step (Zh1 HB.out GE518.out) hb); clear BK518; clear HB; have HO522 := n0_; have BK518 := n1_; have HB := n2_; clear n0_ n1_ n2_; (try clear hb); (try clear hb2); (try clear hk); (try clear hi); (try clear ho0)) | ((with_reducible refine gate_callee (f := 12) rfl ?_); refine goesL_ (some 28) rfl rfl Try.func12 (by kernel_rfl) rfl #[.slice A1 l1.length c1] rfl Zm ?_; (with_reducible refine (debuggerlaw25_some.calls k _ _ l1 t523 _ ?side1 ?side2 A11.out).mono ?_); (case side1 => exact Zc (Kd.C_below HR1.out HB.out)); (case side2 => exact HC1.out); rintro e w22 ⟨v524, rfl, ho0, hb⟩; refine ⟨_, rfl, ?_⟩; have n0_ := Zw (Kd.N_elder' (ZN HO522.out) (by first | exact Kd.N_base ho0 | exact Kd.S_base ho0 | exact Kd.R_base ho0 | exact Kd.N_base ho0) hb); have n1_ := Zw (Kd.N_lower (Kd.N_mono (ok' := fun k_ => some k_ ≠ (v521 : Value).ownBlock ∧ k_ ≠ gb518) ho0 (fun k_ hk_ => ⟨(Kd.fresh' (Kd.N_lt (ZN HO522.out)) k_ hk_), (Kd.freshB (g := gb518) (o := .cells #[.int .i64 a2_0, .slice A2_1 l2_1.length c2_1] 31 (0, 0)) (Zb BK518.out) k_ hk_)⟩)) (below_size (Zh1 HB.out GE518.out))); have n2_ := Zw (blk_below (g := gb518) (o := .cells #[.int .i64 a2_0, .slice A2_1 l2_1.length c2_1] 31 (0, 0)) (Zb BK518.out) hb); have n3_ := Zw (below_step (Zh1 HB.out GE518.out) hb); clear HO522; clear BK518; clear HB; have HO522 := n0_; have HO525 := n1_; have BK518 := n2_; have HB := n3_; clear n0_ n1_ n2_ n3_; (try clear hb); (try clear hb2); (try clear hk); (try clear hi); (try clear ho0)) | ((with_reducible refine gate_dst (N := 9) rfl ?_); refine box_event ?hg (N := 9) ?hd (cs := #[.slice none 0 0]) (t := 24) ?hr ?_; (case hd => rfl); (case hg => rfl); (case hr => first | (go_simp; done) | (go_simp; rfl)); intro gb526 hg w23 hbox hb; have n0_ := Zw (Kd.N_below (Kd.N_elderB (ZN HO522.out) gb526 (Nat.le_of_eq hg.symm)) hb); have n1_ := Zw (Kd.N_below (Kd.N_elderB (ZN HO525.out) gb526 (Nat.le_of_eq hg.symm)) hb); have n2_ := Zw (blk_below (g := gb518) (o := .cells #[.int .i64 a2_0, .slice A2_1 l2_1.length c2_1] 31 (0, 0)) (Zb BK518.out) hb); have n3_ := Zw (below_step (Zh1 HB.out GE518.out) hb); have n4_ := Zw (hbox); have n5_ := Zw ((by rw [hg]; exact (below_size (Zh1 HB.out GE518.out)) : w.heap.size ≤ gb526)); have n6_ := Zw ((by rw [hg]; exact (below_size (Zh1 HB.out GE518.out)) : w.heap.size ≤ gb526)); have n7_ := Zw ((by rw [hg]; exact Nat.ne_of_lt (blk_lt (Zb BK518.out)) : gb518 ≠ gb526)); have n8_ := Zw ((by rw [hg]; exact Nat.ne_of_gt (blk_lt (Zb BK518.out)) : gb526 ≠ gb518)); clear HO522; clear HO525; clear BK518; clear HB; have HO522 := n0_; have HO525 := n1_; have BK518 := n2_; have HB := n3_; have BK526 := n4_; have GW526 := n5_; have GE526 := n6_; have NB518_526 := n7_; have NB526_518 := n8_; clear n0_ n1_ n2_ n3_ n4_ n5_ n6_ n7_ n8_; clear hb hbox hg) | ((with_reducible refine gate_dst (N := 10) rfl ?_); refine box_event ?hg (N := 10) ?hd (cs := #[.slice none 0 0]) (t := 24) ?hr ?_; (case hd => rfl); (case hg => rfl); (case hr => first | (go_simp; done) | (go_simp; rfl)); intro gb527 hg w24 hbox hb; have n0_ := Zw (Kd.N_below (Kd.N_elderB (ZN HO522.out) gb527 (Nat.le_of_eq hg.symm)) hb); have n1_ := Zw (Kd.N_below (Kd.N_elderB (ZN HO525.out) gb527 (Nat.le_of_eq hg.symm)) hb); have n2_ := Zw (blk_below (g := gb518) (o := .cells #[.int .i64 a2_0, .slice A2_1 l2_1.length c2_1] 31 (0, 0)) (Zb BK518.out) hb); have n3_ := Zw (blk_below (g := gb526) (o := .cells #[.slice none 0 0] 24 (0, 0)) (Zb BK526.out) hb); have n4_ := Zw (below_step (Zh2 HB.out GE518.out GE526.out) hb); have n5_ := Zw (hbox); have n6_ := Zw ((by rw [hg]; exact (below_size (Zh2 HB.out GE518.out GE526.out)) : w.heap.size ≤ gb527)); have n7_ := Zw ((by rw [hg]; exact (below_size (Zh2 HB.out GE518.out GE526.out)) : w.heap.size ≤ gb527)); have n8_ := Zw ((by rw [hg]; exact Nat.ne_of_lt (blk_lt (Zb BK518.out)) : gb518 ≠ gb527)); have n9_ := Zw ((by rw [hg]; exact Nat.ne_of_gt (blk_lt (Zb BK518.out)) : gb527 ≠ gb518)); have n10_ := Zw ((by rw [hg]; exact Nat.ne_of_lt (blk_lt (Zb BK526.out)) : gb526 ≠ gb527)); have n11_ := Zw ((by rw [hg]; exact Nat.ne_of_gt (blk_lt (Zb BK526.out)) : gb527 ≠ gb526)); clear HO522; clear HO525; clear BK518; clear BK526; clear HB; have HO522 := n0_; have HO525 := n1_; have BK518 := n2_; have BK526 := n3_; have HB := n4_; have BK527 := n5_; have GW527 := n6_; have GE527 := n7_; have NB518_527 := n8_; have NB527_518 := n9_; have NB526_527 := n10_; have NB527_526 := n11_; clear n0_ n1_ n2_ n3_ n4_ n5_ n6_ n7_ n8_ n9_ n10_ n11_; clear hb hbox hg; obtain ⟨Ao25, co25, eo25⟩ := Kd.N_slice HO522.out; subst eo25; have hnb26 := NB526_518.out; have hnc26 := NB518_526.out; have hnb27 := NB526_527.out; have hnc27 := NB527_526.out; have hcz28_0 := Zcl BK526.out 0 rfl; have hfz28_0 := blk_frozen BK526.out 0; obtain ⟨Ao29, co29, eo29⟩ := Kd.N_slice HO525.out; subst eo29; have hnb30 := NB527_518.out; have hnc30 := NB518_527.out; have hcz31_0 := Zcl BK527.out 0 rfl; have hfz31_0 := blk_frozen BK527.out 0))
   have n0_ : Aside0 (Kd.N k31 31 ((w24.setCell ⟨gb526, 0, none⟩ (.slice Ao25 t520.length co25)).setCell ⟨gb527, 0, none⟩ (.slice Ao29 t523.length co29)) w.heap.size (fun k_ => some k_ ≠ (.slice Ao29 t523.length co29 : Value).ownBlock ∧ k_ ≠ gb518 ∧ k_ ≠ gb526 ∧ k_ ≠ gb527) (.slice Ao25 t520.length co25) t520) := ⟨by refine ZNk ?_; exact Kd.N_mono (Kd.N_far (p := ⟨gb527, 0, none⟩) (Kd.N_far (p := ⟨gb526, 0, none⟩) (Kd.N_mono (Kd.N_mono HO522.out (fun k_ hk => (⟨hk, hk.1.2⟩ : _ ∧ k_ ≠ gb526))) (fun k_ hk => (⟨hk, hk.1.2⟩ : _ ∧ k_ ≠ gb527))) (fun _ hk => hk.1.2) (.slice Ao25 t520.length co25)) (fun _ hk => hk.2) (.slice Ao29 t523.length co29)) (fun _ hk => ⟨hk.1.1.1.1.2, ⟨hk.1.1.1.1.1, ⟨hk.1.1.1.2, hk.1.1.2⟩⟩⟩)⟩
   have n1_ : Aside0 (Kd.N k31 31 ((w24.setCell ⟨gb526, 0, none⟩ (.slice Ao25 t520.length co25)).setCell ⟨gb527, 0, none⟩ (.slice Ao29 t523.length co29)) w.heap.size (fun k_ => some k_ ≠ (.slice Ao25 t520.length co25 : Value).ownBlock ∧ k_ ≠ gb518 ∧ k_ ≠ gb526 ∧ k_ ≠ gb527) (.slice Ao29 t523.length co29) t523) := ⟨by refine ZNk ?_; exact Kd.N_mono (Kd.N_far (p := ⟨gb527, 0, none⟩) (Kd.N_far (p := ⟨gb526, 0, none⟩) (Kd.N_mono (Kd.N_mono HO525.out (fun k_ hk => (⟨hk, hk.1.2⟩ : _ ∧ k_ ≠ gb526))) (fun k_ hk => (⟨hk, hk.1.2⟩ : _ ∧ k_ ≠ gb527))) (fun _ hk => hk.1.2) (.slice Ao25 t520.length co25)) (fun _ hk => hk.2) (.slice Ao29 t523.length co29)) (fun _ hk => ⟨hk.1.1.1.1.1, ⟨hk.1.1.1.1.2, ⟨hk.1.1.1.2, hk.1.1.2⟩⟩⟩)⟩
   have n2_ : Aside0 (((w24.setCell ⟨gb526, 0, none⟩ (.slice Ao25 t520.length co25)).setCell ⟨gb527, 0, none⟩ (.slice Ao29 t523.length co29)).heap[gb518]? = some (.cells #[.int .i64 a2_0, .slice A2_1 l2_1.length c2_1] 31 (0, 0))) := ⟨by refine Zbk ?_; refine blk_far ?_ NB518_527.out _; refine Zbk ?_; refine blk_far ?_ NB518_526.out _; refine Zbk ?_; exact BK518.out⟩
   have n3_ : Aside0 (((w24.setCell ⟨gb526, 0, none⟩ (.slice Ao25 t520.length co25)).setCell ⟨gb527, 0, none⟩ (.slice Ao29 t523.length co29)).heap[gb526]? = some (.cells #[.slice Ao25 t520.length co25] 24 (0, 0))) := ⟨by refine Zbk ?_; refine blk_far ?_ NB526_527.out _; refine Zbk ?_; refine blk_put (cs := #[.slice none 0 0]) ?_ 0 _ rfl; refine Zbk ?_; exact BK526.out⟩
   have n4_ : Aside0 (((w24.setCell ⟨gb526, 0, none⟩ (.slice Ao25 t520.length co25)).setCell ⟨gb527, 0, none⟩ (.slice Ao29 t523.length co29)).heap[gb527]? = some (.cells #[.slice Ao29 t523.length co29] 24 (0, 0))) := ⟨by refine Zbk ?_; refine blk_put (cs := #[.slice none 0 0]) ?_ 0 _ rfl; refine Zbk ?_; refine blk_far ?_ NB527_526.out _; refine Zbk ?_; exact BK527.out⟩
   have n5_ : Aside0 (Below w.heap.size w ((w24.setCell ⟨gb526, 0, none⟩ (.slice Ao25 t520.length co25)).setCell ⟨gb527, 0, none⟩ (.slice Ao29 t523.length co29))) := ⟨Zh3 HB.out GE518.out GE526.out GE527.out⟩
   (try clear HO522)
   (try clear HO525)
   (try clear BK518)
   (try clear BK526)
   (try clear BK527)
   (try clear HB)
   generalize ((w24.setCell ⟨gb526, 0, none⟩ (.slice Ao25 t520.length co25)).setCell ⟨gb527, 0, none⟩ (.slice Ao29 t523.length co29)) = w32 at n0_ n1_ n2_ n3_ n4_ n5_ ⊢
   have HO522 := n0_
   have HO525 := n1_
   have BK518 := n2_
   have BK526 := n3_
   have BK527 := n4_
   have HB := n5_
   clear n0_ n1_ n2_ n3_ n4_ n5_
   have n0_ := Zw (Kd.N_drew HO522.out)
   have n1_ := Zw (Kd.N_drew HO525.out)
   have n2_ := Zw (blk_drew BK518.out)
   have n3_ := Zw (blk_drew BK526.out)
   have n4_ := Zw (blk_drew BK527.out)
   have n5_ := Zw (below_drew1 HB.out)
   clear HO522
   clear HO525
   clear BK518
   clear BK526
   clear BK527
   clear HB
   have HO522 := n0_
   have HO525 := n1_
   have BK518 := n2_
   have BK526 := n3_
   have BK527 := n4_
   have HB := n5_
   clear n0_ n1_ n2_ n3_ n4_ n5_
   refine start_ (n := 7) (S := fun w' => True) (ds := []) #[false, false, false, false, false, false, false] (by kernel_rfl) rfl rfl trivial (fun hHeld => ?_)
   generalize w32.drew = w33 at HO522 HO525 BK518 BK526 BK527 HB hHeld ⊢
   refine pure_ (i := 0) (N := some 29) (v := ?_) (a' := ?_) #[true, false, false, false, false, false, false] rfl rfl (by kernel_rfl) (fun _ _ _ h => h) (Or.inl ⟨by rfl, ?_⟩) ?_ ?_
   rotate_left
   ·intro w'
    go_simp
    with_reducible rfl
   rotate_left
   ·simp only [Act.put, zsA, zsZ, zsS, i64_w, i32_w]
    rfl
   refine join_ (σ := Value × Nat) 1 #[true, true, true, true, true, true, false] (fun s_ => [(30, .int .i64 t528), (32, s_.1), (11, .pointer (some ⟨s_.2, 0, none⟩)), (31, .int .i64 (wrap64 (t528 * 64))), (33, .agg #[.int .i64 (wrap64 (t528 * 64)), s_.1])]) (fun s_ w' => (Kd.N k31 31 w' w.heap.size (fun k_ => some k_ ≠ (.slice Ao29 t523.length co29 : Value).ownBlock ∧ some k_ ≠ (s_.1 : Value).ownBlock ∧ k_ ≠ gb518 ∧ k_ ≠ gb526 ∧ k_ ≠ gb527 ∧ k_ ≠ s_.2) (.slice Ao25 t520.length co25) t520) ∧ (Kd.N k31 31 w' w.heap.size (fun k_ => some k_ ≠ (.slice Ao25 t520.length co25 : Value).ownBlock ∧ some k_ ≠ (s_.1 : Value).ownBlock ∧ k_ ≠ gb518 ∧ k_ ≠ gb526 ∧ k_ ≠ gb527 ∧ k_ ≠ s_.2) (.slice Ao29 t523.length co29) t523) ∧ (Kd.R (Kd.int .i64) 3 w' w.heap.size (fun _ => True) s_.1 y529) ∧ (w'.heap[gb518]? = some (.cells #[.int .i64 a2_0, .slice A2_1 l2_1.length c2_1] 31 (0, 0))) ∧ (w'.heap[gb526]? = some (.cells #[.slice Ao25 t520.length co25] 24 (0, 0))) ∧ (w'.heap[gb527]? = some (.cells #[.slice Ao29 t523.length co29] 24 (0, 0))) ∧ (w'.heap[s_.2]? = some (.cells #[.int .i64 0, .slice none 0 0] 31 (0, 0))) ∧ (w.heap.size ≤ s_.2) ∧ (w.heap.size ≤ s_.2) ∧ (gb518 ≠ s_.2) ∧ (s_.2 ≠ gb518) ∧ (gb526 ≠ s_.2) ∧ (s_.2 ≠ gb526) ∧ (gb527 ≠ s_.2) ∧ (s_.2 ≠ gb527) ∧ (Below w.heap.size w w')) ?_ ?_
   rotate_left
   ·intro hJ1_3_5
    refine join_ (σ := Value) 2 #[true, true, true, true, true, false, false] (fun s_ => [(30, .int .i64 t528), (32, s_), (31, .int .i64 (wrap64 (t528 * 64))), (33, .agg #[.int .i64 (wrap64 (t528 * 64)), s_])]) (fun s_ w' => (Kd.N k31 31 w' w.heap.size (fun k_ => some k_ ≠ (.slice Ao29 t523.length co29 : Value).ownBlock ∧ some k_ ≠ (s_ : Value).ownBlock ∧ k_ ≠ gb518 ∧ k_ ≠ gb526 ∧ k_ ≠ gb527) (.slice Ao25 t520.length co25) t520) ∧ (Kd.N k31 31 w' w.heap.size (fun k_ => some k_ ≠ (.slice Ao25 t520.length co25 : Value).ownBlock ∧ some k_ ≠ (s_ : Value).ownBlock ∧ k_ ≠ gb518 ∧ k_ ≠ gb526 ∧ k_ ≠ gb527) (.slice Ao29 t523.length co29) t523) ∧ (Kd.R (Kd.int .i64) 3 w' w.heap.size (fun _ => True) s_ y529) ∧ (w'.heap[gb518]? = some (.cells #[.int .i64 a2_0, .slice A2_1 l2_1.length c2_1] 31 (0, 0))) ∧ (w'.heap[gb526]? = some (.cells #[.slice Ao25 t520.length co25] 24 (0, 0))) ∧ (w'.heap[gb527]? = some (.cells #[.slice Ao29 t523.length co29] 24 (0, 0))) ∧ (Below w.heap.size w w')) ?_ ?_
    rotate_left
    ·intro hJ1_3
     refine join_ (σ := Nat) 3 #[true, true, true, false, false, true, false] (fun s_ => [(30, .int .i64 t528), (11, .pointer (some ⟨s_, 0, none⟩)), (31, .int .i64 (wrap64 (t528 * 64)))]) (fun s_ w' => (Kd.N k31 31 w' w.heap.size (fun k_ => some k_ ≠ (.slice Ao29 t523.length co29 : Value).ownBlock ∧ k_ ≠ gb518 ∧ k_ ≠ gb526 ∧ k_ ≠ gb527 ∧ k_ ≠ s_) (.slice Ao25 t520.length co25) t520) ∧ (Kd.N k31 31 w' w.heap.size (fun k_ => some k_ ≠ (.slice Ao25 t520.length co25 : Value).ownBlock ∧ k_ ≠ gb518 ∧ k_ ≠ gb526 ∧ k_ ≠ gb527 ∧ k_ ≠ s_) (.slice Ao29 t523.length co29) t523) ∧ (w'.heap[gb518]? = some (.cells #[.int .i64 a2_0, .slice A2_1 l2_1.length c2_1] 31 (0, 0))) ∧ (w'.heap[gb526]? = some (.cells #[.slice Ao25 t520.length co25] 24 (0, 0))) ∧ (w'.heap[gb527]? = some (.cells #[.slice Ao29 t523.length co29] 24 (0, 0))) ∧ (w'.heap[s_]? = some (.cells #[.int .i64 0, .slice none 0 0] 31 (0, 0))) ∧ (w.heap.size ≤ s_) ∧ (w.heap.size ≤ s_) ∧ (gb518 ≠ s_) ∧ (s_ ≠ gb518) ∧ (gb526 ≠ s_) ∧ (s_ ≠ gb526) ∧ (gb527 ≠ s_) ∧ (s_ ≠ gb527) ∧ (Below w.heap.size w w')) ?_ ?_
     rotate_left
     ·intro hJ1_5
      refine join_ (σ := Value × Nat) 4 #[true, false, false, true, false, true, false] (fun s_ => [(32, s_.1), (11, .pointer (some ⟨s_.2, 0, none⟩))]) (fun s_ w' => (Kd.N k31 31 w' w.heap.size (fun k_ => some k_ ≠ (.slice Ao29 t523.length co29 : Value).ownBlock ∧ some k_ ≠ (s_.1 : Value).ownBlock ∧ k_ ≠ gb518 ∧ k_ ≠ gb526 ∧ k_ ≠ gb527 ∧ k_ ≠ s_.2) (.slice Ao25 t520.length co25) t520) ∧ (Kd.N k31 31 w' w.heap.size (fun k_ => some k_ ≠ (.slice Ao25 t520.length co25 : Value).ownBlock ∧ some k_ ≠ (s_.1 : Value).ownBlock ∧ k_ ≠ gb518 ∧ k_ ≠ gb526 ∧ k_ ≠ gb527 ∧ k_ ≠ s_.2) (.slice Ao29 t523.length co29) t523) ∧ (Kd.R (Kd.int .i64) 3 w' w.heap.size (fun _ => True) s_.1 y529) ∧ (w'.heap[gb518]? = some (.cells #[.int .i64 a2_0, .slice A2_1 l2_1.length c2_1] 31 (0, 0))) ∧ (w'.heap[gb526]? = some (.cells #[.slice Ao25 t520.length co25] 24 (0, 0))) ∧ (w'.heap[gb527]? = some (.cells #[.slice Ao29 t523.length co29] 24 (0, 0))) ∧ (w'.heap[s_.2]? = some (.cells #[.int .i64 0, .slice none 0 0] 31 (0, 0))) ∧ (w.heap.size ≤ s_.2) ∧ (w.heap.size ≤ s_.2) ∧ (gb518 ≠ s_.2) ∧ (s_.2 ≠ gb518) ∧ (gb526 ≠ s_.2) ∧ (s_.2 ≠ gb526) ∧ (gb527 ≠ s_.2) ∧ (s_.2 ≠ gb527) ∧ (Below w.heap.size w w')) ?_ ?_
      rotate_left
      ·intro hJ3_5
       refine join_ (σ := Unit) 4 #[true, true, true, false, false, false, false] (fun s_ => [(30, .int .i64 t528), (31, .int .i64 (wrap64 (t528 * 64)))]) (fun s_ w' => (Kd.N k31 31 w' w.heap.size (fun k_ => some k_ ≠ (.slice Ao29 t523.length co29 : Value).ownBlock ∧ k_ ≠ gb518 ∧ k_ ≠ gb526 ∧ k_ ≠ gb527) (.slice Ao25 t520.length co25) t520) ∧ (Kd.N k31 31 w' w.heap.size (fun k_ => some k_ ≠ (.slice Ao25 t520.length co25 : Value).ownBlock ∧ k_ ≠ gb518 ∧ k_ ≠ gb526 ∧ k_ ≠ gb527) (.slice Ao29 t523.length co29) t523) ∧ (w'.heap[gb518]? = some (.cells #[.int .i64 a2_0, .slice A2_1 l2_1.length c2_1] 31 (0, 0))) ∧ (w'.heap[gb526]? = some (.cells #[.slice Ao25 t520.length co25] 24 (0, 0))) ∧ (w'.heap[gb527]? = some (.cells #[.slice Ao29 t523.length co29] 24 (0, 0))) ∧ (Below w.heap.size w w')) ?_ ?_
       rotate_left
       ·intro hJ1
        refine join_ (σ := Value) 5 #[true, false, false, true, false, false, false] (fun s_ => [(32, s_)]) (fun s_ w' => (Kd.N k31 31 w' w.heap.size (fun k_ => some k_ ≠ (.slice Ao29 t523.length co29 : Value).ownBlock ∧ some k_ ≠ (s_ : Value).ownBlock ∧ k_ ≠ gb518 ∧ k_ ≠ gb526 ∧ k_ ≠ gb527) (.slice Ao25 t520.length co25) t520) ∧ (Kd.N k31 31 w' w.heap.size (fun k_ => some k_ ≠ (.slice Ao25 t520.length co25 : Value).ownBlock ∧ some k_ ≠ (s_ : Value).ownBlock ∧ k_ ≠ gb518 ∧ k_ ≠ gb526 ∧ k_ ≠ gb527) (.slice Ao29 t523.length co29) t523) ∧ (Kd.R (Kd.int .i64) 3 w' w.heap.size (fun _ => True) s_ y529) ∧ (w'.heap[gb518]? = some (.cells #[.int .i64 a2_0, .slice A2_1 l2_1.length c2_1] 31 (0, 0))) ∧ (w'.heap[gb526]? = some (.cells #[.slice Ao25 t520.length co25] 24 (0, 0))) ∧ (w'.heap[gb527]? = some (.cells #[.slice Ao29 t523.length co29] 24 (0, 0))) ∧ (Below w.heap.size w w')) ?_ ?_
        rotate_left
        ·intro hJ3
         refine join_ (σ := Nat) 5 #[true, false, false, false, false, true, false] (fun s_ => [(11, .pointer (some ⟨s_, 0, none⟩))]) (fun s_ w' => (Kd.N k31 31 w' w.heap.size (fun k_ => some k_ ≠ (.slice Ao29 t523.length co29 : Value).ownBlock ∧ k_ ≠ gb518 ∧ k_ ≠ gb526 ∧ k_ ≠ gb527 ∧ k_ ≠ s_) (.slice Ao25 t520.length co25) t520) ∧ (Kd.N k31 31 w' w.heap.size (fun k_ => some k_ ≠ (.slice Ao25 t520.length co25 : Value).ownBlock ∧ k_ ≠ gb518 ∧ k_ ≠ gb526 ∧ k_ ≠ gb527 ∧ k_ ≠ s_) (.slice Ao29 t523.length co29) t523) ∧ (w'.heap[gb518]? = some (.cells #[.int .i64 a2_0, .slice A2_1 l2_1.length c2_1] 31 (0, 0))) ∧ (w'.heap[gb526]? = some (.cells #[.slice Ao25 t520.length co25] 24 (0, 0))) ∧ (w'.heap[gb527]? = some (.cells #[.slice Ao29 t523.length co29] 24 (0, 0))) ∧ (w'.heap[s_]? = some (.cells #[.int .i64 0, .slice none 0 0] 31 (0, 0))) ∧ (w.heap.size ≤ s_) ∧ (w.heap.size ≤ s_) ∧ (gb518 ≠ s_) ∧ (s_ ≠ gb518) ∧ (gb526 ≠ s_) ∧ (s_ ≠ gb526) ∧ (gb527 ≠ s_) ∧ (s_ ≠ gb527) ∧ (Below w.heap.size w w')) ?_ ?_
         rotate_left
         ·intro hJ5
          refine three_ (i := 1) (j := 3) (k := 5) (Ni := some 30) (Nj := some 32) (Nk := some 11) #[true, true, false, false, false, false, false] #[true, false, false, true, false, false, false] #[true, false, false, false, false, true, false] rfl rfl rfl rfl rfl rfl (by kernel_rfl) (by decide) (by decide) (by decide) (fun K hK => ?_) (fun K hK => ?_) (fun K hK => ?_)
          ·skip
           refine goes_ Try.func13 (by kernel_rfl) rfl #[.int .i64 a3, .int .i64 14] (by rfl) rfl rfl Zm ?_
           with_reducible refine (debuggerkit_Mod.calls a3 14 t528 _ A12.out).mono ?_
           rintro e w34 ⟨rfl, hb⟩
           refine ⟨_, rfl, ?_⟩
           have n0_ := Zw (Kd.N_below (ZN HO522.out) hb)
           have n1_ := Zw (Kd.N_below (ZN HO525.out) hb)
           have n2_ := Zw (blk_below (g := gb518) (o := .cells #[.int .i64 a2_0, .slice A2_1 l2_1.length c2_1] 31 (0, 0)) (Zb BK518.out) hb)
           have n3_ := Zw (blk_below (g := gb526) (o := .cells #[.slice Ao25 t520.length co25] 24 (0, 0)) (Zb BK526.out) hb)
           have n4_ := Zw (blk_below (g := gb527) (o := .cells #[.slice Ao29 t523.length co29] 24 (0, 0)) (Zb BK527.out) hb)
           have n5_ := Zw (below_step (Zh3 HB.out GE518.out GE526.out GE527.out) hb)
           clear HO522
           clear HO525
           clear BK518
           clear BK526
           clear BK527
           clear HB
           have HO522 := n0_
           have HO525 := n1_
           have BK518 := n2_
           have BK526 := n3_
           have BK527 := n4_
           have HB := n5_
           clear n0_ n1_ n2_ n3_ n4_ n5_
           (try clear hb)
           (try clear hb2)
           (try clear hk)
           (try clear hi)
           refine hK.out _ _ trivial (fun hHeld => ?_)
           clear hK K
           refine norm_ (a' := ?_) ?_ ?_
           rotate_left
           ·show Act.put _ (some 30) _ = _
            simp only [Act.put, zsA, zsZ, zsS, i64_w, i32_w]
            rfl
           refine pure_ (i := 2) (N := some 31) (v := ?_) (a' := ?_) #[true, true, true, false, false, false, false] rfl rfl (by kernel_rfl) (fun _ _ _ h => h) (Or.inl ⟨by rfl, ?_⟩) ?_ ?_
           rotate_left
           ·intro w'
            go_simp
            with_reducible rfl
           rotate_left
           ·simp only [Act.put, zsA, zsZ, zsS, i64_w, i32_w]
            rfl
           exact norm_ (by first | (simp only [putAll, Act.put, zsA, zsZ, zsS]; done) | (simp only [putAll, Act.put, zsA, zsZ, zsS]; rfl)) (hJ1 () _ ⟨(ZN HO522.out), (ZN HO525.out), (Zb BK518.out), (Zb BK526.out), (Zb BK527.out), (Zh3 HB.out GE518.out GE526.out GE527.out)⟩)
          ·skip
           refine Kd.R_make_step (Kd.int .i64) _ 3 (by rfl) (N := 32) rfl 25 _ _ rfl 64 rfl rfl Try.underlying25 (.int .i64 0) 8 info3 rfl (by decide) (by omega) 0 (ok := fun _ => True) (okp := fun _ => True) rfl (fun _ hk => hk) trivial (by omega) (by omega) (Below.refl _ _) (Nat.le_refl _) ?_
           intro v530 w34 ho35 hb hg_ hnew_
           clear hg_ hnew_
           (first | rw [← Ny529.out] at ho35 | (simp only [Int.reduceToNat] at ho35; rw [← Ny529.out] at ho35))
           have n0_ := Zw (Kd.N_elder' (ZN HO522.out) (by first | exact Kd.R_base ho35 | exact Kd.S_base ho35 | exact Kd.R_base ho35 | exact Kd.N_base ho35) hb)
           have n1_ := Zw (Kd.N_elder' (ZN HO525.out) (by first | exact Kd.R_base ho35 | exact Kd.S_base ho35 | exact Kd.R_base ho35 | exact Kd.N_base ho35) hb)
           have n2_ := Zw (Kd.R_lower ho35 (below_size (Zh3 HB.out GE518.out GE526.out GE527.out)))
           have n3_ := Zw (blk_below (g := gb518) (o := .cells #[.int .i64 a2_0, .slice A2_1 l2_1.length c2_1] 31 (0, 0)) (Zb BK518.out) hb)
           have n4_ := Zw (blk_below (g := gb526) (o := .cells #[.slice Ao25 t520.length co25] 24 (0, 0)) (Zb BK526.out) hb)
           have n5_ := Zw (blk_below (g := gb527) (o := .cells #[.slice Ao29 t523.length co29] 24 (0, 0)) (Zb BK527.out) hb)
           have n6_ := Zw (below_step (Zh3 HB.out GE518.out GE526.out GE527.out) hb)
           clear HO522
           clear HO525
           clear BK518
           clear BK526
           clear BK527
           clear HB
           have HO522 := n0_
           have HO525 := n1_
           have HO531 := n2_
           have BK518 := n3_
           have BK526 := n4_
           have BK527 := n5_
           have HB := n6_
           clear n0_ n1_ n2_ n3_ n4_ n5_ n6_
           clear hb ho35
           refine hK.out _ _ trivial (fun hHeld => ?_)
           clear hK K
           refine norm_ (a' := ?_) ?_ ?_
           rotate_left
           ·show Act.put _ (some 32) _ = _
            simp only [Act.put, zsA, zsZ, zsS, i64_w, i32_w]
            rfl
           exact norm_ (by first | (simp only [putAll, Act.put, zsA, zsZ, zsS]; done) | (simp only [putAll, Act.put, zsA, zsZ, zsS]; rfl)) (hJ3 (v530) _ ⟨(by refine ZNk ?_; exact Kd.N_mono HO522.out (fun _ hk => ⟨hk.1.1, ⟨hk.2, ⟨hk.1.2.1, ⟨hk.1.2.2.1, hk.1.2.2.2⟩⟩⟩⟩)), (by refine ZNk ?_; exact Kd.N_mono HO525.out (fun _ hk => ⟨hk.1.1, ⟨hk.2, ⟨hk.1.2.1, ⟨hk.1.2.2.1, hk.1.2.2.2⟩⟩⟩⟩)), (ZR HO531.out), (Zb BK518.out), (Zb BK526.out), (Zb BK527.out), (Zh3 HB.out GE518.out GE526.out GE527.out)⟩)
          ·skip
           refine box_step ?hg (N := 11) ?hd (cs := #[.int .i64 0, .slice none 0 0]) (t := 31) ?hr ?_; (case hd => rfl); (case hg => rfl); (case hr => first | (go_simp; done) | (go_simp; rfl))
           intro gb532 hg w34 hbox hb
           have n0_ := Zw (Kd.N_below (Kd.N_elderB (ZN HO522.out) gb532 (Nat.le_of_eq hg.symm)) hb)
           have n1_ := Zw (Kd.N_below (Kd.N_elderB (ZN HO525.out) gb532 (Nat.le_of_eq hg.symm)) hb)
           have n2_ := Zw (blk_below (g := gb518) (o := .cells #[.int .i64 a2_0, .slice A2_1 l2_1.length c2_1] 31 (0, 0)) (Zb BK518.out) hb)
           have n3_ := Zw (blk_below (g := gb526) (o := .cells #[.slice Ao25 t520.length co25] 24 (0, 0)) (Zb BK526.out) hb)
           have n4_ := Zw (blk_below (g := gb527) (o := .cells #[.slice Ao29 t523.length co29] 24 (0, 0)) (Zb BK527.out) hb)
           have n5_ := Zw (below_step (Zh3 HB.out GE518.out GE526.out GE527.out) hb)
           have n6_ := Zw (hbox)
           have n7_ := Zw ((by rw [hg]; exact (below_size (Zh3 HB.out GE518.out GE526.out GE527.out)) : w.heap.size ≤ gb532))
           have n8_ := Zw ((by rw [hg]; exact (below_size (Zh3 HB.out GE518.out GE526.out GE527.out)) : w.heap.size ≤ gb532))
           have n9_ := Zw ((by rw [hg]; exact Nat.ne_of_lt (blk_lt (Zb BK518.out)) : gb518 ≠ gb532))
           have n10_ := Zw ((by rw [hg]; exact Nat.ne_of_gt (blk_lt (Zb BK518.out)) : gb532 ≠ gb518))
           have n11_ := Zw ((by rw [hg]; exact Nat.ne_of_lt (blk_lt (Zb BK526.out)) : gb526 ≠ gb532))
           have n12_ := Zw ((by rw [hg]; exact Nat.ne_of_gt (blk_lt (Zb BK526.out)) : gb532 ≠ gb526))
           have n13_ := Zw ((by rw [hg]; exact Nat.ne_of_lt (blk_lt (Zb BK527.out)) : gb527 ≠ gb532))
           have n14_ := Zw ((by rw [hg]; exact Nat.ne_of_gt (blk_lt (Zb BK527.out)) : gb532 ≠ gb527))
           clear HO522
           clear HO525
           clear BK518
           clear BK526
           clear BK527
           clear HB
           have HO522 := n0_
           have HO525 := n1_
           have BK518 := n2_
           have BK526 := n3_
           have BK527 := n4_
           have HB := n5_
           have BK532 := n6_
           have GW532 := n7_
           have GE532 := n8_
           have NB518_532 := n9_
           have NB532_518 := n10_
           have NB526_532 := n11_
           have NB532_526 := n12_
           have NB527_532 := n13_
           have NB532_527 := n14_
           clear n0_ n1_ n2_ n3_ n4_ n5_ n6_ n7_ n8_ n9_ n10_ n11_ n12_ n13_ n14_
           clear hb hbox hg
           refine hK.out _ _ trivial (fun hHeld => ?_)
           clear hK K
           refine norm_ (a' := ?_) ?_ ?_
           rotate_left
           ·show Act.put _ (some 11) _ = _
            simp only [Act.put, zsA, zsZ, zsS, i64_w, i32_w]
            rfl
           exact norm_ (by first | (simp only [putAll, Act.put, zsA, zsZ, zsS]; done) | (simp only [putAll, Act.put, zsA, zsZ, zsS]; rfl)) (hJ5 (gb532) _ ⟨(by refine ZNk ?_; exact Kd.N_mono HO522.out (fun _ hk => ⟨hk.1.1, ⟨hk.1.2.1, ⟨hk.1.2.2.1, ⟨hk.1.2.2.2, hk.2⟩⟩⟩⟩)), (by refine ZNk ?_; exact Kd.N_mono HO525.out (fun _ hk => ⟨hk.1.1, ⟨hk.1.2.1, ⟨hk.1.2.2.1, ⟨hk.1.2.2.2, hk.2⟩⟩⟩⟩)), (Zb BK518.out), (Zb BK526.out), (Zb BK527.out), (Zb BK532.out), GW532.out, GE532.out, NB518_532.out, NB532_518.out, NB526_532.out, NB532_526.out, NB527_532.out, NB532_527.out, (Zh4 HB.out GE518.out GE526.out GE527.out GE532.out)⟩)
         ·skip
          rintro gb532 w35 ⟨h0_, h1_, h2_, h3_, h4_, h5_, h6_, h7_, h8_, h9_, h10_, h11_, h12_, h13_, h14_⟩
          have n0_ : Aside0 (Kd.N k31 31 w35 w.heap.size (fun k_ => some k_ ≠ (.slice Ao29 t523.length co29 : Value).ownBlock ∧ k_ ≠ gb518 ∧ k_ ≠ gb526 ∧ k_ ≠ gb527 ∧ k_ ≠ gb532) (.slice Ao25 t520.length co25) t520) := ⟨h0_⟩
          have n1_ : Aside0 (Kd.N k31 31 w35 w.heap.size (fun k_ => some k_ ≠ (.slice Ao25 t520.length co25 : Value).ownBlock ∧ k_ ≠ gb518 ∧ k_ ≠ gb526 ∧ k_ ≠ gb527 ∧ k_ ≠ gb532) (.slice Ao29 t523.length co29) t523) := ⟨h1_⟩
          have n2_ : Aside0 (w35.heap[gb518]? = some (.cells #[.int .i64 a2_0, .slice A2_1 l2_1.length c2_1] 31 (0, 0))) := ⟨h2_⟩
          have n3_ : Aside0 (w35.heap[gb526]? = some (.cells #[.slice Ao25 t520.length co25] 24 (0, 0))) := ⟨h3_⟩
          have n4_ : Aside0 (w35.heap[gb527]? = some (.cells #[.slice Ao29 t523.length co29] 24 (0, 0))) := ⟨h4_⟩
          have n5_ : Aside0 (w35.heap[gb532]? = some (.cells #[.int .i64 0, .slice none 0 0] 31 (0, 0))) := ⟨h5_⟩
          have n6_ : Aside0 (w.heap.size ≤ gb532) := ⟨h6_⟩
          have n7_ : Aside0 (w.heap.size ≤ gb532) := ⟨h7_⟩
          have n8_ : Aside0 (gb518 ≠ gb532) := ⟨h8_⟩
          have n9_ : Aside0 (gb532 ≠ gb518) := ⟨h9_⟩
          have n10_ : Aside0 (gb526 ≠ gb532) := ⟨h10_⟩
          have n11_ : Aside0 (gb532 ≠ gb526) := ⟨h11_⟩
          have n12_ : Aside0 (gb527 ≠ gb532) := ⟨h12_⟩
          have n13_ : Aside0 (gb532 ≠ gb527) := ⟨h13_⟩
          have n14_ : Aside0 (Below w.heap.size w w35) := ⟨h14_⟩
          clear HO522
          clear HO525
          clear BK518
          clear BK526
          clear BK527
          clear HB
          clear h0_ h1_ h2_ h3_ h4_ h5_ h6_ h7_ h8_ h9_ h10_ h11_ h12_ h13_ h14_
          have HO522 := n0_
          have HO525 := n1_
          have BK518 := n2_
          have BK526 := n3_
          have BK527 := n4_
          have BK532 := n5_
          have GW532 := n6_
          have GE532 := n7_
          have NB518_532 := n8_
          have NB532_518 := n9_
          have NB526_532 := n10_
          have NB532_526 := n11_
          have NB527_532 := n12_
          have NB532_527 := n13_
          have HB := n14_
          clear n0_ n1_ n2_ n3_ n4_ n5_ n6_ n7_ n8_ n9_ n10_ n11_ n12_ n13_ n14_
          have hHeld := trivial
          refine norm_ (a' := ?_) ?_ ?_
          rotate_left
          ·simp only [putAll, Act.put, zsA, zsZ, zsS]
           rfl
          refine two_ (i := 1) (j := 3) (Ni := some 30) (Nj := some 32) #[true, true, false, false, false, true, false] #[true, false, false, true, false, true, false] rfl rfl rfl rfl (by kernel_rfl) (by decide) (by decide) (fun K hK => ?_) (fun K hK => ?_)
          ·skip
           refine goes_ Try.func13 (by kernel_rfl) rfl #[.int .i64 a3, .int .i64 14] (by rfl) rfl rfl Zm ?_
           with_reducible refine (debuggerkit_Mod.calls a3 14 t528 _ A12.out).mono ?_
           rintro e w36 ⟨rfl, hb⟩
           refine ⟨_, rfl, ?_⟩
           have n0_ := Zw (Kd.N_below (ZN HO522.out) hb)
           have n1_ := Zw (Kd.N_below (ZN HO525.out) hb)
           have n2_ := Zw (blk_below (g := gb518) (o := .cells #[.int .i64 a2_0, .slice A2_1 l2_1.length c2_1] 31 (0, 0)) (Zb BK518.out) hb)
           have n3_ := Zw (blk_below (g := gb526) (o := .cells #[.slice Ao25 t520.length co25] 24 (0, 0)) (Zb BK526.out) hb)
           have n4_ := Zw (blk_below (g := gb527) (o := .cells #[.slice Ao29 t523.length co29] 24 (0, 0)) (Zb BK527.out) hb)
           have n5_ := Zw (blk_below (g := gb532) (o := .cells #[.int .i64 0, .slice none 0 0] 31 (0, 0)) (Zb BK532.out) hb)
           have n6_ := Zw (below_step (Zh4 HB.out GE518.out GE526.out GE527.out GE532.out) hb)
           clear HO522
           clear HO525
           clear BK518
           clear BK526
           clear BK527
           clear BK532
           clear HB
           have HO522 := n0_
           have HO525 := n1_
           have BK518 := n2_
           have BK526 := n3_
           have BK527 := n4_
           have BK532 := n5_
           have HB := n6_
           clear n0_ n1_ n2_ n3_ n4_ n5_ n6_
           (try clear hb)
           (try clear hb2)
           (try clear hk)
           (try clear hi)
           refine hK.out _ _ trivial (fun hHeld => ?_)
           clear hK K
           refine norm_ (a' := ?_) ?_ ?_
           rotate_left
           ·show Act.put _ (some 30) _ = _
            simp only [Act.put, zsA, zsZ, zsS, i64_w, i32_w]
            rfl
           refine pure_ (i := 2) (N := some 31) (v := ?_) (a' := ?_) #[true, true, true, false, false, true, false] rfl rfl (by kernel_rfl) (fun _ _ _ h => h) (Or.inl ⟨by rfl, ?_⟩) ?_ ?_
           rotate_left
           ·intro w'
            go_simp
            with_reducible rfl
           rotate_left
           ·simp only [Act.put, zsA, zsZ, zsS, i64_w, i32_w]
            rfl
           exact norm_ (by first | (simp only [putAll, Act.put, zsA, zsZ, zsS]; done) | (simp only [putAll, Act.put, zsA, zsZ, zsS]; rfl)) (hJ1_5 (gb532) _ ⟨(ZN HO522.out), (ZN HO525.out), (Zb BK518.out), (Zb BK526.out), (Zb BK527.out), (Zb BK532.out), GW532.out, GE532.out, NB518_532.out, NB532_518.out, NB526_532.out, NB532_526.out, NB527_532.out, NB532_527.out, (Zh4 HB.out GE518.out GE526.out GE527.out GE532.out)⟩)
          ·skip
           refine Kd.R_make_step (Kd.int .i64) _ 3 (by rfl) (N := 32) rfl 25 _ _ rfl 64 rfl rfl Try.underlying25 (.int .i64 0) 8 info3 rfl (by decide) (by omega) 0 (ok := fun _ => True) (okp := fun _ => True) rfl (fun _ hk => hk) trivial (by omega) (by omega) (Below.refl _ _) (Nat.le_refl _) ?_
           intro v530 w36 ho37 hb hg_ hnew_
           clear hg_ hnew_
           (first | rw [← Ny529.out] at ho37 | (simp only [Int.reduceToNat] at ho37; rw [← Ny529.out] at ho37))
           have n0_ := Zw (Kd.N_elder' (ZN HO522.out) (by first | exact Kd.R_base ho37 | exact Kd.S_base ho37 | exact Kd.R_base ho37 | exact Kd.N_base ho37) hb)
           have n1_ := Zw (Kd.N_elder' (ZN HO525.out) (by first | exact Kd.R_base ho37 | exact Kd.S_base ho37 | exact Kd.R_base ho37 | exact Kd.N_base ho37) hb)
           have n2_ := Zw (Kd.R_lower ho37 (below_size (Zh4 HB.out GE518.out GE526.out GE527.out GE532.out)))
           have n3_ := Zw (blk_below (g := gb518) (o := .cells #[.int .i64 a2_0, .slice A2_1 l2_1.length c2_1] 31 (0, 0)) (Zb BK518.out) hb)
           have n4_ := Zw (blk_below (g := gb526) (o := .cells #[.slice Ao25 t520.length co25] 24 (0, 0)) (Zb BK526.out) hb)
           have n5_ := Zw (blk_below (g := gb527) (o := .cells #[.slice Ao29 t523.length co29] 24 (0, 0)) (Zb BK527.out) hb)
           have n6_ := Zw (blk_below (g := gb532) (o := .cells #[.int .i64 0, .slice none 0 0] 31 (0, 0)) (Zb BK532.out) hb)
           have n7_ := Zw (below_step (Zh4 HB.out GE518.out GE526.out GE527.out GE532.out) hb)
           clear HO522
           clear HO525
           clear BK518
           clear BK526
           clear BK527
           clear BK532
           clear HB
           have HO522 := n0_
           have HO525 := n1_
           have HO531 := n2_
           have BK518 := n3_
           have BK526 := n4_
           have BK527 := n5_
           have BK532 := n6_
           have HB := n7_
           clear n0_ n1_ n2_ n3_ n4_ n5_ n6_ n7_
           clear hb ho37
           refine hK.out _ _ trivial (fun hHeld => ?_)
           clear hK K
           refine norm_ (a' := ?_) ?_ ?_
           rotate_left
           ·show Act.put _ (some 32) _ = _
            simp only [Act.put, zsA, zsZ, zsS, i64_w, i32_w]
            rfl
           exact norm_ (by first | (simp only [putAll, Act.put, zsA, zsZ, zsS]; done) | (simp only [putAll, Act.put, zsA, zsZ, zsS]; rfl)) (hJ3_5 (v530, gb532) _ ⟨(by refine ZNk ?_; exact Kd.N_mono HO522.out (fun _ hk => ⟨hk.1.1, ⟨hk.2, ⟨hk.1.2.1, ⟨hk.1.2.2.1, ⟨hk.1.2.2.2.1, hk.1.2.2.2.2⟩⟩⟩⟩⟩)), (by refine ZNk ?_; exact Kd.N_mono HO525.out (fun _ hk => ⟨hk.1.1, ⟨hk.2, ⟨hk.1.2.1, ⟨hk.1.2.2.1, ⟨hk.1.2.2.2.1, hk.1.2.2.2.2⟩⟩⟩⟩⟩)), (ZR HO531.out), (Zb BK518.out), (Zb BK526.out), (Zb BK527.out), (Zb BK532.out), GW532.out, GE532.out, NB518_532.out, NB532_518.out, NB526_532.out, NB532_526.out, NB527_532.out, NB532_527.out, (Zh4 HB.out GE518.out GE526.out GE527.out GE532.out)⟩)
        ·skip
         rintro v530 w36 ⟨h0_, h1_, h2_, h3_, h4_, h5_, h6_⟩
         have n0_ : Aside0 (Kd.N k31 31 w36 w.heap.size (fun k_ => some k_ ≠ (.slice Ao29 t523.length co29 : Value).ownBlock ∧ some k_ ≠ (v530 : Value).ownBlock ∧ k_ ≠ gb518 ∧ k_ ≠ gb526 ∧ k_ ≠ gb527) (.slice Ao25 t520.length co25) t520) := ⟨h0_⟩
         have n1_ : Aside0 (Kd.N k31 31 w36 w.heap.size (fun k_ => some k_ ≠ (.slice Ao25 t520.length co25 : Value).ownBlock ∧ some k_ ≠ (v530 : Value).ownBlock ∧ k_ ≠ gb518 ∧ k_ ≠ gb526 ∧ k_ ≠ gb527) (.slice Ao29 t523.length co29) t523) := ⟨h1_⟩
         have n2_ : Aside0 (Kd.R (Kd.int .i64) 3 w36 w.heap.size (fun _ => True) v530 y529) := ⟨h2_⟩
         have n3_ : Aside0 (w36.heap[gb518]? = some (.cells #[.int .i64 a2_0, .slice A2_1 l2_1.length c2_1] 31 (0, 0))) := ⟨h3_⟩
         have n4_ : Aside0 (w36.heap[gb526]? = some (.cells #[.slice Ao25 t520.length co25] 24 (0, 0))) := ⟨h4_⟩
         have n5_ : Aside0 (w36.heap[gb527]? = some (.cells #[.slice Ao29 t523.length co29] 24 (0, 0))) := ⟨h5_⟩
         have n6_ : Aside0 (Below w.heap.size w w36) := ⟨h6_⟩
         clear HO522
         clear HO525
         clear BK518
         clear BK526
         clear BK527
         clear HB
         clear h0_ h1_ h2_ h3_ h4_ h5_ h6_
         have HO522 := n0_
         have HO525 := n1_
         have HO531 := n2_
         have BK518 := n3_
         have BK526 := n4_
         have BK527 := n5_
         have HB := n6_
         clear n0_ n1_ n2_ n3_ n4_ n5_ n6_
         have hHeld := trivial
         refine norm_ (a' := ?_) ?_ ?_
         rotate_left
         ·simp only [putAll, Act.put, zsA, zsZ, zsS]
          rfl
         refine two_ (i := 1) (j := 5) (Ni := some 30) (Nj := some 11) #[true, true, false, true, false, false, false] #[true, false, false, true, false, true, false] rfl rfl rfl rfl (by kernel_rfl) (by decide) (by decide) (fun K hK => ?_) (fun K hK => ?_)
         ·skip
          refine goes_ Try.func13 (by kernel_rfl) rfl #[.int .i64 a3, .int .i64 14] (by rfl) rfl rfl Zm ?_
          with_reducible refine (debuggerkit_Mod.calls a3 14 t528 _ A12.out).mono ?_
          rintro e w37 ⟨rfl, hb⟩
          refine ⟨_, rfl, ?_⟩
          have n0_ := Zw (Kd.N_below (ZN HO522.out) hb)
          have n1_ := Zw (Kd.N_below (ZN HO525.out) hb)
          have n2_ := Zw (Kd.R_below (ZR HO531.out) hb)
          have n3_ := Zw (blk_below (g := gb518) (o := .cells #[.int .i64 a2_0, .slice A2_1 l2_1.length c2_1] 31 (0, 0)) (Zb BK518.out) hb)
          have n4_ := Zw (blk_below (g := gb526) (o := .cells #[.slice Ao25 t520.length co25] 24 (0, 0)) (Zb BK526.out) hb)
          have n5_ := Zw (blk_below (g := gb527) (o := .cells #[.slice Ao29 t523.length co29] 24 (0, 0)) (Zb BK527.out) hb)
          have n6_ := Zw (below_step (Zh3 HB.out GE518.out GE526.out GE527.out) hb)
          clear HO522
          clear HO525
          clear HO531
          clear BK518
          clear BK526
          clear BK527
          clear HB
          have HO522 := n0_
          have HO525 := n1_
          have HO531 := n2_
          have BK518 := n3_
          have BK526 := n4_
          have BK527 := n5_
          have HB := n6_
          clear n0_ n1_ n2_ n3_ n4_ n5_ n6_
          (try clear hb)
          (try clear hb2)
          (try clear hk)
          (try clear hi)
          obtain ⟨Ao38, co38, eo38⟩ := Kd.R_slice HO531.out
          (first | subst eo38 | (injection eo38 with f1_ f2_ f3_; have f4_ := f1_.symm; have f5_ := f3_.symm; clear f1_ f2_ f3_; subst f4_; subst f5_))
          refine hK.out _ _ trivial (fun hHeld => ?_)
          clear hK K
          refine norm_ (a' := ?_) ?_ ?_
          rotate_left
          ·show Act.put _ (some 30) _ = _
           simp only [Act.put, zsA, zsZ, zsS, i64_w, i32_w]
           rfl
          refine pure_ (i := 2) (N := some 31) (v := ?_) (a' := ?_) #[true, true, true, true, false, false, false] rfl rfl (by kernel_rfl) (fun _ _ _ h => h) (Or.inl ⟨by rfl, ?_⟩) ?_ ?_
          rotate_left
          ·intro w'
           go_simp
           with_reducible rfl
          rotate_left
          ·simp only [Act.put, zsA, zsZ, zsS, i64_w, i32_w]
           rfl
          refine pure_ (i := 4) (N := some 33) (v := ?_) (a' := ?_) #[true, true, true, true, true, false, false] rfl rfl (by kernel_rfl) (fun _ _ _ h => h) (Or.inl ⟨by rfl, ?_⟩) ?_ ?_
          rotate_left
          ·intro w'
           go_simp
           with_reducible rfl
          rotate_left
          ·simp only [Act.put, zsA, zsZ, zsS, i64_w, i32_w]
           rfl
          exact norm_ (by first | (simp only [putAll, Act.put, zsA, zsZ, zsS]; done) | (simp only [putAll, Act.put, zsA, zsZ, zsS]; rfl)) (hJ1_3 (.slice Ao38 y529.length co38) _ ⟨(ZN HO522.out), (ZN HO525.out), (ZR HO531.out), (Zb BK518.out), (Zb BK526.out), (Zb BK527.out), (Zh3 HB.out GE518.out GE526.out GE527.out)⟩)
         ·skip
          refine box_step ?hg (N := 11) ?hd (cs := #[.int .i64 0, .slice none 0 0]) (t := 31) ?hr ?_; (case hd => rfl); (case hg => rfl); (case hr => first | (go_simp; done) | (go_simp; rfl))
          intro gb532 hg w37 hbox hb
          have n0_ := Zw (Kd.N_below (Kd.N_elderB (ZN HO522.out) gb532 (Nat.le_of_eq hg.symm)) hb)
          have n1_ := Zw (Kd.N_below (Kd.N_elderB (ZN HO525.out) gb532 (Nat.le_of_eq hg.symm)) hb)
          have n2_ := Zw (Kd.R_below (ZR HO531.out) hb)
          have n3_ := Zw (blk_below (g := gb518) (o := .cells #[.int .i64 a2_0, .slice A2_1 l2_1.length c2_1] 31 (0, 0)) (Zb BK518.out) hb)
          have n4_ := Zw (blk_below (g := gb526) (o := .cells #[.slice Ao25 t520.length co25] 24 (0, 0)) (Zb BK526.out) hb)
          have n5_ := Zw (blk_below (g := gb527) (o := .cells #[.slice Ao29 t523.length co29] 24 (0, 0)) (Zb BK527.out) hb)
          have n6_ := Zw (below_step (Zh3 HB.out GE518.out GE526.out GE527.out) hb)
          have n7_ := Zw (hbox)
          have n8_ := Zw ((by rw [hg]; exact (below_size (Zh3 HB.out GE518.out GE526.out GE527.out)) : w.heap.size ≤ gb532))
          have n9_ := Zw ((by rw [hg]; exact (below_size (Zh3 HB.out GE518.out GE526.out GE527.out)) : w.heap.size ≤ gb532))
          have n10_ := Zw ((by rw [hg]; exact Nat.ne_of_lt (blk_lt (Zb BK518.out)) : gb518 ≠ gb532))
          have n11_ := Zw ((by rw [hg]; exact Nat.ne_of_gt (blk_lt (Zb BK518.out)) : gb532 ≠ gb518))
          have n12_ := Zw ((by rw [hg]; exact Nat.ne_of_lt (blk_lt (Zb BK526.out)) : gb526 ≠ gb532))
          have n13_ := Zw ((by rw [hg]; exact Nat.ne_of_gt (blk_lt (Zb BK526.out)) : gb532 ≠ gb526))
          have n14_ := Zw ((by rw [hg]; exact Nat.ne_of_lt (blk_lt (Zb BK527.out)) : gb527 ≠ gb532))
          have n15_ := Zw ((by rw [hg]; exact Nat.ne_of_gt (blk_lt (Zb BK527.out)) : gb532 ≠ gb527))
          clear HO522
          clear HO525
          clear HO531
          clear BK518
          clear BK526
          clear BK527
          clear HB
          have HO522 := n0_
          have HO525 := n1_
          have HO531 := n2_
          have BK518 := n3_
          have BK526 := n4_
          have BK527 := n5_
          have HB := n6_
          have BK532 := n7_
          have GW532 := n8_
          have GE532 := n9_
          have NB518_532 := n10_
          have NB532_518 := n11_
          have NB526_532 := n12_
          have NB532_526 := n13_
          have NB527_532 := n14_
          have NB532_527 := n15_
          clear n0_ n1_ n2_ n3_ n4_ n5_ n6_ n7_ n8_ n9_ n10_ n11_ n12_ n13_ n14_ n15_
          clear hb hbox hg
          refine hK.out _ _ trivial (fun hHeld => ?_)
          clear hK K
          refine norm_ (a' := ?_) ?_ ?_
          rotate_left
          ·show Act.put _ (some 11) _ = _
           simp only [Act.put, zsA, zsZ, zsS, i64_w, i32_w]
           rfl
          exact norm_ (by first | (simp only [putAll, Act.put, zsA, zsZ, zsS]; done) | (simp only [putAll, Act.put, zsA, zsZ, zsS]; rfl)) (hJ3_5 (v530, gb532) _ ⟨(by refine ZNk ?_; exact Kd.N_mono HO522.out (fun _ hk => ⟨hk.1.1, ⟨hk.1.2.1, ⟨hk.1.2.2.1, ⟨hk.1.2.2.2.1, ⟨hk.1.2.2.2.2, hk.2⟩⟩⟩⟩⟩)), (by refine ZNk ?_; exact Kd.N_mono HO525.out (fun _ hk => ⟨hk.1.1, ⟨hk.1.2.1, ⟨hk.1.2.2.1, ⟨hk.1.2.2.2.1, ⟨hk.1.2.2.2.2, hk.2⟩⟩⟩⟩⟩)), (ZR HO531.out), (Zb BK518.out), (Zb BK526.out), (Zb BK527.out), (Zb BK532.out), GW532.out, GE532.out, NB518_532.out, NB532_518.out, NB526_532.out, NB532_526.out, NB527_532.out, NB532_527.out, (Zh4 HB.out GE518.out GE526.out GE527.out GE532.out)⟩)
       ·skip
        rintro _ w35 ⟨h0_, h1_, h2_, h3_, h4_, h5_⟩
        have n0_ : Aside0 (Kd.N k31 31 w35 w.heap.size (fun k_ => some k_ ≠ (.slice Ao29 t523.length co29 : Value).ownBlock ∧ k_ ≠ gb518 ∧ k_ ≠ gb526 ∧ k_ ≠ gb527) (.slice Ao25 t520.length co25) t520) := ⟨h0_⟩
        have n1_ : Aside0 (Kd.N k31 31 w35 w.heap.size (fun k_ => some k_ ≠ (.slice Ao25 t520.length co25 : Value).ownBlock ∧ k_ ≠ gb518 ∧ k_ ≠ gb526 ∧ k_ ≠ gb527) (.slice Ao29 t523.length co29) t523) := ⟨h1_⟩
        have n2_ : Aside0 (w35.heap[gb518]? = some (.cells #[.int .i64 a2_0, .slice A2_1 l2_1.length c2_1] 31 (0, 0))) := ⟨h2_⟩
        have n3_ : Aside0 (w35.heap[gb526]? = some (.cells #[.slice Ao25 t520.length co25] 24 (0, 0))) := ⟨h3_⟩
        have n4_ : Aside0 (w35.heap[gb527]? = some (.cells #[.slice Ao29 t523.length co29] 24 (0, 0))) := ⟨h4_⟩
        have n5_ : Aside0 (Below w.heap.size w w35) := ⟨h5_⟩
        clear HO522
        clear HO525
        clear BK518
        clear BK526
        clear BK527
        clear HB
        clear h0_ h1_ h2_ h3_ h4_ h5_
        have HO522 := n0_
        have HO525 := n1_
        have BK518 := n2_
        have BK526 := n3_
        have BK527 := n4_
        have HB := n5_
        clear n0_ n1_ n2_ n3_ n4_ n5_
        have hHeld := trivial
        refine norm_ (a' := ?_) ?_ ?_
        rotate_left
        ·simp only [putAll, Act.put, zsA, zsZ, zsS]
         rfl
        refine two_ (i := 3) (j := 5) (Ni := some 32) (Nj := some 11) #[true, true, true, true, false, false, false] #[true, true, true, false, false, true, false] rfl rfl rfl rfl (by kernel_rfl) (by decide) (by decide) (fun K hK => ?_) (fun K hK => ?_)
        ·skip
         refine Kd.R_make_step (Kd.int .i64) _ 3 (by rfl) (N := 32) rfl 25 _ _ rfl 64 rfl rfl Try.underlying25 (.int .i64 0) 8 info3 rfl (by decide) (by omega) 0 (ok := fun _ => True) (okp := fun _ => True) rfl (fun _ hk => hk) trivial (by omega) (by omega) (Below.refl _ _) (Nat.le_refl _) ?_
         intro v530 w36 ho37 hb hg_ hnew_
         clear hg_ hnew_
         (first | rw [← Ny529.out] at ho37 | (simp only [Int.reduceToNat] at ho37; rw [← Ny529.out] at ho37))
         have n0_ := Zw (Kd.N_elder' (ZN HO522.out) (by first | exact Kd.R_base ho37 | exact Kd.S_base ho37 | exact Kd.R_base ho37 | exact Kd.N_base ho37) hb)
         have n1_ := Zw (Kd.N_elder' (ZN HO525.out) (by first | exact Kd.R_base ho37 | exact Kd.S_base ho37 | exact Kd.R_base ho37 | exact Kd.N_base ho37) hb)
         have n2_ := Zw (Kd.R_lower ho37 (below_size (Zh3 HB.out GE518.out GE526.out GE527.out)))
         have n3_ := Zw (blk_below (g := gb518) (o := .cells #[.int .i64 a2_0, .slice A2_1 l2_1.length c2_1] 31 (0, 0)) (Zb BK518.out) hb)
         have n4_ := Zw (blk_below (g := gb526) (o := .cells #[.slice Ao25 t520.length co25] 24 (0, 0)) (Zb BK526.out) hb)
         have n5_ := Zw (blk_below (g := gb527) (o := .cells #[.slice Ao29 t523.length co29] 24 (0, 0)) (Zb BK527.out) hb)
         have n6_ := Zw (below_step (Zh3 HB.out GE518.out GE526.out GE527.out) hb)
         clear HO522
         clear HO525
         clear BK518
         clear BK526
         clear BK527
         clear HB
         have HO522 := n0_
         have HO525 := n1_
         have HO531 := n2_
         have BK518 := n3_
         have BK526 := n4_
         have BK527 := n5_
         have HB := n6_
         clear n0_ n1_ n2_ n3_ n4_ n5_ n6_
         clear hb ho37
         obtain ⟨Ao38, co38, eo38⟩ := Kd.R_slice HO531.out
         (first | subst eo38 | (injection eo38 with f1_ f2_ f3_; have f4_ := f1_.symm; have f5_ := f3_.symm; clear f1_ f2_ f3_; subst f4_; subst f5_))
         refine hK.out _ _ trivial (fun hHeld => ?_)
         clear hK K
         refine norm_ (a' := ?_) ?_ ?_
         rotate_left
         ·show Act.put _ (some 32) _ = _
          simp only [Act.put, zsA, zsZ, zsS, i64_w, i32_w]
          rfl
         refine pure_ (i := 4) (N := some 33) (v := ?_) (a' := ?_) #[true, true, true, true, true, false, false] rfl rfl (by kernel_rfl) (fun _ _ _ h => h) (Or.inl ⟨by rfl, ?_⟩) ?_ ?_
         rotate_left
         ·intro w'
          go_simp
          with_reducible rfl
         rotate_left
         ·simp only [Act.put, zsA, zsZ, zsS, i64_w, i32_w]
          rfl
         exact norm_ (by first | (simp only [putAll, Act.put, zsA, zsZ, zsS]; done) | (simp only [putAll, Act.put, zsA, zsZ, zsS]; rfl)) (hJ1_3 (.slice Ao38 y529.length co38) _ ⟨(by refine ZNk ?_; exact Kd.N_mono HO522.out (fun _ hk => ⟨hk.1.1, ⟨hk.2, ⟨hk.1.2.1, ⟨hk.1.2.2.1, hk.1.2.2.2⟩⟩⟩⟩)), (by refine ZNk ?_; exact Kd.N_mono HO525.out (fun _ hk => ⟨hk.1.1, ⟨hk.2, ⟨hk.1.2.1, ⟨hk.1.2.2.1, hk.1.2.2.2⟩⟩⟩⟩)), (ZR HO531.out), (Zb BK518.out), (Zb BK526.out), (Zb BK527.out), (Zh3 HB.out GE518.out GE526.out GE527.out)⟩)
        ·skip
         refine box_step ?hg (N := 11) ?hd (cs := #[.int .i64 0, .slice none 0 0]) (t := 31) ?hr ?_; (case hd => rfl); (case hg => rfl); (case hr => first | (go_simp; done) | (go_simp; rfl))
         intro gb532 hg w36 hbox hb
         have n0_ := Zw (Kd.N_below (Kd.N_elderB (ZN HO522.out) gb532 (Nat.le_of_eq hg.symm)) hb)
         have n1_ := Zw (Kd.N_below (Kd.N_elderB (ZN HO525.out) gb532 (Nat.le_of_eq hg.symm)) hb)
         have n2_ := Zw (blk_below (g := gb518) (o := .cells #[.int .i64 a2_0, .slice A2_1 l2_1.length c2_1] 31 (0, 0)) (Zb BK518.out) hb)
         have n3_ := Zw (blk_below (g := gb526) (o := .cells #[.slice Ao25 t520.length co25] 24 (0, 0)) (Zb BK526.out) hb)
         have n4_ := Zw (blk_below (g := gb527) (o := .cells #[.slice Ao29 t523.length co29] 24 (0, 0)) (Zb BK527.out) hb)
         have n5_ := Zw (below_step (Zh3 HB.out GE518.out GE526.out GE527.out) hb)
         have n6_ := Zw (hbox)
         have n7_ := Zw ((by rw [hg]; exact (below_size (Zh3 HB.out GE518.out GE526.out GE527.out)) : w.heap.size ≤ gb532))
         have n8_ := Zw ((by rw [hg]; exact (below_size (Zh3 HB.out GE518.out GE526.out GE527.out)) : w.heap.size ≤ gb532))
         have n9_ := Zw ((by rw [hg]; exact Nat.ne_of_lt (blk_lt (Zb BK518.out)) : gb518 ≠ gb532))
         have n10_ := Zw ((by rw [hg]; exact Nat.ne_of_gt (blk_lt (Zb BK518.out)) : gb532 ≠ gb518))
         have n11_ := Zw ((by rw [hg]; exact Nat.ne_of_lt (blk_lt (Zb BK526.out)) : gb526 ≠ gb532))
         have n12_ := Zw ((by rw [hg]; exact Nat.ne_of_gt (blk_lt (Zb BK526.out)) : gb532 ≠ gb526))
         have n13_ := Zw ((by rw [hg]; exact Nat.ne_of_lt (blk_lt (Zb BK527.out)) : gb527 ≠ gb532))
         have n14_ := Zw ((by rw [hg]; exact Nat.ne_of_gt (blk_lt (Zb BK527.out)) : gb532 ≠ gb527))
         clear HO522
         clear HO525
         clear BK518
         clear BK526
         clear BK527
         clear HB
         have HO522 := n0_
         have HO525 := n1_
         have BK518 := n2_
         have BK526 := n3_
         have BK527 := n4_
         have HB := n5_
         have BK532 := n6_
         have GW532 := n7_
         have GE532 := n8_
         have NB518_532 := n9_
         have NB532_518 := n10_
         have NB526_532 := n11_
         have NB532_526 := n12_
         have NB527_532 := n13_
         have NB532_527 := n14_
         clear n0_ n1_ n2_ n3_ n4_ n5_ n6_ n7_ n8_ n9_ n10_ n11_ n12_ n13_ n14_
         clear hb hbox hg
         refine hK.out _ _ trivial (fun hHeld => ?_)
         clear hK K
         refine norm_ (a' := ?_) ?_ ?_
         rotate_left
         ·show Act.put _ (some 11) _ = _
          simp only [Act.put, zsA, zsZ, zsS, i64_w, i32_w]
          rfl
         exact norm_ (by first | (simp only [putAll, Act.put, zsA, zsZ, zsS]; done) | (simp only [putAll, Act.put, zsA, zsZ, zsS]; rfl)) (hJ1_5 (gb532) _ ⟨(by refine ZNk ?_; exact Kd.N_mono HO522.out (fun _ hk => ⟨hk.1.1, ⟨hk.1.2.1, ⟨hk.1.2.2.1, ⟨hk.1.2.2.2, hk.2⟩⟩⟩⟩)), (by refine ZNk ?_; exact Kd.N_mono HO525.out (fun _ hk => ⟨hk.1.1, ⟨hk.1.2.1, ⟨hk.1.2.2.1, ⟨hk.1.2.2.2, hk.2⟩⟩⟩⟩)), (Zb BK518.out), (Zb BK526.out), (Zb BK527.out), (Zb BK532.out), GW532.out, GE532.out, NB518_532.out, NB532_518.out, NB526_532.out, NB532_526.out, NB527_532.out, NB532_527.out, (Zh4 HB.out GE518.out GE526.out GE527.out GE532.out)⟩)
      ·skip
       rintro ⟨v530, gb532⟩ w37 ⟨h0_, h1_, h2_, h3_, h4_, h5_, h6_, h7_, h8_, h9_, h10_, h11_, h12_, h13_, h14_, h15_⟩
       have n0_ : Aside0 (Kd.N k31 31 w37 w.heap.size (fun k_ => some k_ ≠ (.slice Ao29 t523.length co29 : Value).ownBlock ∧ some k_ ≠ (v530 : Value).ownBlock ∧ k_ ≠ gb518 ∧ k_ ≠ gb526 ∧ k_ ≠ gb527 ∧ k_ ≠ gb532) (.slice Ao25 t520.length co25) t520) := ⟨h0_⟩
       have n1_ : Aside0 (Kd.N k31 31 w37 w.heap.size (fun k_ => some k_ ≠ (.slice Ao25 t520.length co25 : Value).ownBlock ∧ some k_ ≠ (v530 : Value).ownBlock ∧ k_ ≠ gb518 ∧ k_ ≠ gb526 ∧ k_ ≠ gb527 ∧ k_ ≠ gb532) (.slice Ao29 t523.length co29) t523) := ⟨h1_⟩
       have n2_ : Aside0 (Kd.R (Kd.int .i64) 3 w37 w.heap.size (fun _ => True) v530 y529) := ⟨h2_⟩
       have n3_ : Aside0 (w37.heap[gb518]? = some (.cells #[.int .i64 a2_0, .slice A2_1 l2_1.length c2_1] 31 (0, 0))) := ⟨h3_⟩
       have n4_ : Aside0 (w37.heap[gb526]? = some (.cells #[.slice Ao25 t520.length co25] 24 (0, 0))) := ⟨h4_⟩
       have n5_ : Aside0 (w37.heap[gb527]? = some (.cells #[.slice Ao29 t523.length co29] 24 (0, 0))) := ⟨h5_⟩
       have n6_ : Aside0 (w37.heap[gb532]? = some (.cells #[.int .i64 0, .slice none 0 0] 31 (0, 0))) := ⟨h6_⟩
       have n7_ : Aside0 (w.heap.size ≤ gb532) := ⟨h7_⟩
       have n8_ : Aside0 (w.heap.size ≤ gb532) := ⟨h8_⟩
       have n9_ : Aside0 (gb518 ≠ gb532) := ⟨h9_⟩
       have n10_ : Aside0 (gb532 ≠ gb518) := ⟨h10_⟩
       have n11_ : Aside0 (gb526 ≠ gb532) := ⟨h11_⟩
       have n12_ : Aside0 (gb532 ≠ gb526) := ⟨h12_⟩
       have n13_ : Aside0 (gb527 ≠ gb532) := ⟨h13_⟩
       have n14_ : Aside0 (gb532 ≠ gb527) := ⟨h14_⟩
       have n15_ : Aside0 (Below w.heap.size w w37) := ⟨h15_⟩
       clear HO522
       clear HO525
       clear BK518
       clear BK526
       clear BK527
       clear HB
       clear h0_ h1_ h2_ h3_ h4_ h5_ h6_ h7_ h8_ h9_ h10_ h11_ h12_ h13_ h14_ h15_
       have HO522 := n0_
       have HO525 := n1_
       have HO531 := n2_
       have BK518 := n3_
       have BK526 := n4_
       have BK527 := n5_
       have BK532 := n6_
       have GW532 := n7_
       have GE532 := n8_
       have NB518_532 := n9_
       have NB532_518 := n10_
       have NB526_532 := n11_
       have NB532_526 := n12_
       have NB527_532 := n13_
       have NB532_527 := n14_
       have HB := n15_
       clear n0_ n1_ n2_ n3_ n4_ n5_ n6_ n7_ n8_ n9_ n10_ n11_ n12_ n13_ n14_ n15_
       have hHeld := trivial
       refine norm_ (a' := ?_) ?_ ?_
       rotate_left
       ·simp only [putAll, Act.put, zsA, zsZ, zsS]
        rfl
       refine one_ (i := 1) (N := some 30) #[true, true, false, true, false, true, false] rfl rfl (by kernel_rfl) (by decide) (fun K hK => ?_)
       refine goes_ Try.func13 (by kernel_rfl) rfl #[.int .i64 a3, .int .i64 14] (by rfl) rfl rfl Zm ?_
       with_reducible refine (debuggerkit_Mod.calls a3 14 t528 _ A12.out).mono ?_
       rintro e w38 ⟨rfl, hb⟩
       refine ⟨_, rfl, ?_⟩
       have n0_ := Zw (Kd.N_below (ZN HO522.out) hb)
       have n1_ := Zw (Kd.N_below (ZN HO525.out) hb)
       have n2_ := Zw (Kd.R_below (ZR HO531.out) hb)
       have n3_ := Zw (blk_below (g := gb518) (o := .cells #[.int .i64 a2_0, .slice A2_1 l2_1.length c2_1] 31 (0, 0)) (Zb BK518.out) hb)
       have n4_ := Zw (blk_below (g := gb526) (o := .cells #[.slice Ao25 t520.length co25] 24 (0, 0)) (Zb BK526.out) hb)
       have n5_ := Zw (blk_below (g := gb527) (o := .cells #[.slice Ao29 t523.length co29] 24 (0, 0)) (Zb BK527.out) hb)
       have n6_ := Zw (blk_below (g := gb532) (o := .cells #[.int .i64 0, .slice none 0 0] 31 (0, 0)) (Zb BK532.out) hb)
       have n7_ := Zw (below_step (Zh4 HB.out GE518.out GE526.out GE527.out GE532.out) hb)
       clear HO522
       clear HO525
       clear HO531
       clear BK518
       clear BK526
       clear BK527
       clear BK532
       clear HB
       have HO522 := n0_
       have HO525 := n1_
       have HO531 := n2_
       have BK518 := n3_
       have BK526 := n4_
       have BK527 := n5_
       have BK532 := n6_
       have HB := n7_
       clear n0_ n1_ n2_ n3_ n4_ n5_ n6_ n7_
       (try clear hb)
       (try clear hb2)
       (try clear hk)
       (try clear hi)
       obtain ⟨Ao39, co39, eo39⟩ := Kd.R_slice HO531.out
       (first | subst eo39 | (injection eo39 with f1_ f2_ f3_; have f4_ := f1_.symm; have f5_ := f3_.symm; clear f1_ f2_ f3_; subst f4_; subst f5_))
       refine hK.out _ _ trivial (fun hHeld => ?_)
       clear hK K
       refine norm_ (a' := ?_) ?_ ?_
       rotate_left
       ·show Act.put _ (some 30) _ = _
        simp only [Act.put, zsA, zsZ, zsS, i64_w, i32_w]
        rfl
       refine pure_ (i := 2) (N := some 31) (v := ?_) (a' := ?_) #[true, true, true, true, false, true, false] rfl rfl (by kernel_rfl) (fun _ _ _ h => h) (Or.inl ⟨by rfl, ?_⟩) ?_ ?_
       rotate_left
       ·intro w'
        go_simp
        with_reducible rfl
       rotate_left
       ·simp only [Act.put, zsA, zsZ, zsS, i64_w, i32_w]
        rfl
       refine pure_ (i := 4) (N := some 33) (v := ?_) (a' := ?_) #[true, true, true, true, true, true, false] rfl rfl (by kernel_rfl) (fun _ _ _ h => h) (Or.inl ⟨by rfl, ?_⟩) ?_ ?_
       rotate_left
       ·intro w'
        go_simp
        with_reducible rfl
       rotate_left
       ·simp only [Act.put, zsA, zsZ, zsS, i64_w, i32_w]
        rfl
       exact norm_ (by first | (simp only [putAll, Act.put, zsA, zsZ, zsS]; done) | (simp only [putAll, Act.put, zsA, zsZ, zsS]; rfl)) (hJ1_3_5 (.slice Ao39 y529.length co39, gb532) _ ⟨(ZN HO522.out), (ZN HO525.out), (ZR HO531.out), (Zb BK518.out), (Zb BK526.out), (Zb BK527.out), (Zb BK532.out), GW532.out, GE532.out, NB518_532.out, NB532_518.out, NB526_532.out, NB532_526.out, NB527_532.out, NB532_527.out, (Zh4 HB.out GE518.out GE526.out GE527.out GE532.out)⟩)
     ·skip
      rintro gb532 w36 ⟨h0_, h1_, h2_, h3_, h4_, h5_, h6_, h7_, h8_, h9_, h10_, h11_, h12_, h13_, h14_⟩
      have n0_ : Aside0 (Kd.N k31 31 w36 w.heap.size (fun k_ => some k_ ≠ (.slice Ao29 t523.length co29 : Value).ownBlock ∧ k_ ≠ gb518 ∧ k_ ≠ gb526 ∧ k_ ≠ gb527 ∧ k_ ≠ gb532) (.slice Ao25 t520.length co25) t520) := ⟨h0_⟩
      have n1_ : Aside0 (Kd.N k31 31 w36 w.heap.size (fun k_ => some k_ ≠ (.slice Ao25 t520.length co25 : Value).ownBlock ∧ k_ ≠ gb518 ∧ k_ ≠ gb526 ∧ k_ ≠ gb527 ∧ k_ ≠ gb532) (.slice Ao29 t523.length co29) t523) := ⟨h1_⟩
      have n2_ : Aside0 (w36.heap[gb518]? = some (.cells #[.int .i64 a2_0, .slice A2_1 l2_1.length c2_1] 31 (0, 0))) := ⟨h2_⟩
      have n3_ : Aside0 (w36.heap[gb526]? = some (.cells #[.slice Ao25 t520.length co25] 24 (0, 0))) := ⟨h3_⟩
      have n4_ : Aside0 (w36.heap[gb527]? = some (.cells #[.slice Ao29 t523.length co29] 24 (0, 0))) := ⟨h4_⟩
      have n5_ : Aside0 (w36.heap[gb532]? = some (.cells #[.int .i64 0, .slice none 0 0] 31 (0, 0))) := ⟨h5_⟩
      have n6_ : Aside0 (w.heap.size ≤ gb532) := ⟨h6_⟩
      have n7_ : Aside0 (w.heap.size ≤ gb532) := ⟨h7_⟩
      have n8_ : Aside0 (gb518 ≠ gb532) := ⟨h8_⟩
      have n9_ : Aside0 (gb532 ≠ gb518) := ⟨h9_⟩
      have n10_ : Aside0 (gb526 ≠ gb532) := ⟨h10_⟩
      have n11_ : Aside0 (gb532 ≠ gb526) := ⟨h11_⟩
      have n12_ : Aside0 (gb527 ≠ gb532) := ⟨h12_⟩
      have n13_ : Aside0 (gb532 ≠ gb527) := ⟨h13_⟩
      have n14_ : Aside0 (Below w.heap.size w w36) := ⟨h14_⟩
      clear HO522
      clear HO525
      clear BK518
      clear BK526
      clear BK527
      clear HB
      clear h0_ h1_ h2_ h3_ h4_ h5_ h6_ h7_ h8_ h9_ h10_ h11_ h12_ h13_ h14_
      have HO522 := n0_
      have HO525 := n1_
      have BK518 := n2_
      have BK526 := n3_
      have BK527 := n4_
      have BK532 := n5_
      have GW532 := n6_
      have GE532 := n7_
      have NB518_532 := n8_
      have NB532_518 := n9_
      have NB526_532 := n10_
      have NB532_526 := n11_
      have NB527_532 := n12_
      have NB532_527 := n13_
      have HB := n14_
      clear n0_ n1_ n2_ n3_ n4_ n5_ n6_ n7_ n8_ n9_ n10_ n11_ n12_ n13_ n14_
      have hHeld := trivial
      refine norm_ (a' := ?_) ?_ ?_
      rotate_left
      ·simp only [putAll, Act.put, zsA, zsZ, zsS]
       rfl
      refine one_ (i := 3) (N := some 32) #[true, true, true, true, false, true, false] rfl rfl (by kernel_rfl) (by decide) (fun K hK => ?_)
      refine Kd.R_make_step (Kd.int .i64) _ 3 (by rfl) (N := 32) rfl 25 _ _ rfl 64 rfl rfl Try.underlying25 (.int .i64 0) 8 info3 rfl (by decide) (by omega) 0 (ok := fun _ => True) (okp := fun _ => True) rfl (fun _ hk => hk) trivial (by omega) (by omega) (Below.refl _ _) (Nat.le_refl _) ?_
      intro v530 w37 ho38 hb hg_ hnew_
      clear hg_ hnew_
      (first | rw [← Ny529.out] at ho38 | (simp only [Int.reduceToNat] at ho38; rw [← Ny529.out] at ho38))
      have n0_ := Zw (Kd.N_elder' (ZN HO522.out) (by first | exact Kd.R_base ho38 | exact Kd.S_base ho38 | exact Kd.R_base ho38 | exact Kd.N_base ho38) hb)
      have n1_ := Zw (Kd.N_elder' (ZN HO525.out) (by first | exact Kd.R_base ho38 | exact Kd.S_base ho38 | exact Kd.R_base ho38 | exact Kd.N_base ho38) hb)
      have n2_ := Zw (Kd.R_lower ho38 (below_size (Zh4 HB.out GE518.out GE526.out GE527.out GE532.out)))
      have n3_ := Zw (blk_below (g := gb518) (o := .cells #[.int .i64 a2_0, .slice A2_1 l2_1.length c2_1] 31 (0, 0)) (Zb BK518.out) hb)
      have n4_ := Zw (blk_below (g := gb526) (o := .cells #[.slice Ao25 t520.length co25] 24 (0, 0)) (Zb BK526.out) hb)
      have n5_ := Zw (blk_below (g := gb527) (o := .cells #[.slice Ao29 t523.length co29] 24 (0, 0)) (Zb BK527.out) hb)
      have n6_ := Zw (blk_below (g := gb532) (o := .cells #[.int .i64 0, .slice none 0 0] 31 (0, 0)) (Zb BK532.out) hb)
      have n7_ := Zw (below_step (Zh4 HB.out GE518.out GE526.out GE527.out GE532.out) hb)
      clear HO522
      clear HO525
      clear BK518
      clear BK526
      clear BK527
      clear BK532
      clear HB
      have HO522 := n0_
      have HO525 := n1_
      have HO531 := n2_
      have BK518 := n3_
      have BK526 := n4_
      have BK527 := n5_
      have BK532 := n6_
      have HB := n7_
      clear n0_ n1_ n2_ n3_ n4_ n5_ n6_ n7_
      clear hb ho38
      obtain ⟨Ao39, co39, eo39⟩ := Kd.R_slice HO531.out
      (first | subst eo39 | (injection eo39 with f1_ f2_ f3_; have f4_ := f1_.symm; have f5_ := f3_.symm; clear f1_ f2_ f3_; subst f4_; subst f5_))
      refine hK.out _ _ trivial (fun hHeld => ?_)
      clear hK K
      refine norm_ (a' := ?_) ?_ ?_
      rotate_left
      ·show Act.put _ (some 32) _ = _
       simp only [Act.put, zsA, zsZ, zsS, i64_w, i32_w]
       rfl
      refine pure_ (i := 4) (N := some 33) (v := ?_) (a' := ?_) #[true, true, true, true, true, true, false] rfl rfl (by kernel_rfl) (fun _ _ _ h => h) (Or.inl ⟨by rfl, ?_⟩) ?_ ?_
      rotate_left
      ·intro w'
       go_simp
       with_reducible rfl
      rotate_left
      ·simp only [Act.put, zsA, zsZ, zsS, i64_w, i32_w]
       rfl
      exact norm_ (by first | (simp only [putAll, Act.put, zsA, zsZ, zsS]; done) | (simp only [putAll, Act.put, zsA, zsZ, zsS]; rfl)) (hJ1_3_5 (.slice Ao39 y529.length co39, gb532) _ ⟨(by refine ZNk ?_; exact Kd.N_mono HO522.out (fun _ hk => ⟨hk.1.1, ⟨hk.2, ⟨hk.1.2.1, ⟨hk.1.2.2.1, ⟨hk.1.2.2.2.1, hk.1.2.2.2.2⟩⟩⟩⟩⟩)), (by refine ZNk ?_; exact Kd.N_mono HO525.out (fun _ hk => ⟨hk.1.1, ⟨hk.2, ⟨hk.1.2.1, ⟨hk.1.2.2.1, ⟨hk.1.2.2.2.1, hk.1.2.2.2.2⟩⟩⟩⟩⟩)), (ZR HO531.out), (Zb BK518.out), (Zb BK526.out), (Zb BK527.out), (Zb BK532.out), GW532.out, GE532.out, NB518_532.out, NB532_518.out, NB526_532.out, NB532_526.out, NB527_532.out, NB532_527.out, (Zh4 HB.out GE518.out GE526.out GE527.out GE532.out)⟩)
    ·skip
     rintro v530 w38 ⟨h0_, h1_, h2_, h3_, h4_, h5_, h6_⟩
     have n0_ : Aside0 (Kd.N k31 31 w38 w.heap.size (fun k_ => some k_ ≠ (.slice Ao29 t523.length co29 : Value).ownBlock ∧ some k_ ≠ (v530 : Value).ownBlock ∧ k_ ≠ gb518 ∧ k_ ≠ gb526 ∧ k_ ≠ gb527) (.slice Ao25 t520.length co25) t520) := ⟨h0_⟩
     have n1_ : Aside0 (Kd.N k31 31 w38 w.heap.size (fun k_ => some k_ ≠ (.slice Ao25 t520.length co25 : Value).ownBlock ∧ some k_ ≠ (v530 : Value).ownBlock ∧ k_ ≠ gb518 ∧ k_ ≠ gb526 ∧ k_ ≠ gb527) (.slice Ao29 t523.length co29) t523) := ⟨h1_⟩
     have n2_ : Aside0 (Kd.R (Kd.int .i64) 3 w38 w.heap.size (fun _ => True) v530 y529) := ⟨h2_⟩
     have n3_ : Aside0 (w38.heap[gb518]? = some (.cells #[.int .i64 a2_0, .slice A2_1 l2_1.length c2_1] 31 (0, 0))) := ⟨h3_⟩
     have n4_ : Aside0 (w38.heap[gb526]? = some (.cells #[.slice Ao25 t520.length co25] 24 (0, 0))) := ⟨h4_⟩
     have n5_ : Aside0 (w38.heap[gb527]? = some (.cells #[.slice Ao29 t523.length co29] 24 (0, 0))) := ⟨h5_⟩
     have n6_ : Aside0 (Below w.heap.size w w38) := ⟨h6_⟩
     clear HO522
     clear HO525
     clear BK518
     clear BK526
     clear BK527
     clear HB
     clear h0_ h1_ h2_ h3_ h4_ h5_ h6_
     have HO522 := n0_
     have HO525 := n1_
     have HO531 := n2_
     have BK518 := n3_
     have BK526 := n4_
     have BK527 := n5_
     have HB := n6_
     clear n0_ n1_ n2_ n3_ n4_ n5_ n6_
     have hHeld := trivial
     obtain ⟨Ao39, co39, eo39⟩ := Kd.R_slice HO531.out
     (first | subst eo39 | (injection eo39 with f1_ f2_ f3_; have f4_ := f1_.symm; have f5_ := f3_.symm; clear f1_ f2_ f3_; subst f4_; subst f5_))
     refine norm_ (a' := ?_) ?_ ?_
     rotate_left
     ·simp only [putAll, Act.put, zsA, zsZ, zsS]
      rfl
     refine one_ (i := 5) (N := some 11) #[true, true, true, true, true, true, false] rfl rfl (by kernel_rfl) (by decide) (fun K hK => ?_)
     refine box_step ?hg (N := 11) ?hd (cs := #[.int .i64 0, .slice none 0 0]) (t := 31) ?hr ?_; (case hd => rfl); (case hg => rfl); (case hr => first | (go_simp; done) | (go_simp; rfl))
     intro gb532 hg w40 hbox hb
     have n0_ := Zw (Kd.N_below (Kd.N_elderB (ZN HO522.out) gb532 (Nat.le_of_eq hg.symm)) hb)
     have n1_ := Zw (Kd.N_below (Kd.N_elderB (ZN HO525.out) gb532 (Nat.le_of_eq hg.symm)) hb)
     have n2_ := Zw (Kd.R_below (ZR HO531.out) hb)
     have n3_ := Zw (blk_below (g := gb518) (o := .cells #[.int .i64 a2_0, .slice A2_1 l2_1.length c2_1] 31 (0, 0)) (Zb BK518.out) hb)
     have n4_ := Zw (blk_below (g := gb526) (o := .cells #[.slice Ao25 t520.length co25] 24 (0, 0)) (Zb BK526.out) hb)
     have n5_ := Zw (blk_below (g := gb527) (o := .cells #[.slice Ao29 t523.length co29] 24 (0, 0)) (Zb BK527.out) hb)
     have n6_ := Zw (below_step (Zh3 HB.out GE518.out GE526.out GE527.out) hb)
     have n7_ := Zw (hbox)
     have n8_ := Zw ((by rw [hg]; exact (below_size (Zh3 HB.out GE518.out GE526.out GE527.out)) : w.heap.size ≤ gb532))
     have n9_ := Zw ((by rw [hg]; exact (below_size (Zh3 HB.out GE518.out GE526.out GE527.out)) : w.heap.size ≤ gb532))
     have n10_ := Zw ((by rw [hg]; exact Nat.ne_of_lt (blk_lt (Zb BK518.out)) : gb518 ≠ gb532))
     have n11_ := Zw ((by rw [hg]; exact Nat.ne_of_gt (blk_lt (Zb BK518.out)) : gb532 ≠ gb518))
     have n12_ := Zw ((by rw [hg]; exact Nat.ne_of_lt (blk_lt (Zb BK526.out)) : gb526 ≠ gb532))
     have n13_ := Zw ((by rw [hg]; exact Nat.ne_of_gt (blk_lt (Zb BK526.out)) : gb532 ≠ gb526))
     have n14_ := Zw ((by rw [hg]; exact Nat.ne_of_lt (blk_lt (Zb BK527.out)) : gb527 ≠ gb532))
     have n15_ := Zw ((by rw [hg]; exact Nat.ne_of_gt (blk_lt (Zb BK527.out)) : gb532 ≠ gb527))
     clear HO522
     clear HO525
     clear HO531
     clear BK518
     clear BK526
     clear BK527
     clear HB
     have HO522 := n0_
     have HO525 := n1_
     have HO531 := n2_
     have BK518 := n3_
     have BK526 := n4_
     have BK527 := n5_
     have HB := n6_
     have BK532 := n7_
     have GW532 := n8_
     have GE532 := n9_
     have NB518_532 := n10_
     have NB532_518 := n11_
     have NB526_532 := n12_
     have NB532_526 := n13_
     have NB527_532 := n14_
     have NB532_527 := n15_
     clear n0_ n1_ n2_ n3_ n4_ n5_ n6_ n7_ n8_ n9_ n10_ n11_ n12_ n13_ n14_ n15_
     clear hb hbox hg
     refine hK.out _ _ trivial (fun hHeld => ?_)
     clear hK K
     refine norm_ (a' := ?_) ?_ ?_
     rotate_left
     ·show Act.put _ (some 11) _ = _
      simp only [Act.put, zsA, zsZ, zsS, i64_w, i32_w]
      rfl
     exact norm_ (by first | (simp only [putAll, Act.put, zsA, zsZ, zsS]; done) | (simp only [putAll, Act.put, zsA, zsZ, zsS]; rfl)) (hJ1_3_5 (.slice Ao39 y529.length co39, gb532) _ ⟨(by refine ZNk ?_; exact Kd.N_mono HO522.out (fun _ hk => ⟨hk.1.1, ⟨hk.1.2.1, ⟨hk.1.2.2.1, ⟨hk.1.2.2.2.1, ⟨hk.1.2.2.2.2, hk.2⟩⟩⟩⟩⟩)), (by refine ZNk ?_; exact Kd.N_mono HO525.out (fun _ hk => ⟨hk.1.1, ⟨hk.1.2.1, ⟨hk.1.2.2.1, ⟨hk.1.2.2.2.1, ⟨hk.1.2.2.2.2, hk.2⟩⟩⟩⟩⟩)), (ZR HO531.out), (Zb BK518.out), (Zb BK526.out), (Zb BK527.out), (Zb BK532.out), GW532.out, GE532.out, NB518_532.out, NB532_518.out, NB526_532.out, NB532_526.out, NB527_532.out, NB532_527.out, (Zh4 HB.out GE518.out GE526.out GE527.out GE532.out)⟩)
   rintro ⟨v530, gb532⟩ w39 ⟨h0_, h1_, h2_, h3_, h4_, h5_, h6_, h7_, h8_, h9_, h10_, h11_, h12_, h13_, h14_, h15_⟩
   have n0_ : Aside0 (Kd.N k31 31 w39 w.heap.size (fun k_ => some k_ ≠ (.slice Ao29 t523.length co29 : Value).ownBlock ∧ some k_ ≠ (v530 : Value).ownBlock ∧ k_ ≠ gb518 ∧ k_ ≠ gb526 ∧ k_ ≠ gb527 ∧ k_ ≠ gb532) (.slice Ao25 t520.length co25) t520) := ⟨h0_⟩
   have n1_ : Aside0 (Kd.N k31 31 w39 w.heap.size (fun k_ => some k_ ≠ (.slice Ao25 t520.length co25 : Value).ownBlock ∧ some k_ ≠ (v530 : Value).ownBlock ∧ k_ ≠ gb518 ∧ k_ ≠ gb526 ∧ k_ ≠ gb527 ∧ k_ ≠ gb532) (.slice Ao29 t523.length co29) t523) := ⟨h1_⟩
   have n2_ : Aside0 (Kd.R (Kd.int .i64) 3 w39 w.heap.size (fun _ => True) v530 y529) := ⟨h2_⟩
   have n3_ : Aside0 (w39.heap[gb518]? = some (.cells #[.int .i64 a2_0, .slice A2_1 l2_1.length c2_1] 31 (0, 0))) := ⟨h3_⟩
   have n4_ : Aside0 (w39.heap[gb526]? = some (.cells #[.slice Ao25 t520.length co25] 24 (0, 0))) := ⟨h4_⟩
   have n5_ : Aside0 (w39.heap[gb527]? = some (.cells #[.slice Ao29 t523.length co29] 24 (0, 0))) := ⟨h5_⟩
   have n6_ : Aside0 (w39.heap[gb532]? = some (.cells #[.int .i64 0, .slice none 0 0] 31 (0, 0))) := ⟨h6_⟩
   have n7_ : Aside0 (w.heap.size ≤ gb532) := ⟨h7_⟩
   have n8_ : Aside0 (w.heap.size ≤ gb532) := ⟨h8_⟩
   have n9_ : Aside0 (gb518 ≠ gb532) := ⟨h9_⟩
   have n10_ : Aside0 (gb532 ≠ gb518) := ⟨h10_⟩
   have n11_ : Aside0 (gb526 ≠ gb532) := ⟨h11_⟩
   have n12_ : Aside0 (gb532 ≠ gb526) := ⟨h12_⟩
   have n13_ : Aside0 (gb527 ≠ gb532) := ⟨h13_⟩
   have n14_ : Aside0 (gb532 ≠ gb527) := ⟨h14_⟩
   have n15_ : Aside0 (Below w.heap.size w w39) := ⟨h15_⟩
   clear HO522
   clear HO525
   clear BK518
   clear BK526
   clear BK527
   clear HB
   clear h0_ h1_ h2_ h3_ h4_ h5_ h6_ h7_ h8_ h9_ h10_ h11_ h12_ h13_ h14_ h15_
   have HO522 := n0_
   have HO525 := n1_
   have HO531 := n2_
   have BK518 := n3_
   have BK526 := n4_
   have BK527 := n5_
   have BK532 := n6_
   have GW532 := n7_
   have GE532 := n8_
   have NB518_532 := n9_
   have NB532_518 := n10_
   have NB526_532 := n11_
   have NB532_526 := n12_
   have NB527_532 := n13_
   have NB532_527 := n14_
   have HB := n15_
   clear n0_ n1_ n2_ n3_ n4_ n5_ n6_ n7_ n8_ n9_ n10_ n11_ n12_ n13_ n14_ n15_
   have hHeld := trivial
   obtain ⟨Ao40, co40, eo40⟩ := Kd.R_slice HO531.out
   (first | subst eo40 | (injection eo40 with f1_ f2_ f3_; have f4_ := f1_.symm; have f5_ := f3_.symm; clear f1_ f2_ f3_; subst f4_; subst f5_))
   refine norm_ (a' := ?_) ?_ ?_
   rotate_left
   ·simp only [putAll, Act.put, zsA, zsZ, zsS]
    rfl
   refine one_ (i := 6) (N := none) #[true, true, true, true, true, true, true] rfl rfl (by kernel_rfl) (by decide) (fun K hK => ?_)
   have hs41 : w39.cell? ⟨gb532, 0, none⟩ = some (.int .i64 0) := (blk_cell BK532.out 0).trans rfl
   have hfs41 := blk_frozen BK532.out 0
   have hns41_0 := NB518_532.out
   have hns41_1 := NB526_532.out
   have hns41_2 := NB527_532.out
   have hms41_0 := NB532_518.out
   have hms41_1 := NB532_526.out
   have hms41_2 := NB532_527.out
   have hs42 : w39.cell? ⟨gb532, 1, none⟩ = some (.slice none 0 0) := (blk_cell BK532.out 1).trans rfl
   have hfs42 := blk_frozen BK532.out 1
   have hns42_0 := NB518_532.out
   have hns42_1 := NB526_532.out
   have hns42_2 := NB527_532.out
   have hms42_0 := NB532_518.out
   have hms42_1 := NB532_526.out
   have hms42_2 := NB532_527.out
   refine skip_ (w1 := ?_) (by rfl) rfl ?_ ?_
   rotate_left
   ·go_simp
    rfl
   refine hK.out _ _ trivial (fun hHeld => ?_)
   clear hK K
   refine done_ (by kernel_rfl) ?_
   have hnb43 := NB526_532.out
   have hnc43 := NB532_526.out
   have hcz44_0 := Zcl BK526.out 0 rfl
   have hfz44_0 := blk_frozen BK526.out 0
   have hnb45 := NB518_532.out
   have hnc45 := NB532_518.out
   have hcz46_0 := Zcl BK518.out 0 rfl
   have hcz46_1 := Zcl BK518.out 1 rfl
   have hfz46_0 := blk_frozen BK518.out 0
   have hfz46_1 := blk_frozen BK518.out 1
   go_upto_region 9 with (first | ((with_reducible refine gate_callee (f := 26) rfl ?_); refine goesL_ (some 37) rfl rfl Try.func26 (by kernel_rfl) rfl #[.agg #[.slice Ao25 t520.length co25], .agg #[.int .i64 a2_0, .slice A2_1 l2_1.length c2_1]] rfl Zm ?_; (with_reducible refine (memory_Add.calls k _ _ t520 a2_0 _ _ l2_1 t533 t536 _ ?side1 ?side2 ?side3 ?side4 A14.out).mono ?_); (case side1 => refine (Kd.N_reads' (e := 31) (base := w.heap.size) (ok := fun k_ => (some k_ ≠ (.slice Ao29 t523.length co29 : Value).ownBlock ∧ (some k_ ≠ (.slice Ao40 y529.length co40 : Value).ownBlock ∧ (k_ ≠ gb518 ∧ (k_ ≠ gb526 ∧ (k_ ≠ gb527 ∧ k_ ≠ gb532)))))) (n := t520.length) (c := co25) ?_).2.2; exact (by refine ZNk ?_; exact (Kd.N_mono (Kd.N_far (p := ⟨gb532, 1, none⟩) (Kd.N_far (p := ⟨gb532, 0, none⟩) (Kd.N_mono HO522.out (fun k_ hk => (⟨hk, hk.2.2.2.2.2⟩ : _ ∧ k_ ≠ gb532))) (fun _ hk => hk.2) (.int .i64 (wrap64 (t528 * 64)))) (fun _ hk => hk.2) (.slice Ao40 y529.length co40)) (fun _ h_ => h_.1)))); (case side2 => exact (Kd.N_reads' HO522.out).2.1); (case side3 => exact Kd.C_below HR2_1.out (Zh4 HB.out GE518.out GE526.out GE527.out GE532.out)); (case side4 => exact HC2_1.out); rintro e w47 ⟨v534, rfl, ho0, hb⟩; refine ⟨_, rfl, ?_⟩; have n0_ := Zw (Kd.N_elder' (by refine ZNk ?_; exact (Kd.N_mono (Kd.N_far (p := ⟨gb532, 1, none⟩) (Kd.N_far (p := ⟨gb532, 0, none⟩) (Kd.N_mono HO522.out (fun k_ hk => (⟨hk, hk.2.2.2.2.2⟩ : _ ∧ k_ ≠ gb532))) (fun _ hk => hk.2) (.int .i64 (wrap64 (t528 * 64)))) (fun _ hk => hk.2) (.slice Ao40 y529.length co40)) (fun _ h_ => h_.1))) (by first | exact Kd.N_base ho0 | exact Kd.S_base ho0 | exact Kd.R_base ho0 | exact Kd.N_base ho0) hb); have n1_ := Zw (Kd.N_elder' (by refine ZNk ?_; exact (Kd.N_mono (Kd.N_far (p := ⟨gb532, 1, none⟩) (Kd.N_far (p := ⟨gb532, 0, none⟩) (Kd.N_mono HO525.out (fun k_ hk => (⟨hk, hk.2.2.2.2.2⟩ : _ ∧ k_ ≠ gb532))) (fun _ hk => hk.2) (.int .i64 (wrap64 (t528 * 64)))) (fun _ hk => hk.2) (.slice Ao40 y529.length co40)) (fun _ h_ => h_.1))) (by first | exact Kd.N_base ho0 | exact Kd.S_base ho0 | exact Kd.R_base ho0 | exact Kd.N_base ho0) hb); have n2_ := Zw (Kd.R_below (by refine ZRk ?_; exact (Kd.R_mono (Kd.R_far (p := ⟨gb532, 1, none⟩) (Kd.R_far (p := ⟨gb532, 0, none⟩) (Kd.R_types HO531.out BK532.out (by decide)) (fun _ hk => hk.2) (.int .i64 (wrap64 (t528 * 64)))) (fun _ hk => hk.2) (.slice Ao40 y529.length co40)) (fun _ h_ => h_.1))) hb); have n3_ := Zw (Kd.N_lower (Kd.N_mono (ok' := fun k_ => some k_ ≠ (.slice Ao25 t520.length co25 : Value).ownBlock ∧ some k_ ≠ (.slice Ao29 t523.length co29 : Value).ownBlock ∧ some k_ ≠ (.slice Ao40 y529.length co40 : Value).ownBlock ∧ k_ ≠ gb518 ∧ k_ ≠ gb526 ∧ k_ ≠ gb527 ∧ k_ ≠ gb532) ho0 (fun k_ hk_ => ⟨(Kd.fresh' (Kd.N_lt (by refine ZNk ?_; exact (Kd.N_mono (Kd.N_far (p := ⟨gb532, 1, none⟩) (Kd.N_far (p := ⟨gb532, 0, none⟩) (Kd.N_mono HO522.out (fun k_ hk => (⟨hk, hk.2.2.2.2.2⟩ : _ ∧ k_ ≠ gb532))) (fun _ hk => hk.2) (.int .i64 (wrap64 (t528 * 64)))) (fun _ hk => hk.2) (.slice Ao40 y529.length co40)) (fun _ h_ => h_.1)))) k_ hk_), (Kd.fresh' (Kd.N_lt (by refine ZNk ?_; exact (Kd.N_mono (Kd.N_far (p := ⟨gb532, 1, none⟩) (Kd.N_far (p := ⟨gb532, 0, none⟩) (Kd.N_mono HO525.out (fun k_ hk => (⟨hk, hk.2.2.2.2.2⟩ : _ ∧ k_ ≠ gb532))) (fun _ hk => hk.2) (.int .i64 (wrap64 (t528 * 64)))) (fun _ hk => hk.2) (.slice Ao40 y529.length co40)) (fun _ h_ => h_.1)))) k_ hk_), (Kd.fresh' (Kd.R_lt (by refine ZRk ?_; exact (Kd.R_mono (Kd.R_far (p := ⟨gb532, 1, none⟩) (Kd.R_far (p := ⟨gb532, 0, none⟩) (Kd.R_types HO531.out BK532.out (by decide)) (fun _ hk => hk.2) (.int .i64 (wrap64 (t528 * 64)))) (fun _ hk => hk.2) (.slice Ao40 y529.length co40)) (fun _ h_ => h_.1)))) k_ hk_), (Kd.freshB (g := gb518) (o := .cells #[.int .i64 a2_0, .slice A2_1 l2_1.length c2_1] 31 (0, 0)) (by refine Zbk ?_; refine blk_far ?_ NB518_532.out _; refine Zbk ?_; refine blk_far ?_ NB518_532.out _; refine Zbk ?_; exact BK518.out) k_ hk_), (Kd.freshB (g := gb526) (o := .cells #[.slice Ao25 t520.length co25] 24 (0, 0)) (by refine Zbk ?_; refine blk_far ?_ NB526_532.out _; refine Zbk ?_; refine blk_far ?_ NB526_532.out _; refine Zbk ?_; exact BK526.out) k_ hk_), (Kd.freshB (g := gb527) (o := .cells #[.slice Ao29 t523.length co29] 24 (0, 0)) (by refine Zbk ?_; refine blk_far ?_ NB527_532.out _; refine Zbk ?_; refine blk_far ?_ NB527_532.out _; refine Zbk ?_; exact BK527.out) k_ hk_), (Kd.freshB (g := gb532) (o := .cells #[.int .i64 (wrap64 (t528 * 64)), .slice Ao40 y529.length co40] 31 (0, 0)) (by refine Zbk ?_; refine blk_put (cs := #[.int .i64 (wrap64 (t528 * 64)), .slice none 0 0]) ?_ 1 _ rfl; refine Zbk ?_; refine blk_put (cs := #[.int .i64 0, .slice none 0 0]) ?_ 0 _ rfl; refine Zbk ?_; exact BK532.out) k_ hk_)⟩)) (below_size (Zh4 HB.out GE518.out GE526.out GE527.out GE532.out))); have n4_ := Zw (blk_below (g := gb518) (o := .cells #[.int .i64 a2_0, .slice A2_1 l2_1.length c2_1] 31 (0, 0)) (by refine Zbk ?_; refine blk_far ?_ NB518_532.out _; refine Zbk ?_; refine blk_far ?_ NB518_532.out _; refine Zbk ?_; exact BK518.out) hb); have n5_ := Zw (blk_below (g := gb526) (o := .cells #[.slice Ao25 t520.length co25] 24 (0, 0)) (by refine Zbk ?_; refine blk_far ?_ NB526_532.out _; refine Zbk ?_; refine blk_far ?_ NB526_532.out _; refine Zbk ?_; exact BK526.out) hb); have n6_ := Zw (blk_below (g := gb527) (o := .cells #[.slice Ao29 t523.length co29] 24 (0, 0)) (by refine Zbk ?_; refine blk_far ?_ NB527_532.out _; refine Zbk ?_; refine blk_far ?_ NB527_532.out _; refine Zbk ?_; exact BK527.out) hb); have n7_ := Zw (blk_below (g := gb532) (o := .cells #[.int .i64 (wrap64 (t528 * 64)), .slice Ao40 y529.length co40] 31 (0, 0)) (by refine Zbk ?_; refine blk_put (cs := #[.int .i64 (wrap64 (t528 * 64)), .slice none 0 0]) ?_ 1 _ rfl; refine Zbk ?_; refine blk_put (cs := #[.int .i64 0, .slice none 0 0]) ?_ 0 _ rfl; refine Zbk ?_; exact BK532.out) hb); have n8_ := Zw (below_step (Zh4 HB.out GE518.out GE526.out GE527.out GE532.out) hb); clear HO522; clear HO525; clear HO531; clear BK518; clear BK526; clear BK527; clear BK532; clear HB; have HO522 := n0_; have HO525 := n1_; have HO531 := n2_; have HO535 := n3_; have BK518 := n4_; have BK526 := n5_; have BK527 := n6_; have BK532 := n7_; have HB := n8_; clear n0_ n1_ n2_ n3_ n4_ n5_ n6_ n7_ n8_; (try clear hb); (try clear hb2); (try clear hk); (try clear hi); (try clear ho0)) | ((with_reducible refine gate_dst (N := 12) rfl ?_); refine box_event ?hg (N := 12) ?hd (cs := #[.slice none 0 0]) (t := 24) ?hr ?_; (case hd => rfl); (case hg => rfl); (case hr => first | (go_simp; done) | (go_simp; rfl)); intro gb537 hg w48 hbox hb; have n0_ := Zw (Kd.N_below (Kd.N_elderB (ZN HO522.out) gb537 (Nat.le_of_eq hg.symm)) hb); have n1_ := Zw (Kd.N_below (Kd.N_elderB (ZN HO525.out) gb537 (Nat.le_of_eq hg.symm)) hb); have n2_ := Zw (Kd.R_below (ZR HO531.out) hb); have n3_ := Zw (Kd.N_below (Kd.N_elderB (ZN HO535.out) gb537 (Nat.le_of_eq hg.symm)) hb); have n4_ := Zw (blk_below (g := gb518) (o := .cells #[.int .i64 a2_0, .slice A2_1 l2_1.length c2_1] 31 (0, 0)) (Zb BK518.out) hb); have n5_ := Zw (blk_below (g := gb526) (o := .cells #[.slice Ao25 t520.length co25] 24 (0, 0)) (Zb BK526.out) hb); have n6_ := Zw (blk_below (g := gb527) (o := .cells #[.slice Ao29 t523.length co29] 24 (0, 0)) (Zb BK527.out) hb); have n7_ := Zw (blk_below (g := gb532) (o := .cells #[.int .i64 (wrap64 (t528 * 64)), .slice Ao40 y529.length co40] 31 (0, 0)) (Zb BK532.out) hb); have n8_ := Zw (below_step (Zh4 HB.out GE518.out GE526.out GE527.out GE532.out) hb); have n9_ := Zw (hbox); have n10_ := Zw ((by rw [hg]; exact (below_size (Zh4 HB.out GE518.out GE526.out GE527.out GE532.out)) : w.heap.size ≤ gb537)); have n11_ := Zw ((by rw [hg]; exact (below_size (Zh4 HB.out GE518.out GE526.out GE527.out GE532.out)) : w.heap.size ≤ gb537)); have n12_ := Zw ((by rw [hg]; exact Nat.ne_of_lt (blk_lt (Zb BK518.out)) : gb518 ≠ gb537)); have n13_ := Zw ((by rw [hg]; exact Nat.ne_of_gt (blk_lt (Zb BK518.out)) : gb537 ≠ gb518)); have n14_ := Zw ((by rw [hg]; exact Nat.ne_of_lt (blk_lt (Zb BK526.out)) : gb526 ≠ gb537)); have n15_ := Zw ((by rw [hg]; exact Nat.ne_of_gt (blk_lt (Zb BK526.out)) : gb537 ≠ gb526)); have n16_ := Zw ((by rw [hg]; exact Nat.ne_of_lt (blk_lt (Zb BK527.out)) : gb527 ≠ gb537)); have n17_ := Zw ((by rw [hg]; exact Nat.ne_of_gt (blk_lt (Zb BK527.out)) : gb537 ≠ gb527)); have n18_ := Zw ((by rw [hg]; exact Nat.ne_of_lt (blk_lt (Zb BK532.out)) : gb532 ≠ gb537)); have n19_ := Zw ((by rw [hg]; exact Nat.ne_of_gt (blk_lt (Zb BK532.out)) : gb537 ≠ gb532)); clear HO522; clear HO525; clear HO531; clear HO535; clear BK518; clear BK526; clear BK527; clear BK532; clear HB; have HO522 := n0_; have HO525 := n1_; have HO531 := n2_; have HO535 := n3_; have BK518 := n4_; have BK526 := n5_; have BK527 := n6_; have BK532 := n7_; have HB := n8_; have BK537 := n9_; have GW537 := n10_; have GE537 := n11_; have NB518_537 := n12_; have NB537_518 := n13_; have NB526_537 := n14_; have NB537_526 := n15_; have NB527_537 := n16_; have NB537_527 := n17_; have NB532_537 := n18_; have NB537_532 := n19_; clear n0_ n1_ n2_ n3_ n4_ n5_ n6_ n7_ n8_ n9_ n10_ n11_ n12_ n13_ n14_ n15_ n16_ n17_ n18_ n19_; clear hb hbox hg; obtain ⟨Ao49, co49, eo49⟩ := Kd.N_slice HO535.out; subst eo49; have hnb50 := NB537_518.out; have hnc50 := NB518_537.out; have hnb51 := NB537_526.out; have hnc51 := NB526_537.out; have hnb52 := NB537_527.out; have hnc52 := NB527_537.out; have hnb53 := NB537_532.out; have hnc53 := NB532_537.out; have hcz54_0 := Zcl BK537.out 0 rfl; have hfz54_0 := blk_frozen BK537.out 0; have hcz55_0 := Zcl BK526.out 0 rfl; have hfz55_0 := blk_frozen BK526.out 0; have hcz56_0 := Zcl BK518.out 0 rfl; have hcz56_1 := Zcl BK518.out 1 rfl; have hfz56_0 := blk_frozen BK518.out 0; have hfz56_1 := blk_frozen BK518.out 1) | ((with_reducible refine gate_callee (f := 27) rfl ?_); refine goesL_ (some 43) rfl rfl Try.func27 (by kernel_rfl) rfl #[.agg #[.slice Ao25 t520.length co25], .agg #[.int .i64 a2_0, .slice A2_1 l2_1.length c2_1]] rfl Zm ?_; (with_reducible refine (debuggerref25_Add.calls k _ _ t520 a2_0 _ _ l2_1 t538 t541 _ ?side1 ?side2 ?side3 ?side4 A15.out).mono ?_); (case side1 => refine (Kd.N_reads' (e := 31) (base := w.heap.size) (ok := fun k_ => (((some k_ ≠ (.slice Ao29 t523.length co29 : Value).ownBlock ∧ (some k_ ≠ (.slice Ao40 y529.length co40 : Value).ownBlock ∧ (k_ ≠ gb518 ∧ (k_ ≠ gb526 ∧ (k_ ≠ gb527 ∧ k_ ≠ gb532))))) ∧ some k_ ≠ (.slice Ao49 t533.length co49 : Value).ownBlock) ∧ k_ ≠ gb537)) (n := t520.length) (c := co25) ?_).2.2; exact (by refine ZNk ?_; exact (Kd.N_mono (Kd.N_far (p := ⟨gb537, 0, none⟩) (Kd.N_mono HO522.out (fun k_ hk => (⟨hk, hk.2⟩ : _ ∧ k_ ≠ gb537))) (fun _ hk => hk.2) (.slice Ao49 t533.length co49)) (fun _ h_ => h_.1)))); (case side2 => exact (Kd.N_reads' HO522.out).2.1); (case side3 => exact Kd.C_below HR2_1.out (by repeat (first | (with_reducible first | exact HB.out | apply below_alloc | apply pw_below_drewN | apply below_drew1 | refine below_set ?_ GE518.out | refine below_set ?_ GE526.out | refine below_set ?_ GE527.out | refine below_set ?_ GE532.out | refine below_set ?_ GE537.out) | exact HB.out))); (case side4 => exact HC2_1.out); rintro e w57 ⟨v539, rfl, ho0, hb⟩; refine ⟨_, rfl, ?_⟩; have n0_ := Zw (Kd.N_elder' (by refine ZNk ?_; exact (Kd.N_mono (Kd.N_far (p := ⟨gb537, 0, none⟩) (Kd.N_mono HO522.out (fun k_ hk => (⟨hk, hk.2⟩ : _ ∧ k_ ≠ gb537))) (fun _ hk => hk.2) (.slice Ao49 t533.length co49)) (fun _ h_ => h_.1))) (by first | exact Kd.N_base ho0 | exact Kd.S_base ho0 | exact Kd.R_base ho0 | exact Kd.N_base ho0) hb); have n1_ := Zw (Kd.N_elder' (by refine ZNk ?_; exact (Kd.N_mono (Kd.N_far (p := ⟨gb537, 0, none⟩) (Kd.N_mono HO525.out (fun k_ hk => (⟨hk, hk.2⟩ : _ ∧ k_ ≠ gb537))) (fun _ hk => hk.2) (.slice Ao49 t533.length co49)) (fun _ h_ => h_.1))) (by first | exact Kd.N_base ho0 | exact Kd.S_base ho0 | exact Kd.R_base ho0 | exact Kd.N_base ho0) hb); have n2_ := Zw (Kd.R_below (by refine ZRk ?_; exact (Kd.R_mono (Kd.R_far (p := ⟨gb537, 0, none⟩) (Kd.R_types HO531.out BK537.out (by decide)) (fun _ hk => hk.2) (.slice Ao49 t533.length co49)) (fun _ h_ => h_.1))) hb); have n3_ := Zw (Kd.N_elder' (by refine ZNk ?_; exact (Kd.N_mono (Kd.N_far (p := ⟨gb537, 0, none⟩) (Kd.N_mono HO535.out (fun k_ hk => (⟨hk, hk.2⟩ : _ ∧ k_ ≠ gb537))) (fun _ hk => hk.2) (.slice Ao49 t533.length co49)) (fun _ h_ => h_.1))) (by first | exact Kd.N_base ho0 | exact Kd.S_base ho0 | exact Kd.R_base ho0 | exact Kd.N_base ho0) hb); have n4_ := Zw (Kd.N_lower (Kd.N_mono (ok' := fun k_ => some k_ ≠ (.slice Ao25 t520.length co25 : Value).ownBlock ∧ some k_ ≠ (.slice Ao29 t523.length co29 : Value).ownBlock ∧ some k_ ≠ (.slice Ao40 y529.length co40 : Value).ownBlock ∧ some k_ ≠ (.slice Ao49 t533.length co49 : Value).ownBlock ∧ k_ ≠ gb518 ∧ k_ ≠ gb526 ∧ k_ ≠ gb527 ∧ k_ ≠ gb532 ∧ k_ ≠ gb537) ho0 (fun k_ hk_ => ⟨(Kd.fresh' (Kd.N_lt (by refine ZNk ?_; exact (Kd.N_mono (Kd.N_far (p := ⟨gb537, 0, none⟩) (Kd.N_mono HO522.out (fun k_ hk => (⟨hk, hk.2⟩ : _ ∧ k_ ≠ gb537))) (fun _ hk => hk.2) (.slice Ao49 t533.length co49)) (fun _ h_ => h_.1)))) k_ hk_), (Kd.fresh' (Kd.N_lt (by refine ZNk ?_; exact (Kd.N_mono (Kd.N_far (p := ⟨gb537, 0, none⟩) (Kd.N_mono HO525.out (fun k_ hk => (⟨hk, hk.2⟩ : _ ∧ k_ ≠ gb537))) (fun _ hk => hk.2) (.slice Ao49 t533.length co49)) (fun _ h_ => h_.1)))) k_ hk_), (Kd.fresh' (Kd.R_lt (by refine ZRk ?_; exact (Kd.R_mono (Kd.R_far (p := ⟨gb537, 0, none⟩) (Kd.R_types HO531.out BK537.out (by decide)) (fun _ hk => hk.2) (.slice Ao49 t533.length co49)) (fun _ h_ => h_.1)))) k_ hk_), (Kd.fresh' (Kd.N_lt (by refine ZNk ?_; exact (Kd.N_mono (Kd.N_far (p := ⟨gb537, 0, none⟩) (Kd.N_mono HO535.out (fun k_ hk => (⟨hk, hk.2⟩ : _ ∧ k_ ≠ gb537))) (fun _ hk => hk.2) (.slice Ao49 t533.length co49)) (fun _ h_ => h_.1)))) k_ hk_), (Kd.freshB (g := gb518) (o := .cells #[.int .i64 a2_0, .slice A2_1 l2_1.length c2_1] 31 (0, 0)) (by refine Zbk ?_; refine blk_far ?_ NB518_537.out _; refine Zbk ?_; exact BK518.out) k_ hk_), (Kd.freshB (g := gb526) (o := .cells #[.slice Ao25 t520.length co25] 24 (0, 0)) (by refine Zbk ?_; refine blk_far ?_ NB526_537.out _; refine Zbk ?_; exact BK526.out) k_ hk_), (Kd.freshB (g := gb527) (o := .cells #[.slice Ao29 t523.length co29] 24 (0, 0)) (by refine Zbk ?_; refine blk_far ?_ NB527_537.out _; refine Zbk ?_; exact BK527.out) k_ hk_), (Kd.freshB (g := gb532) (o := .cells #[.int .i64 (wrap64 (t528 * 64)), .slice Ao40 y529.length co40] 31 (0, 0)) (by refine Zbk ?_; refine blk_far ?_ NB532_537.out _; refine Zbk ?_; exact BK532.out) k_ hk_), (Kd.freshB (g := gb537) (o := .cells #[.slice Ao49 t533.length co49] 24 (0, 0)) (by refine Zbk ?_; refine blk_put (cs := #[.slice none 0 0]) ?_ 0 _ rfl; refine Zbk ?_; exact BK537.out) k_ hk_)⟩)) (below_size (by repeat (first | (with_reducible first | exact HB.out | apply below_alloc | apply pw_below_drewN | apply below_drew1 | refine below_set ?_ GE518.out | refine below_set ?_ GE526.out | refine below_set ?_ GE527.out | refine below_set ?_ GE532.out | refine below_set ?_ GE537.out) | exact HB.out)))); have n5_ := Zw (blk_below (g := gb518) (o := .cells #[.int .i64 a2_0, .slice A2_1 l2_1.length c2_1] 31 (0, 0)) (by refine Zbk ?_; refine blk_far ?_ NB518_537.out _; refine Zbk ?_; exact BK518.out) hb); have n6_ := Zw (blk_below (g := gb526) (o := .cells #[.slice Ao25 t520.length co25] 24 (0, 0)) (by refine Zbk ?_; refine blk_far ?_ NB526_537.out _; refine Zbk ?_; exact BK526.out) hb); have n7_ := Zw (blk_below (g := gb527) (o := .cells #[.slice Ao29 t523.length co29] 24 (0, 0)) (by refine Zbk ?_; refine blk_far ?_ NB527_537.out _; refine Zbk ?_; exact BK527.out) hb); have n8_ := Zw (blk_below (g := gb532) (o := .cells #[.int .i64 (wrap64 (t528 * 64)), .slice Ao40 y529.length co40] 31 (0, 0)) (by refine Zbk ?_; refine blk_far ?_ NB532_537.out _; refine Zbk ?_; exact BK532.out) hb); have n9_ := Zw (blk_below (g := gb537) (o := .cells #[.slice Ao49 t533.length co49] 24 (0, 0)) (by refine Zbk ?_; refine blk_put (cs := #[.slice none 0 0]) ?_ 0 _ rfl; refine Zbk ?_; exact BK537.out) hb); have n10_ := Zw (below_step (by repeat (first | (with_reducible first | exact HB.out | apply below_alloc | apply pw_below_drewN | apply below_drew1 | refine below_set ?_ GE518.out | refine below_set ?_ GE526.out | refine below_set ?_ GE527.out | refine below_set ?_ GE532.out | refine below_set ?_ GE537.out) | exact HB.out)) hb); clear HO522; clear HO525; clear HO531; clear HO535; clear BK518; clear BK526; clear BK527; clear BK532; clear BK537; clear HB; have HO522 := n0_; have HO525 := n1_; have HO531 := n2_; have HO535 := n3_; have HO540 := n4_; have BK518 := n5_; have BK526 := n6_; have BK527 := n7_; have BK532 := n8_; have BK537 := n9_; have HB := n10_; clear n0_ n1_ n2_ n3_ n4_ n5_ n6_ n7_ n8_ n9_ n10_; (try clear hb); (try clear hb2); (try clear hk); (try clear hi); (try clear ho0)) | ((with_reducible refine gate_dst (N := 14) rfl ?_); refine box_event ?hg (N := 14) ?hd (cs := #[.slice none 0 0]) (t := 24) ?hr ?_; (case hd => rfl); (case hg => rfl); (case hr => first | (go_simp; done) | (go_simp; rfl)); intro gb542 hg w58 hbox hb; have n0_ := Zw (Kd.N_below (Kd.N_elderB (ZN HO522.out) gb542 (Nat.le_of_eq hg.symm)) hb); have n1_ := Zw (Kd.N_below (Kd.N_elderB (ZN HO525.out) gb542 (Nat.le_of_eq hg.symm)) hb); have n2_ := Zw (Kd.R_below (ZR HO531.out) hb); have n3_ := Zw (Kd.N_below (Kd.N_elderB (ZN HO535.out) gb542 (Nat.le_of_eq hg.symm)) hb); have n4_ := Zw (Kd.N_below (Kd.N_elderB (ZN HO540.out) gb542 (Nat.le_of_eq hg.symm)) hb); have n5_ := Zw (blk_below (g := gb518) (o := .cells #[.int .i64 a2_0, .slice A2_1 l2_1.length c2_1] 31 (0, 0)) (Zb BK518.out) hb); have n6_ := Zw (blk_below (g := gb526) (o := .cells #[.slice Ao25 t520.length co25] 24 (0, 0)) (Zb BK526.out) hb); have n7_ := Zw (blk_below (g := gb527) (o := .cells #[.slice Ao29 t523.length co29] 24 (0, 0)) (Zb BK527.out) hb); have n8_ := Zw (blk_below (g := gb532) (o := .cells #[.int .i64 (wrap64 (t528 * 64)), .slice Ao40 y529.length co40] 31 (0, 0)) (Zb BK532.out) hb); have n9_ := Zw (blk_below (g := gb537) (o := .cells #[.slice Ao49 t533.length co49] 24 (0, 0)) (Zb BK537.out) hb); have n10_ := Zw (below_step (by repeat (first | (with_reducible first | exact HB.out | apply below_alloc | apply pw_below_drewN | apply below_drew1 | refine below_set ?_ GE518.out | refine below_set ?_ GE526.out | refine below_set ?_ GE527.out | refine below_set ?_ GE532.out | refine below_set ?_ GE537.out) | exact HB.out)) hb); have n11_ := Zw (hbox); have n12_ := Zw ((by rw [hg]; exact (below_size (by repeat (first | (with_reducible first | exact HB.out | apply below_alloc | apply pw_below_drewN | apply below_drew1 | refine below_set ?_ GE518.out | refine below_set ?_ GE526.out | refine below_set ?_ GE527.out | refine below_set ?_ GE532.out | refine below_set ?_ GE537.out) | exact HB.out))) : w.heap.size ≤ gb542)); have n13_ := Zw ((by rw [hg]; exact (below_size (by repeat (first | (with_reducible first | exact HB.out | apply below_alloc | apply pw_below_drewN | apply below_drew1 | refine below_set ?_ GE518.out | refine below_set ?_ GE526.out | refine below_set ?_ GE527.out | refine below_set ?_ GE532.out | refine below_set ?_ GE537.out) | exact HB.out))) : w.heap.size ≤ gb542)); have n14_ := Zw ((by rw [hg]; exact Nat.ne_of_lt (blk_lt (Zb BK518.out)) : gb518 ≠ gb542)); have n15_ := Zw ((by rw [hg]; exact Nat.ne_of_gt (blk_lt (Zb BK518.out)) : gb542 ≠ gb518)); have n16_ := Zw ((by rw [hg]; exact Nat.ne_of_lt (blk_lt (Zb BK526.out)) : gb526 ≠ gb542)); have n17_ := Zw ((by rw [hg]; exact Nat.ne_of_gt (blk_lt (Zb BK526.out)) : gb542 ≠ gb526)); have n18_ := Zw ((by rw [hg]; exact Nat.ne_of_lt (blk_lt (Zb BK527.out)) : gb527 ≠ gb542)); have n19_ := Zw ((by rw [hg]; exact Nat.ne_of_gt (blk_lt (Zb BK527.out)) : gb542 ≠ gb527)); have n20_ := Zw ((by rw [hg]; exact Nat.ne_of_lt (blk_lt (Zb BK532.out)) : gb532 ≠ gb542)); have n21_ := Zw ((by rw [hg]; exact Nat.ne_of_gt (blk_lt (Zb BK532.out)) : gb542 ≠ gb532)); have n22_ := Zw ((by rw [hg]; exact Nat.ne_of_lt (blk_lt (Zb BK537.out)) : gb537 ≠ gb542)); have n23_ := Zw ((by rw [hg]; exact Nat.ne_of_gt (blk_lt (Zb BK537.out)) : gb542 ≠ gb537)); clear HO522; clear HO525; clear HO531; clear HO535; clear HO540; clear BK518; clear BK526; clear BK527; clear BK532; clear BK537; clear HB; have HO522 := n0_; have HO525 := n1_; have HO531 := n2_; have HO535 := n3_; have HO540 := n4_; have BK518 := n5_; have BK526 := n6_; have BK527 := n7_; have BK532 := n8_; have BK537 := n9_; have HB := n10_; have BK542 := n11_; have GW542 := n12_; have GE542 := n13_; have NB518_542 := n14_; have NB542_518 := n15_; have NB526_542 := n16_; have NB542_526 := n17_; have NB527_542 := n18_; have NB542_527 := n19_; have NB532_542 := n20_; have NB542_532 := n21_; have NB537_542 := n22_; have NB542_537 := n23_; clear n0_ n1_ n2_ n3_ n4_ n5_ n6_ n7_ n8_ n9_ n10_ n11_ n12_ n13_ n14_ n15_ n16_ n17_ n18_ n19_ n20_ n21_ n22_ n23_; clear hb hbox hg; obtain ⟨Ao59, co59, eo59⟩ := Kd.N_slice HO540.out; subst eo59; have hnb60 := NB542_518.out; have hnc60 := NB518_542.out; have hnb61 := NB542_526.out; have hnc61 := NB526_542.out; have hnb62 := NB542_527.out; have hnc62 := NB527_542.out; have hnb63 := NB542_532.out; have hnc63 := NB532_542.out; have hnb64 := NB542_537.out; have hnc64 := NB537_542.out; have hcz65_0 := Zcl BK542.out 0 rfl; have hfz65_0 := blk_frozen BK542.out 0; have hcz66_0 := Zcl BK526.out 0 rfl; have hfz66_0 := blk_frozen BK526.out 0; have hnb67 := NB532_527.out; have hnc67 := NB527_532.out; have hcz68_0 := Zcl BK532.out 0 rfl; have hcz68_1 := Zcl BK532.out 1 rfl; have hfz68_0 := blk_frozen BK532.out 0; have hfz68_1 := blk_frozen BK532.out 1) | ((with_reducible refine gate_callee (f := 26) rfl ?_); refine goesL_ (some 49) rfl rfl Try.func26 (by kernel_rfl) rfl #[.agg #[.slice Ao25 t520.length co25], .agg #[.int .i64 (wrap64 (t528 * 64)), .slice Ao40 y529.length co40]] rfl Zm ?_; (with_reducible refine (memory_Add.calls k _ _ t520 (wrap64 (t528 * 64)) _ _ y529 t543 t546 _ ?side1 ?side2 ?side3 ?side4 A16.out).mono ?_); (case side1 => refine (Kd.N_reads' (e := 31) (base := w.heap.size) (ok := fun k_ => (((((some k_ ≠ (.slice Ao29 t523.length co29 : Value).ownBlock ∧ (some k_ ≠ (.slice Ao40 y529.length co40 : Value).ownBlock ∧ (k_ ≠ gb518 ∧ (k_ ≠ gb526 ∧ (k_ ≠ gb527 ∧ k_ ≠ gb532))))) ∧ some k_ ≠ (.slice Ao49 t533.length co49 : Value).ownBlock) ∧ k_ ≠ gb537) ∧ some k_ ≠ (.slice Ao59 t538.length co59 : Value).ownBlock) ∧ k_ ≠ gb542)) (n := t520.length) (c := co25) ?_).2.2; exact (by refine ZNk ?_; exact (Kd.N_mono (Kd.N_far (p := ⟨gb542, 0, none⟩) (Kd.N_mono HO522.out (fun k_ hk => (⟨hk, hk.2⟩ : _ ∧ k_ ≠ gb542))) (fun _ hk => hk.2) (.slice Ao59 t538.length co59)) (fun _ h_ => h_.1)))); (case side2 => exact (Kd.N_reads' HO522.out).2.1); (case side3 => refine (Kd.R_reads' (e := 3) (base := w.heap.size) (ok := fun k_ => True) (n := y529.length) (c := co40) ?_).2.2; exact (by refine ZRk ?_; exact (Kd.R_mono (Kd.R_far (p := ⟨gb542, 0, none⟩) (Kd.R_types HO531.out BK542.out (by decide)) (fun _ hk => hk.2) (.slice Ao59 t538.length co59)) (fun _ h_ => h_.1)))); (case side4 => exact (Kd.R_reads' HO531.out).2.1); rintro e w69 ⟨v544, rfl, ho0, hb⟩; refine ⟨_, rfl, ?_⟩; have n0_ := Zw (Kd.N_elder' (by refine ZNk ?_; exact (Kd.N_mono (Kd.N_far (p := ⟨gb542, 0, none⟩) (Kd.N_mono HO522.out (fun k_ hk => (⟨hk, hk.2⟩ : _ ∧ k_ ≠ gb542))) (fun _ hk => hk.2) (.slice Ao59 t538.length co59)) (fun _ h_ => h_.1))) (by first | exact Kd.N_base ho0 | exact Kd.S_base ho0 | exact Kd.R_base ho0 | exact Kd.N_base ho0) hb); have n1_ := Zw (Kd.N_elder' (by refine ZNk ?_; exact (Kd.N_mono (Kd.N_far (p := ⟨gb542, 0, none⟩) (Kd.N_mono HO525.out (fun k_ hk => (⟨hk, hk.2⟩ : _ ∧ k_ ≠ gb542))) (fun _ hk => hk.2) (.slice Ao59 t538.length co59)) (fun _ h_ => h_.1))) (by first | exact Kd.N_base ho0 | exact Kd.S_base ho0 | exact Kd.R_base ho0 | exact Kd.N_base ho0) hb); have n2_ := Zw (Kd.R_below (by refine ZRk ?_; exact (Kd.R_mono (Kd.R_far (p := ⟨gb542, 0, none⟩) (Kd.R_types HO531.out BK542.out (by decide)) (fun _ hk => hk.2) (.slice Ao59 t538.length co59)) (fun _ h_ => h_.1))) hb); have n3_ := Zw (Kd.N_elder' (by refine ZNk ?_; exact (Kd.N_mono (Kd.N_far (p := ⟨gb542, 0, none⟩) (Kd.N_mono HO535.out (fun k_ hk => (⟨hk, hk.2⟩ : _ ∧ k_ ≠ gb542))) (fun _ hk => hk.2) (.slice Ao59 t538.length co59)) (fun _ h_ => h_.1))) (by first | exact Kd.N_base ho0 | exact Kd.S_base ho0 | exact Kd.R_base ho0 | exact Kd.N_base ho0) hb); have n4_ := Zw (Kd.N_elder' (by refine ZNk ?_; exact (Kd.N_mono (Kd.N_far (p := ⟨gb542, 0, none⟩) (Kd.N_mono HO540.out (fun k_ hk => (⟨hk, hk.2⟩ : _ ∧ k_ ≠ gb542))) (fun _ hk => hk.2) (.slice Ao59 t538.length co59)) (fun _ h_ => h_.1))) (by first | exact Kd.N_base ho0 | exact Kd.S_base ho0 | exact Kd.R_base ho0 | exact Kd.N_base ho0) hb); have n5_ := Zw (Kd.N_lower (Kd.N_mono (ok' := fun k_ => some k_ ≠ (.slice Ao25 t520.length co25 : Value).ownBlock ∧ some k_ ≠ (.slice Ao29 t523.length co29 : Value).ownBlock ∧ some k_ ≠ (.slice Ao40 y529.length co40 : Value).ownBlock ∧ some k_ ≠ (.slice Ao49 t533.length co49 : Value).ownBlock ∧ some k_ ≠ (.slice Ao59 t538.length co59 : Value).ownBlock ∧ k_ ≠ gb518 ∧ k_ ≠ gb526 ∧ k_ ≠ gb527 ∧ k_ ≠ gb532 ∧ k_ ≠ gb537 ∧ k_ ≠ gb542) ho0 (fun k_ hk_ => ⟨(Kd.fresh' (Kd.N_lt (by refine ZNk ?_; exact (Kd.N_mono (Kd.N_far (p := ⟨gb542, 0, none⟩) (Kd.N_mono HO522.out (fun k_ hk => (⟨hk, hk.2⟩ : _ ∧ k_ ≠ gb542))) (fun _ hk => hk.2) (.slice Ao59 t538.length co59)) (fun _ h_ => h_.1)))) k_ hk_), (Kd.fresh' (Kd.N_lt (by refine ZNk ?_; exact (Kd.N_mono (Kd.N_far (p := ⟨gb542, 0, none⟩) (Kd.N_mono HO525.out (fun k_ hk => (⟨hk, hk.2⟩ : _ ∧ k_ ≠ gb542))) (fun _ hk => hk.2) (.slice Ao59 t538.length co59)) (fun _ h_ => h_.1)))) k_ hk_), (Kd.fresh' (Kd.R_lt (by refine ZRk ?_; exact (Kd.R_mono (Kd.R_far (p := ⟨gb542, 0, none⟩) (Kd.R_types HO531.out BK542.out (by decide)) (fun _ hk => hk.2) (.slice Ao59 t538.length co59)) (fun _ h_ => h_.1)))) k_ hk_), (Kd.fresh' (Kd.N_lt (by refine ZNk ?_; exact (Kd.N_mono (Kd.N_far (p := ⟨gb542, 0, none⟩) (Kd.N_mono HO535.out (fun k_ hk => (⟨hk, hk.2⟩ : _ ∧ k_ ≠ gb542))) (fun _ hk => hk.2) (.slice Ao59 t538.length co59)) (fun _ h_ => h_.1)))) k_ hk_), (Kd.fresh' (Kd.N_lt (by refine ZNk ?_; exact (Kd.N_mono (Kd.N_far (p := ⟨gb542, 0, none⟩) (Kd.N_mono HO540.out (fun k_ hk => (⟨hk, hk.2⟩ : _ ∧ k_ ≠ gb542))) (fun _ hk => hk.2) (.slice Ao59 t538.length co59)) (fun _ h_ => h_.1)))) k_ hk_), (Kd.freshB (g := gb518) (o := .cells #[.int .i64 a2_0, .slice A2_1 l2_1.length c2_1] 31 (0, 0)) (by refine Zbk ?_; refine blk_far ?_ NB518_542.out _; refine Zbk ?_; exact BK518.out) k_ hk_), (Kd.freshB (g := gb526) (o := .cells #[.slice Ao25 t520.length co25] 24 (0, 0)) (by refine Zbk ?_; refine blk_far ?_ NB526_542.out _; refine Zbk ?_; exact BK526.out) k_ hk_), (Kd.freshB (g := gb527) (o := .cells #[.slice Ao29 t523.length co29] 24 (0, 0)) (by refine Zbk ?_; refine blk_far ?_ NB527_542.out _; refine Zbk ?_; exact BK527.out) k_ hk_), (Kd.freshB (g := gb532) (o := .cells #[.int .i64 (wrap64 (t528 * 64)), .slice Ao40 y529.length co40] 31 (0, 0)) (by refine Zbk ?_; refine blk_far ?_ NB532_542.out _; refine Zbk ?_; exact BK532.out) k_ hk_), (Kd.freshB (g := gb537) (o := .cells #[.slice Ao49 t533.length co49] 24 (0, 0)) (by refine Zbk ?_; refine blk_far ?_ NB537_542.out _; refine Zbk ?_; exact BK537.out) k_ hk_), (Kd.freshB (g := gb542) (o := .cells #[.slice Ao59 t538.length co59] 24 (0, 0)) (by refine Zbk ?_; refine blk_put (cs := #[.slice none 0 0]) ?_ 0 _ rfl; refine Zbk ?_; exact BK542.out) k_ hk_)⟩)) (below_size (by repeat (first | (with_reducible first | exact HB.out | apply below_alloc | apply pw_below_drewN | apply below_drew1 | refine below_set ?_ GE518.out | refine below_set ?_ GE526.out | refine below_set ?_ GE527.out | refine below_set ?_ GE532.out | refine below_set ?_ GE537.out | refine below_set ?_ GE542.out) | exact HB.out)))); have n6_ := Zw (blk_below (g := gb518) (o := .cells #[.int .i64 a2_0, .slice A2_1 l2_1.length c2_1] 31 (0, 0)) (by refine Zbk ?_; refine blk_far ?_ NB518_542.out _; refine Zbk ?_; exact BK518.out) hb); have n7_ := Zw (blk_below (g := gb526) (o := .cells #[.slice Ao25 t520.length co25] 24 (0, 0)) (by refine Zbk ?_; refine blk_far ?_ NB526_542.out _; refine Zbk ?_; exact BK526.out) hb); have n8_ := Zw (blk_below (g := gb527) (o := .cells #[.slice Ao29 t523.length co29] 24 (0, 0)) (by refine Zbk ?_; refine blk_far ?_ NB527_542.out _; refine Zbk ?_; exact BK527.out) hb); have n9_ := Zw (blk_below (g := gb532) (o := .cells #[.int .i64 (wrap64 (t528 * 64)), .slice Ao40 y529.length co40] 31 (0, 0)) (by refine Zbk ?_; refine blk_far ?_ NB532_542.out _; refine Zbk ?_; exact BK532.out) hb); have n10_ := Zw (blk_below (g := gb537) (o := .cells #[.slice Ao49 t533.length co49] 24 (0, 0)) (by refine Zbk ?_; refine blk_far ?_ NB537_542.out _; refine Zbk ?_; exact BK537.out) hb); have n11_ := Zw (blk_below (g := gb542) (o := .cells #[.slice Ao59 t538.length co59] 24 (0, 0)) (by refine Zbk ?_; refine blk_put (cs := #[.slice none 0 0]) ?_ 0 _ rfl; refine Zbk ?_; exact BK542.out) hb); have n12_ := Zw (below_step (by repeat (first | (with_reducible first | exact HB.out | apply below_alloc | apply pw_below_drewN | apply below_drew1 | refine below_set ?_ GE518.out | refine below_set ?_ GE526.out | refine below_set ?_ GE527.out | refine below_set ?_ GE532.out | refine below_set ?_ GE537.out | refine below_set ?_ GE542.out) | exact HB.out)) hb); clear HO522; clear HO525; clear HO531; clear HO535; clear HO540; clear BK518; clear BK526; clear BK527; clear BK532; clear BK537; clear BK542; clear HB; have HO522 := n0_; have HO525 := n1_; have HO531 := n2_; have HO535 := n3_; have HO540 := n4_; have HO545 := n5_; have BK518 := n6_; have BK526 := n7_; have BK527 := n8_; have BK532 := n9_; have BK537 := n10_; have BK542 := n11_; have HB := n12_; clear n0_ n1_ n2_ n3_ n4_ n5_ n6_ n7_ n8_ n9_ n10_ n11_ n12_; (try clear hb); (try clear hb2); (try clear hk); (try clear hi); (try clear ho0)) | ((with_reducible refine gate_dst (N := 16) rfl ?_); refine box_event ?hg (N := 16) ?hd (cs := #[.slice none 0 0]) (t := 24) ?hr ?_; (case hd => rfl); (case hg => rfl); (case hr => first | (go_simp; done) | (go_simp; rfl)); intro gb547 hg w70 hbox hb; have n0_ := Zw (Kd.N_below (Kd.N_elderB (ZN HO522.out) gb547 (Nat.le_of_eq hg.symm)) hb); have n1_ := Zw (Kd.N_below (Kd.N_elderB (ZN HO525.out) gb547 (Nat.le_of_eq hg.symm)) hb); have n2_ := Zw (Kd.R_below (ZR HO531.out) hb); have n3_ := Zw (Kd.N_below (Kd.N_elderB (ZN HO535.out) gb547 (Nat.le_of_eq hg.symm)) hb); have n4_ := Zw (Kd.N_below (Kd.N_elderB (ZN HO540.out) gb547 (Nat.le_of_eq hg.symm)) hb); have n5_ := Zw (Kd.N_below (Kd.N_elderB (ZN HO545.out) gb547 (Nat.le_of_eq hg.symm)) hb); have n6_ := Zw (blk_below (g := gb518) (o := .cells #[.int .i64 a2_0, .slice A2_1 l2_1.length c2_1] 31 (0, 0)) (Zb BK518.out) hb); have n7_ := Zw (blk_below (g := gb526) (o := .cells #[.slice Ao25 t520.length co25] 24 (0, 0)) (Zb BK526.out) hb); have n8_ := Zw (blk_below (g := gb527) (o := .cells #[.slice Ao29 t523.length co29] 24 (0, 0)) (Zb BK527.out) hb); have n9_ := Zw (blk_below (g := gb532) (o := .cells #[.int .i64 (wrap64 (t528 * 64)), .slice Ao40 y529.length co40] 31 (0, 0)) (Zb BK532.out) hb); have n10_ := Zw (blk_below (g := gb537) (o := .cells #[.slice Ao49 t533.length co49] 24 (0, 0)) (Zb BK537.out) hb); have n11_ := Zw (blk_below (g := gb542) (o := .cells #[.slice Ao59 t538.length co59] 24 (0, 0)) (Zb BK542.out) hb); have n12_ := Zw (below_step (by repeat (first | (with_reducible first | exact HB.out | apply below_alloc | apply pw_below_drewN | apply below_drew1 | refine below_set ?_ GE518.out | refine below_set ?_ GE526.out | refine below_set ?_ GE527.out | refine below_set ?_ GE532.out | refine below_set ?_ GE537.out | refine below_set ?_ GE542.out) | exact HB.out)) hb); have n13_ := Zw (hbox); have n14_ := Zw ((by rw [hg]; exact (below_size (by repeat (first | (with_reducible first | exact HB.out | apply below_alloc | apply pw_below_drewN | apply below_drew1 | refine below_set ?_ GE518.out | refine below_set ?_ GE526.out | refine below_set ?_ GE527.out | refine below_set ?_ GE532.out | refine below_set ?_ GE537.out | refine below_set ?_ GE542.out) | exact HB.out))) : w.heap.size ≤ gb547)); have n15_ := Zw ((by rw [hg]; exact (below_size (by repeat (first | (with_reducible first | exact HB.out | apply below_alloc | apply pw_below_drewN | apply below_drew1 | refine below_set ?_ GE518.out | refine below_set ?_ GE526.out | refine below_set ?_ GE527.out | refine below_set ?_ GE532.out | refine below_set ?_ GE537.out | refine below_set ?_ GE542.out) | exact HB.out))) : w.heap.size ≤ gb547)); have n16_ := Zw ((by rw [hg]; exact Nat.ne_of_lt (blk_lt (Zb BK518.out)) : gb518 ≠ gb547)); have n17_ := Zw ((by rw [hg]; exact Nat.ne_of_gt (blk_lt (Zb BK518.out)) : gb547 ≠ gb518)); have n18_ := Zw ((by rw [hg]; exact Nat.ne_of_lt (blk_lt (Zb BK526.out)) : gb526 ≠ gb547)); have n19_ := Zw ((by rw [hg]; exact Nat.ne_of_gt (blk_lt (Zb BK526.out)) : gb547 ≠ gb526)); have n20_ := Zw ((by rw [hg]; exact Nat.ne_of_lt (blk_lt (Zb BK527.out)) : gb527 ≠ gb547)); have n21_ := Zw ((by rw [hg]; exact Nat.ne_of_gt (blk_lt (Zb BK527.out)) : gb547 ≠ gb527)); have n22_ := Zw ((by rw [hg]; exact Nat.ne_of_lt (blk_lt (Zb BK532.out)) : gb532 ≠ gb547)); have n23_ := Zw ((by rw [hg]; exact Nat.ne_of_gt (blk_lt (Zb BK532.out)) : gb547 ≠ gb532)); have n24_ := Zw ((by rw [hg]; exact Nat.ne_of_lt (blk_lt (Zb BK537.out)) : gb537 ≠ gb547)); have n25_ := Zw ((by rw [hg]; exact Nat.ne_of_gt (blk_lt (Zb BK537.out)) : gb547 ≠ gb537)); have n26_ := Zw ((by rw [hg]; exact Nat.ne_of_lt (blk_lt (Zb BK542.out)) : gb542 ≠ gb547)); have n27_ := Zw ((by rw [hg]; exact Nat.ne_of_gt (blk_lt (Zb BK542.out)) : gb547 ≠ gb542)); clear HO522; clear HO525; clear HO531; clear HO535; clear HO540; clear HO545; clear BK518; clear BK526; clear BK527; clear BK532; clear BK537; clear BK542; clear HB; have HO522 := n0_; have HO525 := n1_; have HO531 := n2_; have HO535 := n3_; have HO540 := n4_; have HO545 := n5_; have BK518 := n6_; have BK526 := n7_; have BK527 := n8_; have BK532 := n9_; have BK537 := n10_; have BK542 := n11_; have HB := n12_; have BK547 := n13_; have GW547 := n14_; have GE547 := n15_; have NB518_547 := n16_; have NB547_518 := n17_; have NB526_547 := n18_; have NB547_526 := n19_; have NB527_547 := n20_; have NB547_527 := n21_; have NB532_547 := n22_; have NB547_532 := n23_; have NB537_547 := n24_; have NB547_537 := n25_; have NB542_547 := n26_; have NB547_542 := n27_; clear n0_ n1_ n2_ n3_ n4_ n5_ n6_ n7_ n8_ n9_ n10_ n11_ n12_ n13_ n14_ n15_ n16_ n17_ n18_ n19_ n20_ n21_ n22_ n23_ n24_ n25_ n26_ n27_; clear hb hbox hg; obtain ⟨Ao71, co71, eo71⟩ := Kd.N_slice HO545.out; subst eo71; have hnb72 := NB547_518.out; have hnc72 := NB518_547.out; have hnb73 := NB547_526.out; have hnc73 := NB526_547.out; have hnb74 := NB547_527.out; have hnc74 := NB527_547.out; have hnb75 := NB547_532.out; have hnc75 := NB532_547.out; have hnb76 := NB547_537.out; have hnc76 := NB537_547.out; have hnb77 := NB547_542.out; have hnc77 := NB542_547.out; have hcz78_0 := Zcl BK547.out 0 rfl; have hfz78_0 := blk_frozen BK547.out 0; have hcz79_0 := Zcl BK526.out 0 rfl; have hfz79_0 := blk_frozen BK526.out 0; have hcz80_0 := Zcl BK532.out 0 rfl; have hcz80_1 := Zcl BK532.out 1 rfl; have hfz80_0 := blk_frozen BK532.out 0; have hfz80_1 := blk_frozen BK532.out 1) | ((with_reducible refine gate_callee (f := 27) rfl ?_); refine goesL_ (some 55) rfl rfl Try.func27 (by kernel_rfl) rfl #[.agg #[.slice Ao25 t520.length co25], .agg #[.int .i64 (wrap64 (t528 * 64)), .slice Ao40 y529.length co40]] rfl Zm ?_; (with_reducible refine (debuggerref25_Add.calls k _ _ t520 (wrap64 (t528 * 64)) _ _ y529 t548 t551 _ ?side1 ?side2 ?side3 ?side4 A17.out).mono ?_); (case side1 => refine (Kd.N_reads' (e := 31) (base := w.heap.size) (ok := fun k_ => (((((((some k_ ≠ (.slice Ao29 t523.length co29 : Value).ownBlock ∧ (some k_ ≠ (.slice Ao40 y529.length co40 : Value).ownBlock ∧ (k_ ≠ gb518 ∧ (k_ ≠ gb526 ∧ (k_ ≠ gb527 ∧ k_ ≠ gb532))))) ∧ some k_ ≠ (.slice Ao49 t533.length co49 : Value).ownBlock) ∧ k_ ≠ gb537) ∧ some k_ ≠ (.slice Ao59 t538.length co59 : Value).ownBlock) ∧ k_ ≠ gb542) ∧ some k_ ≠ (.slice Ao71 t543.length co71 : Value).ownBlock) ∧ k_ ≠ gb547)) (n := t520.length) (c := co25) ?_).2.2; exact (by refine ZNk ?_; exact (Kd.N_mono (Kd.N_far (p := ⟨gb547, 0, none⟩) (Kd.N_mono HO522.out (fun k_ hk => (⟨hk, hk.2⟩ : _ ∧ k_ ≠ gb547))) (fun _ hk => hk.2) (.slice Ao71 t543.length co71)) (fun _ h_ => h_.1)))); (case side2 => exact (Kd.N_reads' HO522.out).2.1); (case side3 => refine (Kd.R_reads' (e := 3) (base := w.heap.size) (ok := fun k_ => True) (n := y529.length) (c := co40) ?_).2.2; exact (by refine ZRk ?_; exact (Kd.R_mono (Kd.R_far (p := ⟨gb547, 0, none⟩) (Kd.R_types HO531.out BK547.out (by decide)) (fun _ hk => hk.2) (.slice Ao71 t543.length co71)) (fun _ h_ => h_.1)))); (case side4 => exact (Kd.R_reads' HO531.out).2.1); rintro e w81 ⟨v549, rfl, ho0, hb⟩; refine ⟨_, rfl, ?_⟩; have n0_ := Zw (Kd.N_elder' (by refine ZNk ?_; exact (Kd.N_mono (Kd.N_far (p := ⟨gb547, 0, none⟩) (Kd.N_mono HO522.out (fun k_ hk => (⟨hk, hk.2⟩ : _ ∧ k_ ≠ gb547))) (fun _ hk => hk.2) (.slice Ao71 t543.length co71)) (fun _ h_ => h_.1))) (by first | exact Kd.N_base ho0 | exact Kd.S_base ho0 | exact Kd.R_base ho0 | exact Kd.N_base ho0) hb); have n1_ := Zw (Kd.N_elder' (by refine ZNk ?_; exact (Kd.N_mono (Kd.N_far (p := ⟨gb547, 0, none⟩) (Kd.N_mono HO525.out (fun k_ hk => (⟨hk, hk.2⟩ : _ ∧ k_ ≠ gb547))) (fun _ hk => hk.2) (.slice Ao71 t543.length co71)) (fun _ h_ => h_.1))) (by first | exact Kd.N_base ho0 | exact Kd.S_base ho0 | exact Kd.R_base ho0 | exact Kd.N_base ho0) hb); have n2_ := Zw (Kd.R_below (by refine ZRk ?_; exact (Kd.R_mono (Kd.R_far (p := ⟨gb547, 0, none⟩) (Kd.R_types HO531.out BK547.out (by decide)) (fun _ hk => hk.2) (.slice Ao71 t543.length co71)) (fun _ h_ => h_.1))) hb); have n3_ := Zw (Kd.N_elder' (by refine ZNk ?_; exact (Kd.N_mono (Kd.N_far (p := ⟨gb547, 0, none⟩) (Kd.N_mono HO535.out (fun k_ hk => (⟨hk, hk.2⟩ : _ ∧ k_ ≠ gb547))) (fun _ hk => hk.2) (.slice Ao71 t543.length co71)) (fun _ h_ => h_.1))) (by first | exact Kd.N_base ho0 | exact Kd.S_base ho0 | exact Kd.R_base ho0 | exact Kd.N_base ho0) hb); have n4_ := Zw (Kd.N_elder' (by refine ZNk ?_; exact (Kd.N_mono (Kd.N_far (p := ⟨gb547, 0, none⟩) (Kd.N_mono HO540.out (fun k_ hk => (⟨hk, hk.2⟩ : _ ∧ k_ ≠ gb547))) (fun _ hk => hk.2) (.slice Ao71 t543.length co71)) (fun _ h_ => h_.1))) (by first | exact Kd.N_base ho0 | exact Kd.S_base ho0 | exact Kd.R_base ho0 | exact Kd.N_base ho0) hb); have n5_ := Zw (Kd.N_elder' (by refine ZNk ?_; exact (Kd.N_mono (Kd.N_far (p := ⟨gb547, 0, none⟩) (Kd.N_mono HO545.out (fun k_ hk => (⟨hk, hk.2⟩ : _ ∧ k_ ≠ gb547))) (fun _ hk => hk.2) (.slice Ao71 t543.length co71)) (fun _ h_ => h_.1))) (by first | exact Kd.N_base ho0 | exact Kd.S_base ho0 | exact Kd.R_base ho0 | exact Kd.N_base ho0) hb); have n6_ := Zw (Kd.N_lower (Kd.N_mono (ok' := fun k_ => some k_ ≠ (.slice Ao25 t520.length co25 : Value).ownBlock ∧ some k_ ≠ (.slice Ao29 t523.length co29 : Value).ownBlock ∧ some k_ ≠ (.slice Ao40 y529.length co40 : Value).ownBlock ∧ some k_ ≠ (.slice Ao49 t533.length co49 : Value).ownBlock ∧ some k_ ≠ (.slice Ao59 t538.length co59 : Value).ownBlock ∧ some k_ ≠ (.slice Ao71 t543.length co71 : Value).ownBlock ∧ k_ ≠ gb518 ∧ k_ ≠ gb526 ∧ k_ ≠ gb527 ∧ k_ ≠ gb532 ∧ k_ ≠ gb537 ∧ k_ ≠ gb542 ∧ k_ ≠ gb547) ho0 (fun k_ hk_ => ⟨(Kd.fresh' (Kd.N_lt (by refine ZNk ?_; exact (Kd.N_mono (Kd.N_far (p := ⟨gb547, 0, none⟩) (Kd.N_mono HO522.out (fun k_ hk => (⟨hk, hk.2⟩ : _ ∧ k_ ≠ gb547))) (fun _ hk => hk.2) (.slice Ao71 t543.length co71)) (fun _ h_ => h_.1)))) k_ hk_), (Kd.fresh' (Kd.N_lt (by refine ZNk ?_; exact (Kd.N_mono (Kd.N_far (p := ⟨gb547, 0, none⟩) (Kd.N_mono HO525.out (fun k_ hk => (⟨hk, hk.2⟩ : _ ∧ k_ ≠ gb547))) (fun _ hk => hk.2) (.slice Ao71 t543.length co71)) (fun _ h_ => h_.1)))) k_ hk_), (Kd.fresh' (Kd.R_lt (by refine ZRk ?_; exact (Kd.R_mono (Kd.R_far (p := ⟨gb547, 0, none⟩) (Kd.R_types HO531.out BK547.out (by decide)) (fun _ hk => hk.2) (.slice Ao71 t543.length co71)) (fun _ h_ => h_.1)))) k_ hk_), (Kd.fresh' (Kd.N_lt (by refine ZNk ?_; exact (Kd.N_mono (Kd.N_far (p := ⟨gb547, 0, none⟩) (Kd.N_mono HO535.out (fun k_ hk => (⟨hk, hk.2⟩ : _ ∧ k_ ≠ gb547))) (fun _ hk => hk.2) (.slice Ao71 t543.length co71)) (fun _ h_ => h_.1)))) k_ hk_), (Kd.fresh' (Kd.N_lt (by refine ZNk ?_; exact (Kd.N_mono (Kd.N_far (p := ⟨gb547, 0, none⟩) (Kd.N_mono HO540.out (fun k_ hk => (⟨hk, hk.2⟩ : _ ∧ k_ ≠ gb547))) (fun _ hk => hk.2) (.slice Ao71 t543.length co71)) (fun _ h_ => h_.1)))) k_ hk_), (Kd.fresh' (Kd.N_lt (by refine ZNk ?_; exact (Kd.N_mono (Kd.N_far (p := ⟨gb547, 0, none⟩) (Kd.N_mono HO545.out (fun k_ hk => (⟨hk, hk.2⟩ : _ ∧ k_ ≠ gb547))) (fun _ hk => hk.2) (.slice Ao71 t543.length co71)) (fun _ h_ => h_.1)))) k_ hk_), (Kd.freshB (g := gb518) (o := .cells #[.int .i64 a2_0, .slice A2_1 l2_1.length c2_1] 31 (0, 0)) (by refine Zbk ?_; refine blk_far ?_ NB518_547.out _; refine Zbk ?_; exact BK518.out) k_ hk_), (Kd.freshB (g := gb526) (o := .cells #[.slice Ao25 t520.length co25] 24 (0, 0)) (by refine Zbk ?_; refine blk_far ?_ NB526_547.out _; refine Zbk ?_; exact BK526.out) k_ hk_), (Kd.freshB (g := gb527) (o := .cells #[.slice Ao29 t523.length co29] 24 (0, 0)) (by refine Zbk ?_; refine blk_far ?_ NB527_547.out _; refine Zbk ?_; exact BK527.out) k_ hk_), (Kd.freshB (g := gb532) (o := .cells #[.int .i64 (wrap64 (t528 * 64)), .slice Ao40 y529.length co40] 31 (0, 0)) (by refine Zbk ?_; refine blk_far ?_ NB532_547.out _; refine Zbk ?_; exact BK532.out) k_ hk_), (Kd.freshB (g := gb537) (o := .cells #[.slice Ao49 t533.length co49] 24 (0, 0)) (by refine Zbk ?_; refine blk_far ?_ NB537_547.out _; refine Zbk ?_; exact BK537.out) k_ hk_), (Kd.freshB (g := gb542) (o := .cells #[.slice Ao59 t538.length co59] 24 (0, 0)) (by refine Zbk ?_; refine blk_far ?_ NB542_547.out _; refine Zbk ?_; exact BK542.out) k_ hk_), (Kd.freshB (g := gb547) (o := .cells #[.slice Ao71 t543.length co71] 24 (0, 0)) (by refine Zbk ?_; refine blk_put (cs := #[.slice none 0 0]) ?_ 0 _ rfl; refine Zbk ?_; exact BK547.out) k_ hk_)⟩)) (below_size (by repeat (first | (with_reducible first | exact HB.out | apply below_alloc | apply pw_below_drewN | apply below_drew1 | refine below_set ?_ GE518.out | refine below_set ?_ GE526.out | refine below_set ?_ GE527.out | refine below_set ?_ GE532.out | refine below_set ?_ GE537.out | refine below_set ?_ GE542.out | refine below_set ?_ GE547.out) | exact HB.out)))); have n7_ := Zw (blk_below (g := gb518) (o := .cells #[.int .i64 a2_0, .slice A2_1 l2_1.length c2_1] 31 (0, 0)) (by refine Zbk ?_; refine blk_far ?_ NB518_547.out _; refine Zbk ?_; exact BK518.out) hb); have n8_ := Zw (blk_below (g := gb526) (o := .cells #[.slice Ao25 t520.length co25] 24 (0, 0)) (by refine Zbk ?_; refine blk_far ?_ NB526_547.out _; refine Zbk ?_; exact BK526.out) hb); have n9_ := Zw (blk_below (g := gb527) (o := .cells #[.slice Ao29 t523.length co29] 24 (0, 0)) (by refine Zbk ?_; refine blk_far ?_ NB527_547.out _; refine Zbk ?_; exact BK527.out) hb); have n10_ := Zw (blk_below (g := gb532) (o := .cells #[.int .i64 (wrap64 (t528 * 64)), .slice Ao40 y529.length co40] 31 (0, 0)) (by refine Zbk ?_; refine blk_far ?_ NB532_547.out _; refine Zbk ?_; exact BK532.out) hb); have n11_ := Zw (blk_below (g := gb537) (o := .cells #[.slice Ao49 t533.length co49] 24 (0, 0)) (by refine Zbk ?_; refine blk_far ?_ NB537_547.out _; refine Zbk ?_; exact BK537.out) hb); have n12_ := Zw (blk_below (g := gb542) (o := .cells #[.slice Ao59 t538.length co59] 24 (0, 0)) (by refine Zbk ?_; refine blk_far ?_ NB542_547.out _; refine Zbk ?_; exact BK542.out) hb); have n13_ := Zw (blk_below (g := gb547) (o := .cells #[.slice Ao71 t543.length co71] 24 (0, 0)) (by refine Zbk ?_; refine blk_put (cs := #[.slice none 0 0]) ?_ 0 _ rfl; refine Zbk ?_; exact BK547.out) hb); have n14_ := Zw (below_step (by repeat (first | (with_reducible first | exact HB.out | apply below_alloc | apply pw_below_drewN | apply below_drew1 | refine below_set ?_ GE518.out | refine below_set ?_ GE526.out | refine below_set ?_ GE527.out | refine below_set ?_ GE532.out | refine below_set ?_ GE537.out | refine below_set ?_ GE542.out | refine below_set ?_ GE547.out) | exact HB.out)) hb); clear HO522; clear HO525; clear HO531; clear HO535; clear HO540; clear HO545; clear BK518; clear BK526; clear BK527; clear BK532; clear BK537; clear BK542; clear BK547; clear HB; have HO522 := n0_; have HO525 := n1_; have HO531 := n2_; have HO535 := n3_; have HO540 := n4_; have HO545 := n5_; have HO550 := n6_; have BK518 := n7_; have BK526 := n8_; have BK527 := n9_; have BK532 := n10_; have BK537 := n11_; have BK542 := n12_; have BK547 := n13_; have HB := n14_; clear n0_ n1_ n2_ n3_ n4_ n5_ n6_ n7_ n8_ n9_ n10_ n11_ n12_ n13_ n14_; (try clear hb); (try clear hb2); (try clear hk); (try clear hi); (try clear ho0)) | ((with_reducible refine gate_dst (N := 18) rfl ?_); refine box_event ?hg (N := 18) ?hd (cs := #[.slice none 0 0]) (t := 24) ?hr ?_; (case hd => rfl); (case hg => rfl); (case hr => first | (go_simp; done) | (go_simp; rfl)); intro gb552 hg w82 hbox hb; have n0_ := Zw (Kd.N_below (Kd.N_elderB (ZN HO522.out) gb552 (Nat.le_of_eq hg.symm)) hb); have n1_ := Zw (Kd.N_below (Kd.N_elderB (ZN HO525.out) gb552 (Nat.le_of_eq hg.symm)) hb); have n2_ := Zw (Kd.R_below (ZR HO531.out) hb); have n3_ := Zw (Kd.N_below (Kd.N_elderB (ZN HO535.out) gb552 (Nat.le_of_eq hg.symm)) hb); have n4_ := Zw (Kd.N_below (Kd.N_elderB (ZN HO540.out) gb552 (Nat.le_of_eq hg.symm)) hb); have n5_ := Zw (Kd.N_below (Kd.N_elderB (ZN HO545.out) gb552 (Nat.le_of_eq hg.symm)) hb); have n6_ := Zw (Kd.N_below (Kd.N_elderB (ZN HO550.out) gb552 (Nat.le_of_eq hg.symm)) hb); have n7_ := Zw (blk_below (g := gb518) (o := .cells #[.int .i64 a2_0, .slice A2_1 l2_1.length c2_1] 31 (0, 0)) (Zb BK518.out) hb); have n8_ := Zw (blk_below (g := gb526) (o := .cells #[.slice Ao25 t520.length co25] 24 (0, 0)) (Zb BK526.out) hb); have n9_ := Zw (blk_below (g := gb527) (o := .cells #[.slice Ao29 t523.length co29] 24 (0, 0)) (Zb BK527.out) hb); have n10_ := Zw (blk_below (g := gb532) (o := .cells #[.int .i64 (wrap64 (t528 * 64)), .slice Ao40 y529.length co40] 31 (0, 0)) (Zb BK532.out) hb); have n11_ := Zw (blk_below (g := gb537) (o := .cells #[.slice Ao49 t533.length co49] 24 (0, 0)) (Zb BK537.out) hb); have n12_ := Zw (blk_below (g := gb542) (o := .cells #[.slice Ao59 t538.length co59] 24 (0, 0)) (Zb BK542.out) hb); have n13_ := Zw (blk_below (g := gb547) (o := .cells #[.slice Ao71 t543.length co71] 24 (0, 0)) (Zb BK547.out) hb); have n14_ := Zw (below_step (by repeat (first | (with_reducible first | exact HB.out | apply below_alloc | apply pw_below_drewN | apply below_drew1 | refine below_set ?_ GE518.out | refine below_set ?_ GE526.out | refine below_set ?_ GE527.out | refine below_set ?_ GE532.out | refine below_set ?_ GE537.out | refine below_set ?_ GE542.out | refine below_set ?_ GE547.out) | exact HB.out)) hb); have n15_ := Zw (hbox); have n16_ := Zw ((by rw [hg]; exact (below_size (by repeat (first | (with_reducible first | exact HB.out | apply below_alloc | apply pw_below_drewN | apply below_drew1 | refine below_set ?_ GE518.out | refine below_set ?_ GE526.out | refine below_set ?_ GE527.out | refine below_set ?_ GE532.out | refine below_set ?_ GE537.out | refine below_set ?_ GE542.out | refine below_set ?_ GE547.out) | exact HB.out))) : w.heap.size ≤ gb552)); have n17_ := Zw ((by rw [hg]; exact (below_size (by repeat (first | (with_reducible first | exact HB.out | apply below_alloc | apply pw_below_drewN | apply below_drew1 | refine below_set ?_ GE518.out | refine below_set ?_ GE526.out | refine below_set ?_ GE527.out | refine below_set ?_ GE532.out | refine below_set ?_ GE537.out | refine below_set ?_ GE542.out | refine below_set ?_ GE547.out) | exact HB.out))) : w.heap.size ≤ gb552)); have n18_ := Zw ((by rw [hg]; exact Nat.ne_of_lt (blk_lt (Zb BK518.out)) : gb518 ≠ gb552)); have n19_ := Zw ((by rw [hg]; exact Nat.ne_of_gt (blk_lt (Zb BK518.out)) : gb552 ≠ gb518)); have n20_ := Zw ((by rw [hg]; exact Nat.ne_of_lt (blk_lt (Zb BK526.out)) : gb526 ≠ gb552)); have n21_ := Zw ((by rw [hg]; exact Nat.ne_of_gt (blk_lt (Zb BK526.out)) : gb552 ≠ gb526)); have n22_ := Zw ((by rw [hg]; exact Nat.ne_of_lt (blk_lt (Zb BK527.out)) : gb527 ≠ gb552)); have n23_ := Zw ((by rw [hg]; exact Nat.ne_of_gt (blk_lt (Zb BK527.out)) : gb552 ≠ gb527)); have n24_ := Zw ((by rw [hg]; exact Nat.ne_of_lt (blk_lt (Zb BK532.out)) : gb532 ≠ gb552)); have n25_ := Zw ((by rw [hg]; exact Nat.ne_of_gt (blk_lt (Zb BK532.out)) : gb552 ≠ gb532)); have n26_ := Zw ((by rw [hg]; exact Nat.ne_of_lt (blk_lt (Zb BK537.out)) : gb537 ≠ gb552)); have n27_ := Zw ((by rw [hg]; exact Nat.ne_of_gt (blk_lt (Zb BK537.out)) : gb552 ≠ gb537)); have n28_ := Zw ((by rw [hg]; exact Nat.ne_of_lt (blk_lt (Zb BK542.out)) : gb542 ≠ gb552)); have n29_ := Zw ((by rw [hg]; exact Nat.ne_of_gt (blk_lt (Zb BK542.out)) : gb552 ≠ gb542)); have n30_ := Zw ((by rw [hg]; exact Nat.ne_of_lt (blk_lt (Zb BK547.out)) : gb547 ≠ gb552)); have n31_ := Zw ((by rw [hg]; exact Nat.ne_of_gt (blk_lt (Zb BK547.out)) : gb552 ≠ gb547)); clear HO522; clear HO525; clear HO531; clear HO535; clear HO540; clear HO545; clear HO550; clear BK518; clear BK526; clear BK527; clear BK532; clear BK537; clear BK542; clear BK547; clear HB; have HO522 := n0_; have HO525 := n1_; have HO531 := n2_; have HO535 := n3_; have HO540 := n4_; have HO545 := n5_; have HO550 := n6_; have BK518 := n7_; have BK526 := n8_; have BK527 := n9_; have BK532 := n10_; have BK537 := n11_; have BK542 := n12_; have BK547 := n13_; have HB := n14_; have BK552 := n15_; have GW552 := n16_; have GE552 := n17_; have NB518_552 := n18_; have NB552_518 := n19_; have NB526_552 := n20_; have NB552_526 := n21_; have NB527_552 := n22_; have NB552_527 := n23_; have NB532_552 := n24_; have NB552_532 := n25_; have NB537_552 := n26_; have NB552_537 := n27_; have NB542_552 := n28_; have NB552_542 := n29_; have NB547_552 := n30_; have NB552_547 := n31_; clear n0_ n1_ n2_ n3_ n4_ n5_ n6_ n7_ n8_ n9_ n10_ n11_ n12_ n13_ n14_ n15_ n16_ n17_ n18_ n19_ n20_ n21_ n22_ n23_ n24_ n25_ n26_ n27_ n28_ n29_ n30_ n31_; clear hb hbox hg; obtain ⟨Ao83, co83, eo83⟩ := Kd.N_slice HO550.out; subst eo83; have hnb84 := NB552_518.out; have hnc84 := NB518_552.out; have hnb85 := NB552_526.out; have hnc85 := NB526_552.out; have hnb86 := NB552_527.out; have hnc86 := NB527_552.out; have hnb87 := NB552_532.out; have hnc87 := NB532_552.out; have hnb88 := NB552_537.out; have hnc88 := NB537_552.out; have hnb89 := NB552_542.out; have hnc89 := NB542_552.out; have hnb90 := NB552_547.out; have hnc90 := NB547_552.out; have hcz91_0 := Zcl BK552.out 0 rfl; have hfz91_0 := blk_frozen BK552.out 0))
   (try simp only [Act.put, zsA, zsZ, zsS])
   go_cut [77] (fun v77 wc => ∃ (kq : Nat) (x77_17 : Bool), v77 = .bool x77_17 ∧ Aside0 (debuggerlaw25_MemoryPages.j0 kq a3 x77_17 t520 t523 (wrap64 (t528 * 64)) y529 = some r) ∧ Aside0 (kq ≤ k) ∧ Aside0 (Kd.N k31 31 wc w.heap.size (fun k_ => some k_ ≠ ((.slice Ao29 t523.length co29) : Value).ownBlock ∧ some k_ ≠ ((.slice Ao40 y529.length co40) : Value).ownBlock ∧ some k_ ≠ ((.slice Ao49 t533.length co49) : Value).ownBlock ∧ some k_ ≠ ((.slice Ao59 t538.length co59) : Value).ownBlock ∧ some k_ ≠ ((.slice Ao71 t543.length co71) : Value).ownBlock ∧ some k_ ≠ ((.slice Ao83 t548.length co83) : Value).ownBlock ∧ k_ ≠ gb518 ∧ k_ ≠ gb526 ∧ k_ ≠ gb527 ∧ k_ ≠ gb532 ∧ k_ ≠ gb537 ∧ k_ ≠ gb542 ∧ k_ ≠ gb547 ∧ k_ ≠ gb552) (.slice Ao25 t520.length co25) t520) ∧ Aside0 (Kd.N k31 31 wc w.heap.size (fun k_ => some k_ ≠ ((.slice Ao25 t520.length co25) : Value).ownBlock ∧ some k_ ≠ ((.slice Ao40 y529.length co40) : Value).ownBlock ∧ some k_ ≠ ((.slice Ao49 t533.length co49) : Value).ownBlock ∧ some k_ ≠ ((.slice Ao59 t538.length co59) : Value).ownBlock ∧ some k_ ≠ ((.slice Ao71 t543.length co71) : Value).ownBlock ∧ some k_ ≠ ((.slice Ao83 t548.length co83) : Value).ownBlock ∧ k_ ≠ gb518 ∧ k_ ≠ gb526 ∧ k_ ≠ gb527 ∧ k_ ≠ gb532 ∧ k_ ≠ gb537 ∧ k_ ≠ gb542 ∧ k_ ≠ gb547 ∧ k_ ≠ gb552) (.slice Ao29 t523.length co29) t523) ∧ Aside0 (Kd.R (Kd.int .i64) 3 wc w.heap.size (fun _ => True) (.slice Ao40 y529.length co40) y529) ∧ Aside0 (Kd.N k31 31 wc w.heap.size (fun k_ => some k_ ≠ ((.slice Ao25 t520.length co25) : Value).ownBlock ∧ some k_ ≠ ((.slice Ao29 t523.length co29) : Value).ownBlock ∧ some k_ ≠ ((.slice Ao40 y529.length co40) : Value).ownBlock ∧ some k_ ≠ ((.slice Ao59 t538.length co59) : Value).ownBlock ∧ some k_ ≠ ((.slice Ao71 t543.length co71) : Value).ownBlock ∧ some k_ ≠ ((.slice Ao83 t548.length co83) : Value).ownBlock ∧ k_ ≠ gb518 ∧ k_ ≠ gb526 ∧ k_ ≠ gb527 ∧ k_ ≠ gb532 ∧ k_ ≠ gb537 ∧ k_ ≠ gb542 ∧ k_ ≠ gb547 ∧ k_ ≠ gb552) (.slice Ao49 t533.length co49) t533) ∧ Aside0 (Kd.N k31 31 wc w.heap.size (fun k_ => some k_ ≠ ((.slice Ao25 t520.length co25) : Value).ownBlock ∧ some k_ ≠ ((.slice Ao29 t523.length co29) : Value).ownBlock ∧ some k_ ≠ ((.slice Ao40 y529.length co40) : Value).ownBlock ∧ some k_ ≠ ((.slice Ao49 t533.length co49) : Value).ownBlock ∧ some k_ ≠ ((.slice Ao71 t543.length co71) : Value).ownBlock ∧ some k_ ≠ ((.slice Ao83 t548.length co83) : Value).ownBlock ∧ k_ ≠ gb518 ∧ k_ ≠ gb526 ∧ k_ ≠ gb527 ∧ k_ ≠ gb532 ∧ k_ ≠ gb537 ∧ k_ ≠ gb542 ∧ k_ ≠ gb547 ∧ k_ ≠ gb552) (.slice Ao59 t538.length co59) t538) ∧ Aside0 (Kd.N k31 31 wc w.heap.size (fun k_ => some k_ ≠ ((.slice Ao25 t520.length co25) : Value).ownBlock ∧ some k_ ≠ ((.slice Ao29 t523.length co29) : Value).ownBlock ∧ some k_ ≠ ((.slice Ao40 y529.length co40) : Value).ownBlock ∧ some k_ ≠ ((.slice Ao49 t533.length co49) : Value).ownBlock ∧ some k_ ≠ ((.slice Ao59 t538.length co59) : Value).ownBlock ∧ some k_ ≠ ((.slice Ao83 t548.length co83) : Value).ownBlock ∧ k_ ≠ gb518 ∧ k_ ≠ gb526 ∧ k_ ≠ gb527 ∧ k_ ≠ gb532 ∧ k_ ≠ gb537 ∧ k_ ≠ gb542 ∧ k_ ≠ gb547 ∧ k_ ≠ gb552) (.slice Ao71 t543.length co71) t543) ∧ Aside0 (Kd.N k31 31 wc w.heap.size (fun k_ => some k_ ≠ ((.slice Ao25 t520.length co25) : Value).ownBlock ∧ some k_ ≠ ((.slice Ao29 t523.length co29) : Value).ownBlock ∧ some k_ ≠ ((.slice Ao40 y529.length co40) : Value).ownBlock ∧ some k_ ≠ ((.slice Ao49 t533.length co49) : Value).ownBlock ∧ some k_ ≠ ((.slice Ao59 t538.length co59) : Value).ownBlock ∧ some k_ ≠ ((.slice Ao71 t543.length co71) : Value).ownBlock ∧ k_ ≠ gb518 ∧ k_ ≠ gb526 ∧ k_ ≠ gb527 ∧ k_ ≠ gb532 ∧ k_ ≠ gb537 ∧ k_ ≠ gb542 ∧ k_ ≠ gb547 ∧ k_ ≠ gb552) (.slice Ao83 t548.length co83) t548) ∧ Aside0 (wc.heap[gb518]? = some (.cells #[.int .i64 a2_0, (.slice A2_1 l2_1.length c2_1)] 31 (0, 0))) ∧ Aside0 (wc.heap[gb526]? = some (.cells #[(.slice Ao25 t520.length co25)] 24 (0, 0))) ∧ Aside0 (wc.heap[gb527]? = some (.cells #[(.slice Ao29 t523.length co29)] 24 (0, 0))) ∧ Aside0 (wc.heap[gb532]? = some (.cells #[.int .i64 (wrap64 (t528 * 64)), (.slice Ao40 y529.length co40)] 31 (0, 0))) ∧ Aside0 (wc.heap[gb537]? = some (.cells #[(.slice Ao49 t533.length co49)] 24 (0, 0))) ∧ Aside0 (wc.heap[gb542]? = some (.cells #[(.slice Ao59 t538.length co59)] 24 (0, 0))) ∧ Aside0 (wc.heap[gb547]? = some (.cells #[(.slice Ao71 t543.length co71)] 24 (0, 0))) ∧ Aside0 (wc.heap[gb552]? = some (.cells #[(.slice Ao83 t548.length co83)] 24 (0, 0))) ∧ Aside0 (Below w.heap.size w wc))
   case first =>
    have H := HC18.out
    clear HC18
    by_cases c92 : t536 = t541
    ·rw [if_pos c92] at H
     have c92b0 : (t536 == t541) = true := beq_iff_eq.mpr c92
     have c92b1 : (t536 != t541) = false := bne_eq_false_iff_eq.mpr c92
     clear c92
     (first | rw [c92b0] | (simp only [i64_w, i32_w]; rw [c92b0]) | skip)
     by_cases c93 : t546 = t551
     ·rw [if_pos c93] at H
      have c93b0 : (t546 == t551) = true := beq_iff_eq.mpr c93
      have c93b1 : (t546 != t551) = false := bne_eq_false_iff_eq.mpr c93
      clear c93
      replace H := Option.bind_eq_some_iff.mp H
      obtain ⟨t553, A940, H⟩ := H
      replace H : (if t553 = true then ((debuggerref25_Same.f k t543 t548).bind fun t554 => (debuggerlaw25_MemoryPages.j0 k a3 (!t554) t520 t523 (wrap64 (t528 * 64)) y529)) else (debuggerlaw25_MemoryPages.j0 k a3 true t520 t523 (wrap64 (t528 * 64)) y529)) = some r := H
      have A94 := Aside0.mk A940
      clear A940
      by_cases c95 : t553 = true
      ·subst c95
       have H1 : ((debuggerref25_Same.f k t543 t548).bind fun t554 => (debuggerlaw25_MemoryPages.j0 k a3 (!t554) t520 t523 (wrap64 (t528 * 64)) y529)) = some r := by rw [if_pos rfl] at H; exact H
       clear H
       have H := H1
       clear H1
       replace H := Option.bind_eq_some_iff.mp H
       obtain ⟨t554, A960, H⟩ := H
       replace H : (debuggerlaw25_MemoryPages.j0 k a3 (!t554) t520 t523 (wrap64 (t528 * 64)) y529) = some r := H
       have A96 := Aside0.mk A960
       clear A960
       have H' := Aside0.mk H
       clear H
       have hnb97 := NB537_518.out
       have hnc97 := NB518_537.out
       have hnb98 := NB537_526.out
       have hnc98 := NB526_537.out
       have hnb99 := NB537_527.out
       have hnc99 := NB527_537.out
       have hnb100 := NB537_532.out
       have hnc100 := NB532_537.out
       have hnb101 := NB537_542.out
       have hnc101 := NB542_537.out
       have hnb102 := NB537_547.out
       have hnc102 := NB547_537.out
       have hnb103 := NB537_552.out
       have hnc103 := NB552_537.out
       have hcz104_0 := Zcl BK537.out 0 rfl
       have hfz104_0 := blk_frozen BK537.out 0
       have hnb105 := NB542_518.out
       have hnc105 := NB518_542.out
       have hnb106 := NB542_526.out
       have hnc106 := NB526_542.out
       have hnb107 := NB542_527.out
       have hnc107 := NB527_542.out
       have hnb108 := NB542_532.out
       have hnc108 := NB532_542.out
       have hnb109 := NB542_547.out
       have hnc109 := NB547_542.out
       have hnb110 := NB542_552.out
       have hnc110 := NB552_542.out
       have hcz111_0 := Zcl BK542.out 0 rfl
       have hfz111_0 := blk_frozen BK542.out 0
       go_wp2_with (first | (go_at_call 16; (with_reducible refine (debuggerref25_Same.calls k _ _ t533 _ _ t538 true _ ?side1 ?side2 ?side3 ?side4 A94.out).mono ?_); (case side1 => refine (Kd.N_reads' (e := 31) (base := w.heap.size) (ok := fun k_ => ((((((((some k_ ≠ (.slice Ao25 t520.length co25 : Value).ownBlock ∧ (some k_ ≠ (.slice Ao29 t523.length co29 : Value).ownBlock ∧ (some k_ ≠ (.slice Ao40 y529.length co40 : Value).ownBlock ∧ (k_ ≠ gb518 ∧ (k_ ≠ gb526 ∧ (k_ ≠ gb527 ∧ k_ ≠ gb532)))))) ∧ k_ ≠ gb537) ∧ some k_ ≠ (.slice Ao59 t538.length co59 : Value).ownBlock) ∧ k_ ≠ gb542) ∧ some k_ ≠ (.slice Ao71 t543.length co71 : Value).ownBlock) ∧ k_ ≠ gb547) ∧ some k_ ≠ (.slice Ao83 t548.length co83 : Value).ownBlock) ∧ k_ ≠ gb552)) (n := t533.length) (c := co49) ?_).2.2; exact (by refine ZNk ?_; exact (Kd.N_mono (Kd.N_far (p := ⟨gb552, 0, none⟩) (Kd.N_mono HO535.out (fun k_ hk => (⟨hk, hk.2⟩ : _ ∧ k_ ≠ gb552))) (fun _ hk => hk.2) (.slice Ao83 t548.length co83)) (fun _ h_ => h_.1)))); (case side2 => exact (Kd.N_reads' HO535.out).2.1); (case side3 => refine (Kd.N_reads' (e := 31) (base := w.heap.size) (ok := fun k_ => ((((((some k_ ≠ (.slice Ao25 t520.length co25 : Value).ownBlock ∧ (some k_ ≠ (.slice Ao29 t523.length co29 : Value).ownBlock ∧ (some k_ ≠ (.slice Ao40 y529.length co40 : Value).ownBlock ∧ (some k_ ≠ (.slice Ao49 t533.length co49 : Value).ownBlock ∧ (k_ ≠ gb518 ∧ (k_ ≠ gb526 ∧ (k_ ≠ gb527 ∧ (k_ ≠ gb532 ∧ k_ ≠ gb537)))))))) ∧ k_ ≠ gb542) ∧ some k_ ≠ (.slice Ao71 t543.length co71 : Value).ownBlock) ∧ k_ ≠ gb547) ∧ some k_ ≠ (.slice Ao83 t548.length co83 : Value).ownBlock) ∧ k_ ≠ gb552)) (n := t538.length) (c := co59) ?_).2.2; exact (by refine ZNk ?_; exact (Kd.N_mono (Kd.N_far (p := ⟨gb552, 0, none⟩) (Kd.N_mono HO540.out (fun k_ hk => (⟨hk, hk.2⟩ : _ ∧ k_ ≠ gb552))) (fun _ hk => hk.2) (.slice Ao83 t548.length co83)) (fun _ h_ => h_.1)))); (case side4 => exact (Kd.N_reads' HO540.out).2.1); rintro e w112 ⟨rfl, hb⟩; have n0_ := Zw (Kd.N_below (by refine ZNk ?_; exact (Kd.N_mono (Kd.N_far (p := ⟨gb552, 0, none⟩) (Kd.N_mono HO522.out (fun k_ hk => (⟨hk, hk.2⟩ : _ ∧ k_ ≠ gb552))) (fun _ hk => hk.2) (.slice Ao83 t548.length co83)) (fun _ h_ => h_.1))) hb); have n1_ := Zw (Kd.N_below (by refine ZNk ?_; exact (Kd.N_mono (Kd.N_far (p := ⟨gb552, 0, none⟩) (Kd.N_mono HO525.out (fun k_ hk => (⟨hk, hk.2⟩ : _ ∧ k_ ≠ gb552))) (fun _ hk => hk.2) (.slice Ao83 t548.length co83)) (fun _ h_ => h_.1))) hb); have n2_ := Zw (Kd.R_below (by refine ZRk ?_; exact (Kd.R_mono (Kd.R_far (p := ⟨gb552, 0, none⟩) (Kd.R_types HO531.out BK552.out (by decide)) (fun _ hk => hk.2) (.slice Ao83 t548.length co83)) (fun _ h_ => h_.1))) hb); have n3_ := Zw (Kd.N_below (by refine ZNk ?_; exact (Kd.N_mono (Kd.N_far (p := ⟨gb552, 0, none⟩) (Kd.N_mono HO535.out (fun k_ hk => (⟨hk, hk.2⟩ : _ ∧ k_ ≠ gb552))) (fun _ hk => hk.2) (.slice Ao83 t548.length co83)) (fun _ h_ => h_.1))) hb); have n4_ := Zw (Kd.N_below (by refine ZNk ?_; exact (Kd.N_mono (Kd.N_far (p := ⟨gb552, 0, none⟩) (Kd.N_mono HO540.out (fun k_ hk => (⟨hk, hk.2⟩ : _ ∧ k_ ≠ gb552))) (fun _ hk => hk.2) (.slice Ao83 t548.length co83)) (fun _ h_ => h_.1))) hb); have n5_ := Zw (Kd.N_below (by refine ZNk ?_; exact (Kd.N_mono (Kd.N_far (p := ⟨gb552, 0, none⟩) (Kd.N_mono HO545.out (fun k_ hk => (⟨hk, hk.2⟩ : _ ∧ k_ ≠ gb552))) (fun _ hk => hk.2) (.slice Ao83 t548.length co83)) (fun _ h_ => h_.1))) hb); have n6_ := Zw (Kd.N_below (by refine ZNk ?_; exact (Kd.N_mono (Kd.N_far (p := ⟨gb552, 0, none⟩) (Kd.N_mono HO550.out (fun k_ hk => (⟨hk, hk.2⟩ : _ ∧ k_ ≠ gb552))) (fun _ hk => hk.2) (.slice Ao83 t548.length co83)) (fun _ h_ => h_.1))) hb); have n7_ := Zw (blk_below (g := gb518) (o := .cells #[.int .i64 a2_0, .slice A2_1 l2_1.length c2_1] 31 (0, 0)) (by refine Zbk ?_; refine blk_far ?_ NB518_552.out _; refine Zbk ?_; exact BK518.out) hb); have n8_ := Zw (blk_below (g := gb526) (o := .cells #[.slice Ao25 t520.length co25] 24 (0, 0)) (by refine Zbk ?_; refine blk_far ?_ NB526_552.out _; refine Zbk ?_; exact BK526.out) hb); have n9_ := Zw (blk_below (g := gb527) (o := .cells #[.slice Ao29 t523.length co29] 24 (0, 0)) (by refine Zbk ?_; refine blk_far ?_ NB527_552.out _; refine Zbk ?_; exact BK527.out) hb); have n10_ := Zw (blk_below (g := gb532) (o := .cells #[.int .i64 (wrap64 (t528 * 64)), .slice Ao40 y529.length co40] 31 (0, 0)) (by refine Zbk ?_; refine blk_far ?_ NB532_552.out _; refine Zbk ?_; exact BK532.out) hb); have n11_ := Zw (blk_below (g := gb537) (o := .cells #[.slice Ao49 t533.length co49] 24 (0, 0)) (by refine Zbk ?_; refine blk_far ?_ NB537_552.out _; refine Zbk ?_; exact BK537.out) hb); have n12_ := Zw (blk_below (g := gb542) (o := .cells #[.slice Ao59 t538.length co59] 24 (0, 0)) (by refine Zbk ?_; refine blk_far ?_ NB542_552.out _; refine Zbk ?_; exact BK542.out) hb); have n13_ := Zw (blk_below (g := gb547) (o := .cells #[.slice Ao71 t543.length co71] 24 (0, 0)) (by refine Zbk ?_; refine blk_far ?_ NB547_552.out _; refine Zbk ?_; exact BK547.out) hb); have n14_ := Zw (blk_below (g := gb552) (o := .cells #[.slice Ao83 t548.length co83] 24 (0, 0)) (by refine Zbk ?_; refine blk_put (cs := #[.slice none 0 0]) ?_ 0 _ rfl; refine Zbk ?_; exact BK552.out) hb); have n15_ := Zw (below_step (by repeat (first | (with_reducible first | exact HB.out | apply below_alloc | apply pw_below_drewN | apply below_drew1 | refine below_set ?_ GE518.out | refine below_set ?_ GE526.out | refine below_set ?_ GE527.out | refine below_set ?_ GE532.out | refine below_set ?_ GE537.out | refine below_set ?_ GE542.out | refine below_set ?_ GE547.out | refine below_set ?_ GE552.out) | exact HB.out)) hb); clear HO522; clear HO525; clear HO531; clear HO535; clear HO540; clear HO545; clear HO550; clear BK518; clear BK526; clear BK527; clear BK532; clear BK537; clear BK542; clear BK547; clear BK552; clear HB; have HO522 := n0_; have HO525 := n1_; have HO531 := n2_; have HO535 := n3_; have HO540 := n4_; have HO545 := n5_; have HO550 := n6_; have BK518 := n7_; have BK526 := n8_; have BK527 := n9_; have BK532 := n10_; have BK537 := n11_; have BK542 := n12_; have BK547 := n13_; have BK552 := n14_; have HB := n15_; clear n0_ n1_ n2_ n3_ n4_ n5_ n6_ n7_ n8_ n9_ n10_ n11_ n12_ n13_ n14_ n15_; (try clear hb); (try clear hb2); (try clear hk); (try clear hi); have hnb113 := NB547_518.out; have hnc113 := NB518_547.out; have hnb114 := NB547_526.out; have hnc114 := NB526_547.out; have hnb115 := NB547_527.out; have hnc115 := NB527_547.out; have hnb116 := NB547_532.out; have hnc116 := NB532_547.out; have hnb117 := NB547_552.out; have hnc117 := NB552_547.out; have hcz118_0 := Zcl BK547.out 0 rfl; have hfz118_0 := blk_frozen BK547.out 0; have hnb119 := NB552_518.out; have hnc119 := NB518_552.out; have hnb120 := NB552_526.out; have hnc120 := NB526_552.out; have hnb121 := NB552_527.out; have hnc121 := NB527_552.out; have hnb122 := NB552_532.out; have hnc122 := NB532_552.out; have hcz123_0 := Zcl BK552.out 0 rfl; have hfz123_0 := blk_frozen BK552.out 0) | (go_at_call 16; (with_reducible refine (debuggerref25_Same.calls k _ _ t543 _ _ t548 t554 _ ?side1 ?side2 ?side3 ?side4 A96.out).mono ?_); (case side1 => exact Zc ((Kd.N_reads' HO545.out).2.2)); (case side2 => exact (Kd.N_reads' HO545.out).2.1); (case side3 => exact Zc ((Kd.N_reads' HO550.out).2.2)); (case side4 => exact (Kd.N_reads' HO550.out).2.1); rintro e w124 ⟨rfl, hb⟩; have n0_ := Zw (Kd.N_below (ZN HO522.out) hb); have n1_ := Zw (Kd.N_below (ZN HO525.out) hb); have n2_ := Zw (Kd.R_below (ZR HO531.out) hb); have n3_ := Zw (Kd.N_below (ZN HO535.out) hb); have n4_ := Zw (Kd.N_below (ZN HO540.out) hb); have n5_ := Zw (Kd.N_below (ZN HO545.out) hb); have n6_ := Zw (Kd.N_below (ZN HO550.out) hb); have n7_ := Zw (blk_below (g := gb518) (o := .cells #[.int .i64 a2_0, .slice A2_1 l2_1.length c2_1] 31 (0, 0)) (Zb BK518.out) hb); have n8_ := Zw (blk_below (g := gb526) (o := .cells #[.slice Ao25 t520.length co25] 24 (0, 0)) (Zb BK526.out) hb); have n9_ := Zw (blk_below (g := gb527) (o := .cells #[.slice Ao29 t523.length co29] 24 (0, 0)) (Zb BK527.out) hb); have n10_ := Zw (blk_below (g := gb532) (o := .cells #[.int .i64 (wrap64 (t528 * 64)), .slice Ao40 y529.length co40] 31 (0, 0)) (Zb BK532.out) hb); have n11_ := Zw (blk_below (g := gb537) (o := .cells #[.slice Ao49 t533.length co49] 24 (0, 0)) (Zb BK537.out) hb); have n12_ := Zw (blk_below (g := gb542) (o := .cells #[.slice Ao59 t538.length co59] 24 (0, 0)) (Zb BK542.out) hb); have n13_ := Zw (blk_below (g := gb547) (o := .cells #[.slice Ao71 t543.length co71] 24 (0, 0)) (Zb BK547.out) hb); have n14_ := Zw (blk_below (g := gb552) (o := .cells #[.slice Ao83 t548.length co83] 24 (0, 0)) (Zb BK552.out) hb); have n15_ := Zw (below_step (by repeat (first | (with_reducible first | exact HB.out | apply below_alloc | apply pw_below_drewN | apply below_drew1 | refine below_set ?_ GE518.out | refine below_set ?_ GE526.out | refine below_set ?_ GE527.out | refine below_set ?_ GE532.out | refine below_set ?_ GE537.out | refine below_set ?_ GE542.out | refine below_set ?_ GE547.out | refine below_set ?_ GE552.out) | exact HB.out)) hb); clear HO522; clear HO525; clear HO531; clear HO535; clear HO540; clear HO545; clear HO550; clear BK518; clear BK526; clear BK527; clear BK532; clear BK537; clear BK542; clear BK547; clear BK552; clear HB; have HO522 := n0_; have HO525 := n1_; have HO531 := n2_; have HO535 := n3_; have HO540 := n4_; have HO545 := n5_; have HO550 := n6_; have BK518 := n7_; have BK526 := n8_; have BK527 := n9_; have BK532 := n10_; have BK537 := n11_; have BK542 := n12_; have BK547 := n13_; have BK552 := n14_; have HB := n15_; clear n0_ n1_ n2_ n3_ n4_ n5_ n6_ n7_ n8_ n9_ n10_ n11_ n12_ n13_ n14_ n15_; (try clear hb); (try clear hb2); (try clear hk); (try clear hi)))
       go_meet
       case rel => exact ⟨_, (!t554), (by first | rfl | (simp; done) | (simp [*]; done)), H', ⟨by first | omega | exact Nat.le_refl _⟩, ⟨by refine ZNk ?_; exact Kd.N_mono HO522.out (fun _ hk => ⟨hk.1.1.1.1.1.1.1.1.1, ⟨hk.1.1.1.1.1.1.1.1.2.1, ⟨hk.1.1.1.1.1.1.1.2, ⟨hk.1.1.1.1.1.2, ⟨hk.1.1.1.2, ⟨hk.1.2, ⟨hk.1.1.1.1.1.1.1.1.2.2.1, ⟨hk.1.1.1.1.1.1.1.1.2.2.2.1, ⟨hk.1.1.1.1.1.1.1.1.2.2.2.2.1, ⟨hk.1.1.1.1.1.1.1.1.2.2.2.2.2, ⟨hk.1.1.1.1.1.1.2, ⟨hk.1.1.1.1.2, ⟨hk.1.1.2, hk.2⟩⟩⟩⟩⟩⟩⟩⟩⟩⟩⟩⟩⟩)⟩, ⟨by refine ZNk ?_; exact Kd.N_mono HO525.out (fun _ hk => ⟨hk.1.1.1.1.1.1.1.1.1, ⟨hk.1.1.1.1.1.1.1.1.2.1, ⟨hk.1.1.1.1.1.1.1.2, ⟨hk.1.1.1.1.1.2, ⟨hk.1.1.1.2, ⟨hk.1.2, ⟨hk.1.1.1.1.1.1.1.1.2.2.1, ⟨hk.1.1.1.1.1.1.1.1.2.2.2.1, ⟨hk.1.1.1.1.1.1.1.1.2.2.2.2.1, ⟨hk.1.1.1.1.1.1.1.1.2.2.2.2.2, ⟨hk.1.1.1.1.1.1.2, ⟨hk.1.1.1.1.2, ⟨hk.1.1.2, hk.2⟩⟩⟩⟩⟩⟩⟩⟩⟩⟩⟩⟩⟩)⟩, ⟨ZR HO531.out⟩, ⟨by refine ZNk ?_; exact Kd.N_mono HO535.out (fun _ hk => ⟨hk.1.1.1.1.1.1.1.1, ⟨hk.1.1.1.1.1.1.1.2.1, ⟨hk.1.1.1.1.1.1.1.2.2.1, ⟨hk.1.1.1.1.1.2, ⟨hk.1.1.1.2, ⟨hk.1.2, ⟨hk.1.1.1.1.1.1.1.2.2.2.1, ⟨hk.1.1.1.1.1.1.1.2.2.2.2.1, ⟨hk.1.1.1.1.1.1.1.2.2.2.2.2.1, ⟨hk.1.1.1.1.1.1.1.2.2.2.2.2.2, ⟨hk.1.1.1.1.1.1.2, ⟨hk.1.1.1.1.2, ⟨hk.1.1.2, hk.2⟩⟩⟩⟩⟩⟩⟩⟩⟩⟩⟩⟩⟩)⟩, ⟨by refine ZNk ?_; exact Kd.N_mono HO540.out (fun _ hk => ⟨hk.1.1.1.1.1.1, ⟨hk.1.1.1.1.1.2.1, ⟨hk.1.1.1.1.1.2.2.1, ⟨hk.1.1.1.1.1.2.2.2.1, ⟨hk.1.1.1.2, ⟨hk.1.2, ⟨hk.1.1.1.1.1.2.2.2.2.1, ⟨hk.1.1.1.1.1.2.2.2.2.2.1, ⟨hk.1.1.1.1.1.2.2.2.2.2.2.1, ⟨hk.1.1.1.1.1.2.2.2.2.2.2.2.1, ⟨hk.1.1.1.1.1.2.2.2.2.2.2.2.2, ⟨hk.1.1.1.1.2, ⟨hk.1.1.2, hk.2⟩⟩⟩⟩⟩⟩⟩⟩⟩⟩⟩⟩⟩)⟩, ⟨by refine ZNk ?_; exact Kd.N_mono HO545.out (fun _ hk => ⟨hk.1.1.1.1, ⟨hk.1.1.1.2.1, ⟨hk.1.1.1.2.2.1, ⟨hk.1.1.1.2.2.2.1, ⟨hk.1.1.1.2.2.2.2.1, ⟨hk.1.2, ⟨hk.1.1.1.2.2.2.2.2.1, ⟨hk.1.1.1.2.2.2.2.2.2.1, ⟨hk.1.1.1.2.2.2.2.2.2.2.1, ⟨hk.1.1.1.2.2.2.2.2.2.2.2.1, ⟨hk.1.1.1.2.2.2.2.2.2.2.2.2.1, ⟨hk.1.1.1.2.2.2.2.2.2.2.2.2.2, ⟨hk.1.1.2, hk.2⟩⟩⟩⟩⟩⟩⟩⟩⟩⟩⟩⟩⟩)⟩, ⟨by refine ZNk ?_; exact Kd.N_mono HO550.out (fun _ hk => ⟨hk.1.1, ⟨hk.1.2.1, ⟨hk.1.2.2.1, ⟨hk.1.2.2.2.1, ⟨hk.1.2.2.2.2.1, ⟨hk.1.2.2.2.2.2.1, ⟨hk.1.2.2.2.2.2.2.1, ⟨hk.1.2.2.2.2.2.2.2.1, ⟨hk.1.2.2.2.2.2.2.2.2.1, ⟨hk.1.2.2.2.2.2.2.2.2.2.1, ⟨hk.1.2.2.2.2.2.2.2.2.2.2.1, ⟨hk.1.2.2.2.2.2.2.2.2.2.2.2.1, ⟨hk.1.2.2.2.2.2.2.2.2.2.2.2.2, hk.2⟩⟩⟩⟩⟩⟩⟩⟩⟩⟩⟩⟩⟩)⟩, ⟨Zb BK518.out⟩, ⟨Zb BK526.out⟩, ⟨Zb BK527.out⟩, ⟨Zb BK532.out⟩, ⟨Zb BK537.out⟩, ⟨Zb BK542.out⟩, ⟨Zb BK547.out⟩, ⟨Zb BK552.out⟩, ⟨by repeat (first | (with_reducible first | exact HB.out | apply below_alloc | apply pw_below_drewN | apply below_drew1 | refine below_set ?_ GE518.out | refine below_set ?_ GE526.out | refine below_set ?_ GE527.out | refine below_set ?_ GE532.out | refine below_set ?_ GE537.out | refine below_set ?_ GE542.out | refine below_set ?_ GE547.out | refine below_set ?_ GE552.out) | exact HB.out)⟩⟩
      ·replace c95 := Bool.eq_false_iff.mpr c95
       subst c95
       have H1 : (debuggerlaw25_MemoryPages.j0 k a3 true t520 t523 (wrap64 (t528 * 64)) y529) = some r := by rw [if_neg (show ¬ (false = true) by decide)] at H; exact H
       clear H
       have H := H1
       clear H1
       have H' := Aside0.mk H
       clear H
       have hnb125 := NB537_518.out
       have hnc125 := NB518_537.out
       have hnb126 := NB537_526.out
       have hnc126 := NB526_537.out
       have hnb127 := NB537_527.out
       have hnc127 := NB527_537.out
       have hnb128 := NB537_532.out
       have hnc128 := NB532_537.out
       have hnb129 := NB537_542.out
       have hnc129 := NB542_537.out
       have hnb130 := NB537_547.out
       have hnc130 := NB547_537.out
       have hnb131 := NB537_552.out
       have hnc131 := NB552_537.out
       have hcz132_0 := Zcl BK537.out 0 rfl
       have hfz132_0 := blk_frozen BK537.out 0
       have hnb133 := NB542_518.out
       have hnc133 := NB518_542.out
       have hnb134 := NB542_526.out
       have hnc134 := NB526_542.out
       have hnb135 := NB542_527.out
       have hnc135 := NB527_542.out
       have hnb136 := NB542_532.out
       have hnc136 := NB532_542.out
       have hnb137 := NB542_547.out
       have hnc137 := NB547_542.out
       have hnb138 := NB542_552.out
       have hnc138 := NB552_542.out
       have hcz139_0 := Zcl BK542.out 0 rfl
       have hfz139_0 := blk_frozen BK542.out 0
       go_wp2_with (first | (go_at_call 16; (with_reducible refine (debuggerref25_Same.calls k _ _ t533 _ _ t538 false _ ?side1 ?side2 ?side3 ?side4 A94.out).mono ?_); (case side1 => refine (Kd.N_reads' (e := 31) (base := w.heap.size) (ok := fun k_ => ((((((((some k_ ≠ (.slice Ao25 t520.length co25 : Value).ownBlock ∧ (some k_ ≠ (.slice Ao29 t523.length co29 : Value).ownBlock ∧ (some k_ ≠ (.slice Ao40 y529.length co40 : Value).ownBlock ∧ (k_ ≠ gb518 ∧ (k_ ≠ gb526 ∧ (k_ ≠ gb527 ∧ k_ ≠ gb532)))))) ∧ k_ ≠ gb537) ∧ some k_ ≠ (.slice Ao59 t538.length co59 : Value).ownBlock) ∧ k_ ≠ gb542) ∧ some k_ ≠ (.slice Ao71 t543.length co71 : Value).ownBlock) ∧ k_ ≠ gb547) ∧ some k_ ≠ (.slice Ao83 t548.length co83 : Value).ownBlock) ∧ k_ ≠ gb552)) (n := t533.length) (c := co49) ?_).2.2; exact (by refine ZNk ?_; exact (Kd.N_mono (Kd.N_far (p := ⟨gb552, 0, none⟩) (Kd.N_mono HO535.out (fun k_ hk => (⟨hk, hk.2⟩ : _ ∧ k_ ≠ gb552))) (fun _ hk => hk.2) (.slice Ao83 t548.length co83)) (fun _ h_ => h_.1)))); (case side2 => exact (Kd.N_reads' HO535.out).2.1); (case side3 => refine (Kd.N_reads' (e := 31) (base := w.heap.size) (ok := fun k_ => ((((((some k_ ≠ (.slice Ao25 t520.length co25 : Value).ownBlock ∧ (some k_ ≠ (.slice Ao29 t523.length co29 : Value).ownBlock ∧ (some k_ ≠ (.slice Ao40 y529.length co40 : Value).ownBlock ∧ (some k_ ≠ (.slice Ao49 t533.length co49 : Value).ownBlock ∧ (k_ ≠ gb518 ∧ (k_ ≠ gb526 ∧ (k_ ≠ gb527 ∧ (k_ ≠ gb532 ∧ k_ ≠ gb537)))))))) ∧ k_ ≠ gb542) ∧ some k_ ≠ (.slice Ao71 t543.length co71 : Value).ownBlock) ∧ k_ ≠ gb547) ∧ some k_ ≠ (.slice Ao83 t548.length co83 : Value).ownBlock) ∧ k_ ≠ gb552)) (n := t538.length) (c := co59) ?_).2.2; exact (by refine ZNk ?_; exact (Kd.N_mono (Kd.N_far (p := ⟨gb552, 0, none⟩) (Kd.N_mono HO540.out (fun k_ hk => (⟨hk, hk.2⟩ : _ ∧ k_ ≠ gb552))) (fun _ hk => hk.2) (.slice Ao83 t548.length co83)) (fun _ h_ => h_.1)))); (case side4 => exact (Kd.N_reads' HO540.out).2.1); rintro e w140 ⟨rfl, hb⟩; have n0_ := Zw (Kd.N_below (by refine ZNk ?_; exact (Kd.N_mono (Kd.N_far (p := ⟨gb552, 0, none⟩) (Kd.N_mono HO522.out (fun k_ hk => (⟨hk, hk.2⟩ : _ ∧ k_ ≠ gb552))) (fun _ hk => hk.2) (.slice Ao83 t548.length co83)) (fun _ h_ => h_.1))) hb); have n1_ := Zw (Kd.N_below (by refine ZNk ?_; exact (Kd.N_mono (Kd.N_far (p := ⟨gb552, 0, none⟩) (Kd.N_mono HO525.out (fun k_ hk => (⟨hk, hk.2⟩ : _ ∧ k_ ≠ gb552))) (fun _ hk => hk.2) (.slice Ao83 t548.length co83)) (fun _ h_ => h_.1))) hb); have n2_ := Zw (Kd.R_below (by refine ZRk ?_; exact (Kd.R_mono (Kd.R_far (p := ⟨gb552, 0, none⟩) (Kd.R_types HO531.out BK552.out (by decide)) (fun _ hk => hk.2) (.slice Ao83 t548.length co83)) (fun _ h_ => h_.1))) hb); have n3_ := Zw (Kd.N_below (by refine ZNk ?_; exact (Kd.N_mono (Kd.N_far (p := ⟨gb552, 0, none⟩) (Kd.N_mono HO535.out (fun k_ hk => (⟨hk, hk.2⟩ : _ ∧ k_ ≠ gb552))) (fun _ hk => hk.2) (.slice Ao83 t548.length co83)) (fun _ h_ => h_.1))) hb); have n4_ := Zw (Kd.N_below (by refine ZNk ?_; exact (Kd.N_mono (Kd.N_far (p := ⟨gb552, 0, none⟩) (Kd.N_mono HO540.out (fun k_ hk => (⟨hk, hk.2⟩ : _ ∧ k_ ≠ gb552))) (fun _ hk => hk.2) (.slice Ao83 t548.length co83)) (fun _ h_ => h_.1))) hb); have n5_ := Zw (Kd.N_below (by refine ZNk ?_; exact (Kd.N_mono (Kd.N_far (p := ⟨gb552, 0, none⟩) (Kd.N_mono HO545.out (fun k_ hk => (⟨hk, hk.2⟩ : _ ∧ k_ ≠ gb552))) (fun _ hk => hk.2) (.slice Ao83 t548.length co83)) (fun _ h_ => h_.1))) hb); have n6_ := Zw (Kd.N_below (by refine ZNk ?_; exact (Kd.N_mono (Kd.N_far (p := ⟨gb552, 0, none⟩) (Kd.N_mono HO550.out (fun k_ hk => (⟨hk, hk.2⟩ : _ ∧ k_ ≠ gb552))) (fun _ hk => hk.2) (.slice Ao83 t548.length co83)) (fun _ h_ => h_.1))) hb); have n7_ := Zw (blk_below (g := gb518) (o := .cells #[.int .i64 a2_0, .slice A2_1 l2_1.length c2_1] 31 (0, 0)) (by refine Zbk ?_; refine blk_far ?_ NB518_552.out _; refine Zbk ?_; exact BK518.out) hb); have n8_ := Zw (blk_below (g := gb526) (o := .cells #[.slice Ao25 t520.length co25] 24 (0, 0)) (by refine Zbk ?_; refine blk_far ?_ NB526_552.out _; refine Zbk ?_; exact BK526.out) hb); have n9_ := Zw (blk_below (g := gb527) (o := .cells #[.slice Ao29 t523.length co29] 24 (0, 0)) (by refine Zbk ?_; refine blk_far ?_ NB527_552.out _; refine Zbk ?_; exact BK527.out) hb); have n10_ := Zw (blk_below (g := gb532) (o := .cells #[.int .i64 (wrap64 (t528 * 64)), .slice Ao40 y529.length co40] 31 (0, 0)) (by refine Zbk ?_; refine blk_far ?_ NB532_552.out _; refine Zbk ?_; exact BK532.out) hb); have n11_ := Zw (blk_below (g := gb537) (o := .cells #[.slice Ao49 t533.length co49] 24 (0, 0)) (by refine Zbk ?_; refine blk_far ?_ NB537_552.out _; refine Zbk ?_; exact BK537.out) hb); have n12_ := Zw (blk_below (g := gb542) (o := .cells #[.slice Ao59 t538.length co59] 24 (0, 0)) (by refine Zbk ?_; refine blk_far ?_ NB542_552.out _; refine Zbk ?_; exact BK542.out) hb); have n13_ := Zw (blk_below (g := gb547) (o := .cells #[.slice Ao71 t543.length co71] 24 (0, 0)) (by refine Zbk ?_; refine blk_far ?_ NB547_552.out _; refine Zbk ?_; exact BK547.out) hb); have n14_ := Zw (blk_below (g := gb552) (o := .cells #[.slice Ao83 t548.length co83] 24 (0, 0)) (by refine Zbk ?_; refine blk_put (cs := #[.slice none 0 0]) ?_ 0 _ rfl; refine Zbk ?_; exact BK552.out) hb); have n15_ := Zw (below_step (by repeat (first | (with_reducible first | exact HB.out | apply below_alloc | apply pw_below_drewN | apply below_drew1 | refine below_set ?_ GE518.out | refine below_set ?_ GE526.out | refine below_set ?_ GE527.out | refine below_set ?_ GE532.out | refine below_set ?_ GE537.out | refine below_set ?_ GE542.out | refine below_set ?_ GE547.out | refine below_set ?_ GE552.out) | exact HB.out)) hb); clear HO522; clear HO525; clear HO531; clear HO535; clear HO540; clear HO545; clear HO550; clear BK518; clear BK526; clear BK527; clear BK532; clear BK537; clear BK542; clear BK547; clear BK552; clear HB; have HO522 := n0_; have HO525 := n1_; have HO531 := n2_; have HO535 := n3_; have HO540 := n4_; have HO545 := n5_; have HO550 := n6_; have BK518 := n7_; have BK526 := n8_; have BK527 := n9_; have BK532 := n10_; have BK537 := n11_; have BK542 := n12_; have BK547 := n13_; have BK552 := n14_; have HB := n15_; clear n0_ n1_ n2_ n3_ n4_ n5_ n6_ n7_ n8_ n9_ n10_ n11_ n12_ n13_ n14_ n15_; (try clear hb); (try clear hb2); (try clear hk); (try clear hi)))
       go_meet
       case rel => exact ⟨_, (true), (by first | rfl | (simp; done) | (simp [*]; done)), H', ⟨by first | omega | exact Nat.le_refl _⟩, ⟨by refine ZNk ?_; exact Kd.N_mono HO522.out (fun _ hk => ⟨hk.1.1.1.1.1.1.1.1.1, ⟨hk.1.1.1.1.1.1.1.1.2.1, ⟨hk.1.1.1.1.1.1.1.2, ⟨hk.1.1.1.1.1.2, ⟨hk.1.1.1.2, ⟨hk.1.2, ⟨hk.1.1.1.1.1.1.1.1.2.2.1, ⟨hk.1.1.1.1.1.1.1.1.2.2.2.1, ⟨hk.1.1.1.1.1.1.1.1.2.2.2.2.1, ⟨hk.1.1.1.1.1.1.1.1.2.2.2.2.2, ⟨hk.1.1.1.1.1.1.2, ⟨hk.1.1.1.1.2, ⟨hk.1.1.2, hk.2⟩⟩⟩⟩⟩⟩⟩⟩⟩⟩⟩⟩⟩)⟩, ⟨by refine ZNk ?_; exact Kd.N_mono HO525.out (fun _ hk => ⟨hk.1.1.1.1.1.1.1.1.1, ⟨hk.1.1.1.1.1.1.1.1.2.1, ⟨hk.1.1.1.1.1.1.1.2, ⟨hk.1.1.1.1.1.2, ⟨hk.1.1.1.2, ⟨hk.1.2, ⟨hk.1.1.1.1.1.1.1.1.2.2.1, ⟨hk.1.1.1.1.1.1.1.1.2.2.2.1, ⟨hk.1.1.1.1.1.1.1.1.2.2.2.2.1, ⟨hk.1.1.1.1.1.1.1.1.2.2.2.2.2, ⟨hk.1.1.1.1.1.1.2, ⟨hk.1.1.1.1.2, ⟨hk.1.1.2, hk.2⟩⟩⟩⟩⟩⟩⟩⟩⟩⟩⟩⟩⟩)⟩, ⟨ZR HO531.out⟩, ⟨by refine ZNk ?_; exact Kd.N_mono HO535.out (fun _ hk => ⟨hk.1.1.1.1.1.1.1.1, ⟨hk.1.1.1.1.1.1.1.2.1, ⟨hk.1.1.1.1.1.1.1.2.2.1, ⟨hk.1.1.1.1.1.2, ⟨hk.1.1.1.2, ⟨hk.1.2, ⟨hk.1.1.1.1.1.1.1.2.2.2.1, ⟨hk.1.1.1.1.1.1.1.2.2.2.2.1, ⟨hk.1.1.1.1.1.1.1.2.2.2.2.2.1, ⟨hk.1.1.1.1.1.1.1.2.2.2.2.2.2, ⟨hk.1.1.1.1.1.1.2, ⟨hk.1.1.1.1.2, ⟨hk.1.1.2, hk.2⟩⟩⟩⟩⟩⟩⟩⟩⟩⟩⟩⟩⟩)⟩, ⟨by refine ZNk ?_; exact Kd.N_mono HO540.out (fun _ hk => ⟨hk.1.1.1.1.1.1, ⟨hk.1.1.1.1.1.2.1, ⟨hk.1.1.1.1.1.2.2.1, ⟨hk.1.1.1.1.1.2.2.2.1, ⟨hk.1.1.1.2, ⟨hk.1.2, ⟨hk.1.1.1.1.1.2.2.2.2.1, ⟨hk.1.1.1.1.1.2.2.2.2.2.1, ⟨hk.1.1.1.1.1.2.2.2.2.2.2.1, ⟨hk.1.1.1.1.1.2.2.2.2.2.2.2.1, ⟨hk.1.1.1.1.1.2.2.2.2.2.2.2.2, ⟨hk.1.1.1.1.2, ⟨hk.1.1.2, hk.2⟩⟩⟩⟩⟩⟩⟩⟩⟩⟩⟩⟩⟩)⟩, ⟨by refine ZNk ?_; exact Kd.N_mono HO545.out (fun _ hk => ⟨hk.1.1.1.1, ⟨hk.1.1.1.2.1, ⟨hk.1.1.1.2.2.1, ⟨hk.1.1.1.2.2.2.1, ⟨hk.1.1.1.2.2.2.2.1, ⟨hk.1.2, ⟨hk.1.1.1.2.2.2.2.2.1, ⟨hk.1.1.1.2.2.2.2.2.2.1, ⟨hk.1.1.1.2.2.2.2.2.2.2.1, ⟨hk.1.1.1.2.2.2.2.2.2.2.2.1, ⟨hk.1.1.1.2.2.2.2.2.2.2.2.2.1, ⟨hk.1.1.1.2.2.2.2.2.2.2.2.2.2, ⟨hk.1.1.2, hk.2⟩⟩⟩⟩⟩⟩⟩⟩⟩⟩⟩⟩⟩)⟩, ⟨by refine ZNk ?_; exact Kd.N_mono HO550.out (fun _ hk => ⟨hk.1.1, ⟨hk.1.2.1, ⟨hk.1.2.2.1, ⟨hk.1.2.2.2.1, ⟨hk.1.2.2.2.2.1, ⟨hk.1.2.2.2.2.2.1, ⟨hk.1.2.2.2.2.2.2.1, ⟨hk.1.2.2.2.2.2.2.2.1, ⟨hk.1.2.2.2.2.2.2.2.2.1, ⟨hk.1.2.2.2.2.2.2.2.2.2.1, ⟨hk.1.2.2.2.2.2.2.2.2.2.2.1, ⟨hk.1.2.2.2.2.2.2.2.2.2.2.2.1, ⟨hk.1.2.2.2.2.2.2.2.2.2.2.2.2, hk.2⟩⟩⟩⟩⟩⟩⟩⟩⟩⟩⟩⟩⟩)⟩, ⟨Zb BK518.out⟩, ⟨Zb BK526.out⟩, ⟨Zb BK527.out⟩, ⟨Zb BK532.out⟩, ⟨Zb BK537.out⟩, ⟨Zb BK542.out⟩, ⟨Zb BK547.out⟩, ⟨Zb BK552.out⟩, ⟨by repeat (first | (with_reducible first | exact HB.out | apply below_alloc | apply pw_below_drewN | apply below_drew1 | refine below_set ?_ GE518.out | refine below_set ?_ GE526.out | refine below_set ?_ GE527.out | refine below_set ?_ GE532.out | refine below_set ?_ GE537.out | refine below_set ?_ GE542.out | refine below_set ?_ GE547.out | refine below_set ?_ GE552.out) | exact HB.out)⟩⟩
     ·rw [if_neg c93] at H
      have c93b0 : (t546 == t551) = false := beq_eq_false_iff_ne.mpr c93
      have c93b1 : (t546 != t551) = true := bne_iff_ne.mpr c93
      have H' := Aside0.mk H
      clear H
      go_wp2
      go_meet
      case rel => exact ⟨_, (true), (by first | rfl | (simp; done) | (simp [*]; done)), H', ⟨by first | omega | exact Nat.le_refl _⟩, ⟨by refine ZNk ?_; exact Kd.N_mono (Kd.N_far (p := ⟨gb552, 0, none⟩) (Kd.N_mono HO522.out (fun k_ hk => (⟨hk, hk.2⟩ : _ ∧ k_ ≠ gb552))) (fun _ hk => hk.2) (.slice Ao83 t548.length co83)) (fun _ hk => ⟨hk.1.1.1.1.1.1.1.1.1.1, ⟨hk.1.1.1.1.1.1.1.1.1.2.1, ⟨hk.1.1.1.1.1.1.1.1.2, ⟨hk.1.1.1.1.1.1.2, ⟨hk.1.1.1.1.2, ⟨hk.1.1.2, ⟨hk.1.1.1.1.1.1.1.1.1.2.2.1, ⟨hk.1.1.1.1.1.1.1.1.1.2.2.2.1, ⟨hk.1.1.1.1.1.1.1.1.1.2.2.2.2.1, ⟨hk.1.1.1.1.1.1.1.1.1.2.2.2.2.2, ⟨hk.1.1.1.1.1.1.1.2, ⟨hk.1.1.1.1.1.2, ⟨hk.1.1.1.2, hk.1.2⟩⟩⟩⟩⟩⟩⟩⟩⟩⟩⟩⟩⟩)⟩, ⟨by refine ZNk ?_; exact Kd.N_mono (Kd.N_far (p := ⟨gb552, 0, none⟩) (Kd.N_mono HO525.out (fun k_ hk => (⟨hk, hk.2⟩ : _ ∧ k_ ≠ gb552))) (fun _ hk => hk.2) (.slice Ao83 t548.length co83)) (fun _ hk => ⟨hk.1.1.1.1.1.1.1.1.1.1, ⟨hk.1.1.1.1.1.1.1.1.1.2.1, ⟨hk.1.1.1.1.1.1.1.1.2, ⟨hk.1.1.1.1.1.1.2, ⟨hk.1.1.1.1.2, ⟨hk.1.1.2, ⟨hk.1.1.1.1.1.1.1.1.1.2.2.1, ⟨hk.1.1.1.1.1.1.1.1.1.2.2.2.1, ⟨hk.1.1.1.1.1.1.1.1.1.2.2.2.2.1, ⟨hk.1.1.1.1.1.1.1.1.1.2.2.2.2.2, ⟨hk.1.1.1.1.1.1.1.2, ⟨hk.1.1.1.1.1.2, ⟨hk.1.1.1.2, hk.1.2⟩⟩⟩⟩⟩⟩⟩⟩⟩⟩⟩⟩⟩)⟩, ⟨by refine ZRk ?_; exact Kd.R_mono (Kd.R_far (p := ⟨gb552, 0, none⟩) (Kd.R_types HO531.out BK552.out (by decide)) (fun _ hk => hk.2) (.slice Ao83 t548.length co83)) (fun _ hk => trivial)⟩, ⟨by refine ZNk ?_; exact Kd.N_mono (Kd.N_far (p := ⟨gb552, 0, none⟩) (Kd.N_mono HO535.out (fun k_ hk => (⟨hk, hk.2⟩ : _ ∧ k_ ≠ gb552))) (fun _ hk => hk.2) (.slice Ao83 t548.length co83)) (fun _ hk => ⟨hk.1.1.1.1.1.1.1.1.1, ⟨hk.1.1.1.1.1.1.1.1.2.1, ⟨hk.1.1.1.1.1.1.1.1.2.2.1, ⟨hk.1.1.1.1.1.1.2, ⟨hk.1.1.1.1.2, ⟨hk.1.1.2, ⟨hk.1.1.1.1.1.1.1.1.2.2.2.1, ⟨hk.1.1.1.1.1.1.1.1.2.2.2.2.1, ⟨hk.1.1.1.1.1.1.1.1.2.2.2.2.2.1, ⟨hk.1.1.1.1.1.1.1.1.2.2.2.2.2.2, ⟨hk.1.1.1.1.1.1.1.2, ⟨hk.1.1.1.1.1.2, ⟨hk.1.1.1.2, hk.1.2⟩⟩⟩⟩⟩⟩⟩⟩⟩⟩⟩⟩⟩)⟩, ⟨by refine ZNk ?_; exact Kd.N_mono (Kd.N_far (p := ⟨gb552, 0, none⟩) (Kd.N_mono HO540.out (fun k_ hk => (⟨hk, hk.2⟩ : _ ∧ k_ ≠ gb552))) (fun _ hk => hk.2) (.slice Ao83 t548.length co83)) (fun _ hk => ⟨hk.1.1.1.1.1.1.1, ⟨hk.1.1.1.1.1.1.2.1, ⟨hk.1.1.1.1.1.1.2.2.1, ⟨hk.1.1.1.1.1.1.2.2.2.1, ⟨hk.1.1.1.1.2, ⟨hk.1.1.2, ⟨hk.1.1.1.1.1.1.2.2.2.2.1, ⟨hk.1.1.1.1.1.1.2.2.2.2.2.1, ⟨hk.1.1.1.1.1.1.2.2.2.2.2.2.1, ⟨hk.1.1.1.1.1.1.2.2.2.2.2.2.2.1, ⟨hk.1.1.1.1.1.1.2.2.2.2.2.2.2.2, ⟨hk.1.1.1.1.1.2, ⟨hk.1.1.1.2, hk.1.2⟩⟩⟩⟩⟩⟩⟩⟩⟩⟩⟩⟩⟩)⟩, ⟨by refine ZNk ?_; exact Kd.N_mono (Kd.N_far (p := ⟨gb552, 0, none⟩) (Kd.N_mono HO545.out (fun k_ hk => (⟨hk, hk.2⟩ : _ ∧ k_ ≠ gb552))) (fun _ hk => hk.2) (.slice Ao83 t548.length co83)) (fun _ hk => ⟨hk.1.1.1.1.1, ⟨hk.1.1.1.1.2.1, ⟨hk.1.1.1.1.2.2.1, ⟨hk.1.1.1.1.2.2.2.1, ⟨hk.1.1.1.1.2.2.2.2.1, ⟨hk.1.1.2, ⟨hk.1.1.1.1.2.2.2.2.2.1, ⟨hk.1.1.1.1.2.2.2.2.2.2.1, ⟨hk.1.1.1.1.2.2.2.2.2.2.2.1, ⟨hk.1.1.1.1.2.2.2.2.2.2.2.2.1, ⟨hk.1.1.1.1.2.2.2.2.2.2.2.2.2.1, ⟨hk.1.1.1.1.2.2.2.2.2.2.2.2.2.2, ⟨hk.1.1.1.2, hk.1.2⟩⟩⟩⟩⟩⟩⟩⟩⟩⟩⟩⟩⟩)⟩, ⟨by refine ZNk ?_; exact Kd.N_mono (Kd.N_far (p := ⟨gb552, 0, none⟩) (Kd.N_mono HO550.out (fun k_ hk => (⟨hk, hk.2⟩ : _ ∧ k_ ≠ gb552))) (fun _ hk => hk.2) (.slice Ao83 t548.length co83)) (fun _ hk => ⟨hk.1.1.1, ⟨hk.1.1.2.1, ⟨hk.1.1.2.2.1, ⟨hk.1.1.2.2.2.1, ⟨hk.1.1.2.2.2.2.1, ⟨hk.1.1.2.2.2.2.2.1, ⟨hk.1.1.2.2.2.2.2.2.1, ⟨hk.1.1.2.2.2.2.2.2.2.1, ⟨hk.1.1.2.2.2.2.2.2.2.2.1, ⟨hk.1.1.2.2.2.2.2.2.2.2.2.1, ⟨hk.1.1.2.2.2.2.2.2.2.2.2.2.1, ⟨hk.1.1.2.2.2.2.2.2.2.2.2.2.2.1, ⟨hk.1.1.2.2.2.2.2.2.2.2.2.2.2.2, hk.1.2⟩⟩⟩⟩⟩⟩⟩⟩⟩⟩⟩⟩⟩)⟩, ⟨by refine Zbk ?_; refine blk_far ?_ NB518_552.out _; refine Zbk ?_; exact BK518.out⟩, ⟨by refine Zbk ?_; refine blk_far ?_ NB526_552.out _; refine Zbk ?_; exact BK526.out⟩, ⟨by refine Zbk ?_; refine blk_far ?_ NB527_552.out _; refine Zbk ?_; exact BK527.out⟩, ⟨by refine Zbk ?_; refine blk_far ?_ NB532_552.out _; refine Zbk ?_; exact BK532.out⟩, ⟨by refine Zbk ?_; refine blk_far ?_ NB537_552.out _; refine Zbk ?_; exact BK537.out⟩, ⟨by refine Zbk ?_; refine blk_far ?_ NB542_552.out _; refine Zbk ?_; exact BK542.out⟩, ⟨by refine Zbk ?_; refine blk_far ?_ NB547_552.out _; refine Zbk ?_; exact BK547.out⟩, ⟨by refine Zbk ?_; refine blk_put (cs := #[.slice none 0 0]) ?_ 0 _ rfl; refine Zbk ?_; exact BK552.out⟩, ⟨by repeat (first | (with_reducible first | exact HB.out | apply below_alloc | apply pw_below_drewN | apply below_drew1 | refine below_set ?_ GE518.out | refine below_set ?_ GE526.out | refine below_set ?_ GE527.out | refine below_set ?_ GE532.out | refine below_set ?_ GE537.out | refine below_set ?_ GE542.out | refine below_set ?_ GE547.out | refine below_set ?_ GE552.out) | exact HB.out)⟩⟩
    ·rw [if_neg c92] at H
     have c92b0 : (t536 == t541) = false := beq_eq_false_iff_ne.mpr c92
     have c92b1 : (t536 != t541) = true := bne_iff_ne.mpr c92
     (first | rw [c92b0] | (simp only [i64_w, i32_w]; rw [c92b0]) | skip)
     have H' := Aside0.mk H
     clear H
     go_wp2
     go_meet
     case rel => exact ⟨_, (true), (by first | rfl | (simp; done) | (simp [*]; done)), H', ⟨by first | omega | exact Nat.le_refl _⟩, ⟨by refine ZNk ?_; exact Kd.N_mono (Kd.N_far (p := ⟨gb552, 0, none⟩) (Kd.N_mono HO522.out (fun k_ hk => (⟨hk, hk.2⟩ : _ ∧ k_ ≠ gb552))) (fun _ hk => hk.2) (.slice Ao83 t548.length co83)) (fun _ hk => ⟨hk.1.1.1.1.1.1.1.1.1.1, ⟨hk.1.1.1.1.1.1.1.1.1.2.1, ⟨hk.1.1.1.1.1.1.1.1.2, ⟨hk.1.1.1.1.1.1.2, ⟨hk.1.1.1.1.2, ⟨hk.1.1.2, ⟨hk.1.1.1.1.1.1.1.1.1.2.2.1, ⟨hk.1.1.1.1.1.1.1.1.1.2.2.2.1, ⟨hk.1.1.1.1.1.1.1.1.1.2.2.2.2.1, ⟨hk.1.1.1.1.1.1.1.1.1.2.2.2.2.2, ⟨hk.1.1.1.1.1.1.1.2, ⟨hk.1.1.1.1.1.2, ⟨hk.1.1.1.2, hk.1.2⟩⟩⟩⟩⟩⟩⟩⟩⟩⟩⟩⟩⟩)⟩, ⟨by refine ZNk ?_; exact Kd.N_mono (Kd.N_far (p := ⟨gb552, 0, none⟩) (Kd.N_mono HO525.out (fun k_ hk => (⟨hk, hk.2⟩ : _ ∧ k_ ≠ gb552))) (fun _ hk => hk.2) (.slice Ao83 t548.length co83)) (fun _ hk => ⟨hk.1.1.1.1.1.1.1.1.1.1, ⟨hk.1.1.1.1.1.1.1.1.1.2.1, ⟨hk.1.1.1.1.1.1.1.1.2, ⟨hk.1.1.1.1.1.1.2, ⟨hk.1.1.1.1.2, ⟨hk.1.1.2, ⟨hk.1.1.1.1.1.1.1.1.1.2.2.1, ⟨hk.1.1.1.1.1.1.1.1.1.2.2.2.1, ⟨hk.1.1.1.1.1.1.1.1.1.2.2.2.2.1, ⟨hk.1.1.1.1.1.1.1.1.1.2.2.2.2.2, ⟨hk.1.1.1.1.1.1.1.2, ⟨hk.1.1.1.1.1.2, ⟨hk.1.1.1.2, hk.1.2⟩⟩⟩⟩⟩⟩⟩⟩⟩⟩⟩⟩⟩)⟩, ⟨by refine ZRk ?_; exact Kd.R_mono (Kd.R_far (p := ⟨gb552, 0, none⟩) (Kd.R_types HO531.out BK552.out (by decide)) (fun _ hk => hk.2) (.slice Ao83 t548.length co83)) (fun _ hk => trivial)⟩, ⟨by refine ZNk ?_; exact Kd.N_mono (Kd.N_far (p := ⟨gb552, 0, none⟩) (Kd.N_mono HO535.out (fun k_ hk => (⟨hk, hk.2⟩ : _ ∧ k_ ≠ gb552))) (fun _ hk => hk.2) (.slice Ao83 t548.length co83)) (fun _ hk => ⟨hk.1.1.1.1.1.1.1.1.1, ⟨hk.1.1.1.1.1.1.1.1.2.1, ⟨hk.1.1.1.1.1.1.1.1.2.2.1, ⟨hk.1.1.1.1.1.1.2, ⟨hk.1.1.1.1.2, ⟨hk.1.1.2, ⟨hk.1.1.1.1.1.1.1.1.2.2.2.1, ⟨hk.1.1.1.1.1.1.1.1.2.2.2.2.1, ⟨hk.1.1.1.1.1.1.1.1.2.2.2.2.2.1, ⟨hk.1.1.1.1.1.1.1.1.2.2.2.2.2.2, ⟨hk.1.1.1.1.1.1.1.2, ⟨hk.1.1.1.1.1.2, ⟨hk.1.1.1.2, hk.1.2⟩⟩⟩⟩⟩⟩⟩⟩⟩⟩⟩⟩⟩)⟩, ⟨by refine ZNk ?_; exact Kd.N_mono (Kd.N_far (p := ⟨gb552, 0, none⟩) (Kd.N_mono HO540.out (fun k_ hk => (⟨hk, hk.2⟩ : _ ∧ k_ ≠ gb552))) (fun _ hk => hk.2) (.slice Ao83 t548.length co83)) (fun _ hk => ⟨hk.1.1.1.1.1.1.1, ⟨hk.1.1.1.1.1.1.2.1, ⟨hk.1.1.1.1.1.1.2.2.1, ⟨hk.1.1.1.1.1.1.2.2.2.1, ⟨hk.1.1.1.1.2, ⟨hk.1.1.2, ⟨hk.1.1.1.1.1.1.2.2.2.2.1, ⟨hk.1.1.1.1.1.1.2.2.2.2.2.1, ⟨hk.1.1.1.1.1.1.2.2.2.2.2.2.1, ⟨hk.1.1.1.1.1.1.2.2.2.2.2.2.2.1, ⟨hk.1.1.1.1.1.1.2.2.2.2.2.2.2.2, ⟨hk.1.1.1.1.1.2, ⟨hk.1.1.1.2, hk.1.2⟩⟩⟩⟩⟩⟩⟩⟩⟩⟩⟩⟩⟩)⟩, ⟨by refine ZNk ?_; exact Kd.N_mono (Kd.N_far (p := ⟨gb552, 0, none⟩) (Kd.N_mono HO545.out (fun k_ hk => (⟨hk, hk.2⟩ : _ ∧ k_ ≠ gb552))) (fun _ hk => hk.2) (.slice Ao83 t548.length co83)) (fun _ hk => ⟨hk.1.1.1.1.1, ⟨hk.1.1.1.1.2.1, ⟨hk.1.1.1.1.2.2.1, ⟨hk.1.1.1.1.2.2.2.1, ⟨hk.1.1.1.1.2.2.2.2.1, ⟨hk.1.1.2, ⟨hk.1.1.1.1.2.2.2.2.2.1, ⟨hk.1.1.1.1.2.2.2.2.2.2.1, ⟨hk.1.1.1.1.2.2.2.2.2.2.2.1, ⟨hk.1.1.1.1.2.2.2.2.2.2.2.2.1, ⟨hk.1.1.1.1.2.2.2.2.2.2.2.2.2.1, ⟨hk.1.1.1.1.2.2.2.2.2.2.2.2.2.2, ⟨hk.1.1.1.2, hk.1.2⟩⟩⟩⟩⟩⟩⟩⟩⟩⟩⟩⟩⟩)⟩, ⟨by refine ZNk ?_; exact Kd.N_mono (Kd.N_far (p := ⟨gb552, 0, none⟩) (Kd.N_mono HO550.out (fun k_ hk => (⟨hk, hk.2⟩ : _ ∧ k_ ≠ gb552))) (fun _ hk => hk.2) (.slice Ao83 t548.length co83)) (fun _ hk => ⟨hk.1.1.1, ⟨hk.1.1.2.1, ⟨hk.1.1.2.2.1, ⟨hk.1.1.2.2.2.1, ⟨hk.1.1.2.2.2.2.1, ⟨hk.1.1.2.2.2.2.2.1, ⟨hk.1.1.2.2.2.2.2.2.1, ⟨hk.1.1.2.2.2.2.2.2.2.1, ⟨hk.1.1.2.2.2.2.2.2.2.2.1, ⟨hk.1.1.2.2.2.2.2.2.2.2.2.1, ⟨hk.1.1.2.2.2.2.2.2.2.2.2.2.1, ⟨hk.1.1.2.2.2.2.2.2.2.2.2.2.2.1, ⟨hk.1.1.2.2.2.2.2.2.2.2.2.2.2.2, hk.1.2⟩⟩⟩⟩⟩⟩⟩⟩⟩⟩⟩⟩⟩)⟩, ⟨by refine Zbk ?_; refine blk_far ?_ NB518_552.out _; refine Zbk ?_; exact BK518.out⟩, ⟨by refine Zbk ?_; refine blk_far ?_ NB526_552.out _; refine Zbk ?_; exact BK526.out⟩, ⟨by refine Zbk ?_; refine blk_far ?_ NB527_552.out _; refine Zbk ?_; exact BK527.out⟩, ⟨by refine Zbk ?_; refine blk_far ?_ NB532_552.out _; refine Zbk ?_; exact BK532.out⟩, ⟨by refine Zbk ?_; refine blk_far ?_ NB537_552.out _; refine Zbk ?_; exact BK537.out⟩, ⟨by refine Zbk ?_; refine blk_far ?_ NB542_552.out _; refine Zbk ?_; exact BK542.out⟩, ⟨by refine Zbk ?_; refine blk_far ?_ NB547_552.out _; refine Zbk ?_; exact BK547.out⟩, ⟨by refine Zbk ?_; refine blk_put (cs := #[.slice none 0 0]) ?_ 0 _ rfl; refine Zbk ?_; exact BK552.out⟩, ⟨by repeat (first | (with_reducible first | exact HB.out | apply below_alloc | apply pw_below_drewN | apply below_drew1 | refine below_set ?_ GE518.out | refine below_set ?_ GE526.out | refine below_set ?_ GE527.out | refine below_set ?_ GE532.out | refine below_set ?_ GE537.out | refine below_set ?_ GE542.out | refine below_set ?_ GE547.out | refine below_set ?_ GE552.out) | exact HB.out)⟩⟩
   case rest =>
    clear HC18
    try clear c1
    try clear c2
    try clear p2
    try clear c4
    try clear c5
    try clear c6
    try clear p6
    try clear c7
    try clear c8
    try clear c9
    try clear c10
    try clear c11
    try clear c12
    try clear c13
    try clear c26
    try clear c27
    try clear c43
    try clear c45
    try clear c50
    try clear c51
    try clear c52
    try clear c53
    try clear c60
    try clear c61
    try clear c62
    try clear c63
    try clear c64
    try clear p64
    try clear c67
    try clear c72
    try clear c73
    try clear c74
    try clear c75
    try clear c76
    try clear c77
    try clear c84
    try clear c85
    try clear c86
    try clear c87
    try clear c88
    try clear c89
    try clear c90
    try clear c92
    try clear c92b0
    try clear c92b1
    try clear c93
    try clear c93b0
    try clear c93b1
    try clear c95
    try clear c97
    try clear c98
    try clear c99
    try clear c100
    try clear c101
    try clear c102
    try clear c103
    try clear c105
    try clear c106
    try clear c107
    try clear c108
    try clear c109
    try clear c110
    try clear c113
    try clear c114
    try clear c115
    try clear c116
    try clear c117
    try clear c119
    try clear c120
    try clear c121
    try clear c122
    try clear c125
    try clear c126
    try clear c127
    try clear c128
    try clear c129
    try clear c130
    try clear c131
    try clear c133
    try clear c134
    try clear c135
    try clear c136
    try clear c137
    try clear c138
    try clear hcz104_0
    try clear hcz111_0
    try clear hcz118_0
    try clear hcz123_0
    try clear hcz132_0
    try clear hcz139_0
    try clear hcz44_0
    try clear hcz46_0
    try clear hcz46_1
    try clear hcz54_0
    try clear hcz55_0
    try clear hcz56_0
    try clear hcz56_1
    try clear hcz65_0
    try clear hcz66_0
    try clear hcz68_0
    try clear hcz68_1
    try clear hcz78_0
    try clear hcz79_0
    try clear hcz80_0
    try clear hcz80_1
    try clear hcz91_0
    try clear hfz104_0
    try clear hfz111_0
    try clear hfz118_0
    try clear hfz123_0
    try clear hfz132_0
    try clear hfz139_0
    try clear hfz44_0
    try clear hfz46_0
    try clear hfz46_1
    try clear hfz54_0
    try clear hfz55_0
    try clear hfz56_0
    try clear hfz56_1
    try clear hfz65_0
    try clear hfz66_0
    try clear hfz68_0
    try clear hfz68_1
    try clear hfz78_0
    try clear hfz79_0
    try clear hfz80_0
    try clear hfz80_1
    try clear hfz91_0
    obtain ⟨kq, x77_17, rfl, HA, HJ17, HO_527000, HO_528000, HO_533001, HO_538000, HO_543000, HO_548000, HO_553000, BK518, BK526, BK527, BK532, BK537, BK542, BK547, BK552, HB⟩ := hcut
    cases kq with
    | zero => exact absurd HA.out (by simp [debuggerlaw25_MemoryPages.j0])
    | succ kj17 =>
     have H := HA.out
     clear HA
     simp only [debuggerlaw25_MemoryPages.j0] at H
     by_cases c141 : x77_17 = true
     ·subst c141
      have H1 : (some false) = some r := by rw [if_pos rfl] at H; exact H
      clear H
      have H := H1
      clear H1
      exact absurd (Option.some.inj (H.trans (congrArg some HT0.out))) (by simp)
     ·replace c141 := Bool.eq_false_iff.mpr c141
      subst c141
      have H1 : ((memory_Without.f kj17 t520 a3).bind fun t555 => ((debuggerref25_Without.f kj17 t520 a3).bind fun t558 => ((debuggerref25_Same.f kj17 t555 t558).bind fun t561 => (if t561 = true then ((memory_Without.f kj17 t520 (wrap64 (t528 * 64))).bind fun t562 => ((debuggerref25_Without.f kj17 t520 (wrap64 (t528 * 64))).bind fun t565 => ((debuggerref25_Same.f kj17 t562 t565).bind fun t568 => (if t568 = true then ((memory_Changed.f kj17 t520 t523).bind fun t569 => ((debuggerref25_Changed.f kj17 t520 t523).bind fun t572 => ((debuggerref25_Ints.f kj17 t569 t572).bind fun t575 => (if t575 = true then ((debuggerlaw25_awake.f kj17).bind fun t576 => (some t576)) else (some false))))) else (some false))))) else (some false))))) = some r := by rw [if_neg (show ¬ (false = true) by decide)] at H; exact H
      clear H
      have H := H1
      clear H1
      replace H := Option.bind_eq_some_iff.mp H
      obtain ⟨t555, A1420, H⟩ := H
      replace H : ((debuggerref25_Without.f kj17 t520 a3).bind fun t558 => ((debuggerref25_Same.f kj17 t555 t558).bind fun t561 => (if t561 = true then ((memory_Without.f kj17 t520 (wrap64 (t528 * 64))).bind fun t562 => ((debuggerref25_Without.f kj17 t520 (wrap64 (t528 * 64))).bind fun t565 => ((debuggerref25_Same.f kj17 t562 t565).bind fun t568 => (if t568 = true then ((memory_Changed.f kj17 t520 t523).bind fun t569 => ((debuggerref25_Changed.f kj17 t520 t523).bind fun t572 => ((debuggerref25_Ints.f kj17 t569 t572).bind fun t575 => (if t575 = true then ((debuggerlaw25_awake.f kj17).bind fun t576 => (some t576)) else (some false))))) else (some false))))) else (some false)))) = some r := H
      have A142 := Aside0.mk A1420
      clear A1420
      replace H := Option.bind_eq_some_iff.mp H
      obtain ⟨t558, A1430, H⟩ := H
      replace H : ((debuggerref25_Same.f kj17 t555 t558).bind fun t561 => (if t561 = true then ((memory_Without.f kj17 t520 (wrap64 (t528 * 64))).bind fun t562 => ((debuggerref25_Without.f kj17 t520 (wrap64 (t528 * 64))).bind fun t565 => ((debuggerref25_Same.f kj17 t562 t565).bind fun t568 => (if t568 = true then ((memory_Changed.f kj17 t520 t523).bind fun t569 => ((debuggerref25_Changed.f kj17 t520 t523).bind fun t572 => ((debuggerref25_Ints.f kj17 t569 t572).bind fun t575 => (if t575 = true then ((debuggerlaw25_awake.f kj17).bind fun t576 => (some t576)) else (some false))))) else (some false))))) else (some false))) = some r := H
      have A143 := Aside0.mk A1430
      clear A1430
      replace H := Option.bind_eq_some_iff.mp H
      obtain ⟨t561, A1440, H⟩ := H
      replace H : (if t561 = true then ((memory_Without.f kj17 t520 (wrap64 (t528 * 64))).bind fun t562 => ((debuggerref25_Without.f kj17 t520 (wrap64 (t528 * 64))).bind fun t565 => ((debuggerref25_Same.f kj17 t562 t565).bind fun t568 => (if t568 = true then ((memory_Changed.f kj17 t520 t523).bind fun t569 => ((debuggerref25_Changed.f kj17 t520 t523).bind fun t572 => ((debuggerref25_Ints.f kj17 t569 t572).bind fun t575 => (if t575 = true then ((debuggerlaw25_awake.f kj17).bind fun t576 => (some t576)) else (some false))))) else (some false))))) else (some false)) = some r := H
      have A144 := Aside0.mk A1440
      clear A1440
      by_cases c145 : t561 = true
      ·subst c145
       have H1 : ((memory_Without.f kj17 t520 (wrap64 (t528 * 64))).bind fun t562 => ((debuggerref25_Without.f kj17 t520 (wrap64 (t528 * 64))).bind fun t565 => ((debuggerref25_Same.f kj17 t562 t565).bind fun t568 => (if t568 = true then ((memory_Changed.f kj17 t520 t523).bind fun t569 => ((debuggerref25_Changed.f kj17 t520 t523).bind fun t572 => ((debuggerref25_Ints.f kj17 t569 t572).bind fun t575 => (if t575 = true then ((debuggerlaw25_awake.f kj17).bind fun t576 => (some t576)) else (some false))))) else (some false))))) = some r := by rw [if_pos rfl] at H; exact H
       clear H
       have H := H1
       clear H1
       replace H := Option.bind_eq_some_iff.mp H
       obtain ⟨t562, A1460, H⟩ := H
       replace H : ((debuggerref25_Without.f kj17 t520 (wrap64 (t528 * 64))).bind fun t565 => ((debuggerref25_Same.f kj17 t562 t565).bind fun t568 => (if t568 = true then ((memory_Changed.f kj17 t520 t523).bind fun t569 => ((debuggerref25_Changed.f kj17 t520 t523).bind fun t572 => ((debuggerref25_Ints.f kj17 t569 t572).bind fun t575 => (if t575 = true then ((debuggerlaw25_awake.f kj17).bind fun t576 => (some t576)) else (some false))))) else (some false)))) = some r := H
       have A146 := Aside0.mk A1460
       clear A1460
       replace H := Option.bind_eq_some_iff.mp H
       obtain ⟨t565, A1470, H⟩ := H
       replace H : ((debuggerref25_Same.f kj17 t562 t565).bind fun t568 => (if t568 = true then ((memory_Changed.f kj17 t520 t523).bind fun t569 => ((debuggerref25_Changed.f kj17 t520 t523).bind fun t572 => ((debuggerref25_Ints.f kj17 t569 t572).bind fun t575 => (if t575 = true then ((debuggerlaw25_awake.f kj17).bind fun t576 => (some t576)) else (some false))))) else (some false))) = some r := H
       have A147 := Aside0.mk A1470
       clear A1470
       replace H := Option.bind_eq_some_iff.mp H
       obtain ⟨t568, A1480, H⟩ := H
       replace H : (if t568 = true then ((memory_Changed.f kj17 t520 t523).bind fun t569 => ((debuggerref25_Changed.f kj17 t520 t523).bind fun t572 => ((debuggerref25_Ints.f kj17 t569 t572).bind fun t575 => (if t575 = true then ((debuggerlaw25_awake.f kj17).bind fun t576 => (some t576)) else (some false))))) else (some false)) = some r := H
       have A148 := Aside0.mk A1480
       clear A1480
       by_cases c149 : t568 = true
       ·subst c149
        have H1 : ((memory_Changed.f kj17 t520 t523).bind fun t569 => ((debuggerref25_Changed.f kj17 t520 t523).bind fun t572 => ((debuggerref25_Ints.f kj17 t569 t572).bind fun t575 => (if t575 = true then ((debuggerlaw25_awake.f kj17).bind fun t576 => (some t576)) else (some false))))) = some r := by rw [if_pos rfl] at H; exact H
        clear H
        have H := H1
        clear H1
        replace H := Option.bind_eq_some_iff.mp H
        obtain ⟨t569, A1500, H⟩ := H
        replace H : ((debuggerref25_Changed.f kj17 t520 t523).bind fun t572 => ((debuggerref25_Ints.f kj17 t569 t572).bind fun t575 => (if t575 = true then ((debuggerlaw25_awake.f kj17).bind fun t576 => (some t576)) else (some false)))) = some r := H
        have A150 := Aside0.mk A1500
        clear A1500
        replace H := Option.bind_eq_some_iff.mp H
        obtain ⟨t572, A1510, H⟩ := H
        replace H : ((debuggerref25_Ints.f kj17 t569 t572).bind fun t575 => (if t575 = true then ((debuggerlaw25_awake.f kj17).bind fun t576 => (some t576)) else (some false))) = some r := H
        have A151 := Aside0.mk A1510
        clear A1510
        replace H := Option.bind_eq_some_iff.mp H
        obtain ⟨t575, A1520, H⟩ := H
        replace H : (if t575 = true then ((debuggerlaw25_awake.f kj17).bind fun t576 => (some t576)) else (some false)) = some r := H
        have A152 := Aside0.mk A1520
        clear A1520
        by_cases c153 : t575 = true
        ·subst c153
         have H1 : ((debuggerlaw25_awake.f kj17).bind fun t576 => (some t576)) = some r := by rw [if_pos rfl] at H; exact H
         clear H
         have H := H1
         clear H1
         replace H := Option.bind_eq_some_iff.mp H
         obtain ⟨t576, A1540, H⟩ := H
         replace H : (some t576) = some r := H
         have A154 := Aside0.mk A1540
         clear A1540
         obtain rfl := Option.some.inj H
         try go_wp2
         have n0_ := Zw (Kd.N_drew HO_527000.out)
         have n1_ := Zw (Kd.N_drew HO_528000.out)
         have n2_ := Zw (Kd.R_drew HO_533001.out)
         have n3_ := Zw (Kd.N_drew HO_538000.out)
         have n4_ := Zw (Kd.N_drew HO_543000.out)
         have n5_ := Zw (Kd.N_drew HO_548000.out)
         have n6_ := Zw (Kd.N_drew HO_553000.out)
         have n7_ := Zw (blk_drew BK518.out)
         have n8_ := Zw (blk_drew BK526.out)
         have n9_ := Zw (blk_drew BK527.out)
         have n10_ := Zw (blk_drew BK532.out)
         have n11_ := Zw (blk_drew BK537.out)
         have n12_ := Zw (blk_drew BK542.out)
         have n13_ := Zw (blk_drew BK547.out)
         have n14_ := Zw (blk_drew BK552.out)
         have n15_ := Zw (below_drew1 HB.out)
         clear HO_527000
         clear HO_528000
         clear HO_533001
         clear HO_538000
         clear HO_543000
         clear HO_548000
         clear HO_553000
         clear BK518
         clear BK526
         clear BK527
         clear BK532
         clear BK537
         clear BK542
         clear BK547
         clear BK552
         clear HB
         have HO_527000 := n0_
         have HO_528000 := n1_
         have HO_533001 := n2_
         have HO_538000 := n3_
         have HO_543000 := n4_
         have HO_548000 := n5_
         have HO_553000 := n6_
         have BK518 := n7_
         have BK526 := n8_
         have BK527 := n9_
         have BK532 := n10_
         have BK537 := n11_
         have BK542 := n12_
         have BK547 := n13_
         have BK552 := n14_
         have HB := n15_
         clear n0_ n1_ n2_ n3_ n4_ n5_ n6_ n7_ n8_ n9_ n10_ n11_ n12_ n13_ n14_ n15_
         refine start_ (n := 31) (S := fun w' => w'.cell? ⟨gb526, 0, none⟩ = some (.slice Ao25 t520.length co25) ∧ w'.cell? ⟨gb532, 0, none⟩ = some (.int .i64 (wrap64 (t528 * 64))) ∧ w'.cell? ⟨gb532, 1, none⟩ = some (.slice Ao40 y529.length co40) ∧ w'.cell? ⟨gb527, 0, none⟩ = some (.slice Ao29 t523.length co29)) (ds := []) #[false, false, false, false, false, false, false, false, false, false, false, false, false, false, false, false, false, false, false, false, false, false, false, false, false, false, false, false, false, false, false] (by kernel_rfl) rfl rfl ⟨(blk_cell BK526.out 0).trans rfl, (blk_cell BK532.out 0).trans rfl, (blk_cell BK532.out 1).trans rfl, (blk_cell BK527.out 0).trans rfl⟩ (fun hHeld => ?_); refine with_tabW debuggerlaw25_MemoryPages.tab11 debuggerlaw25_MemoryPages.bits11 (fun HT_ HW_ => ?_)
         generalize wc.drew = w155 at HO_527000 HO_528000 HO_533001 HO_538000 HO_543000 HO_548000 HO_553000 BK518 BK526 BK527 BK532 BK537 BK542 BK547 BK552 HB hHeld ⊢
         refine pure_ (i := 1) (N := some 79) (v := ?_) (a' := ?_) #[false, true, false, false, false, false, false, false, false, false, false, false, false, false, false, false, false, false, false, false, false, false, false, false, false, false, false, false, false, false, false] rfl rfl (any_of HT_.out (by kernel_rfl)) (fun _ _ _ h => h) (Or.inl ⟨by rfl, ?_⟩) ?_ ?_
         rotate_left
         ·intro w'
          go_simp
          with_reducible rfl
         rotate_left
         ·simp only [Act.put, zsA, zsZ, zsS, i64_w, i32_w]
          rfl
         refine pure_ (i := 4) (N := some 82) (v := ?_) (a' := ?_) #[false, true, false, false, true, false, false, false, false, false, false, false, false, false, false, false, false, false, false, false, false, false, false, false, false, false, false, false, false, false, false] rfl rfl (any_of HT_.out (by kernel_rfl)) (fun _ _ _ h => h) (Or.inl ⟨by rfl, ?_⟩) ?_ ?_
         rotate_left
         ·intro w'
          go_simp
          with_reducible rfl
         rotate_left
         ·simp only [Act.put, zsA, zsZ, zsS, i64_w, i32_w]
          rfl
         refine take_ (i := 0) (N := some 78) (v := ?_) (a' := ?_) #[true, true, false, false, true, false, false, false, false, false, false, false, false, false, false, false, false, false, false, false, false, false, false, false, false, false, false, false, false, false, false] rfl rfl (take_ofW HT_.out HW_.out (by kernel_rfl)) (fun _ _ _ h => h) (Or.inl ⟨by rfl, ?_⟩) hHeld ?_ ?_
         rotate_left
         ·rintro w' ⟨s0, s1, s2, s3⟩
          go_simp
          with_reducible rfl
         rotate_left
         ·simp only [Act.put, zsA, zsZ, zsS, i64_w, i32_w]
          rfl
         refine take_ (i := 3) (N := some 81) (v := ?_) (a' := ?_) #[true, true, false, true, true, false, false, false, false, false, false, false, false, false, false, false, false, false, false, false, false, false, false, false, false, false, false, false, false, false, false] rfl rfl (take_ofW HT_.out HW_.out (by kernel_rfl)) (fun _ _ _ h => h) (Or.inl ⟨by rfl, ?_⟩) hHeld ?_ ?_
         rotate_left
         ·rintro w' ⟨s0, s1, s2, s3⟩
          go_simp
          with_reducible rfl
         rotate_left
         ·simp only [Act.put, zsA, zsZ, zsS, i64_w, i32_w]
          rfl
         refine one_ (i := 2) (N := some 80) #[true, true, true, true, true, false, false, false, false, false, false, false, false, false, false, false, false, false, false, false, false, false, false, false, false, false, false, false, false, false, false] rfl rfl (one_of HT_.out (by kernel_rfl)) (by decide) (fun K hK => ?_)
         refine goes_ Try.func28 (by kernel_rfl) rfl #[.agg #[.slice Ao25 t520.length co25], .int .i64 a3] (by rfl) rfl rfl Zm ?_
         with_reducible refine (memory_Without.calls kj17 _ _ t520 a3 t555 _ ?side1 ?side2 A142.out).mono ?_
         (case side1 => exact Zc ((Kd.N_reads' HO_527000.out).2.2))
         (case side2 => exact (Kd.N_reads' HO_527000.out).2.1)
         rintro e w156 ⟨v556, rfl, ho0, hb⟩
         refine ⟨_, rfl, ?_⟩
         have n0_ := Zw (Kd.N_elder' (ZN HO_527000.out) (by first | exact Kd.N_base ho0 | exact Kd.S_base ho0 | exact Kd.R_base ho0 | exact Kd.N_base ho0) hb)
         have n1_ := Zw (Kd.N_elder' (ZN HO_528000.out) (by first | exact Kd.N_base ho0 | exact Kd.S_base ho0 | exact Kd.R_base ho0 | exact Kd.N_base ho0) hb)
         have n2_ := Zw (Kd.R_below (ZR HO_533001.out) hb)
         have n3_ := Zw (Kd.N_elder' (ZN HO_538000.out) (by first | exact Kd.N_base ho0 | exact Kd.S_base ho0 | exact Kd.R_base ho0 | exact Kd.N_base ho0) hb)
         have n4_ := Zw (Kd.N_elder' (ZN HO_543000.out) (by first | exact Kd.N_base ho0 | exact Kd.S_base ho0 | exact Kd.R_base ho0 | exact Kd.N_base ho0) hb)
         have n5_ := Zw (Kd.N_elder' (ZN HO_548000.out) (by first | exact Kd.N_base ho0 | exact Kd.S_base ho0 | exact Kd.R_base ho0 | exact Kd.N_base ho0) hb)
         have n6_ := Zw (Kd.N_elder' (ZN HO_553000.out) (by first | exact Kd.N_base ho0 | exact Kd.S_base ho0 | exact Kd.R_base ho0 | exact Kd.N_base ho0) hb)
         have n7_ := Zw (Kd.N_lower (Kd.N_mono (ok' := fun k_ => some k_ ≠ (.slice Ao25 t520.length co25 : Value).ownBlock ∧ some k_ ≠ (.slice Ao29 t523.length co29 : Value).ownBlock ∧ some k_ ≠ (.slice Ao40 y529.length co40 : Value).ownBlock ∧ some k_ ≠ (.slice Ao49 t533.length co49 : Value).ownBlock ∧ some k_ ≠ (.slice Ao59 t538.length co59 : Value).ownBlock ∧ some k_ ≠ (.slice Ao71 t543.length co71 : Value).ownBlock ∧ some k_ ≠ (.slice Ao83 t548.length co83 : Value).ownBlock ∧ k_ ≠ gb518 ∧ k_ ≠ gb526 ∧ k_ ≠ gb527 ∧ k_ ≠ gb532 ∧ k_ ≠ gb537 ∧ k_ ≠ gb542 ∧ k_ ≠ gb547 ∧ k_ ≠ gb552) (Kd.S_N (Kd.S_bound ho0)) (fun k_ hk_ => ⟨(Kd.fresh' (Kd.N_lt (ZN HO_527000.out)) k_ hk_.2.1), (Kd.fresh' (Kd.N_lt (ZN HO_528000.out)) k_ hk_.2.1), (Kd.fresh' (Kd.R_lt (ZR HO_533001.out)) k_ hk_.2.1), (Kd.fresh' (Kd.N_lt (ZN HO_538000.out)) k_ hk_.2.1), (Kd.fresh' (Kd.N_lt (ZN HO_543000.out)) k_ hk_.2.1), (Kd.fresh' (Kd.N_lt (ZN HO_548000.out)) k_ hk_.2.1), (Kd.fresh' (Kd.N_lt (ZN HO_553000.out)) k_ hk_.2.1), (Kd.freshB (g := gb518) (o := .cells #[.int .i64 a2_0, .slice A2_1 l2_1.length c2_1] 31 (0, 0)) (Zb BK518.out) k_ hk_.2.1), (Kd.freshB (g := gb526) (o := .cells #[.slice Ao25 t520.length co25] 24 (0, 0)) (Zb BK526.out) k_ hk_.2.1), (Kd.freshB (g := gb527) (o := .cells #[.slice Ao29 t523.length co29] 24 (0, 0)) (Zb BK527.out) k_ hk_.2.1), (Kd.freshB (g := gb532) (o := .cells #[.int .i64 (wrap64 (t528 * 64)), .slice Ao40 y529.length co40] 31 (0, 0)) (Zb BK532.out) k_ hk_.2.1), (Kd.freshB (g := gb537) (o := .cells #[.slice Ao49 t533.length co49] 24 (0, 0)) (Zb BK537.out) k_ hk_.2.1), (Kd.freshB (g := gb542) (o := .cells #[.slice Ao59 t538.length co59] 24 (0, 0)) (Zb BK542.out) k_ hk_.2.1), (Kd.freshB (g := gb547) (o := .cells #[.slice Ao71 t543.length co71] 24 (0, 0)) (Zb BK547.out) k_ hk_.2.1), (Kd.freshB (g := gb552) (o := .cells #[.slice Ao83 t548.length co83] 24 (0, 0)) (Zb BK552.out) k_ hk_.2.1)⟩)) (below_size (by repeat (first | (with_reducible first | exact HB.out | apply below_alloc | apply pw_below_drewN | apply below_drew1 | refine below_set ?_ GE518.out | refine below_set ?_ GE526.out | refine below_set ?_ GE527.out | refine below_set ?_ GE532.out | refine below_set ?_ GE537.out | refine below_set ?_ GE542.out | refine below_set ?_ GE547.out | refine below_set ?_ GE552.out) | exact HB.out))))
         have n8_ := Zw (blk_below (g := gb518) (o := .cells #[.int .i64 a2_0, .slice A2_1 l2_1.length c2_1] 31 (0, 0)) (Zb BK518.out) hb)
         have n9_ := Zw (blk_below (g := gb526) (o := .cells #[.slice Ao25 t520.length co25] 24 (0, 0)) (Zb BK526.out) hb)
         have n10_ := Zw (blk_below (g := gb527) (o := .cells #[.slice Ao29 t523.length co29] 24 (0, 0)) (Zb BK527.out) hb)
         have n11_ := Zw (blk_below (g := gb532) (o := .cells #[.int .i64 (wrap64 (t528 * 64)), .slice Ao40 y529.length co40] 31 (0, 0)) (Zb BK532.out) hb)
         have n12_ := Zw (blk_below (g := gb537) (o := .cells #[.slice Ao49 t533.length co49] 24 (0, 0)) (Zb BK537.out) hb)
         have n13_ := Zw (blk_below (g := gb542) (o := .cells #[.slice Ao59 t538.length co59] 24 (0, 0)) (Zb BK542.out) hb)
         have n14_ := Zw (blk_below (g := gb547) (o := .cells #[.slice Ao71 t543.length co71] 24 (0, 0)) (Zb BK547.out) hb)
         have n15_ := Zw (blk_below (g := gb552) (o := .cells #[.slice Ao83 t548.length co83] 24 (0, 0)) (Zb BK552.out) hb)
         have n16_ := Zw (below_step (by repeat (first | (with_reducible first | exact HB.out | apply below_alloc | apply pw_below_drewN | apply below_drew1 | refine below_set ?_ GE518.out | refine below_set ?_ GE526.out | refine below_set ?_ GE527.out | refine below_set ?_ GE532.out | refine below_set ?_ GE537.out | refine below_set ?_ GE542.out | refine below_set ?_ GE547.out | refine below_set ?_ GE552.out) | exact HB.out)) hb)
         clear HO_527000
         clear HO_528000
         clear HO_533001
         clear HO_538000
         clear HO_543000
         clear HO_548000
         clear HO_553000
         clear BK518
         clear BK526
         clear BK527
         clear BK532
         clear BK537
         clear BK542
         clear BK547
         clear BK552
         clear HB
         have HO_527000 := n0_
         have HO_528000 := n1_
         have HO_533001 := n2_
         have HO_538000 := n3_
         have HO_543000 := n4_
         have HO_548000 := n5_
         have HO_553000 := n6_
         have HO557 := n7_
         have BK518 := n8_
         have BK526 := n9_
         have BK527 := n10_
         have BK532 := n11_
         have BK537 := n12_
         have BK542 := n13_
         have BK547 := n14_
         have BK552 := n15_
         have HB := n16_
         clear n0_ n1_ n2_ n3_ n4_ n5_ n6_ n7_ n8_ n9_ n10_ n11_ n12_ n13_ n14_ n15_ n16_
         (try clear hb)
         (try clear hb2)
         (try clear hk)
         (try clear hi)
         (try clear ho0)
         refine hK.out _ _ ⟨(blk_cell BK526.out 0).trans rfl, (blk_cell BK532.out 0).trans rfl, (blk_cell BK532.out 1).trans rfl, (blk_cell BK527.out 0).trans rfl⟩ (fun hHeld => ?_)
         clear hK K
         refine norm_ (a' := ?_) ?_ ?_
         rotate_left
         ·show Act.put _ (some 80) _ = _
          simp only [Act.put, zsA, zsZ, zsS, i64_w, i32_w]
          rfl
         refine one_ (i := 5) (N := some 83) #[true, true, true, true, true, true, false, false, false, false, false, false, false, false, false, false, false, false, false, false, false, false, false, false, false, false, false, false, false, false, false] rfl rfl (one_of HT_.out (by kernel_rfl)) (by decide) (fun K hK => ?_)
         refine goes_ Try.func29 (by kernel_rfl) rfl #[.agg #[.slice Ao25 t520.length co25], .int .i64 a3] (by rfl) rfl rfl Zm ?_
         with_reducible refine (debuggerref25_Without.calls kj17 _ _ t520 a3 t558 _ ?side1 ?side2 A143.out).mono ?_
         (case side1 => exact Zc ((Kd.N_reads' HO_527000.out).2.2))
         (case side2 => exact (Kd.N_reads' HO_527000.out).2.1)
         rintro e w157 ⟨v559, rfl, ho0, hb⟩
         refine ⟨_, rfl, ?_⟩
         have n0_ := Zw (Kd.N_elder' (ZN HO_527000.out) (by first | exact Kd.N_base ho0 | exact Kd.S_base ho0 | exact Kd.R_base ho0 | exact Kd.N_base ho0) hb)
         have n1_ := Zw (Kd.N_elder' (ZN HO_528000.out) (by first | exact Kd.N_base ho0 | exact Kd.S_base ho0 | exact Kd.R_base ho0 | exact Kd.N_base ho0) hb)
         have n2_ := Zw (Kd.R_below (ZR HO_533001.out) hb)
         have n3_ := Zw (Kd.N_elder' (ZN HO_538000.out) (by first | exact Kd.N_base ho0 | exact Kd.S_base ho0 | exact Kd.R_base ho0 | exact Kd.N_base ho0) hb)
         have n4_ := Zw (Kd.N_elder' (ZN HO_543000.out) (by first | exact Kd.N_base ho0 | exact Kd.S_base ho0 | exact Kd.R_base ho0 | exact Kd.N_base ho0) hb)
         have n5_ := Zw (Kd.N_elder' (ZN HO_548000.out) (by first | exact Kd.N_base ho0 | exact Kd.S_base ho0 | exact Kd.R_base ho0 | exact Kd.N_base ho0) hb)
         have n6_ := Zw (Kd.N_elder' (ZN HO_553000.out) (by first | exact Kd.N_base ho0 | exact Kd.S_base ho0 | exact Kd.R_base ho0 | exact Kd.N_base ho0) hb)
         have n7_ := Zw (Kd.N_elder' (ZN HO557.out) (by first | exact Kd.N_base ho0 | exact Kd.S_base ho0 | exact Kd.R_base ho0 | exact Kd.N_base ho0) hb)
         have n8_ := Zw (Kd.N_lower (Kd.N_mono (ok' := fun k_ => some k_ ≠ (.slice Ao25 t520.length co25 : Value).ownBlock ∧ some k_ ≠ (.slice Ao29 t523.length co29 : Value).ownBlock ∧ some k_ ≠ (.slice Ao40 y529.length co40 : Value).ownBlock ∧ some k_ ≠ (.slice Ao49 t533.length co49 : Value).ownBlock ∧ some k_ ≠ (.slice Ao59 t538.length co59 : Value).ownBlock ∧ some k_ ≠ (.slice Ao71 t543.length co71 : Value).ownBlock ∧ some k_ ≠ (.slice Ao83 t548.length co83 : Value).ownBlock ∧ some k_ ≠ (v556 : Value).ownBlock ∧ k_ ≠ gb518 ∧ k_ ≠ gb526 ∧ k_ ≠ gb527 ∧ k_ ≠ gb532 ∧ k_ ≠ gb537 ∧ k_ ≠ gb542 ∧ k_ ≠ gb547 ∧ k_ ≠ gb552) ho0 (fun k_ hk_ => ⟨(Kd.fresh' (Kd.N_lt (ZN HO_527000.out)) k_ hk_), (Kd.fresh' (Kd.N_lt (ZN HO_528000.out)) k_ hk_), (Kd.fresh' (Kd.R_lt (ZR HO_533001.out)) k_ hk_), (Kd.fresh' (Kd.N_lt (ZN HO_538000.out)) k_ hk_), (Kd.fresh' (Kd.N_lt (ZN HO_543000.out)) k_ hk_), (Kd.fresh' (Kd.N_lt (ZN HO_548000.out)) k_ hk_), (Kd.fresh' (Kd.N_lt (ZN HO_553000.out)) k_ hk_), (Kd.fresh' (Kd.N_lt (ZN HO557.out)) k_ hk_), (Kd.freshB (g := gb518) (o := .cells #[.int .i64 a2_0, .slice A2_1 l2_1.length c2_1] 31 (0, 0)) (Zb BK518.out) k_ hk_), (Kd.freshB (g := gb526) (o := .cells #[.slice Ao25 t520.length co25] 24 (0, 0)) (Zb BK526.out) k_ hk_), (Kd.freshB (g := gb527) (o := .cells #[.slice Ao29 t523.length co29] 24 (0, 0)) (Zb BK527.out) k_ hk_), (Kd.freshB (g := gb532) (o := .cells #[.int .i64 (wrap64 (t528 * 64)), .slice Ao40 y529.length co40] 31 (0, 0)) (Zb BK532.out) k_ hk_), (Kd.freshB (g := gb537) (o := .cells #[.slice Ao49 t533.length co49] 24 (0, 0)) (Zb BK537.out) k_ hk_), (Kd.freshB (g := gb542) (o := .cells #[.slice Ao59 t538.length co59] 24 (0, 0)) (Zb BK542.out) k_ hk_), (Kd.freshB (g := gb547) (o := .cells #[.slice Ao71 t543.length co71] 24 (0, 0)) (Zb BK547.out) k_ hk_), (Kd.freshB (g := gb552) (o := .cells #[.slice Ao83 t548.length co83] 24 (0, 0)) (Zb BK552.out) k_ hk_)⟩)) (below_size (by repeat (first | (with_reducible first | exact HB.out | apply below_alloc | apply pw_below_drewN | apply below_drew1 | refine below_set ?_ GE518.out | refine below_set ?_ GE526.out | refine below_set ?_ GE527.out | refine below_set ?_ GE532.out | refine below_set ?_ GE537.out | refine below_set ?_ GE542.out | refine below_set ?_ GE547.out | refine below_set ?_ GE552.out) | exact HB.out))))
         have n9_ := Zw (blk_below (g := gb518) (o := .cells #[.int .i64 a2_0, .slice A2_1 l2_1.length c2_1] 31 (0, 0)) (Zb BK518.out) hb)
         have n10_ := Zw (blk_below (g := gb526) (o := .cells #[.slice Ao25 t520.length co25] 24 (0, 0)) (Zb BK526.out) hb)
         have n11_ := Zw (blk_below (g := gb527) (o := .cells #[.slice Ao29 t523.length co29] 24 (0, 0)) (Zb BK527.out) hb)
         have n12_ := Zw (blk_below (g := gb532) (o := .cells #[.int .i64 (wrap64 (t528 * 64)), .slice Ao40 y529.length co40] 31 (0, 0)) (Zb BK532.out) hb)
         have n13_ := Zw (blk_below (g := gb537) (o := .cells #[.slice Ao49 t533.length co49] 24 (0, 0)) (Zb BK537.out) hb)
         have n14_ := Zw (blk_below (g := gb542) (o := .cells #[.slice Ao59 t538.length co59] 24 (0, 0)) (Zb BK542.out) hb)
         have n15_ := Zw (blk_below (g := gb547) (o := .cells #[.slice Ao71 t543.length co71] 24 (0, 0)) (Zb BK547.out) hb)
         have n16_ := Zw (blk_below (g := gb552) (o := .cells #[.slice Ao83 t548.length co83] 24 (0, 0)) (Zb BK552.out) hb)
         have n17_ := Zw (below_step (by repeat (first | (with_reducible first | exact HB.out | apply below_alloc | apply pw_below_drewN | apply below_drew1 | refine below_set ?_ GE518.out | refine below_set ?_ GE526.out | refine below_set ?_ GE527.out | refine below_set ?_ GE532.out | refine below_set ?_ GE537.out | refine below_set ?_ GE542.out | refine below_set ?_ GE547.out | refine below_set ?_ GE552.out) | exact HB.out)) hb)
         clear HO_527000
         clear HO_528000
         clear HO_533001
         clear HO_538000
         clear HO_543000
         clear HO_548000
         clear HO_553000
         clear HO557
         clear BK518
         clear BK526
         clear BK527
         clear BK532
         clear BK537
         clear BK542
         clear BK547
         clear BK552
         clear HB
         have HO_527000 := n0_
         have HO_528000 := n1_
         have HO_533001 := n2_
         have HO_538000 := n3_
         have HO_543000 := n4_
         have HO_548000 := n5_
         have HO_553000 := n6_
         have HO557 := n7_
         have HO560 := n8_
         have BK518 := n9_
         have BK526 := n10_
         have BK527 := n11_
         have BK532 := n12_
         have BK537 := n13_
         have BK542 := n14_
         have BK547 := n15_
         have BK552 := n16_
         have HB := n17_
         clear n0_ n1_ n2_ n3_ n4_ n5_ n6_ n7_ n8_ n9_ n10_ n11_ n12_ n13_ n14_ n15_ n16_ n17_
         (try clear hb)
         (try clear hb2)
         (try clear hk)
         (try clear hi)
         (try clear ho0)
         obtain ⟨Ao158, co158, eo158⟩ := Kd.N_slice HO557.out
         (first | subst eo158 | (injection eo158 with f1_ f2_ f3_; have f4_ := f1_.symm; have f5_ := f3_.symm; clear f1_ f2_ f3_; subst f4_; subst f5_))
         obtain ⟨Ao159, co159, eo159⟩ := Kd.N_slice HO560.out
         (first | subst eo159 | (injection eo159 with f1_ f2_ f3_; have f4_ := f1_.symm; have f5_ := f3_.symm; clear f1_ f2_ f3_; subst f4_; subst f5_))
         refine hK.out _ _ ⟨(blk_cell BK526.out 0).trans rfl, (blk_cell BK532.out 0).trans rfl, (blk_cell BK532.out 1).trans rfl, (blk_cell BK527.out 0).trans rfl⟩ (fun hHeld => ?_)
         clear hK K
         refine norm_ (a' := ?_) ?_ ?_
         rotate_left
         ·show Act.put _ (some 83) _ = _
          simp only [Act.put, zsA, zsZ, zsS, i64_w, i32_w]
          rfl
         refine one_ (i := 6) (N := some 84) #[true, true, true, true, true, true, true, false, false, false, false, false, false, false, false, false, false, false, false, false, false, false, false, false, false, false, false, false, false, false, false] rfl rfl (one_of HT_.out (by kernel_rfl)) (by decide) (fun K hK => ?_)
         refine goes_ Try.func16 (by kernel_rfl) rfl #[.agg #[.slice Ao158 t555.length co158], .agg #[.slice Ao159 t558.length co159]] (by rfl) rfl rfl Zm ?_
         with_reducible refine (debuggerref25_Same.calls kj17 _ _ t555 _ _ t558 true _ ?side1 ?side2 ?side3 ?side4 A144.out).mono ?_
         (case side1 => exact Zc ((Kd.N_reads' HO557.out).2.2))
         (case side2 => exact (Kd.N_reads' HO557.out).2.1)
         (case side3 => exact Zc ((Kd.N_reads' HO560.out).2.2))
         (case side4 => exact (Kd.N_reads' HO560.out).2.1)
         rintro e w160 ⟨rfl, hb⟩
         refine ⟨_, rfl, ?_⟩
         have n0_ := Zw (Kd.N_below (ZN HO_527000.out) hb)
         have n1_ := Zw (Kd.N_below (ZN HO_528000.out) hb)
         have n2_ := Zw (Kd.R_below (ZR HO_533001.out) hb)
         have n3_ := Zw (Kd.N_below (ZN HO_538000.out) hb)
         have n4_ := Zw (Kd.N_below (ZN HO_543000.out) hb)
         have n5_ := Zw (Kd.N_below (ZN HO_548000.out) hb)
         have n6_ := Zw (Kd.N_below (ZN HO_553000.out) hb)
         have n7_ := Zw (Kd.N_below (ZN HO557.out) hb)
         have n8_ := Zw (Kd.N_below (ZN HO560.out) hb)
         have n9_ := Zw (blk_below (g := gb518) (o := .cells #[.int .i64 a2_0, .slice A2_1 l2_1.length c2_1] 31 (0, 0)) (Zb BK518.out) hb)
         have n10_ := Zw (blk_below (g := gb526) (o := .cells #[.slice Ao25 t520.length co25] 24 (0, 0)) (Zb BK526.out) hb)
         have n11_ := Zw (blk_below (g := gb527) (o := .cells #[.slice Ao29 t523.length co29] 24 (0, 0)) (Zb BK527.out) hb)
         have n12_ := Zw (blk_below (g := gb532) (o := .cells #[.int .i64 (wrap64 (t528 * 64)), .slice Ao40 y529.length co40] 31 (0, 0)) (Zb BK532.out) hb)
         have n13_ := Zw (blk_below (g := gb537) (o := .cells #[.slice Ao49 t533.length co49] 24 (0, 0)) (Zb BK537.out) hb)
         have n14_ := Zw (blk_below (g := gb542) (o := .cells #[.slice Ao59 t538.length co59] 24 (0, 0)) (Zb BK542.out) hb)
         have n15_ := Zw (blk_below (g := gb547) (o := .cells #[.slice Ao71 t543.length co71] 24 (0, 0)) (Zb BK547.out) hb)
         have n16_ := Zw (blk_below (g := gb552) (o := .cells #[.slice Ao83 t548.length co83] 24 (0, 0)) (Zb BK552.out) hb)
         have n17_ := Zw (below_step (by repeat (first | (with_reducible first | exact HB.out | apply below_alloc | apply pw_below_drewN | apply below_drew1 | refine below_set ?_ GE518.out | refine below_set ?_ GE526.out | refine below_set ?_ GE527.out | refine below_set ?_ GE532.out | refine below_set ?_ GE537.out | refine below_set ?_ GE542.out | refine below_set ?_ GE547.out | refine below_set ?_ GE552.out) | exact HB.out)) hb)
         clear HO_527000
         clear HO_528000
         clear HO_533001
         clear HO_538000
         clear HO_543000
         clear HO_548000
         clear HO_553000
         clear HO557
         clear HO560
         clear BK518
         clear BK526
         clear BK527
         clear BK532
         clear BK537
         clear BK542
         clear BK547
         clear BK552
         clear HB
         have HO_527000 := n0_
         have HO_528000 := n1_
         have HO_533001 := n2_
         have HO_538000 := n3_
         have HO_543000 := n4_
         have HO_548000 := n5_
         have HO_553000 := n6_
         have HO557 := n7_
         have HO560 := n8_
         have BK518 := n9_
         have BK526 := n10_
         have BK527 := n11_
         have BK532 := n12_
         have BK537 := n13_
         have BK542 := n14_
         have BK547 := n15_
         have BK552 := n16_
         have HB := n17_
         clear n0_ n1_ n2_ n3_ n4_ n5_ n6_ n7_ n8_ n9_ n10_ n11_ n12_ n13_ n14_ n15_ n16_ n17_
         (try clear hb)
         (try clear hb2)
         (try clear hk)
         (try clear hi)
         refine hK.out _ _ ⟨(blk_cell BK526.out 0).trans rfl, (blk_cell BK532.out 0).trans rfl, (blk_cell BK532.out 1).trans rfl, (blk_cell BK527.out 0).trans rfl⟩ (fun hHeld => ?_)
         clear hK K
         refine norm_ (a' := ?_) ?_ ?_
         rotate_left
         ·show Act.put _ (some 84) _ = _
          simp only [Act.put, zsA, zsZ, zsS, i64_w, i32_w]
          rfl
         refine pure_ (i := 7) (N := some 85) (v := ?_) (a' := ?_) #[true, true, true, true, true, true, true, true, false, false, false, false, false, false, false, false, false, false, false, false, false, false, false, false, false, false, false, false, false, false, false] rfl rfl (any_of HT_.out (by kernel_rfl)) (fun _ _ _ h => h) (Or.inl ⟨by rfl, ?_⟩) ?_ ?_
         rotate_left
         ·intro w'
          go_simp
          with_reducible rfl
         rotate_left
         ·simp only [Act.put, zsA, zsZ, zsS, i64_w, i32_w]
          rfl
         refine pure_ (i := 9) (N := some 87) (v := ?_) (a' := ?_) #[true, true, true, true, true, true, true, true, false, true, false, false, false, false, false, false, false, false, false, false, false, false, false, false, false, false, false, false, false, false, false] rfl rfl (any_of HT_.out (by kernel_rfl)) (fun _ _ _ h => h) (Or.inl ⟨by rfl, ?_⟩) ?_ ?_
         rotate_left
         ·intro w'
          go_simp
          with_reducible rfl
         rotate_left
         ·simp only [Act.put, zsA, zsZ, zsS, i64_w, i32_w]
          rfl
         refine pure_ (i := 13) (N := some 91) (v := ?_) (a' := ?_) #[true, true, true, true, true, true, true, true, false, true, false, false, false, true, false, false, false, false, false, false, false, false, false, false, false, false, false, false, false, false, false] rfl rfl (any_of HT_.out (by kernel_rfl)) (fun _ _ _ h => h) (Or.inl ⟨by rfl, ?_⟩) ?_ ?_
         rotate_left
         ·intro w'
          go_simp
          with_reducible rfl
         rotate_left
         ·simp only [Act.put, zsA, zsZ, zsS, i64_w, i32_w]
          rfl
         refine take_ (i := 8) (N := some 86) (v := ?_) (a' := ?_) #[true, true, true, true, true, true, true, true, true, true, false, false, false, true, false, false, false, false, false, false, false, false, false, false, false, false, false, false, false, false, false] rfl rfl (take_ofW HT_.out HW_.out (by kernel_rfl)) (fun _ _ _ h => h) (Or.inl ⟨by rfl, ?_⟩) hHeld ?_ ?_
         rotate_left
         ·rintro w' ⟨s0, s1, s2, s3⟩
          go_simp
          with_reducible rfl
         rotate_left
         ·simp only [Act.put, zsA, zsZ, zsS, i64_w, i32_w]
          rfl
         refine take_ (i := 10) (N := some 88) (v := ?_) (a' := ?_) #[true, true, true, true, true, true, true, true, true, true, true, false, false, true, false, false, false, false, false, false, false, false, false, false, false, false, false, false, false, false, false] rfl rfl (take_ofW HT_.out HW_.out (by kernel_rfl)) (fun _ _ _ h => h) (Or.inl ⟨by rfl, ?_⟩) hHeld ?_ ?_
         rotate_left
         ·rintro w' ⟨s0, s1, s2, s3⟩
          go_simp
          with_reducible rfl
         rotate_left
         ·simp only [Act.put, zsA, zsZ, zsS, i64_w, i32_w]
          rfl
         refine take_ (i := 12) (N := some 90) (v := ?_) (a' := ?_) #[true, true, true, true, true, true, true, true, true, true, true, false, true, true, false, false, false, false, false, false, false, false, false, false, false, false, false, false, false, false, false] rfl rfl (take_ofW HT_.out HW_.out (by kernel_rfl)) (fun _ _ _ h => h) (Or.inl ⟨by rfl, ?_⟩) hHeld ?_ ?_
         rotate_left
         ·rintro w' ⟨s0, s1, s2, s3⟩
          go_simp
          with_reducible rfl
         rotate_left
         ·simp only [Act.put, zsA, zsZ, zsS, i64_w, i32_w]
          rfl
         refine take_ (i := 14) (N := some 92) (v := ?_) (a' := ?_) #[true, true, true, true, true, true, true, true, true, true, true, false, true, true, true, false, false, false, false, false, false, false, false, false, false, false, false, false, false, false, false] rfl rfl (take_ofW HT_.out HW_.out (by kernel_rfl)) (fun _ _ _ h => h) (Or.inl ⟨by rfl, ?_⟩) hHeld ?_ ?_
         rotate_left
         ·rintro w' ⟨s0, s1, s2, s3⟩
          go_simp
          with_reducible rfl
         rotate_left
         ·simp only [Act.put, zsA, zsZ, zsS, i64_w, i32_w]
          rfl
         refine one_ (i := 11) (N := some 89) #[true, true, true, true, true, true, true, true, true, true, true, true, true, true, true, false, false, false, false, false, false, false, false, false, false, false, false, false, false, false, false] rfl rfl (one_of HT_.out (by kernel_rfl)) (by decide) (fun K hK => ?_)
         refine goes_ Try.func28 (by kernel_rfl) rfl #[.agg #[.slice Ao25 t520.length co25], .int .i64 (wrap64 (t528 * 64))] (by rfl) rfl rfl Zm ?_
         with_reducible refine (memory_Without.calls kj17 _ _ t520 (wrap64 (t528 * 64)) t562 _ ?side1 ?side2 A146.out).mono ?_
         (case side1 => exact Zc ((Kd.N_reads' HO_527000.out).2.2))
         (case side2 => exact (Kd.N_reads' HO_527000.out).2.1)
         rintro e w161 ⟨v563, rfl, ho0, hb⟩
         refine ⟨_, rfl, ?_⟩
         have n0_ := Zw (Kd.N_elder' (ZN HO_527000.out) (by first | exact Kd.N_base ho0 | exact Kd.S_base ho0 | exact Kd.R_base ho0 | exact Kd.N_base ho0) hb)
         have n1_ := Zw (Kd.N_elder' (ZN HO_528000.out) (by first | exact Kd.N_base ho0 | exact Kd.S_base ho0 | exact Kd.R_base ho0 | exact Kd.N_base ho0) hb)
         have n2_ := Zw (Kd.R_below (ZR HO_533001.out) hb)
         have n3_ := Zw (Kd.N_elder' (ZN HO_538000.out) (by first | exact Kd.N_base ho0 | exact Kd.S_base ho0 | exact Kd.R_base ho0 | exact Kd.N_base ho0) hb)
         have n4_ := Zw (Kd.N_elder' (ZN HO_543000.out) (by first | exact Kd.N_base ho0 | exact Kd.S_base ho0 | exact Kd.R_base ho0 | exact Kd.N_base ho0) hb)
         have n5_ := Zw (Kd.N_elder' (ZN HO_548000.out) (by first | exact Kd.N_base ho0 | exact Kd.S_base ho0 | exact Kd.R_base ho0 | exact Kd.N_base ho0) hb)
         have n6_ := Zw (Kd.N_elder' (ZN HO_553000.out) (by first | exact Kd.N_base ho0 | exact Kd.S_base ho0 | exact Kd.R_base ho0 | exact Kd.N_base ho0) hb)
         have n7_ := Zw (Kd.N_elder' (ZN HO557.out) (by first | exact Kd.N_base ho0 | exact Kd.S_base ho0 | exact Kd.R_base ho0 | exact Kd.N_base ho0) hb)
         have n8_ := Zw (Kd.N_elder' (ZN HO560.out) (by first | exact Kd.N_base ho0 | exact Kd.S_base ho0 | exact Kd.R_base ho0 | exact Kd.N_base ho0) hb)
         have n9_ := Zw (Kd.N_lower (Kd.N_mono (ok' := fun k_ => some k_ ≠ (.slice Ao25 t520.length co25 : Value).ownBlock ∧ some k_ ≠ (.slice Ao29 t523.length co29 : Value).ownBlock ∧ some k_ ≠ (.slice Ao40 y529.length co40 : Value).ownBlock ∧ some k_ ≠ (.slice Ao49 t533.length co49 : Value).ownBlock ∧ some k_ ≠ (.slice Ao59 t538.length co59 : Value).ownBlock ∧ some k_ ≠ (.slice Ao71 t543.length co71 : Value).ownBlock ∧ some k_ ≠ (.slice Ao83 t548.length co83 : Value).ownBlock ∧ some k_ ≠ (.slice Ao158 t555.length co158 : Value).ownBlock ∧ some k_ ≠ (.slice Ao159 t558.length co159 : Value).ownBlock ∧ k_ ≠ gb518 ∧ k_ ≠ gb526 ∧ k_ ≠ gb527 ∧ k_ ≠ gb532 ∧ k_ ≠ gb537 ∧ k_ ≠ gb542 ∧ k_ ≠ gb547 ∧ k_ ≠ gb552) (Kd.S_N (Kd.S_bound ho0)) (fun k_ hk_ => ⟨(Kd.fresh' (Kd.N_lt (ZN HO_527000.out)) k_ hk_.2.1), (Kd.fresh' (Kd.N_lt (ZN HO_528000.out)) k_ hk_.2.1), (Kd.fresh' (Kd.R_lt (ZR HO_533001.out)) k_ hk_.2.1), (Kd.fresh' (Kd.N_lt (ZN HO_538000.out)) k_ hk_.2.1), (Kd.fresh' (Kd.N_lt (ZN HO_543000.out)) k_ hk_.2.1), (Kd.fresh' (Kd.N_lt (ZN HO_548000.out)) k_ hk_.2.1), (Kd.fresh' (Kd.N_lt (ZN HO_553000.out)) k_ hk_.2.1), (Kd.fresh' (Kd.N_lt (ZN HO557.out)) k_ hk_.2.1), (Kd.fresh' (Kd.N_lt (ZN HO560.out)) k_ hk_.2.1), (Kd.freshB (g := gb518) (o := .cells #[.int .i64 a2_0, .slice A2_1 l2_1.length c2_1] 31 (0, 0)) (Zb BK518.out) k_ hk_.2.1), (Kd.freshB (g := gb526) (o := .cells #[.slice Ao25 t520.length co25] 24 (0, 0)) (Zb BK526.out) k_ hk_.2.1), (Kd.freshB (g := gb527) (o := .cells #[.slice Ao29 t523.length co29] 24 (0, 0)) (Zb BK527.out) k_ hk_.2.1), (Kd.freshB (g := gb532) (o := .cells #[.int .i64 (wrap64 (t528 * 64)), .slice Ao40 y529.length co40] 31 (0, 0)) (Zb BK532.out) k_ hk_.2.1), (Kd.freshB (g := gb537) (o := .cells #[.slice Ao49 t533.length co49] 24 (0, 0)) (Zb BK537.out) k_ hk_.2.1), (Kd.freshB (g := gb542) (o := .cells #[.slice Ao59 t538.length co59] 24 (0, 0)) (Zb BK542.out) k_ hk_.2.1), (Kd.freshB (g := gb547) (o := .cells #[.slice Ao71 t543.length co71] 24 (0, 0)) (Zb BK547.out) k_ hk_.2.1), (Kd.freshB (g := gb552) (o := .cells #[.slice Ao83 t548.length co83] 24 (0, 0)) (Zb BK552.out) k_ hk_.2.1)⟩)) (below_size (by repeat (first | (with_reducible first | exact HB.out | apply below_alloc | apply pw_below_drewN | apply below_drew1 | refine below_set ?_ GE518.out | refine below_set ?_ GE526.out | refine below_set ?_ GE527.out | refine below_set ?_ GE532.out | refine below_set ?_ GE537.out | refine below_set ?_ GE542.out | refine below_set ?_ GE547.out | refine below_set ?_ GE552.out) | exact HB.out))))
         have n10_ := Zw (blk_below (g := gb518) (o := .cells #[.int .i64 a2_0, .slice A2_1 l2_1.length c2_1] 31 (0, 0)) (Zb BK518.out) hb)
         have n11_ := Zw (blk_below (g := gb526) (o := .cells #[.slice Ao25 t520.length co25] 24 (0, 0)) (Zb BK526.out) hb)
         have n12_ := Zw (blk_below (g := gb527) (o := .cells #[.slice Ao29 t523.length co29] 24 (0, 0)) (Zb BK527.out) hb)
         have n13_ := Zw (blk_below (g := gb532) (o := .cells #[.int .i64 (wrap64 (t528 * 64)), .slice Ao40 y529.length co40] 31 (0, 0)) (Zb BK532.out) hb)
         have n14_ := Zw (blk_below (g := gb537) (o := .cells #[.slice Ao49 t533.length co49] 24 (0, 0)) (Zb BK537.out) hb)
         have n15_ := Zw (blk_below (g := gb542) (o := .cells #[.slice Ao59 t538.length co59] 24 (0, 0)) (Zb BK542.out) hb)
         have n16_ := Zw (blk_below (g := gb547) (o := .cells #[.slice Ao71 t543.length co71] 24 (0, 0)) (Zb BK547.out) hb)
         have n17_ := Zw (blk_below (g := gb552) (o := .cells #[.slice Ao83 t548.length co83] 24 (0, 0)) (Zb BK552.out) hb)
         have n18_ := Zw (below_step (by repeat (first | (with_reducible first | exact HB.out | apply below_alloc | apply pw_below_drewN | apply below_drew1 | refine below_set ?_ GE518.out | refine below_set ?_ GE526.out | refine below_set ?_ GE527.out | refine below_set ?_ GE532.out | refine below_set ?_ GE537.out | refine below_set ?_ GE542.out | refine below_set ?_ GE547.out | refine below_set ?_ GE552.out) | exact HB.out)) hb)
         clear HO_527000
         clear HO_528000
         clear HO_533001
         clear HO_538000
         clear HO_543000
         clear HO_548000
         clear HO_553000
         clear HO557
         clear HO560
         clear BK518
         clear BK526
         clear BK527
         clear BK532
         clear BK537
         clear BK542
         clear BK547
         clear BK552
         clear HB
         have HO_527000 := n0_
         have HO_528000 := n1_
         have HO_533001 := n2_
         have HO_538000 := n3_
         have HO_543000 := n4_
         have HO_548000 := n5_
         have HO_553000 := n6_
         have HO557 := n7_
         have HO560 := n8_
         have HO564 := n9_
         have BK518 := n10_
         have BK526 := n11_
         have BK527 := n12_
         have BK532 := n13_
         have BK537 := n14_
         have BK542 := n15_
         have BK547 := n16_
         have BK552 := n17_
         have HB := n18_
         clear n0_ n1_ n2_ n3_ n4_ n5_ n6_ n7_ n8_ n9_ n10_ n11_ n12_ n13_ n14_ n15_ n16_ n17_ n18_
         (try clear hb)
         (try clear hb2)
         (try clear hk)
         (try clear hi)
         (try clear ho0)
         refine hK.out _ _ ⟨(blk_cell BK526.out 0).trans rfl, (blk_cell BK532.out 0).trans rfl, (blk_cell BK532.out 1).trans rfl, (blk_cell BK527.out 0).trans rfl⟩ (fun hHeld => ?_)
         clear hK K
         refine norm_ (a' := ?_) ?_ ?_
         rotate_left
         ·show Act.put _ (some 89) _ = _
          simp only [Act.put, zsA, zsZ, zsS, i64_w, i32_w]
          rfl
         refine one_ (i := 15) (N := some 93) #[true, true, true, true, true, true, true, true, true, true, true, true, true, true, true, true, false, false, false, false, false, false, false, false, false, false, false, false, false, false, false] rfl rfl (one_of HT_.out (by kernel_rfl)) (by decide) (fun K hK => ?_)
         refine goes_ Try.func29 (by kernel_rfl) rfl #[.agg #[.slice Ao25 t520.length co25], .int .i64 (wrap64 (t528 * 64))] (by rfl) rfl rfl Zm ?_
         with_reducible refine (debuggerref25_Without.calls kj17 _ _ t520 (wrap64 (t528 * 64)) t565 _ ?side1 ?side2 A147.out).mono ?_
         (case side1 => exact Zc ((Kd.N_reads' HO_527000.out).2.2))
         (case side2 => exact (Kd.N_reads' HO_527000.out).2.1)
         rintro e w162 ⟨v566, rfl, ho0, hb⟩
         refine ⟨_, rfl, ?_⟩
         have n0_ := Zw (Kd.N_elder' (ZN HO_527000.out) (by first | exact Kd.N_base ho0 | exact Kd.S_base ho0 | exact Kd.R_base ho0 | exact Kd.N_base ho0) hb)
         have n1_ := Zw (Kd.N_elder' (ZN HO_528000.out) (by first | exact Kd.N_base ho0 | exact Kd.S_base ho0 | exact Kd.R_base ho0 | exact Kd.N_base ho0) hb)
         have n2_ := Zw (Kd.R_below (ZR HO_533001.out) hb)
         have n3_ := Zw (Kd.N_elder' (ZN HO_538000.out) (by first | exact Kd.N_base ho0 | exact Kd.S_base ho0 | exact Kd.R_base ho0 | exact Kd.N_base ho0) hb)
         have n4_ := Zw (Kd.N_elder' (ZN HO_543000.out) (by first | exact Kd.N_base ho0 | exact Kd.S_base ho0 | exact Kd.R_base ho0 | exact Kd.N_base ho0) hb)
         have n5_ := Zw (Kd.N_elder' (ZN HO_548000.out) (by first | exact Kd.N_base ho0 | exact Kd.S_base ho0 | exact Kd.R_base ho0 | exact Kd.N_base ho0) hb)
         have n6_ := Zw (Kd.N_elder' (ZN HO_553000.out) (by first | exact Kd.N_base ho0 | exact Kd.S_base ho0 | exact Kd.R_base ho0 | exact Kd.N_base ho0) hb)
         have n7_ := Zw (Kd.N_elder' (ZN HO557.out) (by first | exact Kd.N_base ho0 | exact Kd.S_base ho0 | exact Kd.R_base ho0 | exact Kd.N_base ho0) hb)
         have n8_ := Zw (Kd.N_elder' (ZN HO560.out) (by first | exact Kd.N_base ho0 | exact Kd.S_base ho0 | exact Kd.R_base ho0 | exact Kd.N_base ho0) hb)
         have n9_ := Zw (Kd.N_elder' (ZN HO564.out) (by first | exact Kd.N_base ho0 | exact Kd.S_base ho0 | exact Kd.R_base ho0 | exact Kd.N_base ho0) hb)
         have n10_ := Zw (Kd.N_lower (Kd.N_mono (ok' := fun k_ => some k_ ≠ (.slice Ao25 t520.length co25 : Value).ownBlock ∧ some k_ ≠ (.slice Ao29 t523.length co29 : Value).ownBlock ∧ some k_ ≠ (.slice Ao40 y529.length co40 : Value).ownBlock ∧ some k_ ≠ (.slice Ao49 t533.length co49 : Value).ownBlock ∧ some k_ ≠ (.slice Ao59 t538.length co59 : Value).ownBlock ∧ some k_ ≠ (.slice Ao71 t543.length co71 : Value).ownBlock ∧ some k_ ≠ (.slice Ao83 t548.length co83 : Value).ownBlock ∧ some k_ ≠ (.slice Ao158 t555.length co158 : Value).ownBlock ∧ some k_ ≠ (.slice Ao159 t558.length co159 : Value).ownBlock ∧ some k_ ≠ (v563 : Value).ownBlock ∧ k_ ≠ gb518 ∧ k_ ≠ gb526 ∧ k_ ≠ gb527 ∧ k_ ≠ gb532 ∧ k_ ≠ gb537 ∧ k_ ≠ gb542 ∧ k_ ≠ gb547 ∧ k_ ≠ gb552) ho0 (fun k_ hk_ => ⟨(Kd.fresh' (Kd.N_lt (ZN HO_527000.out)) k_ hk_), (Kd.fresh' (Kd.N_lt (ZN HO_528000.out)) k_ hk_), (Kd.fresh' (Kd.R_lt (ZR HO_533001.out)) k_ hk_), (Kd.fresh' (Kd.N_lt (ZN HO_538000.out)) k_ hk_), (Kd.fresh' (Kd.N_lt (ZN HO_543000.out)) k_ hk_), (Kd.fresh' (Kd.N_lt (ZN HO_548000.out)) k_ hk_), (Kd.fresh' (Kd.N_lt (ZN HO_553000.out)) k_ hk_), (Kd.fresh' (Kd.N_lt (ZN HO557.out)) k_ hk_), (Kd.fresh' (Kd.N_lt (ZN HO560.out)) k_ hk_), (Kd.fresh' (Kd.N_lt (ZN HO564.out)) k_ hk_), (Kd.freshB (g := gb518) (o := .cells #[.int .i64 a2_0, .slice A2_1 l2_1.length c2_1] 31 (0, 0)) (Zb BK518.out) k_ hk_), (Kd.freshB (g := gb526) (o := .cells #[.slice Ao25 t520.length co25] 24 (0, 0)) (Zb BK526.out) k_ hk_), (Kd.freshB (g := gb527) (o := .cells #[.slice Ao29 t523.length co29] 24 (0, 0)) (Zb BK527.out) k_ hk_), (Kd.freshB (g := gb532) (o := .cells #[.int .i64 (wrap64 (t528 * 64)), .slice Ao40 y529.length co40] 31 (0, 0)) (Zb BK532.out) k_ hk_), (Kd.freshB (g := gb537) (o := .cells #[.slice Ao49 t533.length co49] 24 (0, 0)) (Zb BK537.out) k_ hk_), (Kd.freshB (g := gb542) (o := .cells #[.slice Ao59 t538.length co59] 24 (0, 0)) (Zb BK542.out) k_ hk_), (Kd.freshB (g := gb547) (o := .cells #[.slice Ao71 t543.length co71] 24 (0, 0)) (Zb BK547.out) k_ hk_), (Kd.freshB (g := gb552) (o := .cells #[.slice Ao83 t548.length co83] 24 (0, 0)) (Zb BK552.out) k_ hk_)⟩)) (below_size (by repeat (first | (with_reducible first | exact HB.out | apply below_alloc | apply pw_below_drewN | apply below_drew1 | refine below_set ?_ GE518.out | refine below_set ?_ GE526.out | refine below_set ?_ GE527.out | refine below_set ?_ GE532.out | refine below_set ?_ GE537.out | refine below_set ?_ GE542.out | refine below_set ?_ GE547.out | refine below_set ?_ GE552.out) | exact HB.out))))
         have n11_ := Zw (blk_below (g := gb518) (o := .cells #[.int .i64 a2_0, .slice A2_1 l2_1.length c2_1] 31 (0, 0)) (Zb BK518.out) hb)
         have n12_ := Zw (blk_below (g := gb526) (o := .cells #[.slice Ao25 t520.length co25] 24 (0, 0)) (Zb BK526.out) hb)
         have n13_ := Zw (blk_below (g := gb527) (o := .cells #[.slice Ao29 t523.length co29] 24 (0, 0)) (Zb BK527.out) hb)
         have n14_ := Zw (blk_below (g := gb532) (o := .cells #[.int .i64 (wrap64 (t528 * 64)), .slice Ao40 y529.length co40] 31 (0, 0)) (Zb BK532.out) hb)
         have n15_ := Zw (blk_below (g := gb537) (o := .cells #[.slice Ao49 t533.length co49] 24 (0, 0)) (Zb BK537.out) hb)
         have n16_ := Zw (blk_below (g := gb542) (o := .cells #[.slice Ao59 t538.length co59] 24 (0, 0)) (Zb BK542.out) hb)
         have n17_ := Zw (blk_below (g := gb547) (o := .cells #[.slice Ao71 t543.length co71] 24 (0, 0)) (Zb BK547.out) hb)
         have n18_ := Zw (blk_below (g := gb552) (o := .cells #[.slice Ao83 t548.length co83] 24 (0, 0)) (Zb BK552.out) hb)
         have n19_ := Zw (below_step (by repeat (first | (with_reducible first | exact HB.out | apply below_alloc | apply pw_below_drewN | apply below_drew1 | refine below_set ?_ GE518.out | refine below_set ?_ GE526.out | refine below_set ?_ GE527.out | refine below_set ?_ GE532.out | refine below_set ?_ GE537.out | refine below_set ?_ GE542.out | refine below_set ?_ GE547.out | refine below_set ?_ GE552.out) | exact HB.out)) hb)
         clear HO_527000
         clear HO_528000
         clear HO_533001
         clear HO_538000
         clear HO_543000
         clear HO_548000
         clear HO_553000
         clear HO557
         clear HO560
         clear HO564
         clear BK518
         clear BK526
         clear BK527
         clear BK532
         clear BK537
         clear BK542
         clear BK547
         clear BK552
         clear HB
         have HO_527000 := n0_
         have HO_528000 := n1_
         have HO_533001 := n2_
         have HO_538000 := n3_
         have HO_543000 := n4_
         have HO_548000 := n5_
         have HO_553000 := n6_
         have HO557 := n7_
         have HO560 := n8_
         have HO564 := n9_
         have HO567 := n10_
         have BK518 := n11_
         have BK526 := n12_
         have BK527 := n13_
         have BK532 := n14_
         have BK537 := n15_
         have BK542 := n16_
         have BK547 := n17_
         have BK552 := n18_
         have HB := n19_
         clear n0_ n1_ n2_ n3_ n4_ n5_ n6_ n7_ n8_ n9_ n10_ n11_ n12_ n13_ n14_ n15_ n16_ n17_ n18_ n19_
         (try clear hb)
         (try clear hb2)
         (try clear hk)
         (try clear hi)
         (try clear ho0)
         obtain ⟨Ao163, co163, eo163⟩ := Kd.N_slice HO564.out
         (first | subst eo163 | (injection eo163 with f1_ f2_ f3_; have f4_ := f1_.symm; have f5_ := f3_.symm; clear f1_ f2_ f3_; subst f4_; subst f5_))
         obtain ⟨Ao164, co164, eo164⟩ := Kd.N_slice HO567.out
         (first | subst eo164 | (injection eo164 with f1_ f2_ f3_; have f4_ := f1_.symm; have f5_ := f3_.symm; clear f1_ f2_ f3_; subst f4_; subst f5_))
         refine hK.out _ _ ⟨(blk_cell BK526.out 0).trans rfl, (blk_cell BK532.out 0).trans rfl, (blk_cell BK532.out 1).trans rfl, (blk_cell BK527.out 0).trans rfl⟩ (fun hHeld => ?_)
         clear hK K
         refine norm_ (a' := ?_) ?_ ?_
         rotate_left
         ·show Act.put _ (some 93) _ = _
          simp only [Act.put, zsA, zsZ, zsS, i64_w, i32_w]
          rfl
         refine one_ (i := 16) (N := some 94) #[true, true, true, true, true, true, true, true, true, true, true, true, true, true, true, true, true, false, false, false, false, false, false, false, false, false, false, false, false, false, false] rfl rfl (one_of HT_.out (by kernel_rfl)) (by decide) (fun K hK => ?_)
         refine goes_ Try.func16 (by kernel_rfl) rfl #[.agg #[.slice Ao163 t562.length co163], .agg #[.slice Ao164 t565.length co164]] (by rfl) rfl rfl Zm ?_
         with_reducible refine (debuggerref25_Same.calls kj17 _ _ t562 _ _ t565 true _ ?side1 ?side2 ?side3 ?side4 A148.out).mono ?_
         (case side1 => exact Zc ((Kd.N_reads' HO564.out).2.2))
         (case side2 => exact (Kd.N_reads' HO564.out).2.1)
         (case side3 => exact Zc ((Kd.N_reads' HO567.out).2.2))
         (case side4 => exact (Kd.N_reads' HO567.out).2.1)
         rintro e w165 ⟨rfl, hb⟩
         refine ⟨_, rfl, ?_⟩
         have n0_ := Zw (Kd.N_below (ZN HO_527000.out) hb)
         have n1_ := Zw (Kd.N_below (ZN HO_528000.out) hb)
         have n2_ := Zw (Kd.R_below (ZR HO_533001.out) hb)
         have n3_ := Zw (Kd.N_below (ZN HO_538000.out) hb)
         have n4_ := Zw (Kd.N_below (ZN HO_543000.out) hb)
         have n5_ := Zw (Kd.N_below (ZN HO_548000.out) hb)
         have n6_ := Zw (Kd.N_below (ZN HO_553000.out) hb)
         have n7_ := Zw (Kd.N_below (ZN HO557.out) hb)
         have n8_ := Zw (Kd.N_below (ZN HO560.out) hb)
         have n9_ := Zw (Kd.N_below (ZN HO564.out) hb)
         have n10_ := Zw (Kd.N_below (ZN HO567.out) hb)
         have n11_ := Zw (blk_below (g := gb518) (o := .cells #[.int .i64 a2_0, .slice A2_1 l2_1.length c2_1] 31 (0, 0)) (Zb BK518.out) hb)
         have n12_ := Zw (blk_below (g := gb526) (o := .cells #[.slice Ao25 t520.length co25] 24 (0, 0)) (Zb BK526.out) hb)
         have n13_ := Zw (blk_below (g := gb527) (o := .cells #[.slice Ao29 t523.length co29] 24 (0, 0)) (Zb BK527.out) hb)
         have n14_ := Zw (blk_below (g := gb532) (o := .cells #[.int .i64 (wrap64 (t528 * 64)), .slice Ao40 y529.length co40] 31 (0, 0)) (Zb BK532.out) hb)
         have n15_ := Zw (blk_below (g := gb537) (o := .cells #[.slice Ao49 t533.length co49] 24 (0, 0)) (Zb BK537.out) hb)
         have n16_ := Zw (blk_below (g := gb542) (o := .cells #[.slice Ao59 t538.length co59] 24 (0, 0)) (Zb BK542.out) hb)
         have n17_ := Zw (blk_below (g := gb547) (o := .cells #[.slice Ao71 t543.length co71] 24 (0, 0)) (Zb BK547.out) hb)
         have n18_ := Zw (blk_below (g := gb552) (o := .cells #[.slice Ao83 t548.length co83] 24 (0, 0)) (Zb BK552.out) hb)
         have n19_ := Zw (below_step (by repeat (first | (with_reducible first | exact HB.out | apply below_alloc | apply pw_below_drewN | apply below_drew1 | refine below_set ?_ GE518.out | refine below_set ?_ GE526.out | refine below_set ?_ GE527.out | refine below_set ?_ GE532.out | refine below_set ?_ GE537.out | refine below_set ?_ GE542.out | refine below_set ?_ GE547.out | refine below_set ?_ GE552.out) | exact HB.out)) hb)
         clear HO_527000
         clear HO_528000
         clear HO_533001
         clear HO_538000
         clear HO_543000
         clear HO_548000
         clear HO_553000
         clear HO557
         clear HO560
         clear HO564
         clear HO567
         clear BK518
         clear BK526
         clear BK527
         clear BK532
         clear BK537
         clear BK542
         clear BK547
         clear BK552
         clear HB
         have HO_527000 := n0_
         have HO_528000 := n1_
         have HO_533001 := n2_
         have HO_538000 := n3_
         have HO_543000 := n4_
         have HO_548000 := n5_
         have HO_553000 := n6_
         have HO557 := n7_
         have HO560 := n8_
         have HO564 := n9_
         have HO567 := n10_
         have BK518 := n11_
         have BK526 := n12_
         have BK527 := n13_
         have BK532 := n14_
         have BK537 := n15_
         have BK542 := n16_
         have BK547 := n17_
         have BK552 := n18_
         have HB := n19_
         clear n0_ n1_ n2_ n3_ n4_ n5_ n6_ n7_ n8_ n9_ n10_ n11_ n12_ n13_ n14_ n15_ n16_ n17_ n18_ n19_
         (try clear hb)
         (try clear hb2)
         (try clear hk)
         (try clear hi)
         refine hK.out _ _ ⟨(blk_cell BK526.out 0).trans rfl, (blk_cell BK532.out 0).trans rfl, (blk_cell BK532.out 1).trans rfl, (blk_cell BK527.out 0).trans rfl⟩ (fun hHeld => ?_)
         clear hK K
         refine norm_ (a' := ?_) ?_ ?_
         rotate_left
         ·show Act.put _ (some 94) _ = _
          simp only [Act.put, zsA, zsZ, zsS, i64_w, i32_w]
          rfl
         refine pure_ (i := 17) (N := some 95) (v := ?_) (a' := ?_) #[true, true, true, true, true, true, true, true, true, true, true, true, true, true, true, true, true, true, false, false, false, false, false, false, false, false, false, false, false, false, false] rfl rfl (any_of HT_.out (by kernel_rfl)) (fun _ _ _ h => h) (Or.inl ⟨by rfl, ?_⟩) ?_ ?_
         rotate_left
         ·intro w'
          go_simp
          with_reducible rfl
         rotate_left
         ·simp only [Act.put, zsA, zsZ, zsS, i64_w, i32_w]
          rfl
         refine pure_ (i := 18) (N := some 96) (v := ?_) (a' := ?_) #[true, true, true, true, true, true, true, true, true, true, true, true, true, true, true, true, true, true, true, false, false, false, false, false, false, false, false, false, false, false, false] rfl rfl (any_of HT_.out (by kernel_rfl)) (fun _ _ _ h => h) (Or.inl ⟨by rfl, ?_⟩) ?_ ?_
         rotate_left
         ·intro w'
          go_simp
          with_reducible rfl
         rotate_left
         ·simp only [Act.put, zsA, zsZ, zsS, i64_w, i32_w]
          rfl
         refine take_ (i := 19) (N := some 97) (v := ?_) (a' := ?_) #[true, true, true, true, true, true, true, true, true, true, true, true, true, true, true, true, true, true, true, true, false, false, false, false, false, false, false, false, false, false, false] rfl rfl (take_ofW HT_.out HW_.out (by kernel_rfl)) (fun _ _ _ h => h) (Or.inl ⟨by rfl, ?_⟩) hHeld ?_ ?_
         rotate_left
         ·rintro w' ⟨s0, s1, s2, s3⟩
          go_simp
          with_reducible rfl
         rotate_left
         ·simp only [Act.put, zsA, zsZ, zsS, i64_w, i32_w]
          rfl
         refine take_ (i := 20) (N := some 98) (v := ?_) (a' := ?_) #[true, true, true, true, true, true, true, true, true, true, true, true, true, true, true, true, true, true, true, true, true, false, false, false, false, false, false, false, false, false, false] rfl rfl (take_ofW HT_.out HW_.out (by kernel_rfl)) (fun _ _ _ h => h) (Or.inl ⟨by rfl, ?_⟩) hHeld ?_ ?_
         rotate_left
         ·rintro w' ⟨s0, s1, s2, s3⟩
          go_simp
          with_reducible rfl
         rotate_left
         ·simp only [Act.put, zsA, zsZ, zsS, i64_w, i32_w]
          rfl
         refine take_ (i := 22) (N := some 100) (v := ?_) (a' := ?_) #[true, true, true, true, true, true, true, true, true, true, true, true, true, true, true, true, true, true, true, true, true, false, true, false, false, false, false, false, false, false, false] rfl rfl (take_ofW HT_.out HW_.out (by kernel_rfl)) (fun _ _ _ h => h) (Or.inl ⟨by rfl, ?_⟩) hHeld ?_ ?_
         rotate_left
         ·rintro w' ⟨s0, s1, s2, s3⟩
          go_simp
          with_reducible rfl
         rotate_left
         ·simp only [Act.put, zsA, zsZ, zsS, i64_w, i32_w]
          rfl
         refine take_ (i := 23) (N := some 101) (v := ?_) (a' := ?_) #[true, true, true, true, true, true, true, true, true, true, true, true, true, true, true, true, true, true, true, true, true, false, true, true, false, false, false, false, false, false, false] rfl rfl (take_ofW HT_.out HW_.out (by kernel_rfl)) (fun _ _ _ h => h) (Or.inl ⟨by rfl, ?_⟩) hHeld ?_ ?_
         rotate_left
         ·rintro w' ⟨s0, s1, s2, s3⟩
          go_simp
          with_reducible rfl
         rotate_left
         ·simp only [Act.put, zsA, zsZ, zsS, i64_w, i32_w]
          rfl
         refine one_ (i := 21) (N := some 99) #[true, true, true, true, true, true, true, true, true, true, true, true, true, true, true, true, true, true, true, true, true, true, true, true, false, false, false, false, false, false, false] rfl rfl (one_of HT_.out (by kernel_rfl)) (by decide) (fun K hK => ?_)
         refine goes_ Try.func30 (by kernel_rfl) rfl #[.agg #[.slice Ao25 t520.length co25], .agg #[.slice Ao29 t523.length co29]] (by rfl) rfl rfl Zm ?_
         with_reducible refine (memory_Changed.calls kj17 _ _ t520 _ _ t523 t569 _ ?side1 ?side2 ?side3 ?side4 A150.out).mono ?_
         (case side1 => exact Zc ((Kd.N_reads' HO_527000.out).2.2))
         (case side2 => exact (Kd.N_reads' HO_527000.out).2.1)
         (case side3 => exact Zc ((Kd.N_reads' HO_528000.out).2.2))
         (case side4 => exact (Kd.N_reads' HO_528000.out).2.1)
         rintro e w166 ⟨v570, rfl, ho0, hb⟩
         refine ⟨_, rfl, ?_⟩
         have n0_ := Zw (Kd.N_elder' (ZN HO_527000.out) (by first | exact Kd.R_base ho0 | exact Kd.S_base ho0 | exact Kd.R_base ho0 | exact Kd.N_base ho0) hb)
         have n1_ := Zw (Kd.N_elder' (ZN HO_528000.out) (by first | exact Kd.R_base ho0 | exact Kd.S_base ho0 | exact Kd.R_base ho0 | exact Kd.N_base ho0) hb)
         have n2_ := Zw (Kd.R_elder' (ZR HO_533001.out) (by first | exact Kd.R_base ho0 | exact Kd.S_base ho0 | exact Kd.R_base ho0 | exact Kd.N_base ho0) hb)
         have n3_ := Zw (Kd.N_elder' (ZN HO_538000.out) (by first | exact Kd.R_base ho0 | exact Kd.S_base ho0 | exact Kd.R_base ho0 | exact Kd.N_base ho0) hb)
         have n4_ := Zw (Kd.N_elder' (ZN HO_543000.out) (by first | exact Kd.R_base ho0 | exact Kd.S_base ho0 | exact Kd.R_base ho0 | exact Kd.N_base ho0) hb)
         have n5_ := Zw (Kd.N_elder' (ZN HO_548000.out) (by first | exact Kd.R_base ho0 | exact Kd.S_base ho0 | exact Kd.R_base ho0 | exact Kd.N_base ho0) hb)
         have n6_ := Zw (Kd.N_elder' (ZN HO_553000.out) (by first | exact Kd.R_base ho0 | exact Kd.S_base ho0 | exact Kd.R_base ho0 | exact Kd.N_base ho0) hb)
         have n7_ := Zw (Kd.N_elder' (ZN HO557.out) (by first | exact Kd.R_base ho0 | exact Kd.S_base ho0 | exact Kd.R_base ho0 | exact Kd.N_base ho0) hb)
         have n8_ := Zw (Kd.N_elder' (ZN HO560.out) (by first | exact Kd.R_base ho0 | exact Kd.S_base ho0 | exact Kd.R_base ho0 | exact Kd.N_base ho0) hb)
         have n9_ := Zw (Kd.N_elder' (ZN HO564.out) (by first | exact Kd.R_base ho0 | exact Kd.S_base ho0 | exact Kd.R_base ho0 | exact Kd.N_base ho0) hb)
         have n10_ := Zw (Kd.N_elder' (ZN HO567.out) (by first | exact Kd.R_base ho0 | exact Kd.S_base ho0 | exact Kd.R_base ho0 | exact Kd.N_base ho0) hb)
         have n11_ := Zw (Kd.R_lower (Kd.R_new' ho0 (Kd.R_lt (ZR HO_533001.out))) (below_size (by repeat (first | (with_reducible first | exact HB.out | apply below_alloc | apply pw_below_drewN | apply below_drew1 | refine below_set ?_ GE518.out | refine below_set ?_ GE526.out | refine below_set ?_ GE527.out | refine below_set ?_ GE532.out | refine below_set ?_ GE537.out | refine below_set ?_ GE542.out | refine below_set ?_ GE547.out | refine below_set ?_ GE552.out) | exact HB.out))))
         have n12_ := Zw (blk_below (g := gb518) (o := .cells #[.int .i64 a2_0, .slice A2_1 l2_1.length c2_1] 31 (0, 0)) (Zb BK518.out) hb)
         have n13_ := Zw (blk_below (g := gb526) (o := .cells #[.slice Ao25 t520.length co25] 24 (0, 0)) (Zb BK526.out) hb)
         have n14_ := Zw (blk_below (g := gb527) (o := .cells #[.slice Ao29 t523.length co29] 24 (0, 0)) (Zb BK527.out) hb)
         have n15_ := Zw (blk_below (g := gb532) (o := .cells #[.int .i64 (wrap64 (t528 * 64)), .slice Ao40 y529.length co40] 31 (0, 0)) (Zb BK532.out) hb)
         have n16_ := Zw (blk_below (g := gb537) (o := .cells #[.slice Ao49 t533.length co49] 24 (0, 0)) (Zb BK537.out) hb)
         have n17_ := Zw (blk_below (g := gb542) (o := .cells #[.slice Ao59 t538.length co59] 24 (0, 0)) (Zb BK542.out) hb)
         have n18_ := Zw (blk_below (g := gb547) (o := .cells #[.slice Ao71 t543.length co71] 24 (0, 0)) (Zb BK547.out) hb)
         have n19_ := Zw (blk_below (g := gb552) (o := .cells #[.slice Ao83 t548.length co83] 24 (0, 0)) (Zb BK552.out) hb)
         have n20_ := Zw (below_step (by repeat (first | (with_reducible first | exact HB.out | apply below_alloc | apply pw_below_drewN | apply below_drew1 | refine below_set ?_ GE518.out | refine below_set ?_ GE526.out | refine below_set ?_ GE527.out | refine below_set ?_ GE532.out | refine below_set ?_ GE537.out | refine below_set ?_ GE542.out | refine below_set ?_ GE547.out | refine below_set ?_ GE552.out) | exact HB.out)) hb)
         clear HO_527000
         clear HO_528000
         clear HO_533001
         clear HO_538000
         clear HO_543000
         clear HO_548000
         clear HO_553000
         clear HO557
         clear HO560
         clear HO564
         clear HO567
         clear BK518
         clear BK526
         clear BK527
         clear BK532
         clear BK537
         clear BK542
         clear BK547
         clear BK552
         clear HB
         have HO_527000 := n0_
         have HO_528000 := n1_
         have HO_533001 := n2_
         have HO_538000 := n3_
         have HO_543000 := n4_
         have HO_548000 := n5_
         have HO_553000 := n6_
         have HO557 := n7_
         have HO560 := n8_
         have HO564 := n9_
         have HO567 := n10_
         have HO571 := n11_
         have BK518 := n12_
         have BK526 := n13_
         have BK527 := n14_
         have BK532 := n15_
         have BK537 := n16_
         have BK542 := n17_
         have BK547 := n18_
         have BK552 := n19_
         have HB := n20_
         clear n0_ n1_ n2_ n3_ n4_ n5_ n6_ n7_ n8_ n9_ n10_ n11_ n12_ n13_ n14_ n15_ n16_ n17_ n18_ n19_ n20_
         (try clear hb)
         (try clear hb2)
         (try clear hk)
         (try clear hi)
         (try clear ho0)
         refine hK.out _ _ ⟨(blk_cell BK526.out 0).trans rfl, (blk_cell BK532.out 0).trans rfl, (blk_cell BK532.out 1).trans rfl, (blk_cell BK527.out 0).trans rfl⟩ (fun hHeld => ?_)
         clear hK K
         refine norm_ (a' := ?_) ?_ ?_
         rotate_left
         ·show Act.put _ (some 99) _ = _
          simp only [Act.put, zsA, zsZ, zsS, i64_w, i32_w]
          rfl
         refine one_ (i := 24) (N := some 102) #[true, true, true, true, true, true, true, true, true, true, true, true, true, true, true, true, true, true, true, true, true, true, true, true, true, false, false, false, false, false, false] rfl rfl (one_of HT_.out (by kernel_rfl)) (by decide) (fun K hK => ?_)
         refine goes_ Try.func31 (by kernel_rfl) rfl #[.agg #[.slice Ao25 t520.length co25], .agg #[.slice Ao29 t523.length co29]] (by rfl) rfl rfl Zm ?_
         with_reducible refine (debuggerref25_Changed.calls kj17 _ _ t520 _ _ t523 t572 _ ?side1 ?side2 ?side3 ?side4 A151.out).mono ?_
         (case side1 => exact Zc ((Kd.N_reads' HO_527000.out).2.2))
         (case side2 => exact (Kd.N_reads' HO_527000.out).2.1)
         (case side3 => exact Zc ((Kd.N_reads' HO_528000.out).2.2))
         (case side4 => exact (Kd.N_reads' HO_528000.out).2.1)
         rintro e w167 ⟨v573, rfl, ho0, hb⟩
         refine ⟨_, rfl, ?_⟩
         have n0_ := Zw (Kd.N_elder' (ZN HO_527000.out) (by first | exact Kd.R_base ho0 | exact Kd.S_base ho0 | exact Kd.R_base ho0 | exact Kd.N_base ho0) hb)
         have n1_ := Zw (Kd.N_elder' (ZN HO_528000.out) (by first | exact Kd.R_base ho0 | exact Kd.S_base ho0 | exact Kd.R_base ho0 | exact Kd.N_base ho0) hb)
         have n2_ := Zw (Kd.R_elder' (ZR HO_533001.out) (by first | exact Kd.R_base ho0 | exact Kd.S_base ho0 | exact Kd.R_base ho0 | exact Kd.N_base ho0) hb)
         have n3_ := Zw (Kd.N_elder' (ZN HO_538000.out) (by first | exact Kd.R_base ho0 | exact Kd.S_base ho0 | exact Kd.R_base ho0 | exact Kd.N_base ho0) hb)
         have n4_ := Zw (Kd.N_elder' (ZN HO_543000.out) (by first | exact Kd.R_base ho0 | exact Kd.S_base ho0 | exact Kd.R_base ho0 | exact Kd.N_base ho0) hb)
         have n5_ := Zw (Kd.N_elder' (ZN HO_548000.out) (by first | exact Kd.R_base ho0 | exact Kd.S_base ho0 | exact Kd.R_base ho0 | exact Kd.N_base ho0) hb)
         have n6_ := Zw (Kd.N_elder' (ZN HO_553000.out) (by first | exact Kd.R_base ho0 | exact Kd.S_base ho0 | exact Kd.R_base ho0 | exact Kd.N_base ho0) hb)
         have n7_ := Zw (Kd.N_elder' (ZN HO557.out) (by first | exact Kd.R_base ho0 | exact Kd.S_base ho0 | exact Kd.R_base ho0 | exact Kd.N_base ho0) hb)
         have n8_ := Zw (Kd.N_elder' (ZN HO560.out) (by first | exact Kd.R_base ho0 | exact Kd.S_base ho0 | exact Kd.R_base ho0 | exact Kd.N_base ho0) hb)
         have n9_ := Zw (Kd.N_elder' (ZN HO564.out) (by first | exact Kd.R_base ho0 | exact Kd.S_base ho0 | exact Kd.R_base ho0 | exact Kd.N_base ho0) hb)
         have n10_ := Zw (Kd.N_elder' (ZN HO567.out) (by first | exact Kd.R_base ho0 | exact Kd.S_base ho0 | exact Kd.R_base ho0 | exact Kd.N_base ho0) hb)
         have n11_ := Zw (Kd.R_elder' (ZR HO571.out) (by first | exact Kd.R_base ho0 | exact Kd.S_base ho0 | exact Kd.R_base ho0 | exact Kd.N_base ho0) hb)
         have n12_ := Zw (Kd.R_lower (Kd.R_new' (Kd.R_new' ho0 (Kd.R_lt (ZR HO_533001.out))) (Kd.R_lt (ZR HO571.out))) (below_size (by repeat (first | (with_reducible first | exact HB.out | apply below_alloc | apply pw_below_drewN | apply below_drew1 | refine below_set ?_ GE518.out | refine below_set ?_ GE526.out | refine below_set ?_ GE527.out | refine below_set ?_ GE532.out | refine below_set ?_ GE537.out | refine below_set ?_ GE542.out | refine below_set ?_ GE547.out | refine below_set ?_ GE552.out) | exact HB.out))))
         have n13_ := Zw (blk_below (g := gb518) (o := .cells #[.int .i64 a2_0, .slice A2_1 l2_1.length c2_1] 31 (0, 0)) (Zb BK518.out) hb)
         have n14_ := Zw (blk_below (g := gb526) (o := .cells #[.slice Ao25 t520.length co25] 24 (0, 0)) (Zb BK526.out) hb)
         have n15_ := Zw (blk_below (g := gb527) (o := .cells #[.slice Ao29 t523.length co29] 24 (0, 0)) (Zb BK527.out) hb)
         have n16_ := Zw (blk_below (g := gb532) (o := .cells #[.int .i64 (wrap64 (t528 * 64)), .slice Ao40 y529.length co40] 31 (0, 0)) (Zb BK532.out) hb)
         have n17_ := Zw (blk_below (g := gb537) (o := .cells #[.slice Ao49 t533.length co49] 24 (0, 0)) (Zb BK537.out) hb)
         have n18_ := Zw (blk_below (g := gb542) (o := .cells #[.slice Ao59 t538.length co59] 24 (0, 0)) (Zb BK542.out) hb)
         have n19_ := Zw (blk_below (g := gb547) (o := .cells #[.slice Ao71 t543.length co71] 24 (0, 0)) (Zb BK547.out) hb)
         have n20_ := Zw (blk_below (g := gb552) (o := .cells #[.slice Ao83 t548.length co83] 24 (0, 0)) (Zb BK552.out) hb)
         have n21_ := Zw (below_step (by repeat (first | (with_reducible first | exact HB.out | apply below_alloc | apply pw_below_drewN | apply below_drew1 | refine below_set ?_ GE518.out | refine below_set ?_ GE526.out | refine below_set ?_ GE527.out | refine below_set ?_ GE532.out | refine below_set ?_ GE537.out | refine below_set ?_ GE542.out | refine below_set ?_ GE547.out | refine below_set ?_ GE552.out) | exact HB.out)) hb)
         clear HO_527000
         clear HO_528000
         clear HO_533001
         clear HO_538000
         clear HO_543000
         clear HO_548000
         clear HO_553000
         clear HO557
         clear HO560
         clear HO564
         clear HO567
         clear HO571
         clear BK518
         clear BK526
         clear BK527
         clear BK532
         clear BK537
         clear BK542
         clear BK547
         clear BK552
         clear HB
         have HO_527000 := n0_
         have HO_528000 := n1_
         have HO_533001 := n2_
         have HO_538000 := n3_
         have HO_543000 := n4_
         have HO_548000 := n5_
         have HO_553000 := n6_
         have HO557 := n7_
         have HO560 := n8_
         have HO564 := n9_
         have HO567 := n10_
         have HO571 := n11_
         have HO574 := n12_
         have BK518 := n13_
         have BK526 := n14_
         have BK527 := n15_
         have BK532 := n16_
         have BK537 := n17_
         have BK542 := n18_
         have BK547 := n19_
         have BK552 := n20_
         have HB := n21_
         clear n0_ n1_ n2_ n3_ n4_ n5_ n6_ n7_ n8_ n9_ n10_ n11_ n12_ n13_ n14_ n15_ n16_ n17_ n18_ n19_ n20_ n21_
         (try clear hb)
         (try clear hb2)
         (try clear hk)
         (try clear hi)
         (try clear ho0)
         obtain ⟨Ao168, co168, eo168⟩ := Kd.R_slice HO571.out
         (first | subst eo168 | (injection eo168 with f1_ f2_ f3_; have f4_ := f1_.symm; have f5_ := f3_.symm; clear f1_ f2_ f3_; subst f4_; subst f5_))
         obtain ⟨Ao169, co169, eo169⟩ := Kd.R_slice HO574.out
         (first | subst eo169 | (injection eo169 with f1_ f2_ f3_; have f4_ := f1_.symm; have f5_ := f3_.symm; clear f1_ f2_ f3_; subst f4_; subst f5_))
         refine hK.out _ _ ⟨(blk_cell BK526.out 0).trans rfl, (blk_cell BK532.out 0).trans rfl, (blk_cell BK532.out 1).trans rfl, (blk_cell BK527.out 0).trans rfl⟩ (fun hHeld => ?_)
         clear hK K
         refine norm_ (a' := ?_) ?_ ?_
         rotate_left
         ·show Act.put _ (some 102) _ = _
          simp only [Act.put, zsA, zsZ, zsS, i64_w, i32_w]
          rfl
         refine one_ (i := 25) (N := some 103) #[true, true, true, true, true, true, true, true, true, true, true, true, true, true, true, true, true, true, true, true, true, true, true, true, true, true, false, false, false, false, false] rfl rfl (one_of HT_.out (by kernel_rfl)) (by decide) (fun K hK => ?_)
         refine goes_ Try.func25 (by kernel_rfl) rfl #[.slice Ao168 t569.length co168, .slice Ao169 t572.length co169] (by rfl) rfl rfl Zm ?_
         with_reducible refine (debuggerref25_Ints.calls kj17 _ _ t569 _ _ t572 true _ ?side1 ?side2 ?side3 ?side4 A152.out).mono ?_
         (case side1 => exact Zc ((Kd.R_reads' HO571.out).2.2))
         (case side2 => exact (Kd.R_reads' HO571.out).2.1)
         (case side3 => exact Zc ((Kd.R_reads' HO574.out).2.2))
         (case side4 => exact (Kd.R_reads' HO574.out).2.1)
         rintro e w' ⟨rfl, ⟨nd, rfl⟩⟩
         refine ⟨_, rfl, ?_⟩
         refine hK.out _ _ ⟨(blk_cell BK526.out 0).trans rfl, (blk_cell BK532.out 0).trans rfl, (blk_cell BK532.out 1).trans rfl, (blk_cell BK527.out 0).trans rfl⟩ (fun hHeld => ?_)
         clear hK K
         refine norm_ (a' := ?_) ?_ ?_
         rotate_left
         ·show Act.put _ (some 103) _ = _
          simp only [Act.put, zsA, zsZ, zsS, i64_w, i32_w]
          rfl
         refine pure_ (i := 26) (N := some 104) (v := ?_) (a' := ?_) #[true, true, true, true, true, true, true, true, true, true, true, true, true, true, true, true, true, true, true, true, true, true, true, true, true, true, true, false, false, false, false] rfl rfl (any_of HT_.out (by kernel_rfl)) (fun _ _ _ h => h) (Or.inl ⟨by rfl, ?_⟩) ?_ ?_
         rotate_left
         ·intro w'
          go_simp
          with_reducible rfl
         rotate_left
         ·simp only [Act.put, zsA, zsZ, zsS, i64_w, i32_w]
          rfl
         refine pure_ (i := 27) (N := some 105) (v := ?_) (a' := ?_) #[true, true, true, true, true, true, true, true, true, true, true, true, true, true, true, true, true, true, true, true, true, true, true, true, true, true, true, true, false, false, false] rfl rfl (any_of HT_.out (by kernel_rfl)) (fun _ _ _ h => h) (Or.inl ⟨by rfl, ?_⟩) ?_ ?_
         rotate_left
         ·intro w'
          go_simp
          with_reducible rfl
         rotate_left
         ·simp only [Act.put, zsA, zsZ, zsS, i64_w, i32_w]
          rfl
         refine one_ (i := 28) (N := some 106) #[true, true, true, true, true, true, true, true, true, true, true, true, true, true, true, true, true, true, true, true, true, true, true, true, true, true, true, true, true, false, false] rfl rfl (one_of HT_.out (by kernel_rfl)) (by decide) (fun K hK => ?_)
         refine goes_ Try.func11 (by kernel_rfl) rfl #[] (by rfl) rfl rfl Zm ?_
         with_reducible refine (debuggerlaw25_awake.calls kj17  t576 _ A154.out).mono ?_
         rintro e w170 ⟨rfl, hb⟩
         refine ⟨_, rfl, ?_⟩
         have n0_ := Zw (Kd.N_below (ZN HO_527000.out) hb)
         have n1_ := Zw (Kd.N_below (ZN HO_528000.out) hb)
         have n2_ := Zw (Kd.R_below (ZR HO_533001.out) hb)
         have n3_ := Zw (Kd.N_below (ZN HO_538000.out) hb)
         have n4_ := Zw (Kd.N_below (ZN HO_543000.out) hb)
         have n5_ := Zw (Kd.N_below (ZN HO_548000.out) hb)
         have n6_ := Zw (Kd.N_below (ZN HO_553000.out) hb)
         have n7_ := Zw (Kd.N_below (ZN HO557.out) hb)
         have n8_ := Zw (Kd.N_below (ZN HO560.out) hb)
         have n9_ := Zw (Kd.N_below (ZN HO564.out) hb)
         have n10_ := Zw (Kd.N_below (ZN HO567.out) hb)
         have n11_ := Zw (Kd.R_below (ZR HO571.out) hb)
         have n12_ := Zw (Kd.R_below (ZR HO574.out) hb)
         have n13_ := Zw (blk_below (g := gb518) (o := .cells #[.int .i64 a2_0, .slice A2_1 l2_1.length c2_1] 31 (0, 0)) (Zb BK518.out) hb)
         have n14_ := Zw (blk_below (g := gb526) (o := .cells #[.slice Ao25 t520.length co25] 24 (0, 0)) (Zb BK526.out) hb)
         have n15_ := Zw (blk_below (g := gb527) (o := .cells #[.slice Ao29 t523.length co29] 24 (0, 0)) (Zb BK527.out) hb)
         have n16_ := Zw (blk_below (g := gb532) (o := .cells #[.int .i64 (wrap64 (t528 * 64)), .slice Ao40 y529.length co40] 31 (0, 0)) (Zb BK532.out) hb)
         have n17_ := Zw (blk_below (g := gb537) (o := .cells #[.slice Ao49 t533.length co49] 24 (0, 0)) (Zb BK537.out) hb)
         have n18_ := Zw (blk_below (g := gb542) (o := .cells #[.slice Ao59 t538.length co59] 24 (0, 0)) (Zb BK542.out) hb)
         have n19_ := Zw (blk_below (g := gb547) (o := .cells #[.slice Ao71 t543.length co71] 24 (0, 0)) (Zb BK547.out) hb)
         have n20_ := Zw (blk_below (g := gb552) (o := .cells #[.slice Ao83 t548.length co83] 24 (0, 0)) (Zb BK552.out) hb)
         have n21_ := Zw (below_step (by repeat (first | (with_reducible first | exact HB.out | apply below_alloc | apply pw_below_drewN | apply below_drew1 | refine below_set ?_ GE518.out | refine below_set ?_ GE526.out | refine below_set ?_ GE527.out | refine below_set ?_ GE532.out | refine below_set ?_ GE537.out | refine below_set ?_ GE542.out | refine below_set ?_ GE547.out | refine below_set ?_ GE552.out) | exact HB.out)) hb)
         clear HO_527000
         clear HO_528000
         clear HO_533001
         clear HO_538000
         clear HO_543000
         clear HO_548000
         clear HO_553000
         clear HO557
         clear HO560
         clear HO564
         clear HO567
         clear HO571
         clear HO574
         clear BK518
         clear BK526
         clear BK527
         clear BK532
         clear BK537
         clear BK542
         clear BK547
         clear BK552
         clear HB
         have HO_527000 := n0_
         have HO_528000 := n1_
         have HO_533001 := n2_
         have HO_538000 := n3_
         have HO_543000 := n4_
         have HO_548000 := n5_
         have HO_553000 := n6_
         have HO557 := n7_
         have HO560 := n8_
         have HO564 := n9_
         have HO567 := n10_
         have HO571 := n11_
         have HO574 := n12_
         have BK518 := n13_
         have BK526 := n14_
         have BK527 := n15_
         have BK532 := n16_
         have BK537 := n17_
         have BK542 := n18_
         have BK547 := n19_
         have BK552 := n20_
         have HB := n21_
         clear n0_ n1_ n2_ n3_ n4_ n5_ n6_ n7_ n8_ n9_ n10_ n11_ n12_ n13_ n14_ n15_ n16_ n17_ n18_ n19_ n20_ n21_
         (try clear hb)
         (try clear hb2)
         (try clear hk)
         (try clear hi)
         refine hK.out _ _ ⟨(blk_cell BK526.out 0).trans rfl, (blk_cell BK532.out 0).trans rfl, (blk_cell BK532.out 1).trans rfl, (blk_cell BK527.out 0).trans rfl⟩ (fun hHeld => ?_)
         clear hK K
         refine norm_ (a' := ?_) ?_ ?_
         rotate_left
         ·show Act.put _ (some 106) _ = _
          simp only [Act.put, zsA, zsZ, zsS, i64_w, i32_w]
          rfl
         refine pure_ (i := 29) (N := some 107) (v := ?_) (a' := ?_) #[true, true, true, true, true, true, true, true, true, true, true, true, true, true, true, true, true, true, true, true, true, true, true, true, true, true, true, true, true, true, false] rfl rfl (any_of HT_.out (by kernel_rfl)) (fun _ _ _ h => h) (Or.inl ⟨by rfl, ?_⟩) ?_ ?_
         rotate_left
         ·intro w'
          go_simp
          with_reducible rfl
         rotate_left
         ·simp only [Act.put, zsA, zsZ, zsS, i64_w, i32_w]
          rfl
         refine pure_ (i := 30) (N := some 8) (v := ?_) (a' := ?_) #[true, true, true, true, true, true, true, true, true, true, true, true, true, true, true, true, true, true, true, true, true, true, true, true, true, true, true, true, true, true, true] rfl rfl (any_of HT_.out (by kernel_rfl)) (fun _ _ _ h => h) (Or.inl ⟨by rfl, ?_⟩) ?_ ?_
         rotate_left
         ·intro w'
          go_simp
          with_reducible rfl
         rotate_left
         ·simp only [Act.put, zsA, zsZ, zsS, i64_w, i32_w]
          rfl
         refine done_ (done_of HT_.out (by kernel_rfl)) ?_
         try go_wp2
         go_ret
         exact ⟨by first | rfl | (simp [errW_none, errW_some] <;> rfl) | (simp [*, errW_none, errW_some] <;> rfl), by repeat (first | (with_reducible first | exact HB.out | apply below_alloc | apply pw_below_drewN | apply below_drew1 | refine below_set ?_ GE518.out | refine below_set ?_ GE526.out | refine below_set ?_ GE527.out | refine below_set ?_ GE532.out | refine below_set ?_ GE537.out | refine below_set ?_ GE542.out | refine below_set ?_ GE547.out | refine below_set ?_ GE552.out) | exact HB.out)⟩
        ·replace c153 := Bool.eq_false_iff.mpr c153
         subst c153
         have H1 : (some false) = some r := by rw [if_neg (show ¬ (false = true) by decide)] at H; exact H
         clear H
         have H := H1
         clear H1
         exact absurd (Option.some.inj (H.trans (congrArg some HT0.out))) (by simp)
       ·replace c149 := Bool.eq_false_iff.mpr c149
        subst c149
        have H1 : (some false) = some r := by rw [if_neg (show ¬ (false = true) by decide)] at H; exact H
        clear H
        have H := H1
        clear H1
        exact absurd (Option.some.inj (H.trans (congrArg some HT0.out))) (by simp)
      ·replace c145 := Bool.eq_false_iff.mpr c145
       subst c145
       have H1 : (some false) = some r := by rw [if_neg (show ¬ (false = true) by decide)] at H; exact H
       clear H
       have H := H1
       clear H1
       exact absurd (Option.some.inj (H.trans (congrArg some HT0.out))) (by simp)
  ·rw [if_neg c13] at H
   exact absurd H (by simp)

end Go.Proofs.Ytpifepaflljolaa.PMem
