-- By wip/xprint.py (a driver of this session's over the kit's print), for this claim.
import Derived.Test.YtpifepaflljolaaPMemx0
import Derived.Test.YtpifepaflljolaaPMemx1
import Derived.Test.YtpifepaflljolaaPMemx5
import Derived.Test.YtpifepaflljolaaPMemx23
import Derived.Test.YtpifepaflljolaaPMemx24
namespace Go.Proofs.Ytpifepaflljolaa.PMem
open Go.RowKit Go.Proofs.YtpifepaflljolaaW.PrintWords Go.Proofs.YtpifepaflljolaaW.PrintLast Go.Proofs.YtpifepaflljolaaW.PrintMore
attribute [local go_sem] max2_int min2_int max_two min_two max_three min_three max_four min_four   -- for this text's walks alone
set_option linter.unusedVariables false
set_option linter.unusedSimpArgs false

/-! ### memory_Add: function 26 -/
mutual
def memory_Add.j0 : Nat → Int → Bool → List (S31) → Int → List Int → Option ((List (S31)) × Int)
 | 0, _, _, _, _, _ => none
 | k + 1, x6, x7, x387000, x388000, x388001 => if x7 = true then (memory_Add.j1 k x6 x7 false x387000 x388000 x388001) else (memory_Add.j1 k x6 x7 (decide ((x387000.length : Int) ≥ 50000)) x387000 x388000 x388001)
def memory_Add.j1 : Nat → Int → Bool → Bool → List (S31) → Int → List Int → Option ((List (S31)) × Int)
 | 0, _, _, _, _, _, _ => none
 | k + 1, x6, x7, x40, x387000, x388000, x388001 => if x40 = true then (some (([] : List (S31)), 5)) else (if 0 ≤ x6 then (if x6 ≤ (x387000.length : Int) then ((memory_clone.f k (x387000.take (x6 : Int).toNat)).bind fun t396 => ((memory_clonePage.f x388000 x388001).bind fun bt400 => (if t396.length < 4398046511104 then ((some (t396 ++ [(⟨bt400.1, bt400.2⟩ : S31)] : List (S31))).bind fun y404 => (if x7 = true then (memory_Add.j2 k (wrap64 (x6 + 1)) x387000 y404) else (memory_Add.j2 k x6 x387000 y404))) else (none)))) else (none)) else (none))
def memory_Add.j2 : Nat → Int → List (S31) → List (S31) → Option ((List (S31)) × Int)
 | 0, _, _, _ => none
 | k + 1, x6, x387000, x400000 => if 0 ≤ x6 then (if x6 ≤ (x387000.length : Int) then ((memory_clone.f k (x387000.drop (x6 : Int).toNat)).bind fun t411 => (if x400000.length + t411.length < 4398046511104 then (some ((x400000 ++ t411), 0)) else (none))) else (none)) else (none)
end
def memory_Add.f (k : Nat) (l0_0 : List (S31)) (a1_0 : Int) (l1_1 : List Int) : Option ((List (S31)) × Int) := (memory_rightPage.f a1_0 l1_1).bind fun t389 => (if t389 = true then ((memory_find.f l0_0 a1_0).bind fun t390 => (if t390 < (l0_0.length : Int) then (if 0 ≤ t390 then (memory_Add.j0 k t390 (((rd_T31 l0_0 t390).f0) == a1_0) l0_0 a1_0 l1_1) else (none)) else (memory_Add.j0 k t390 false l0_0 a1_0 l1_1))) else (some (([] : List (S31)), 1)))
theorem memory_Add.mono_l : ∀ k, (∀ y0 y1 y2 y3 y4, LeO (memory_Add.j0 k y0 y1 y2 y3 y4) (memory_Add.j0 (k + 1) y0 y1 y2 y3 y4)) ∧ (∀ y0 y1 y2 y3 y4 y5, LeO (memory_Add.j1 k y0 y1 y2 y3 y4 y5) (memory_Add.j1 (k + 1) y0 y1 y2 y3 y4 y5)) ∧ (∀ y0 y1 y2, LeO (memory_Add.j2 k y0 y1 y2) (memory_Add.j2 (k + 1) y0 y1 y2))
 | 0 => ⟨fun _ _ _ _ _ r h => by simp [memory_Add.j0] at h, fun _ _ _ _ _ _ r h => by simp [memory_Add.j1] at h, fun _ _ _ r h => by simp [memory_Add.j2] at h⟩
 | k + 1 => by
  obtain ⟨ih0, ih1, ih2⟩ := memory_Add.mono_l k
  refine ⟨?_, ?_, ?_⟩
  ·intro y0 y1 y2 y3 y4
   unfold memory_Add.j0
   repeat' first
   | (with_reducible exact ih0 _ _ _ _ _)
   | (with_reducible exact ih1 _ _ _ _ _ _)
   | (with_reducible exact ih2 _ _ _)
   | (with_reducible exact memory_clone.mono _ _)
   | (with_reducible exact LeO.refl _)
   | (with_reducible exact LeO.none _)
   | (with_reducible refine LeO.ite ?_ ?_)
   | (with_reducible refine LeO.bind ?_ (fun _ => ?_))
   | exact ih0 _ _ _ _ _
   | exact ih1 _ _ _ _ _ _
   | exact ih2 _ _ _
   | exact memory_clone.mono _ _
   | exact LeO.none _
   | refine LeO.ite ?_ ?_
   | refine LeO.bind ?_ (fun _ => ?_)
  ·intro y0 y1 y2 y3 y4 y5
   unfold memory_Add.j1
   repeat' first
   | (with_reducible exact ih0 _ _ _ _ _)
   | (with_reducible exact ih1 _ _ _ _ _ _)
   | (with_reducible exact ih2 _ _ _)
   | (with_reducible exact memory_clone.mono _ _)
   | (with_reducible exact LeO.refl _)
   | (with_reducible exact LeO.none _)
   | (with_reducible refine LeO.ite ?_ ?_)
   | (with_reducible refine LeO.bind ?_ (fun _ => ?_))
   | exact ih0 _ _ _ _ _
   | exact ih1 _ _ _ _ _ _
   | exact ih2 _ _ _
   | exact memory_clone.mono _ _
   | exact LeO.none _
   | refine LeO.ite ?_ ?_
   | refine LeO.bind ?_ (fun _ => ?_)
  ·intro y0 y1 y2
   unfold memory_Add.j2
   repeat' first
   | (with_reducible exact ih0 _ _ _ _ _)
   | (with_reducible exact ih1 _ _ _ _ _ _)
   | (with_reducible exact ih2 _ _ _)
   | (with_reducible exact memory_clone.mono _ _)
   | (with_reducible exact LeO.refl _)
   | (with_reducible exact LeO.none _)
   | (with_reducible refine LeO.ite ?_ ?_)
   | (with_reducible refine LeO.bind ?_ (fun _ => ?_))
   | exact ih0 _ _ _ _ _
   | exact ih1 _ _ _ _ _ _
   | exact ih2 _ _ _
   | exact memory_clone.mono _ _
   | exact LeO.none _
   | refine LeO.ite ?_ ?_
   | refine LeO.bind ?_ (fun _ => ?_)
theorem memory_Add.mono : ∀ a0 a1 a2 k, LeO (memory_Add.f k a0 a1 a2) (memory_Add.f (k + 1) a0 a1 a2) := by
 intro a0 a1 a2 k
 obtain ⟨ih0, ih1, ih2⟩ := memory_Add.mono_l k
 unfold memory_Add.f
 repeat' first
   | (with_reducible exact ih0 _ _ _ _ _)
   | (with_reducible exact ih1 _ _ _ _ _ _)
   | (with_reducible exact ih2 _ _ _)
   | (with_reducible exact memory_clone.mono _ _)
   | (with_reducible exact LeO.refl _)
   | (with_reducible exact LeO.none _)
   | (with_reducible refine LeO.ite ?_ ?_)
   | (with_reducible refine LeO.bind ?_ (fun _ => ?_))
   | exact ih0 _ _ _ _ _
   | exact ih1 _ _ _ _ _ _
   | exact ih2 _ _ _
   | exact memory_clone.mono _ _
   | exact LeO.none _
   | refine LeO.ite ?_ ?_
   | refine LeO.bind ?_ (fun _ => ?_)
def memory_Add.T4 : Bool × List (List Nat × List Nat) := (true, [([], []), ([], []), ([1], [1]), ([2], [2]), ([0, 3], [0, 3]), ([4], [4]), ([5], [5]), ([6, 5], [5, 6]), ([5], [5]), ([7, 8, 5], [5, 7, 8]), ([9, 5], [5, 9]), ([10, 5], [5, 10]), ([5], [5]), ([12, 5], [5, 12]), ([11, 13, 5], [5, 11, 13]), ([5, 14], [5, 14]), ([15, 5, 0, 1, 2, 3, 4, 5, 6, 7, 8, 9, 10, 11, 12, 13, 14, 15], [15])])
def memory_Add.B4 : List Nat := [0, 0, 2, 6, 15, 31, 63, 127, 63, 511, 1023, 2047, 63, 4159, 16383, 32767, 65535]
theorem memory_Add.tab4 : rtab .any (opsOf Try.f26 4) = memory_Add.T4 := by kernel_rfl
theorem memory_Add.bits4 : waitsOk memory_Add.T4.2 memory_Add.B4 = true := by kernel_rfl
def memory_Add.T8 : Bool × List (List Nat × List Nat) := (true, [([], []), ([0], [0]), ([], []), ([2], [2]), ([3], [3]), ([1, 4, 3], [1, 4]), ([0, 1, 2, 3, 4, 5], []), ([6, 5, 5, 0, 1, 2, 3, 4, 5], [5, 6])])
def memory_Add.B8 : List Nat := [0, 1, 0, 4, 12, 31, 63, 127]
theorem memory_Add.tab8 : rtab .any (opsOf Try.f26 8) = memory_Add.T8 := by kernel_rfl
theorem memory_Add.bits8 : waitsOk memory_Add.T8.2 memory_Add.B8 = true := by kernel_rfl
def memory_Add.T11 : Bool × List (List Nat × List Nat) := (true, [([], []), ([0], [0]), ([], []), ([2], [2]), ([], []), ([3, 4], [3, 4]), ([5], [5]), ([6], [6]), ([7], [7]), ([1, 8, 7], [1, 8]), ([9], [9]), ([10, 9, 0, 1, 2, 3, 4, 5, 6, 7, 8, 9, 10], [10]), ([11, 0, 1, 2, 3, 4, 5, 6, 7, 8, 9, 10, 11], [])])
def memory_Add.B11 : List Nat := [0, 1, 0, 4, 0, 28, 60, 124, 252, 511, 1023, 2047, 4095]
theorem memory_Add.tab11 : rtab .any (opsOf Try.f26 11) = memory_Add.T11 := by kernel_rfl
theorem memory_Add.bits11 : waitsOk memory_Add.T11.2 memory_Add.B11 = true := by kernel_rfl
set_option maxHeartbeats 8000000 in
set_option maxRecDepth 100000 in
theorem memory_Add.calls (k : Nat) (A0_0 : Option Addr) (c0_0 : Nat) (l0_0 : List (S31)) (a1_0 : Int) (A1_1 : Option Addr) (c1_1 : Nat) (l1_1 : List Int) (r1 : List (S31)) (r2 : Int) (w : World) (hr0_0 : Kd.C k31 w A0_0 l0_0.length l0_0) (hc0_0 : l0_0.length ≤ c0_0) (hr1_1 : Kd.C (Kd.int .i64) w A1_1 l1_1.length l1_1) (hc1_1 : l1_1.length ≤ c1_1) (h : memory_Add.f k l0_0 a1_0 l1_1 = some (r1, r2)) :
  Calls Try.prog 26 #[.agg #[.slice A0_0 l0_0.length c0_0], .agg #[.int .i64 a1_0, .slice A1_1 l1_1.length c1_1]] w fun e w' => ∃ v0_ : Value, e = .returned (.tuple #[.agg #[v0_], .int .i64 r2]) ∧ Kd.N k31 31 w' w.heap.size (fun k_ => (w.heap.size ≤ k_)) v0_ r1 ∧ Below w.heap.size w w' := by
 have hu24 := Try.underlying24
 have hu31 := Try.underlying31
 have hfd24_0 : ∀ (x0_ : Value) (W_ : World), (Instr.field 24 (.agg #[x0_]) 0).run Try.prog W_ = .ok x0_ W_ := fun _ _ => rfl
 have HR0_0 := Aside0.mk hr0_0
 have HC0_0 := Aside0.mk hc0_0
 clear hr0_0 hc0_0
 have HR1_1 := Aside0.mk hr1_1
 have HC1_1 := Aside0.mk hc1_1
 clear hr1_1 hc1_1
 have HB := Zw (Below.refl w.heap.size w)
 have H : ((memory_rightPage.f a1_0 l1_1).bind fun t389 => (if t389 = true then ((memory_find.f l0_0 a1_0).bind fun t390 => (if t390 < (l0_0.length : Int) then (if 0 ≤ t390 then (memory_Add.j0 k t390 (((rd_T31 l0_0 t390).f0) == a1_0) l0_0 a1_0 l1_1) else (none)) else (memory_Add.j0 k t390 false l0_0 a1_0 l1_1))) else (some (([] : List (S31)), 1)))) = some (r1, r2) := h
 clear h
 replace H := Option.bind_eq_some_iff.mp H
 obtain ⟨t389, A30, H⟩ := H
 replace H : (if t389 = true then ((memory_find.f l0_0 a1_0).bind fun t390 => (if t390 < (l0_0.length : Int) then (if 0 ≤ t390 then (memory_Add.j0 k t390 (((rd_T31 l0_0 t390).f0) == a1_0) l0_0 a1_0 l1_1) else (none)) else (memory_Add.j0 k t390 false l0_0 a1_0 l1_1))) else (some (([] : List (S31)), 1))) = some (r1, r2) := H
 have A3 := Aside0.mk A30
 clear A30
 by_cases c4 : t389 = true
 ·subst c4
  have H1 : ((memory_find.f l0_0 a1_0).bind fun t390 => (if t390 < (l0_0.length : Int) then (if 0 ≤ t390 then (memory_Add.j0 k t390 (((rd_T31 l0_0 t390).f0) == a1_0) l0_0 a1_0 l1_1) else (none)) else (memory_Add.j0 k t390 false l0_0 a1_0 l1_1))) = some (r1, r2) := by rw [if_pos rfl] at H; exact H
  clear H
  have H := H1
  clear H1
  replace H := Option.bind_eq_some_iff.mp H
  obtain ⟨t390, A50, H⟩ := H
  replace H : (if t390 < (l0_0.length : Int) then (if 0 ≤ t390 then (memory_Add.j0 k t390 (((rd_T31 l0_0 t390).f0) == a1_0) l0_0 a1_0 l1_1) else (none)) else (memory_Add.j0 k t390 false l0_0 a1_0 l1_1)) = some (r1, r2) := H
  have A5 := Aside0.mk A50
  clear A50
  have HC6 := Aside0.mk H
  clear H
  go_enter Try.func26, Try.ntmps26
  go_upto_region 4 with (first | ((with_reducible refine gate_dst (N := 2) rfl ?_); (try (refine gate_guard (by rfl) ?_; dsimp only)); refine box_event ?hg (N := 2) ?hd (cs := #[.slice A0_0 l0_0.length c0_0]) (t := 24) ?hr ?_; (case hd => rfl); (case hg => rfl); (case hr => first | (go_simp; done) | (go_simp; rfl)); intro gb386 hg w7 hbox hb; have n0_ := Zw (below_step (Zh HB.out) hb); have n1_ := Zw (hbox); have n2_ := Zw ((by rw [hg]; exact (below_size (Zh HB.out)) : w.heap.size ≤ gb386)); have n3_ := Zw ((by rw [hg]; exact (below_size (Zh HB.out)) : w.heap.size ≤ gb386)); clear HB; have HB := n0_; have BK386 := n1_; have GW386 := n2_; have GE386 := n3_; clear n0_ n1_ n2_ n3_; clear hb hbox hg) | ((with_reducible refine gate_dst (N := 3) rfl ?_); (try (refine gate_guard (by rfl) ?_; dsimp only)); refine box_event ?hg (N := 3) ?hd (cs := #[.int .i64 a1_0, .slice A1_1 l1_1.length c1_1]) (t := 31) ?hr ?_; (case hd => rfl); (case hg => rfl); (case hr => first | (go_simp; done) | (go_simp; rfl)); intro gb387 hg w8 hbox hb; have n0_ := Zw (blk_below (g := gb386) (o := .cells #[.slice A0_0 l0_0.length c0_0] 24 (0, 0)) (Zb BK386.out) hb); have n1_ := Zw (below_step (Zh1 HB.out GE386.out) hb); have n2_ := Zw (hbox); have n3_ := Zw ((by rw [hg]; exact (below_size (Zh1 HB.out GE386.out)) : w.heap.size ≤ gb387)); have n4_ := Zw ((by rw [hg]; exact (below_size (Zh1 HB.out GE386.out)) : w.heap.size ≤ gb387)); have n5_ := Zw ((by rw [hg]; exact Nat.ne_of_lt (blk_lt (Zb BK386.out)) : gb386 ≠ gb387)); have n6_ := Zw ((by rw [hg]; exact Nat.ne_of_gt (blk_lt (Zb BK386.out)) : gb387 ≠ gb386)); clear BK386; clear HB; have BK386 := n0_; have HB := n1_; have BK387 := n2_; have GW387 := n3_; have GE387 := n4_; have NB386_387 := n5_; have NB387_386 := n6_; clear n0_ n1_ n2_ n3_ n4_ n5_ n6_; clear hb hbox hg) | ((with_reducible refine gate_dst (N := 4) rfl ?_); (try (refine gate_guard (by rfl) ?_; dsimp only)); refine box_event ?hg (N := 4) ?hd (cs := #[.slice none 0 0]) (t := 24) ?hr ?_; (case hd => rfl); (case hg => rfl); (case hr => first | (go_simp; done) | (go_simp; rfl)); intro gb388 hg w9 hbox hb; have n0_ := Zw (blk_below (g := gb386) (o := .cells #[.slice A0_0 l0_0.length c0_0] 24 (0, 0)) (Zb BK386.out) hb); have n1_ := Zw (blk_below (g := gb387) (o := .cells #[.int .i64 a1_0, .slice A1_1 l1_1.length c1_1] 31 (0, 0)) (Zb BK387.out) hb); have n2_ := Zw (below_step (Zh2 HB.out GE386.out GE387.out) hb); have n3_ := Zw (hbox); have n4_ := Zw ((by rw [hg]; exact (below_size (Zh2 HB.out GE386.out GE387.out)) : w.heap.size ≤ gb388)); have n5_ := Zw ((by rw [hg]; exact (below_size (Zh2 HB.out GE386.out GE387.out)) : w.heap.size ≤ gb388)); have n6_ := Zw ((by rw [hg]; exact Nat.ne_of_lt (blk_lt (Zb BK386.out)) : gb386 ≠ gb388)); have n7_ := Zw ((by rw [hg]; exact Nat.ne_of_gt (blk_lt (Zb BK386.out)) : gb388 ≠ gb386)); have n8_ := Zw ((by rw [hg]; exact Nat.ne_of_lt (blk_lt (Zb BK387.out)) : gb387 ≠ gb388)); have n9_ := Zw ((by rw [hg]; exact Nat.ne_of_gt (blk_lt (Zb BK387.out)) : gb388 ≠ gb387)); clear BK386; clear BK387; clear HB; have BK386 := n0_; have BK387 := n1_; have HB := n2_; have BK388 := n3_; have GW388 := n4_; have GE388 := n5_; have NB386_388 := n6_; have NB388_386 := n7_; have NB387_388 := n8_; have NB388_387 := n9_; clear n0_ n1_ n2_ n3_ n4_ n5_ n6_ n7_ n8_ n9_; clear hb hbox hg; have hnb10 := NB387_386.out; have hnc10 := NB386_387.out; have hnb11 := NB387_388.out; have hnc11 := NB388_387.out; have hcz12_0 := Zcl BK387.out 0 rfl; have hcz12_1 := Zcl BK387.out 1 rfl; have hfz12_0 := blk_frozen BK387.out 0; have hfz12_1 := blk_frozen BK387.out 1) | ((with_reducible refine gate_callee (f := 32) rfl ?_); refine goesL_ (some 10) rfl rfl Try.func32 (by kernel_rfl) rfl #[.agg #[.int .i64 a1_0, .slice A1_1 l1_1.length c1_1]] rfl Zm ?_; (with_reducible refine (memory_rightPage.calls a1_0 _ _ l1_1 true _ ?side1 ?side2 A3.out).mono ?_); (case side1 => exact Zc (Kd.C_below HR1_1.out HB.out)); (case side2 => exact HC1_1.out); rintro e w13 ⟨rfl, hb⟩; refine ⟨_, rfl, ?_⟩; have n0_ := Zw (blk_below (g := gb386) (o := .cells #[.slice A0_0 l0_0.length c0_0] 24 (0, 0)) (Zb BK386.out) hb); have n1_ := Zw (blk_below (g := gb387) (o := .cells #[.int .i64 a1_0, .slice A1_1 l1_1.length c1_1] 31 (0, 0)) (Zb BK387.out) hb); have n2_ := Zw (blk_below (g := gb388) (o := .cells #[.slice none 0 0] 24 (0, 0)) (Zb BK388.out) hb); have n3_ := Zw (below_step (Zh3 HB.out GE386.out GE387.out GE388.out) hb); clear BK386; clear BK387; clear BK388; clear HB; have BK386 := n0_; have BK387 := n1_; have BK388 := n2_; have HB := n3_; clear n0_ n1_ n2_ n3_; (try clear hb); (try clear hb2); (try clear hk); (try clear hi); have hnb14 := NB386_388.out; have hnc14 := NB388_386.out; have hcz15_0 := Zcl BK386.out 0 rfl; have hfz15_0 := blk_frozen BK386.out 0; have hcz16_0 := Zcl BK387.out 0 rfl; have hcz16_1 := Zcl BK387.out 1 rfl; have hfz16_0 := blk_frozen BK387.out 0; have hfz16_1 := blk_frozen BK387.out 1) | ((with_reducible refine gate_callee (f := 38) rfl ?_); refine goesL_ (some 16) rfl rfl Try.func38 (by kernel_rfl) rfl #[.agg #[.slice A0_0 l0_0.length c0_0], .int .i64 a1_0] rfl Zm ?_; (with_reducible refine (memory_find.calls _ _ l0_0 a1_0 t390 _ ?side1 ?side2 A5.out).mono ?_); (case side1 => exact Zc (Kd.C_below HR0_0.out HB.out)); (case side2 => exact HC0_0.out); rintro e w17 ⟨rfl, hb⟩; refine ⟨_, rfl, ?_⟩; have n0_ := Zw (blk_below (g := gb386) (o := .cells #[.slice A0_0 l0_0.length c0_0] 24 (0, 0)) (Zb BK386.out) hb); have n1_ := Zw (blk_below (g := gb387) (o := .cells #[.int .i64 a1_0, .slice A1_1 l1_1.length c1_1] 31 (0, 0)) (Zb BK387.out) hb); have n2_ := Zw (blk_below (g := gb388) (o := .cells #[.slice none 0 0] 24 (0, 0)) (Zb BK388.out) hb); have n3_ := Zw (below_step (Zh3 HB.out GE386.out GE387.out GE388.out) hb); clear BK386; clear BK387; clear BK388; clear HB; have BK386 := n0_; have BK387 := n1_; have BK388 := n2_; have HB := n3_; clear n0_ n1_ n2_ n3_; (try clear hb); (try clear hb2); (try clear hk); (try clear hi)))
  (try simp only [Act.put, zsA, zsZ, zsS])
  go_cut [7] (fun v7 wc => ∃ (kq : Nat) (x7_5 : Bool), v7 = .bool x7_5 ∧ Aside0 (memory_Add.j0 kq t390 x7_5 l0_0 a1_0 l1_1 = some (r1, r2)) ∧ Aside0 (kq ≤ k) ∧ Aside0 (wc.heap[gb386]? = some (.cells #[(.slice A0_0 l0_0.length c0_0)] 24 (0, 0))) ∧ Aside0 (wc.heap[gb387]? = some (.cells #[.int .i64 a1_0, (.slice A1_1 l1_1.length c1_1)] 31 (0, 0))) ∧ Aside0 (wc.heap[gb388]? = some (.cells #[(.slice none 0 0)] 24 (0, 0))) ∧ Aside0 (Below w.heap.size w wc))
  case first =>
   have H := HC6.out
   clear HC6
   by_cases c18 : t390 < (l0_0.length : Int)
   ·rw [if_pos c18] at H
    have c18b0 : decide (t390 < (l0_0.length : Int)) = true := decide_eq_true c18
    clear c18
    (first | rw [c18b0] | (simp only [i64_w, i32_w]; rw [c18b0]) | skip)
    by_cases c19 : 0 ≤ t390
    ·rw [if_pos c19] at H
     have c19b0 : decide (0 ≤ t390) = true := decide_eq_true c19
     clear c19
     have H' := Aside0.mk H
     clear H
     try go_wp2
     have n0_ := Zw (blk_drew BK386.out)
     have n1_ := Zw (blk_drew BK387.out)
     have n2_ := Zw (blk_drew BK388.out)
     have n3_ := Zw (below_drew1 HB.out)
     clear BK386
     clear BK387
     clear BK388
     clear HB
     have BK386 := n0_
     have BK387 := n1_
     have BK388 := n2_
     have HB := n3_
     clear n0_ n1_ n2_ n3_
     have p391 : 0 ≤ (t390 : Int) := of_decide_eq_true Za
     have q391 : t390 < (l0_0.length : Int) := of_decide_eq_true Za
     obtain ⟨ad391, A391_1, c391_1, e391, hx391_0, hx391_1, hl391_1, hi391_1⟩ := at_T31 HR0_0.out t390 p391 q391
     have hw391_1 := hx391_1
     have hw391_0 := hx391_0
     cases e391
     replace hx391_0 := Zl HB.out hx391_0
     replace hx391_1 := Zl HB.out hx391_1
     have HR391_1 := Aside0.mk hi391_1
     have HC391_1 := Aside0.mk hl391_1
     clear hi391_1 hl391_1
     replace p391 := eq_true p391
     replace q391 := eq_true q391
     refine start_ (n := 17) (S := fun w' => w'.cell? ⟨gb386, 0, none⟩ = some (.slice (some ad391) l0_0.length c0_0) ∧ w'.cell? ⟨gb387, 0, none⟩ = some (.int .i64 a1_0) ∧ w'.cell? ⟨gb387, 1, none⟩ = some (.slice A1_1 l1_1.length c1_1) ∧ w'.cell? (ad391.add ((t390).toNat * 2)) = some (.int .i64 ((rd_T31 l0_0 t390).f0)) ∧ w'.cell? ⟨(ad391.add ((t390).toNat * 2)).block, (ad391.add ((t390).toNat * 2)).off + 1, none⟩ = some (.slice A391_1 ((rd_T31 l0_0 t390).f1).length c391_1)) (ds := []) #[false, false, false, false, false, false, false, false, false, false, false, false, false, false, false, false, false] (by kernel_rfl) rfl rfl ⟨(blk_cell BK386.out 0).trans rfl, (blk_cell BK387.out 0).trans rfl, (blk_cell BK387.out 1).trans rfl, ((HB.out.cell (World.block_lt_of_cell? w _ hw391_0)).trans hw391_0), ((HB.out.cell (World.block_lt_of_cell? w _ hw391_1)).trans hw391_1)⟩ (fun hHeld => ?_); refine with_tabW memory_Add.tab4 memory_Add.bits4 (fun HT_ HW_ => ?_)
     generalize w17.drew = w20 at BK386 BK387 BK388 HB HR391_1 hx391_0 hx391_1 hHeld ⊢
     refine pure_ (i := 0) (N := some 17) (v := ?_) (a' := ?_) #[true, false, false, false, false, false, false, false, false, false, false, false, false, false, false, false, false] rfl rfl (any_of HT_.out (by kernel_rfl)) (fun _ _ _ h => h) (Or.inl ⟨by rfl, ?_⟩) ?_ ?_
     rotate_left
     ·intro w'
      go_simp
      with_reducible rfl
     rotate_left
     ·simp only [Act.put, zsA, zsZ, zsS, i64_w, i32_w]
      rfl
     refine pure_ (i := 1) (N := some 18) (v := ?_) (a' := ?_) #[true, true, false, false, false, false, false, false, false, false, false, false, false, false, false, false, false] rfl rfl (any_of HT_.out (by kernel_rfl)) (fun _ _ _ h => h) (Or.inl ⟨by rfl, ?_⟩) ?_ ?_
     rotate_left
     ·intro w'
      go_simp
      with_reducible rfl
     rotate_left
     ·simp only [Act.put, zsA, zsZ, zsS, i64_w, i32_w]
      rfl
     refine take_ (i := 2) (N := some 19) (v := ?_) (a' := ?_) #[true, true, true, false, false, false, false, false, false, false, false, false, false, false, false, false, false] rfl rfl (take_ofW HT_.out HW_.out (by kernel_rfl)) (fun _ _ _ h => h) (Or.inl ⟨by rfl, ?_⟩) hHeld ?_ ?_
     rotate_left
     ·rintro w' ⟨s0, s1, s2, s3, s4⟩
      go_simp
      with_reducible rfl
     rotate_left
     ·simp only [Act.put, zsA, zsZ, zsS, i64_w, i32_w]
      rfl
     refine pure_ (i := 3) (N := some 20) (v := ?_) (a' := ?_) #[true, true, true, true, false, false, false, false, false, false, false, false, false, false, false, false, false] rfl rfl (any_of HT_.out (by kernel_rfl)) (fun _ _ _ h => h) (Or.inl ⟨by rfl, ?_⟩) ?_ ?_
     rotate_left
     ·intro w'
      go_simp
      with_reducible rfl
     rotate_left
     ·simp only [Act.put, zsA, zsZ, zsS, i64_w, i32_w]
      rfl
     refine pure_ (i := 4) (N := some 21) (v := ?_) (a' := ?_) #[true, true, true, true, true, false, false, false, false, false, false, false, false, false, false, false, false] rfl rfl (any_of HT_.out (by kernel_rfl)) (fun _ _ _ h => h) (Or.inl ⟨by rfl, ?_⟩) ?_ ?_
     rotate_left
     ·intro w'
      go_simp
      with_reducible rfl
     rotate_left
     ·simp only [Act.put, zsA, zsZ, zsS, i64_w, i32_w]
      rfl
     refine pure_ (i := 5) (N := some 22) (v := ?_) (a' := ?_) #[true, true, true, true, true, true, false, false, false, false, false, false, false, false, false, false, false] rfl rfl (any_of HT_.out (by kernel_rfl)) (fun _ _ _ h => h) (Or.inl ⟨by rfl, ?_⟩) ?_ ?_
     rotate_left
     ·intro w'
      go_simp
      with_reducible rfl
     rotate_left
     ·simp only [Act.put, zsA, zsZ, zsS, i64_w, i32_w]
      rfl
     refine pure_ (i := 6) (N := some 23) (v := ?_) (a' := ?_) #[true, true, true, true, true, true, true, false, false, false, false, false, false, false, false, false, false] rfl rfl (any_of HT_.out (by kernel_rfl)) (fun _ _ _ h => h) (Or.inl ⟨by rfl, ?_⟩) ?_ ?_
     rotate_left
     ·intro w'
      go_simp
      with_reducible rfl
     rotate_left
     ·simp only [Act.put, zsA, zsZ, zsS, i64_w, i32_w]
      rfl
     refine pure_ (i := 8) (N := some 25) (v := ?_) (a' := ?_) #[true, true, true, true, true, true, true, false, true, false, false, false, false, false, false, false, false] rfl rfl (any_of HT_.out (by kernel_rfl)) (fun _ _ _ h => h) (Or.inl ⟨by rfl, ?_⟩) ?_ ?_
     rotate_left
     ·intro w'
      go_simp
      with_reducible rfl
     rotate_left
     ·simp only [Act.put, zsA, zsZ, zsS, i64_w, i32_w]
      rfl
     refine pure_ (i := 12) (N := some 29) (v := ?_) (a' := ?_) #[true, true, true, true, true, true, true, false, true, false, false, false, true, false, false, false, false] rfl rfl (any_of HT_.out (by kernel_rfl)) (fun _ _ _ h => h) (Or.inl ⟨by rfl, ?_⟩) ?_ ?_
     rotate_left
     ·intro w'
      go_simp
      with_reducible rfl
     rotate_left
     ·simp only [Act.put, zsA, zsZ, zsS, i64_w, i32_w]
      rfl
     refine take_ (i := 7) (N := some 24) (v := ?_) (a' := ?_) #[true, true, true, true, true, true, true, true, true, false, false, false, true, false, false, false, false] rfl rfl (take_ofW HT_.out HW_.out (by kernel_rfl)) (fun _ _ _ h => h) (Or.inl ⟨by rfl, ?_⟩) hHeld ?_ ?_
     rotate_left
     ·rintro w' ⟨s0, s1, s2, s3, s4⟩
      go_simp
      with_reducible rfl
     rotate_left
     ·simp only [Act.put, zsA, zsZ, zsS, i64_w, i32_w]
      rfl
     refine pure_ (i := 9) (N := some 26) (v := ?_) (a' := ?_) #[true, true, true, true, true, true, true, true, true, true, false, false, true, false, false, false, false] rfl rfl (any_of HT_.out (by kernel_rfl)) (fun _ _ _ h => h) (Or.inl ⟨by rfl, ?_⟩) ?_ ?_
     rotate_left
     ·intro w'
      go_simp
      with_reducible rfl
     rotate_left
     ·simp only [Act.put, zsA, zsZ, zsS, i64_w, i32_w]
      rfl
     refine pure_ (i := 10) (N := some 27) (v := ?_) (a' := ?_) #[true, true, true, true, true, true, true, true, true, true, true, false, true, false, false, false, false] rfl rfl (any_of HT_.out (by kernel_rfl)) (fun _ _ _ h => h) (Or.inl ⟨by rfl, ?_⟩) ?_ ?_
     rotate_left
     ·intro w'
      go_simp
      with_reducible rfl
     rotate_left
     ·simp only [Act.put, zsA, zsZ, zsS, i64_w, i32_w]
      rfl
     refine take_ (i := 11) (N := some 28) (v := ?_) (a' := ?_) #[true, true, true, true, true, true, true, true, true, true, true, true, true, false, false, false, false] rfl rfl (take_ofW HT_.out HW_.out (by kernel_rfl)) (fun _ _ _ h => h) (Or.inl ⟨by rfl, ?_⟩) hHeld ?_ ?_
     rotate_left
     ·rintro w' ⟨s0, s1, s2, s3, s4⟩
      go_simp
      with_reducible rfl
     rotate_left
     ·simp only [Act.put, zsA, zsZ, zsS, i64_w, i32_w]
      rfl
     refine take_ (i := 13) (N := some 30) (v := ?_) (a' := ?_) #[true, true, true, true, true, true, true, true, true, true, true, true, true, true, false, false, false] rfl rfl (take_ofW HT_.out HW_.out (by kernel_rfl)) (fun _ _ _ h => h) (Or.inl ⟨by rfl, ?_⟩) hHeld ?_ ?_
     rotate_left
     ·rintro w' ⟨s0, s1, s2, s3, s4⟩
      go_simp
      with_reducible rfl
     rotate_left
     ·simp only [Act.put, zsA, zsZ, zsS, i64_w, i32_w]
      rfl
     refine pure_ (i := 14) (N := some 31) (v := ?_) (a' := ?_) #[true, true, true, true, true, true, true, true, true, true, true, true, true, true, true, false, false] rfl rfl (any_of HT_.out (by kernel_rfl)) (fun _ _ _ h => h) (Or.inl ⟨by rfl, ?_⟩) ?_ ?_
     rotate_left
     ·intro w'
      go_simp
      with_reducible rfl
     rotate_left
     ·simp only [Act.put, zsA, zsZ, zsS, i64_w, i32_w]
      rfl
     refine pure_ (i := 15) (N := some 32) (v := ?_) (a' := ?_) #[true, true, true, true, true, true, true, true, true, true, true, true, true, true, true, true, false] rfl rfl (any_of HT_.out (by kernel_rfl)) (fun _ _ _ h => h) (Or.inl ⟨by rfl, ?_⟩) ?_ ?_
     rotate_left
     ·intro w'
      go_simp
      with_reducible rfl
     rotate_left
     ·simp only [Act.put, zsA, zsZ, zsS, i64_w, i32_w]
      rfl
     refine pure_ (i := 16) (N := some 7) (v := ?_) (a' := ?_) #[true, true, true, true, true, true, true, true, true, true, true, true, true, true, true, true, true] rfl rfl (any_of HT_.out (by kernel_rfl)) (fun _ _ _ h => h) (Or.inl ⟨by rfl, ?_⟩) ?_ ?_
     rotate_left
     ·intro w'
      go_simp
      with_reducible rfl
     rotate_left
     ·simp only [Act.put, zsA, zsZ, zsS, i64_w, i32_w]
      rfl
     refine done_ (done_of HT_.out (by kernel_rfl)) ?_
     try go_wp2
     go_meet
     case rel => exact ⟨_, ((((rd_T31 l0_0 t390).f0) == a1_0)), (by first | rfl | (simp; done) | (simp [*]; done)), H', ⟨by first | omega | exact Nat.le_refl _⟩, ⟨Zb BK386.out⟩, ⟨Zb BK387.out⟩, ⟨Zb BK388.out⟩, ⟨Zh3 HB.out GE386.out GE387.out GE388.out⟩⟩
    ·rw [if_neg c19] at H
     exact absurd H (by simp)
   ·rw [if_neg c18] at H
    have c18b0 : decide (t390 < (l0_0.length : Int)) = false := decide_eq_false c18
    clear c18
    (first | rw [c18b0] | (simp only [i64_w, i32_w]; rw [c18b0]) | skip)
    have H' := Aside0.mk H
    clear H
    try go_wp2
    have n0_ := Zw (blk_drew BK386.out)
    have n1_ := Zw (blk_drew BK387.out)
    have n2_ := Zw (blk_drew BK388.out)
    have n3_ := Zw (below_drew1 HB.out)
    clear BK386
    clear BK387
    clear BK388
    clear HB
    have BK386 := n0_
    have BK387 := n1_
    have BK388 := n2_
    have HB := n3_
    clear n0_ n1_ n2_ n3_
    refine start_ (n := 17) (S := fun w' => w'.cell? ⟨gb386, 0, none⟩ = some (.slice A0_0 l0_0.length c0_0)) (ds := []) #[false, false, false, false, false, false, false, false, false, false, false, false, false, false, false, false, false] (by kernel_rfl) rfl rfl ((blk_cell BK386.out 0).trans rfl) (fun hHeld => ?_); refine with_tabW memory_Add.tab4 memory_Add.bits4 (fun HT_ HW_ => ?_)
    generalize w17.drew = w21 at BK386 BK387 BK388 HB hHeld ⊢
    refine pure_ (i := 0) (N := some 17) (v := ?_) (a' := ?_) #[true, false, false, false, false, false, false, false, false, false, false, false, false, false, false, false, false] rfl rfl (any_of HT_.out (by kernel_rfl)) (fun _ _ _ h => h) (Or.inl ⟨by rfl, ?_⟩) ?_ ?_
    rotate_left
    ·intro w'
     go_simp
     with_reducible rfl
    rotate_left
    ·simp only [Act.put, zsA, zsZ, zsS, i64_w, i32_w]
     rfl
    refine pure_ (i := 1) (N := some 18) (v := ?_) (a' := ?_) #[true, true, false, false, false, false, false, false, false, false, false, false, false, false, false, false, false] rfl rfl (any_of HT_.out (by kernel_rfl)) (fun _ _ _ h => h) (Or.inl ⟨by rfl, ?_⟩) ?_ ?_
    rotate_left
    ·intro w'
     go_simp
     with_reducible rfl
    rotate_left
    ·simp only [Act.put, zsA, zsZ, zsS, i64_w, i32_w]
     rfl
    refine take_ (i := 2) (N := some 19) (v := ?_) (a' := ?_) #[true, true, true, false, false, false, false, false, false, false, false, false, false, false, false, false, false] rfl rfl (take_ofW HT_.out HW_.out (by kernel_rfl)) (fun _ _ _ h => h) (Or.inl ⟨by rfl, ?_⟩) hHeld ?_ ?_
    rotate_left
    ·intro w' s0
     go_simp
     with_reducible rfl
    rotate_left
    ·simp only [Act.put, zsA, zsZ, zsS, i64_w, i32_w]
     rfl
    refine pure_ (i := 3) (N := some 20) (v := ?_) (a' := ?_) #[true, true, true, true, false, false, false, false, false, false, false, false, false, false, false, false, false] rfl rfl (any_of HT_.out (by kernel_rfl)) (fun _ _ _ h => h) (Or.inl ⟨by rfl, ?_⟩) ?_ ?_
    rotate_left
    ·intro w'
     go_simp
     with_reducible rfl
    rotate_left
    ·simp only [Act.put, zsA, zsZ, zsS, i64_w, i32_w]
     rfl
    refine pure_ (i := 4) (N := some 21) (v := ?_) (a' := ?_) #[true, true, true, true, true, false, false, false, false, false, false, false, false, false, false, false, false] rfl rfl (any_of HT_.out (by kernel_rfl)) (fun _ _ _ h => h) (Or.inl ⟨by rfl, ?_⟩) ?_ ?_
    rotate_left
    ·intro w'
     go_simp
     with_reducible rfl
    rotate_left
    ·simp only [Act.put, zsA, zsZ, zsS, i64_w, i32_w]
     rfl
    refine pure_ (i := 5) (N := some 22) (v := ?_) (a' := ?_) #[true, true, true, true, true, true, false, false, false, false, false, false, false, false, false, false, false] rfl rfl (any_of HT_.out (by kernel_rfl)) (fun _ _ _ h => h) (Or.inl ⟨by rfl, ?_⟩) ?_ ?_
    rotate_left
    ·intro w'
     go_simp
     with_reducible rfl
    rotate_left
    ·simp only [Act.put, zsA, zsZ, zsS, i64_w, i32_w]
     rfl
    refine pure_ (i := 6) (N := some 23) (v := undef) (a' := ?_) #[true, true, true, true, true, true, true, false, false, false, false, false, false, false, false, false, false] rfl rfl (any_of HT_.out (by kernel_rfl)) (fun _ _ _ h => h) (Or.inr ⟨by rfl, rfl⟩) ?_ ?_
    rotate_left
    ·simp only [Act.put, zsA, zsZ, zsS, i64_w, i32_w]
     rfl
    refine pure_ (i := 7) (N := some 24) (v := undef) (a' := ?_) #[true, true, true, true, true, true, true, true, false, false, false, false, false, false, false, false, false] rfl rfl (any_of HT_.out (by kernel_rfl)) (fun _ _ _ h => h) (Or.inr ⟨by rfl, rfl⟩) ?_ ?_
    rotate_left
    ·simp only [Act.put, zsA, zsZ, zsS, i64_w, i32_w]
     rfl
    refine pure_ (i := 8) (N := some 25) (v := undef) (a' := ?_) #[true, true, true, true, true, true, true, true, true, false, false, false, false, false, false, false, false] rfl rfl (any_of HT_.out (by kernel_rfl)) (fun _ _ _ h => h) (Or.inr ⟨by rfl, rfl⟩) ?_ ?_
    rotate_left
    ·simp only [Act.put, zsA, zsZ, zsS, i64_w, i32_w]
     rfl
    refine pure_ (i := 9) (N := some 26) (v := undef) (a' := ?_) #[true, true, true, true, true, true, true, true, true, true, false, false, false, false, false, false, false] rfl rfl (any_of HT_.out (by kernel_rfl)) (fun _ _ _ h => h) (Or.inr ⟨by rfl, rfl⟩) ?_ ?_
    rotate_left
    ·simp only [Act.put, zsA, zsZ, zsS, i64_w, i32_w]
     rfl
    refine pure_ (i := 10) (N := some 27) (v := undef) (a' := ?_) #[true, true, true, true, true, true, true, true, true, true, true, false, false, false, false, false, false] rfl rfl (any_of HT_.out (by kernel_rfl)) (fun _ _ _ h => h) (Or.inr ⟨by rfl, rfl⟩) ?_ ?_
    rotate_left
    ·simp only [Act.put, zsA, zsZ, zsS, i64_w, i32_w]
     rfl
    refine pure_ (i := 11) (N := some 28) (v := undef) (a' := ?_) #[true, true, true, true, true, true, true, true, true, true, true, true, false, false, false, false, false] rfl rfl (any_of HT_.out (by kernel_rfl)) (fun _ _ _ h => h) (Or.inr ⟨by rfl, rfl⟩) ?_ ?_
    rotate_left
    ·simp only [Act.put, zsA, zsZ, zsS, i64_w, i32_w]
     rfl
    refine pure_ (i := 12) (N := some 29) (v := undef) (a' := ?_) #[true, true, true, true, true, true, true, true, true, true, true, true, true, false, false, false, false] rfl rfl (any_of HT_.out (by kernel_rfl)) (fun _ _ _ h => h) (Or.inr ⟨by rfl, rfl⟩) ?_ ?_
    rotate_left
    ·simp only [Act.put, zsA, zsZ, zsS, i64_w, i32_w]
     rfl
    refine pure_ (i := 13) (N := some 30) (v := undef) (a' := ?_) #[true, true, true, true, true, true, true, true, true, true, true, true, true, true, false, false, false] rfl rfl (any_of HT_.out (by kernel_rfl)) (fun _ _ _ h => h) (Or.inr ⟨by rfl, rfl⟩) ?_ ?_
    rotate_left
    ·simp only [Act.put, zsA, zsZ, zsS, i64_w, i32_w]
     rfl
    refine pure_ (i := 14) (N := some 31) (v := undef) (a' := ?_) #[true, true, true, true, true, true, true, true, true, true, true, true, true, true, true, false, false] rfl rfl (any_of HT_.out (by kernel_rfl)) (fun _ _ _ h => h) (Or.inr ⟨by rfl, rfl⟩) ?_ ?_
    rotate_left
    ·simp only [Act.put, zsA, zsZ, zsS, i64_w, i32_w]
     rfl
    refine pure_ (i := 15) (N := some 32) (v := ?_) (a' := ?_) #[true, true, true, true, true, true, true, true, true, true, true, true, true, true, true, true, false] rfl rfl (any_of HT_.out (by kernel_rfl)) (fun _ _ _ h => h) (Or.inl ⟨by rfl, ?_⟩) ?_ ?_
    rotate_left
    ·intro w'
     go_simp
     with_reducible rfl
    rotate_left
    ·simp only [Act.put, zsA, zsZ, zsS, i64_w, i32_w]
     rfl
    refine pure_ (i := 16) (N := some 7) (v := ?_) (a' := ?_) #[true, true, true, true, true, true, true, true, true, true, true, true, true, true, true, true, true] rfl rfl (any_of HT_.out (by kernel_rfl)) (fun _ _ _ h => h) (Or.inl ⟨by rfl, ?_⟩) ?_ ?_
    rotate_left
    ·intro w'
     go_simp
     with_reducible rfl
    rotate_left
    ·simp only [Act.put, zsA, zsZ, zsS, i64_w, i32_w]
     rfl
    refine done_ (done_of HT_.out (by kernel_rfl)) ?_
    try go_wp2
    go_meet
    case rel => exact ⟨_, (false), (by first | rfl | (simp; done) | (simp [*]; done)), H', ⟨by first | omega | exact Nat.le_refl _⟩, ⟨Zb BK386.out⟩, ⟨Zb BK387.out⟩, ⟨Zb BK388.out⟩, ⟨Zh3 HB.out GE386.out GE387.out GE388.out⟩⟩
  case rest =>
   clear HC6
   try clear c1
   try clear c2
   try clear p2
   try clear c3
   try clear p3
   try clear q3
   try clear hx3
   try clear c4
   try clear c10
   try clear c11
   try clear c14
   try clear c18
   try clear c18b0
   try clear c19
   try clear c19b0
   try clear hcz12_0
   try clear hcz12_1
   try clear hcz15_0
   try clear hcz16_0
   try clear hcz16_1
   try clear hfz12_0
   try clear hfz12_1
   try clear hfz15_0
   try clear hfz16_0
   try clear hfz16_1
   try clear hx391_0
   try clear hx391_1
   try clear p391
   try clear q391
   obtain ⟨kq, x7_5, rfl, HA, HJ5, BK386, BK387, BK388, HB⟩ := hcut
   cases kq with
   | zero => exact absurd HA.out (by simp [memory_Add.j0])
   | succ kj5 =>
    have H := HA.out
    clear HA
    simp only [memory_Add.j0] at H
    have HC22 := Aside0.mk H
    clear H
    go_upto_region 5 with (fail)
    go_cut [40] (fun v40 wc => ∃ (kq : Nat) (x40_21 : Bool), v40 = .bool x40_21 ∧ Aside0 (memory_Add.j1 kq t390 x7_5 x40_21 l0_0 a1_0 l1_1 = some (r1, r2)) ∧ Aside0 (kq ≤ kj5) ∧ Aside0 (wc.heap[gb386]? = some (.cells #[(.slice A0_0 l0_0.length c0_0)] 24 (0, 0))) ∧ Aside0 (wc.heap[gb387]? = some (.cells #[.int .i64 a1_0, (.slice A1_1 l1_1.length c1_1)] 31 (0, 0))) ∧ Aside0 (wc.heap[gb388]? = some (.cells #[(.slice none 0 0)] 24 (0, 0))) ∧ Aside0 (Below w.heap.size w wc))
    case first =>
     have H := HC22.out
     clear HC22
     by_cases c23 : x7_5 = true
     ·subst c23
      have H1 : (memory_Add.j1 kj5 t390 true false l0_0 a1_0 l1_1) = some (r1, r2) := by rw [if_pos rfl] at H; exact H
      clear H
      have H := H1
      clear H1
      have H' := Aside0.mk H
      clear H
      go_wp2
      go_meet
      case rel => exact ⟨_, (false), (by first | rfl | (simp; done) | (simp [*]; done)), H', ⟨by have := HJ5.out; first | omega | exact Nat.le_refl _⟩, ⟨Zb BK386.out⟩, ⟨Zb BK387.out⟩, ⟨Zb BK388.out⟩, ⟨Zh3 HB.out GE386.out GE387.out GE388.out⟩⟩
     ·replace c23 := Bool.eq_false_iff.mpr c23
      subst c23
      have H1 : (memory_Add.j1 kj5 t390 false (decide ((l0_0.length : Int) ≥ 50000)) l0_0 a1_0 l1_1) = some (r1, r2) := by rw [if_neg (show ¬ (false = true) by decide)] at H; exact H
      clear H
      have H := H1
      clear H1
      have H' := Aside0.mk H
      clear H
      have hnb24 := NB386_387.out
      have hnc24 := NB387_386.out
      have hnb25 := NB386_388.out
      have hnc25 := NB388_386.out
      have hcz26_0 := Zcl BK386.out 0 rfl
      have hfz26_0 := blk_frozen BK386.out 0
      go_wp2
      go_meet
      case rel => exact ⟨_, (decide ((l0_0.length : Int) ≥ 50000)), (by first | rfl | (simp; done) | (simp [*]; done)), H', ⟨by have := HJ5.out; first | omega | exact Nat.le_refl _⟩, ⟨Zb BK386.out⟩, ⟨Zb BK387.out⟩, ⟨Zb BK388.out⟩, ⟨Zh3 HB.out GE386.out GE387.out GE388.out⟩⟩
    case rest =>
     clear HC22
     try clear c1
     try clear c2
     try clear p2
     try clear c3
     try clear p3
     try clear q3
     try clear hx3
     try clear c4
     try clear c10
     try clear c11
     try clear c14
     try clear c18
     try clear c18b0
     try clear c19
     try clear c19b0
     try clear c23
     try clear c24
     try clear c25
     try clear c26
     try clear hcz12_0
     try clear hcz12_1
     try clear hcz15_0
     try clear hcz16_0
     try clear hcz16_1
     try clear hcz26_0
     try clear hfz12_0
     try clear hfz12_1
     try clear hfz15_0
     try clear hfz16_0
     try clear hfz16_1
     try clear hfz26_0
     try clear hx391_0
     try clear hx391_1
     try clear p2
     try clear p3
     try clear p391
     try clear q3
     try clear q391
     obtain ⟨kq, x40_21, rfl, HA, HJ21, BK386, BK387, BK388, HB⟩ := hcut
     cases kq with
     | zero => exact absurd HA.out (by simp [memory_Add.j1])
     | succ kj21 =>
      have H := HA.out
      clear HA
      simp only [memory_Add.j1] at H
      by_cases c27 : x40_21 = true
      ·subst c27
       have H1 : (some (([] : List (S31)), 5)) = some (r1, r2) := by rw [if_pos rfl] at H; exact H
       clear H
       have H := H1
       clear H1
       simp only [Option.some.injEq, Prod.mk.injEq] at H
       obtain ⟨rfl, rfl⟩ := H
       have hnb28 := NB388_386.out
       have hnc28 := NB386_388.out
       have hnb29 := NB388_387.out
       have hnc29 := NB387_388.out
       have hcz30_0 := Zcl BK388.out 0 rfl
       have hfz30_0 := blk_frozen BK388.out 0
       go_wp2
       refine bodyPost_ret (results_ct rfl _ _ gb388 24 #[.slice none 0 0] (0, 0) _ rfl (by refine Zbk ?_; refine blk_put (cs := #[.slice none 0 0]) ?_ 0 _ rfl; refine Zbk ?_; exact BK388.out) Try.underlying24 rfl (by kernel_rfl)) rfl ?_
       exact ⟨_, by first | rfl | (simp [errW_none, errW_some] <;> rfl) | (simp [*, errW_none, errW_some] <;> rfl), by first | exact Kd.S_nil _ _ _ _ _ | exact Kd.N_nil _ _ _ _ _ | exact Kd.V_nil _ _ _ _ _ | exact Kd.Q_nil _ _ _ _ _ | exact Kd.R_nil _ _ _ _ _, Zh3 HB.out GE386.out GE387.out GE388.out⟩
      ·replace c27 := Bool.eq_false_iff.mpr c27
       subst c27
       have H1 : (if 0 ≤ t390 then (if t390 ≤ (l0_0.length : Int) then ((memory_clone.f kj21 (l0_0.take (t390 : Int).toNat)).bind fun t396 => ((memory_clonePage.f a1_0 l1_1).bind fun bt400 => (if t396.length < 4398046511104 then ((some (t396 ++ [(⟨bt400.1, bt400.2⟩ : S31)] : List (S31))).bind fun y404 => (if x7_5 = true then (memory_Add.j2 kj21 (wrap64 (t390 + 1)) l0_0 y404) else (memory_Add.j2 kj21 t390 l0_0 y404))) else (none)))) else (none)) else (none)) = some (r1, r2) := by rw [if_neg (show ¬ (false = true) by decide)] at H; exact H
       clear H
       have H := H1
       clear H1
       by_cases c31 : 0 ≤ t390
       ·rw [if_pos c31] at H
        have c31b0 := eq_true c31
        have c31b1 : decide (0 ≤ t390) = true := decide_eq_true c31
        clear c31
        by_cases c32 : t390 ≤ (l0_0.length : Int)
        ·rw [if_pos c32] at H
         have c32b0 := eq_true c32
         have c32b1 : decide (t390 ≤ (l0_0.length : Int)) = true := decide_eq_true c32
         clear c32
         obtain ⟨y392, hy392⟩ : ∃ y_ : List (S31), y_ = (l0_0.take (t390 : Int).toNat) := ⟨_, rfl⟩
         replace H : ((memory_clone.f kj21 y392).bind fun t396 => ((memory_clonePage.f a1_0 l1_1).bind fun bt400 => (if t396.length < 4398046511104 then ((some (t396 ++ [(⟨bt400.1, bt400.2⟩ : S31)] : List (S31))).bind fun y404 => (if x7_5 = true then (memory_Add.j2 kj21 (wrap64 (t390 + 1)) l0_0 y404) else (memory_Add.j2 kj21 t390 l0_0 y404))) else (none)))) = some (r1, r2) := by first | (rw [hy392]; with_reducible exact H) | (have H2_ := (Option.bind_some _ _).symm.trans H; rw [hy392]; with_reducible exact H2_) | (have H2_ := (Option.bind_some _ _).symm.trans H; with_reducible exact H2_) | with_reducible exact H | (rw [hy392]; exact H) | exact H
         have Ny392 := Aside0.mk hy392
         clear hy392
         replace H := Option.bind_eq_some_iff.mp H
         obtain ⟨t396, A330, H⟩ := H
         replace H : ((memory_clonePage.f a1_0 l1_1).bind fun bt400 => (if t396.length < 4398046511104 then ((some (t396 ++ [(⟨bt400.1, bt400.2⟩ : S31)] : List (S31))).bind fun y404 => (if x7_5 = true then (memory_Add.j2 kj21 (wrap64 (t390 + 1)) l0_0 y404) else (memory_Add.j2 kj21 t390 l0_0 y404))) else (none))) = some (r1, r2) := H
         have A33 := Aside0.mk A330
         clear A330
         replace H := Option.bind_eq_some_iff.mp H
         obtain ⟨⟨t400, t401⟩, A340, H⟩ := H
         replace H : (if t396.length < 4398046511104 then ((some (t396 ++ [(⟨t400, t401⟩ : S31)] : List (S31))).bind fun y404 => (if x7_5 = true then (memory_Add.j2 kj21 (wrap64 (t390 + 1)) l0_0 y404) else (memory_Add.j2 kj21 t390 l0_0 y404))) else (none)) = some (r1, r2) := H
         have A34 := Aside0.mk A340
         clear A340
         by_cases c35 : t396.length < 4398046511104
         ·rw [if_pos c35] at H
          have LMc35 := Aside0.mk c35
          clear c35
          obtain ⟨y404, hy404⟩ : ∃ y_ : List (S31), y_ = (t396 ++ [(⟨t400, t401⟩ : S31)]) := ⟨_, rfl⟩
          replace H : (if x7_5 = true then (memory_Add.j2 kj21 (wrap64 (t390 + 1)) l0_0 y404) else (memory_Add.j2 kj21 t390 l0_0 y404)) = some (r1, r2) := by first | (rw [hy404]; with_reducible exact H) | (have H2_ := (Option.bind_some _ _).symm.trans H; rw [hy404]; with_reducible exact H2_) | (have H2_ := (Option.bind_some _ _).symm.trans H; with_reducible exact H2_) | with_reducible exact H | (rw [hy404]; exact H) | exact H
          have Ny404 := Aside0.mk hy404
          clear hy404
          have HC36 := Aside0.mk H
          clear H
          have hnb37 := NB386_387.out
          have hnc37 := NB387_386.out
          have hnb38 := NB386_388.out
          have hnc38 := NB388_386.out
          have hcz39_0 := Zcl BK386.out 0 rfl
          have hfz39_0 := blk_frozen BK386.out 0
          have q40 : (t390 : Int) ≤ ((l0_0.length : Int) : Int) := of_decide_eq_true Za
          obtain ⟨i040, hi040, _, hsz40, _⟩ := info_parts info31
          have hroom40 : l0_0.length ≤ c0_0 := HC0_0.out
          have hC40 : Kd.C k31 _ A0_0 l0_0.length l0_0 := HR0_0.out
          have hcut40 := cut_to (P := Try.prog) 22 31 .i64 Try.underlying22 hi040 A0_0 l0_0.length c0_0 t390 (of_decide_eq_true Za) q40 hroom40
          have hr40 := Kd.C_take (m := (t390 : Int).toNat) hC40 (by omega)
          have hy40 : y392.length = (t390 : Int).toNat := (by rw [Ny392.out, List.length_take]; omega)
          rw [← Ny392.out] at hr40
          rw [← hy40] at hcut40
          have HR395 := Aside0.mk hr40
          have HC395 := Zw (show y392.length ≤ c0_0 from by omega)
          clear hr40 hC40 hroom40 hi040 hsz40
          have KY40 := Aside0.mk hy40
          clear hy40
          replace q40 := eq_true q40
          try go_wp2_with (first | ((with_reducible refine gate_callee (f := 36) rfl ?_); refine goesL_ (some 47) rfl rfl Try.func36 (by kernel_rfl) rfl #[.agg #[.slice A0_0 y392.length c0_0]] rfl Zm ?_; (with_reducible refine (memory_clone.calls kj21 _ _ y392 t396 _ ?side1 ?side2 A33.out).mono ?_); (case side1 => exact Zc (Kd.C_below HR395.out HB.out)); (case side2 => exact HC395.out); rintro e w41 ⟨v397, rfl, ho0, hb⟩; refine ⟨_, rfl, ?_⟩; have n0_ := Zw (Kd.N_lower (Kd.N_mono (ok' := fun k_ => (w.heap.size ≤ k_) ∧ k_ ≠ gb386 ∧ k_ ≠ gb387 ∧ k_ ≠ gb388) (Kd.S_N (Kd.S_bound ho0)) (fun k_ hk_ => ⟨(Nat.le_trans (below_size (Zh3 HB.out GE386.out GE387.out GE388.out)) hk_.2.1), (Kd.freshB (g := gb386) (o := .cells #[.slice A0_0 l0_0.length c0_0] 24 (0, 0)) (Zb BK386.out) k_ hk_.2.1), (Kd.freshB (g := gb387) (o := .cells #[.int .i64 a1_0, .slice A1_1 l1_1.length c1_1] 31 (0, 0)) (Zb BK387.out) k_ hk_.2.1), (Kd.freshB (g := gb388) (o := .cells #[.slice none 0 0] 24 (0, 0)) (Zb BK388.out) k_ hk_.2.1)⟩)) (below_size (Zh3 HB.out GE386.out GE387.out GE388.out))); have n1_ := Zw (blk_below (g := gb386) (o := .cells #[.slice A0_0 l0_0.length c0_0] 24 (0, 0)) (Zb BK386.out) hb); have n2_ := Zw (blk_below (g := gb387) (o := .cells #[.int .i64 a1_0, .slice A1_1 l1_1.length c1_1] 31 (0, 0)) (Zb BK387.out) hb); have n3_ := Zw (blk_below (g := gb388) (o := .cells #[.slice none 0 0] 24 (0, 0)) (Zb BK388.out) hb); have n4_ := Zw (below_step (Zh3 HB.out GE386.out GE387.out GE388.out) hb); clear BK386; clear BK387; clear BK388; clear HB; have HO398 := n0_; have BK386 := n1_; have BK387 := n2_; have BK388 := n3_; have HB := n4_; clear n0_ n1_ n2_ n3_ n4_; (try clear hb); (try clear hb2); (try clear hk); (try clear hi); (try clear ho0)) | ((with_reducible refine gate_dst (N := 8) rfl ?_); (try (refine gate_guard (by rfl) ?_; dsimp only)); refine box_event ?hg (N := 8) ?hd (cs := #[.slice none 0 0]) (t := 24) ?hr ?_; (case hd => rfl); (case hg => rfl); (case hr => first | (go_simp; done) | (go_simp; rfl)); intro gb399 hg w42 hbox hb; have n0_ := Zw (Kd.N_below (Kd.N_elderB (ZN HO398.out) gb399 (Nat.le_of_eq hg.symm)) hb); have n1_ := Zw (blk_below (g := gb386) (o := .cells #[.slice A0_0 l0_0.length c0_0] 24 (0, 0)) (Zb BK386.out) hb); have n2_ := Zw (blk_below (g := gb387) (o := .cells #[.int .i64 a1_0, .slice A1_1 l1_1.length c1_1] 31 (0, 0)) (Zb BK387.out) hb); have n3_ := Zw (blk_below (g := gb388) (o := .cells #[.slice none 0 0] 24 (0, 0)) (Zb BK388.out) hb); have n4_ := Zw (below_step (Zh3 HB.out GE386.out GE387.out GE388.out) hb); have n5_ := Zw (hbox); have n6_ := Zw ((by rw [hg]; exact (below_size (Zh3 HB.out GE386.out GE387.out GE388.out)) : w.heap.size ≤ gb399)); have n7_ := Zw ((by rw [hg]; exact (below_size (Zh3 HB.out GE386.out GE387.out GE388.out)) : w.heap.size ≤ gb399)); have n8_ := Zw ((by rw [hg]; exact Nat.ne_of_lt (blk_lt (Zb BK386.out)) : gb386 ≠ gb399)); have n9_ := Zw ((by rw [hg]; exact Nat.ne_of_gt (blk_lt (Zb BK386.out)) : gb399 ≠ gb386)); have n10_ := Zw ((by rw [hg]; exact Nat.ne_of_lt (blk_lt (Zb BK387.out)) : gb387 ≠ gb399)); have n11_ := Zw ((by rw [hg]; exact Nat.ne_of_gt (blk_lt (Zb BK387.out)) : gb399 ≠ gb387)); have n12_ := Zw ((by rw [hg]; exact Nat.ne_of_lt (blk_lt (Zb BK388.out)) : gb388 ≠ gb399)); have n13_ := Zw ((by rw [hg]; exact Nat.ne_of_gt (blk_lt (Zb BK388.out)) : gb399 ≠ gb388)); clear HO398; clear BK386; clear BK387; clear BK388; clear HB; have HO398 := n0_; have BK386 := n1_; have BK387 := n2_; have BK388 := n3_; have HB := n4_; have BK399 := n5_; have GW399 := n6_; have GE399 := n7_; have NB386_399 := n8_; have NB399_386 := n9_; have NB387_399 := n10_; have NB399_387 := n11_; have NB388_399 := n12_; have NB399_388 := n13_; clear n0_ n1_ n2_ n3_ n4_ n5_ n6_ n7_ n8_ n9_ n10_ n11_ n12_ n13_; clear hb hbox hg; obtain ⟨Ao43, co43, eo43⟩ := Kd.N_slice HO398.out; subst eo43; have hnb44 := NB399_386.out; have hnc44 := NB386_399.out; have hnb45 := NB399_387.out; have hnc45 := NB387_399.out; have hnb46 := NB399_388.out; have hnc46 := NB388_399.out; have hcz47_0 := Zcl BK399.out 0 rfl; have hfz47_0 := blk_frozen BK399.out 0))
          have n0_ : Aside0 (Kd.N k31 31 (w42.setCell ⟨gb399, 0, none⟩ (.slice Ao43 t396.length co43)) w.heap.size (fun k_ => (w.heap.size ≤ k_) ∧ k_ ≠ gb386 ∧ k_ ≠ gb387 ∧ k_ ≠ gb388 ∧ k_ ≠ gb399) (.slice Ao43 t396.length co43) t396) := ⟨by refine ZNk ?_; exact Kd.N_mono (Kd.N_far (p := ⟨gb399, 0, none⟩) (Kd.N_mono HO398.out (fun k_ hk => (⟨hk, hk.2⟩ : _ ∧ k_ ≠ gb399))) (fun _ hk => hk.2) (.slice Ao43 t396.length co43)) (fun _ hk => ⟨hk.1.1.1, ⟨hk.1.1.2.1, ⟨hk.1.1.2.2.1, ⟨hk.1.1.2.2.2, hk.1.2⟩⟩⟩⟩)⟩
          have n1_ : Aside0 ((w42.setCell ⟨gb399, 0, none⟩ (.slice Ao43 t396.length co43)).heap[gb386]? = some (.cells #[.slice A0_0 l0_0.length c0_0] 24 (0, 0))) := ⟨by refine Zbk ?_; refine blk_far ?_ NB386_399.out _; refine Zbk ?_; exact BK386.out⟩
          have n2_ : Aside0 ((w42.setCell ⟨gb399, 0, none⟩ (.slice Ao43 t396.length co43)).heap[gb387]? = some (.cells #[.int .i64 a1_0, .slice A1_1 l1_1.length c1_1] 31 (0, 0))) := ⟨by refine Zbk ?_; refine blk_far ?_ NB387_399.out _; refine Zbk ?_; exact BK387.out⟩
          have n3_ : Aside0 ((w42.setCell ⟨gb399, 0, none⟩ (.slice Ao43 t396.length co43)).heap[gb388]? = some (.cells #[.slice none 0 0] 24 (0, 0))) := ⟨by refine Zbk ?_; refine blk_far ?_ NB388_399.out _; refine Zbk ?_; exact BK388.out⟩
          have n4_ : Aside0 ((w42.setCell ⟨gb399, 0, none⟩ (.slice Ao43 t396.length co43)).heap[gb399]? = some (.cells #[.slice Ao43 t396.length co43] 24 (0, 0))) := ⟨by refine Zbk ?_; refine blk_put (cs := #[.slice none 0 0]) ?_ 0 _ rfl; refine Zbk ?_; exact BK399.out⟩
          have n5_ : Aside0 (Below w.heap.size w (w42.setCell ⟨gb399, 0, none⟩ (.slice Ao43 t396.length co43))) := ⟨Zh4 HB.out GE386.out GE387.out GE388.out GE399.out⟩
          (try clear HO398)
          (try clear BK386)
          (try clear BK387)
          (try clear BK388)
          (try clear BK399)
          (try clear HB)
          generalize (w42.setCell ⟨gb399, 0, none⟩ (.slice Ao43 t396.length co43)) = w48 at n0_ n1_ n2_ n3_ n4_ n5_ ⊢
          have HO398 := n0_
          have BK386 := n1_
          have BK387 := n2_
          have BK388 := n3_
          have BK399 := n4_
          have HB := n5_
          clear n0_ n1_ n2_ n3_ n4_ n5_
          have n0_ := Zw (Kd.N_drew HO398.out)
          have n1_ := Zw (blk_drew BK386.out)
          have n2_ := Zw (blk_drew BK387.out)
          have n3_ := Zw (blk_drew BK388.out)
          have n4_ := Zw (blk_drew BK399.out)
          have n5_ := Zw (below_drew1 HB.out)
          clear HO398
          clear BK386
          clear BK387
          clear BK388
          clear BK399
          clear HB
          have HO398 := n0_
          have BK386 := n1_
          have BK387 := n2_
          have BK388 := n3_
          have BK399 := n4_
          have HB := n5_
          clear n0_ n1_ n2_ n3_ n4_ n5_
          refine start_ (n := 8) (S := fun w' => w'.cell? ⟨gb399, 0, none⟩ = some (.slice Ao43 t396.length co43) ∧ w'.cell? ⟨gb387, 0, none⟩ = some (.int .i64 a1_0) ∧ w'.cell? ⟨gb387, 1, none⟩ = some (.slice A1_1 l1_1.length c1_1)) (ds := [7]) #[false, false, false, false, false, false, false, false] (by kernel_rfl) rfl rfl ⟨(blk_cell BK399.out 0).trans rfl, (blk_cell BK387.out 0).trans rfl, (blk_cell BK387.out 1).trans rfl⟩ (fun hHeld => ?_); refine with_tabW memory_Add.tab8 memory_Add.bits8 (fun HT_ HW_ => ?_)
          generalize w48.drew = w49 at HO398 BK386 BK387 BK388 BK399 HB hHeld ⊢
          refine pure_ (i := 0) (N := some 48) (v := ?_) (a' := ?_) #[true, false, false, false, false, false, false, false] rfl rfl (any_of HT_.out (by kernel_rfl)) (fun _ _ _ h => h) (Or.inl ⟨by rfl, ?_⟩) ?_ ?_
          rotate_left
          ·intro w'
           go_simp
           with_reducible rfl
          rotate_left
          ·simp only [Act.put, zsA, zsZ, zsS, i64_w, i32_w]
           rfl
          refine take_ (i := 1) (N := some 49) (v := ?_) (a' := ?_) #[true, true, false, false, false, false, false, false] rfl rfl (take_ofW HT_.out HW_.out (by kernel_rfl)) (fun _ _ _ h => h) (Or.inl ⟨by rfl, ?_⟩) hHeld ?_ ?_
          rotate_left
          ·rintro w' ⟨s0, s1, s2⟩
           go_simp
           with_reducible rfl
          rotate_left
          ·simp only [Act.put, zsA, zsZ, zsS, i64_w, i32_w]
           rfl
          refine take_ (i := 2) (N := some 50) (v := ?_) (a' := ?_) #[true, true, true, false, false, false, false, false] rfl rfl (take_ofW HT_.out HW_.out (by kernel_rfl)) (fun _ _ _ h => h) (Or.inl ⟨by rfl, ?_⟩) hHeld ?_ ?_
          rotate_left
          ·rintro w' ⟨s0, s1, s2⟩
           go_simp
           with_reducible rfl
          rotate_left
          ·simp only [Act.put, zsA, zsZ, zsS, i64_w, i32_w]
           rfl
          refine one_ (i := 3) (N := some 51) #[true, true, true, true, false, false, false, false] rfl rfl (one_of HT_.out (by kernel_rfl)) (by decide) (fun K hK => ?_)
          refine goes_ Try.func39 (by kernel_rfl) rfl #[.agg #[.int .i64 a1_0, .slice A1_1 l1_1.length c1_1]] (by rfl) rfl rfl Zm ?_
          with_reducible refine (memory_clonePage.calls a1_0 _ _ l1_1 t400 t401 _ ?side1 ?side2 A34.out).mono ?_
          (case side1 => exact Zc (Kd.C_below HR1_1.out HB.out))
          (case side2 => exact HC1_1.out)
          rintro e w50 ⟨v402, rfl, ho0, hb⟩
          refine ⟨_, rfl, ?_⟩
          have n0_ := Zw (Kd.N_elder' (ZN HO398.out) (by first | exact Kd.R_base ho0 | exact Kd.S_base ho0 | exact Kd.R_base ho0 | exact Kd.N_base ho0) hb)
          have n1_ := Zw (Kd.R_lower (Kd.R_newM (M := fun k_ => (w.heap.size ≤ k_)) ho0 (below_size (Zh4 HB.out GE386.out GE387.out GE388.out GE399.out)) (fun k_ h_ => h_)) (below_size (Zh4 HB.out GE386.out GE387.out GE388.out GE399.out)))
          have n2_ := Zw (blk_below (g := gb386) (o := .cells #[.slice A0_0 l0_0.length c0_0] 24 (0, 0)) (Zb BK386.out) hb)
          have n3_ := Zw (blk_below (g := gb387) (o := .cells #[.int .i64 a1_0, .slice A1_1 l1_1.length c1_1] 31 (0, 0)) (Zb BK387.out) hb)
          have n4_ := Zw (blk_below (g := gb388) (o := .cells #[.slice none 0 0] 24 (0, 0)) (Zb BK388.out) hb)
          have n5_ := Zw (blk_below (g := gb399) (o := .cells #[.slice Ao43 t396.length co43] 24 (0, 0)) (Zb BK399.out) hb)
          have n6_ := Zw (below_step (Zh4 HB.out GE386.out GE387.out GE388.out GE399.out) hb)
          clear HO398
          clear BK386
          clear BK387
          clear BK388
          clear BK399
          clear HB
          have HO398 := n0_
          have HO403 := n1_
          have BK386 := n2_
          have BK387 := n3_
          have BK388 := n4_
          have BK399 := n5_
          have HB := n6_
          clear n0_ n1_ n2_ n3_ n4_ n5_ n6_
          (try clear hb)
          (try clear hb2)
          (try clear hk)
          (try clear hi)
          (try clear ho0)
          obtain ⟨Ao52, co52, eo52⟩ := Kd.R_slice HO403.out
          (first | subst eo52 | (injection eo52 with f1_ f2_ f3_; have f4_ := f1_.symm; have f5_ := f3_.symm; clear f1_ f2_ f3_; subst f4_; subst f5_))
          refine hK.out _ _ ⟨(blk_cell BK399.out 0).trans rfl, (blk_cell BK387.out 0).trans rfl, (blk_cell BK387.out 1).trans rfl⟩ (fun hHeld => ?_)
          clear hK K
          refine norm_ (a' := ?_) ?_ ?_
          rotate_left
          ·show Act.put _ (some 51) _ = _
           simp only [Act.put, zsA, zsZ, zsS, i64_w, i32_w]
           rfl
          refine one_ (i := 4) (N := some 52) #[true, true, true, true, true, false, false, false] rfl rfl (one_of HT_.out (by kernel_rfl)) (by decide) (fun K hK => ?_)
          refine value_ (w1 := ?_) (v := ?_) (by rfl) rfl ?_ ?_
          rotate_left 2
          ·go_simp
           constructor
           ·rfl
           ·rfl
          refine hK.out _ _ ⟨(blk_cell (blk_alloc BK399.out _) 0).trans rfl, (blk_cell (blk_alloc BK387.out _) 0).trans rfl, (blk_cell (blk_alloc BK387.out _) 1).trans rfl⟩ (fun hHeld => ?_)
          clear hK K
          refine norm_ (a' := ?_) ?_ ?_
          rotate_left
          ·show Act.put _ (some 52) _ = _
           simp only [Act.put, zsA, zsZ, zsS, i64_w, i32_w]
           rfl
          refine one_ (i := 5) (N := some 53) #[true, true, true, true, true, true, false, false] rfl rfl (one_of HT_.out (by kernel_rfl)) (by decide) (fun K hK => ?_)
          refine Kd.N_append_step k31 (w0 := w) w.heap.size (by rfl) (.tmp 49) (.tmp 52) 22 31 (.agg #[(.int .i64 0), (.slice none 0 0)]) 32 rfl Try.underlying22 info31 rfl (by decide) (by omega) (.slice Ao43 t396.length co43) t396 (⟨t400, t401⟩ : S31) [.int .i64 t400, .slice Ao52 t401.length co52] (fun k_ => (w.heap.size ≤ k_) ∧ k_ ≠ gb386 ∧ k_ ≠ gb387 ∧ k_ ≠ gb388 ∧ k_ ≠ gb399) (fun k_ => ((fun k_ => (w.heap.size ≤ k_) ∧ k_ ≠ gb386 ∧ k_ ≠ gb387 ∧ k_ ≠ gb388 ∧ k_ ≠ gb399)) k_ ∧ some k_ ≠ (.slice Ao43 t396.length co43 : Value).ownBlock) rfl rfl ?aP (fun _ hk => hk) ?aF ?aO ?aB ?aS ?aL ?_
          (case aP => exact (k31_mkF _ _ (⟨t400, t401⟩ : S31) (Kd.R_reads' (Kd.R_mono (ok' := (fun k_ => ((fun k_ => (w.heap.size ≤ k_) ∧ k_ ≠ gb386 ∧ k_ ≠ gb387 ∧ k_ ≠ gb388 ∧ k_ ≠ gb399)) k_ ∧ some k_ ≠ (.slice Ao43 t396.length co43 : Value).ownBlock)) (Kd.R_types (Kd.R_types (Kd.R_types (Kd.R_types (Kd.R_apart' (HO403.out) (Kd.N_typed HO398.out) (by decide)) BK386.out (by decide)) BK387.out (by decide)) BK388.out (by decide)) BK399.out (by decide)) (fun k_ hk => ⟨⟨hk.1.1.1.1.1.1, ⟨hk.1.1.1.2, ⟨hk.1.1.2, ⟨hk.1.2, hk.2⟩⟩⟩⟩, hk.1.1.1.1.2⟩))).2.1 (Kd.R_F (Kd.R_mono (ok' := (fun k_ => ((fun k_ => (w.heap.size ≤ k_) ∧ k_ ≠ gb386 ∧ k_ ≠ gb387 ∧ k_ ≠ gb388 ∧ k_ ≠ gb399)) k_ ∧ some k_ ≠ (.slice Ao43 t396.length co43 : Value).ownBlock)) (Kd.R_types (Kd.R_types (Kd.R_types (Kd.R_types (Kd.R_apart' (HO403.out) (Kd.N_typed HO398.out) (by decide)) BK386.out (by decide)) BK387.out (by decide)) BK388.out (by decide)) BK399.out (by decide)) (fun k_ hk => ⟨⟨hk.1.1.1.1.1.1, ⟨hk.1.1.1.2, ⟨hk.1.1.2, ⟨hk.1.2, hk.2⟩⟩⟩⟩, hk.1.1.1.1.2⟩)))))
          (case aB => exact (Zh4 HB.out GE386.out GE387.out GE388.out GE399.out))
          (case aF => exact (fun k_ hk => ⟨(Nat.le_trans (below_size (Zh4 HB.out GE386.out GE387.out GE388.out GE399.out)) hk), Kd.freshB (g := gb386) (o := .cells #[.slice A0_0 l0_0.length c0_0] 24 (0, 0)) (Zb BK386.out) k_ hk, Kd.freshB (g := gb387) (o := .cells #[.int .i64 a1_0, .slice A1_1 l1_1.length c1_1] 31 (0, 0)) (Zb BK387.out) k_ hk, Kd.freshB (g := gb388) (o := .cells #[.slice none 0 0] 24 (0, 0)) (Zb BK388.out) k_ hk, Kd.freshB (g := gb399) (o := .cells #[.slice Ao43 t396.length co43] 24 (0, 0)) (Zb BK399.out) k_ hk⟩))
          (case aO => exact (by refine ZNk ?_; exact Kd.N_mono HO398.out (fun _ hk => ⟨hk.1.1, ⟨hk.1.2.1, ⟨hk.1.2.2.1, ⟨hk.1.2.2.2.1, hk.1.2.2.2.2⟩⟩⟩⟩)))
          (case aS => exact (below_size (Zh4 HB.out GE386.out GE387.out GE388.out GE399.out)))
          (case aL => have := LMc35.out; omega)
          intro v405 w51 ho hb hg hat
          rw [← Ny404.out] at ho
          have n0_ := Zw (blk_grown (g := gb386) (o := .cells #[.slice A0_0 l0_0.length c0_0] 24 (0, 0)) (Zb BK386.out) hg (Kd.N_ne HO398.out BK386.out (by decide)))
          have n1_ := Zw (blk_grown (g := gb387) (o := .cells #[.int .i64 a1_0, .slice A1_1 l1_1.length c1_1] 31 (0, 0)) (Zb BK387.out) hg (Kd.N_away HO398.out (fun _ hk => hk.1.2.2.1)))
          have n2_ := Zw (blk_grown (g := gb388) (o := .cells #[.slice none 0 0] 24 (0, 0)) (Zb BK388.out) hg (Kd.N_ne HO398.out BK388.out (by decide)))
          have n3_ := Zw (blk_grown (g := gb399) (o := .cells #[.slice Ao43 t396.length co43] 24 (0, 0)) (Zb BK399.out) hg (Kd.N_ne HO398.out BK399.out (by decide)))
          have n4_ := Zw (hb)
          have n5_ := Zw (ho)
          clear BK386
          clear BK387
          clear BK388
          clear BK399
          clear HB
          clear HO398
          clear HO403
          have BK386 := n0_
          have BK387 := n1_
          have BK388 := n2_
          have BK399 := n3_
          have HB := n4_
          have HO406 := n5_
          clear n0_ n1_ n2_ n3_ n4_ n5_
          clear ho hb hg hat
          obtain ⟨Ao53, co53, eo53⟩ := Kd.N_slice HO406.out
          (first | subst eo53 | (injection eo53 with f1_ f2_ f3_; have f4_ := f1_.symm; have f5_ := f3_.symm; clear f1_ f2_ f3_; subst f4_; subst f5_))
          refine hK.out _ _ ⟨(blk_cell BK399.out 0).trans rfl, (blk_cell BK387.out 0).trans rfl, (blk_cell BK387.out 1).trans rfl⟩ (fun hHeld => ?_)
          clear hK K
          refine norm_ (a' := ?_) ?_ ?_
          rotate_left
          ·show Act.put _ (some 53) _ = _
           simp only [Act.put, zsA, zsZ, zsS, i64_w, i32_w]
           rfl
          refine pure_ (i := 6) (N := some 54) (v := ?_) (a' := ?_) #[true, true, true, true, true, true, true, false] rfl rfl (any_of HT_.out (by kernel_rfl)) (fun _ _ _ h => h) (Or.inl ⟨by rfl, ?_⟩) ?_ ?_
          rotate_left
          ·intro w'
           go_simp
           with_reducible rfl
          rotate_left
          ·simp only [Act.put, zsA, zsZ, zsS, i64_w, i32_w]
           rfl
          refine last_ (i := 7) (N := none) #[true, true, true, true, true, true, true, true] rfl rfl (one_of HT_.out (by kernel_rfl)) (by decide) (fun K hK => ?_)
          have hs54 : w51.cell? ⟨gb399, 0, none⟩ = some (.slice Ao43 t396.length co43) := (blk_cell BK399.out 0).trans rfl
          have hfs54 := blk_frozen BK399.out 0
          have hns54_0 := NB386_399.out
          have hns54_1 := NB387_399.out
          have hns54_2 := NB388_399.out
          have hms54_0 := NB399_386.out
          have hms54_1 := NB399_387.out
          have hms54_2 := NB399_388.out
          refine skip_ (w1 := ?_) (by rfl) rfl ?_ ?_
          rotate_left
          ·go_simp
           rfl
          refine hK.out _ _ ?_
          clear hK K
          refine done_ (done_of HT_.out (by kernel_rfl)) ?_
          go_upto_if 55 with (fail)
          go_cut [6] (fun v6 wc => ∃ (kq : Nat) (x6_35 : Int), v6 = .int .i64 x6_35 ∧ Aside0 (memory_Add.j2 kq x6_35 l0_0 y404 = some (r1, r2)) ∧ Aside0 (kq ≤ kj21) ∧ Aside0 (Kd.N k31 31 wc w.heap.size (fun k_ => (w.heap.size ≤ k_) ∧ k_ ≠ gb386 ∧ k_ ≠ gb387 ∧ k_ ≠ gb388 ∧ k_ ≠ gb399) (.slice Ao53 y404.length co53) y404) ∧ Aside0 (wc.heap[gb386]? = some (.cells #[(.slice A0_0 l0_0.length c0_0)] 24 (0, 0))) ∧ Aside0 (wc.heap[gb387]? = some (.cells #[.int .i64 a1_0, (.slice A1_1 l1_1.length c1_1)] 31 (0, 0))) ∧ Aside0 (wc.heap[gb388]? = some (.cells #[(.slice none 0 0)] 24 (0, 0))) ∧ Aside0 (wc.heap[gb399]? = some (.cells #[(.slice Ao53 y404.length co53)] 24 (0, 0))) ∧ Aside0 (Below w.heap.size w wc))
          case first =>
           have H := HC36.out
           clear HC36
           by_cases c55 : x7_5 = true
           ·subst c55
            have H1 : (memory_Add.j2 kj21 (wrap64 (t390 + 1)) l0_0 y404) = some (r1, r2) := by rw [if_pos rfl] at H; exact H
            clear H
            have H := H1
            clear H1
            have H' := Aside0.mk H
            clear H
            go_wp2
            go_meet
            case rel => exact ⟨_, (wrap64 (t390 + 1)), (by first | rfl | (simp; done) | (simp [*]; done)), H', ⟨by have := HJ5.out; have := HJ21.out; first | omega | exact Nat.le_refl _⟩, ⟨by refine ZNk ?_; exact Kd.N_mono (Kd.N_far (p := ⟨gb399, 0, none⟩) (Kd.N_mono HO406.out (fun k_ hk => (⟨hk, hk.2.2.2.2⟩ : _ ∧ k_ ≠ gb399))) (fun _ hk => hk.2) (.slice Ao53 y404.length co53)) (fun _ hk => ⟨hk.1.1, ⟨hk.1.2.1, ⟨hk.1.2.2.1, ⟨hk.1.2.2.2.1, hk.1.2.2.2.2⟩⟩⟩⟩)⟩, ⟨by refine Zbk ?_; refine blk_far ?_ NB386_399.out _; refine Zbk ?_; exact BK386.out⟩, ⟨by refine Zbk ?_; refine blk_far ?_ NB387_399.out _; refine Zbk ?_; exact BK387.out⟩, ⟨by refine Zbk ?_; refine blk_far ?_ NB388_399.out _; refine Zbk ?_; exact BK388.out⟩, ⟨by refine Zbk ?_; refine blk_put (cs := #[.slice Ao43 t396.length co43]) ?_ 0 _ rfl; refine Zbk ?_; exact BK399.out⟩, ⟨Zh4 HB.out GE386.out GE387.out GE388.out GE399.out⟩⟩
           ·replace c55 := Bool.eq_false_iff.mpr c55
            subst c55
            have H1 : (memory_Add.j2 kj21 t390 l0_0 y404) = some (r1, r2) := by rw [if_neg (show ¬ (false = true) by decide)] at H; exact H
            clear H
            have H := H1
            clear H1
            have H' := Aside0.mk H
            clear H
            go_wp2
            go_meet
            case rel => exact ⟨_, (t390), (by first | rfl | (simp; done) | (simp [*]; done)), H', ⟨by have := HJ5.out; have := HJ21.out; first | omega | exact Nat.le_refl _⟩, ⟨by refine ZNk ?_; exact Kd.N_mono (Kd.N_far (p := ⟨gb399, 0, none⟩) (Kd.N_mono HO406.out (fun k_ hk => (⟨hk, hk.2.2.2.2⟩ : _ ∧ k_ ≠ gb399))) (fun _ hk => hk.2) (.slice Ao53 y404.length co53)) (fun _ hk => ⟨hk.1.1, ⟨hk.1.2.1, ⟨hk.1.2.2.1, ⟨hk.1.2.2.2.1, hk.1.2.2.2.2⟩⟩⟩⟩)⟩, ⟨by refine Zbk ?_; refine blk_far ?_ NB386_399.out _; refine Zbk ?_; exact BK386.out⟩, ⟨by refine Zbk ?_; refine blk_far ?_ NB387_399.out _; refine Zbk ?_; exact BK387.out⟩, ⟨by refine Zbk ?_; refine blk_far ?_ NB388_399.out _; refine Zbk ?_; exact BK388.out⟩, ⟨by refine Zbk ?_; refine blk_put (cs := #[.slice Ao43 t396.length co43]) ?_ 0 _ rfl; refine Zbk ?_; exact BK399.out⟩, ⟨Zh4 HB.out GE386.out GE387.out GE388.out GE399.out⟩⟩
          case rest =>
           clear HC36
           try clear c1
           try clear c2
           try clear p2
           try clear c3
           try clear p3
           try clear q3
           try clear hx3
           try clear c4
           try clear q4
           try clear c5
           try clear p6
           try clear c10
           try clear c11
           try clear c14
           try clear c18
           try clear c18b0
           try clear c19
           try clear c19b0
           try clear c23
           try clear c24
           try clear c25
           try clear c26
           try clear c27
           try clear c28
           try clear c29
           try clear c31
           try clear c31b0
           try clear c31b1
           try clear c32
           try clear c32b0
           try clear c32b1
           try clear c35
           try clear c36
           try clear c37
           try clear c38
           try clear c39
           try clear p39
           try clear q39
           try clear hx39
           try clear q40
           try clear c44
           try clear c45
           try clear c46
           try clear c55
           try clear hcz12_0
           try clear hcz12_1
           try clear hcz15_0
           try clear hcz16_0
           try clear hcz16_1
           try clear hcz26_0
           try clear hcz30_0
           try clear hcz39_0
           try clear hcz47_0
           try clear hfz12_0
           try clear hfz12_1
           try clear hfz15_0
           try clear hfz16_0
           try clear hfz16_1
           try clear hfz26_0
           try clear hfz30_0
           try clear hfz39_0
           try clear hfz47_0
           try clear hx391_0
           try clear hx391_1
           try clear p2
           try clear p3
           try clear p391
           try clear q3
           try clear q391
           try clear q40
           obtain ⟨kq, x6_35, rfl, HA, HJ35, HO_400000, BK386, BK387, BK388, BK399, HB⟩ := hcut
           cases kq with
           | zero => exact absurd HA.out (by simp [memory_Add.j2])
           | succ kj35 =>
            have H := HA.out
            clear HA
            simp only [memory_Add.j2] at H
            by_cases c56 : 0 ≤ x6_35
            ·rw [if_pos c56] at H
             have c56b0 := eq_true c56
             have c56b1 : decide (0 ≤ x6_35) = true := decide_eq_true c56
             clear c56
             by_cases c57 : x6_35 ≤ (l0_0.length : Int)
             ·rw [if_pos c57] at H
              have c57b0 := eq_true c57
              have c57b1 : decide (x6_35 ≤ (l0_0.length : Int)) = true := decide_eq_true c57
              clear c57
              obtain ⟨y407, hy407⟩ : ∃ y_ : List (S31), y_ = (l0_0.drop (x6_35 : Int).toNat) := ⟨_, rfl⟩
              replace H : ((memory_clone.f kj35 y407).bind fun t411 => (if y404.length + t411.length < 4398046511104 then (some ((y404 ++ t411), 0)) else (none))) = some (r1, r2) := by first | (rw [hy407]; with_reducible exact H) | (have H2_ := (Option.bind_some _ _).symm.trans H; rw [hy407]; with_reducible exact H2_) | (have H2_ := (Option.bind_some _ _).symm.trans H; with_reducible exact H2_) | with_reducible exact H | (rw [hy407]; exact H) | exact H
              have Ny407 := Aside0.mk hy407
              clear hy407
              replace H := Option.bind_eq_some_iff.mp H
              obtain ⟨t411, A580, H⟩ := H
              replace H : (if y404.length + t411.length < 4398046511104 then (some ((y404 ++ t411), 0)) else (none)) = some (r1, r2) := H
              have A58 := Aside0.mk A580
              clear A580
              by_cases c59 : y404.length + t411.length < 4398046511104
              ·rw [if_pos c59] at H
               have LMc59 := Aside0.mk c59
               clear c59
               obtain ⟨y414, hy414⟩ : ∃ y_ : List (S31), y_ = (y404 ++ t411) := ⟨_, rfl⟩
               replace H : (some (y414, 0)) = some (r1, r2) := by first | (rw [hy414]; with_reducible exact H) | (have H2_ := (Option.bind_some _ _).symm.trans H; rw [hy414]; with_reducible exact H2_) | (have H2_ := (Option.bind_some _ _).symm.trans H; with_reducible exact H2_) | with_reducible exact H | (rw [hy414]; exact H) | exact H
               have Ny414 := Aside0.mk hy414
               clear hy414
               simp only [Option.some.injEq, Prod.mk.injEq] at H
               obtain ⟨rfl, rfl⟩ := H
               try go_wp2
               have n0_ := Zw (Kd.N_drew HO_400000.out)
               have n1_ := Zw (blk_drew BK386.out)
               have n2_ := Zw (blk_drew BK387.out)
               have n3_ := Zw (blk_drew BK388.out)
               have n4_ := Zw (blk_drew BK399.out)
               have n5_ := Zw (below_drew1 HB.out)
               clear HO_400000
               clear BK386
               clear BK387
               clear BK388
               clear BK399
               clear HB
               have HO_400000 := n0_
               have BK386 := n1_
               have BK387 := n2_
               have BK388 := n3_
               have BK399 := n4_
               have HB := n5_
               clear n0_ n1_ n2_ n3_ n4_ n5_
               have q61 : (x6_35 : Int) ≤ ((l0_0.length : Int) : Int) := of_decide_eq_true Za
               obtain ⟨i061, hi061, _, hsz61, _⟩ := info_parts info31
               have hroom61 : l0_0.length ≤ c0_0 := HC0_0.out
               have hC61 : Kd.C k31 _ A0_0 l0_0.length l0_0 := HR0_0.out
               have q061 : (0 : Int) ≤ (x6_35 : Int) := of_decide_eq_true Za
               have hcut61 := cut_from (P := Try.prog) 22 31 .i64 Try.underlying22 hi061 2 hsz61 A0_0 l0_0.length c0_0 x6_35 q061 q61
               have hr61 := Kd.C_drop (m := (x6_35 : Int).toNat) (c := c0_0) hC61 (by omega) hroom61
               obtain ⟨A61, hA61⟩ : ∃ A1, A1 = (if c0_0 = (x6_35 : Int).toNat then A0_0 else (A0_0 : Option Addr).map (·.add ((x6_35 : Int).toNat * 2))) := ⟨_, rfl⟩
               obtain ⟨c61, hc61⟩ : ∃ c1, c1 = c0_0 - (x6_35 : Int).toNat := ⟨_, rfl⟩
               have hy61 : y407.length = l0_0.length - (x6_35 : Int).toNat := (by rw [Ny407.out, List.length_drop] <;> omega)
               rw [show (l0_0).drop (x6_35 : Int).toNat = y407 from Ny407.out.symm] at hr61
               replace hr61 : Kd.C k31 _ A61 y407.length y407 := (by rw [hA61]; exact hr61)
               rw [← hy61, ← hA61, ← hc61] at hcut61
               have HR410 := Aside0.mk hr61
               have HC410 := Zw (show y407.length ≤ c61 from by rw [hy61, hc61]; exact Nat.sub_le_sub_right hroom61 _)
               clear hr61 hC61 hroom61 hi061 hsz61 hc61
               have KY61 := Aside0.mk hy61
               have KA61 := Aside0.mk hA61
               clear hy61 hA61
               replace q61 := eq_true q61
               refine start_ (n := 13) (S := fun w' => w'.cell? ⟨gb399, 0, none⟩ = some (.slice Ao53 y404.length co53) ∧ w'.cell? ⟨gb386, 0, none⟩ = some (.slice A0_0 l0_0.length c0_0)) (ds := []) #[false, false, false, false, false, false, false, false, false, false, false, false, false] (by kernel_rfl) rfl rfl ⟨(blk_cell BK399.out 0).trans rfl, (blk_cell BK386.out 0).trans rfl⟩ (fun hHeld => ?_); refine with_tabW memory_Add.tab11 memory_Add.bits11 (fun HT_ HW_ => ?_)
               generalize wc.drew = w60 at HO_400000 BK386 BK387 BK388 BK399 HB HR410 hHeld ⊢
               refine pure_ (i := 0) (N := some 58) (v := ?_) (a' := ?_) #[true, false, false, false, false, false, false, false, false, false, false, false, false] rfl rfl (any_of HT_.out (by kernel_rfl)) (fun _ _ _ h => h) (Or.inl ⟨by rfl, ?_⟩) ?_ ?_
               rotate_left
               ·intro w'
                go_simp
                with_reducible rfl
               rotate_left
               ·simp only [Act.put, zsA, zsZ, zsS, i64_w, i32_w]
                rfl
               refine pure_ (i := 2) (N := some 60) (v := ?_) (a' := ?_) #[true, false, true, false, false, false, false, false, false, false, false, false, false] rfl rfl (any_of HT_.out (by kernel_rfl)) (fun _ _ _ h => h) (Or.inl ⟨by rfl, ?_⟩) ?_ ?_
               rotate_left
               ·intro w'
                go_simp
                with_reducible rfl
               rotate_left
               ·simp only [Act.put, zsA, zsZ, zsS, i64_w, i32_w]
                rfl
               refine pure_ (i := 4) (N := some 62) (v := ?_) (a' := ?_) #[true, false, true, false, true, false, false, false, false, false, false, false, false] rfl rfl (any_of HT_.out (by kernel_rfl)) (fun _ _ _ h => h) (Or.inl ⟨by rfl, ?_⟩) ?_ ?_
               rotate_left
               ·intro w'
                go_simp
                with_reducible rfl
               rotate_left
               ·simp only [Act.put, zsA, zsZ, zsS, i64_w, i32_w]
                rfl
               refine take_ (i := 1) (N := some 59) (v := ?_) (a' := ?_) #[true, true, true, false, true, false, false, false, false, false, false, false, false] rfl rfl (take_ofW HT_.out HW_.out (by kernel_rfl)) (fun _ _ _ h => h) (Or.inl ⟨by rfl, ?_⟩) hHeld ?_ ?_
               rotate_left
               ·rintro w' ⟨s0, s1⟩
                go_simp
                with_reducible rfl
               rotate_left
               ·simp only [Act.put, zsA, zsZ, zsS, i64_w, i32_w]
                rfl
               refine take_ (i := 3) (N := some 61) (v := ?_) (a' := ?_) #[true, true, true, true, true, false, false, false, false, false, false, false, false] rfl rfl (take_ofW HT_.out HW_.out (by kernel_rfl)) (fun _ _ _ h => h) (Or.inl ⟨by rfl, ?_⟩) hHeld ?_ ?_
               rotate_left
               ·rintro w' ⟨s0, s1⟩
                go_simp
                with_reducible rfl
               rotate_left
               ·simp only [Act.put, zsA, zsZ, zsS, i64_w, i32_w]
                rfl
               refine pure_ (i := 5) (N := some 63) (v := ?_) (a' := ?_) #[true, true, true, true, true, true, false, false, false, false, false, false, false] rfl rfl (any_of HT_.out (by kernel_rfl)) (fun _ _ _ h => h) (Or.inl ⟨by rfl, ?_⟩) ?_ ?_
               rotate_left
               ·intro w'
                go_simp
                with_reducible rfl
               rotate_left
               ·simp only [Act.put, zsA, zsZ, zsS, i64_w, i32_w]
                rfl
               refine pure_ (i := 6) (N := some 64) (v := ?_) (a' := ?_) #[true, true, true, true, true, true, true, false, false, false, false, false, false] rfl rfl (any_of HT_.out (by kernel_rfl)) (fun _ _ _ h => h) (Or.inl ⟨by rfl, ?_⟩) ?_ ?_
               rotate_left
               ·intro w'
                go_simp
                with_reducible rfl
               rotate_left
               ·simp only [Act.put, zsA, zsZ, zsS, i64_w, i32_w]
                rfl
               refine one_ (i := 7) (N := some 65) #[true, true, true, true, true, true, true, true, false, false, false, false, false] rfl rfl (one_of HT_.out (by kernel_rfl)) (by decide) (fun K hK => ?_)
               refine goes_ Try.func36 (by kernel_rfl) rfl #[.agg #[.slice A61 y407.length c61]] (by rfl) rfl rfl Zm ?_
               with_reducible refine (memory_clone.calls kj35 _ _ y407 t411 _ ?side1 ?side2 A58.out).mono ?_
               (case side1 => exact Zc (Kd.C_below HR410.out HB.out))
               (case side2 => exact HC410.out)
               rintro e w62 ⟨v412, rfl, ho0, hb⟩
               refine ⟨_, rfl, ?_⟩
               have n0_ := Zw (Kd.N_elder' (ZN HO_400000.out) (by first | exact Kd.N_base ho0 | exact Kd.S_base ho0 | exact Kd.R_base ho0 | exact Kd.N_base ho0) hb)
               have n1_ := Zw (Kd.N_lower (Kd.N_mono (ok' := fun k_ => (w.heap.size ≤ k_) ∧ some k_ ≠ (.slice Ao53 y404.length co53 : Value).ownBlock ∧ k_ ≠ gb386 ∧ k_ ≠ gb387 ∧ k_ ≠ gb388 ∧ k_ ≠ gb399) (Kd.S_N (Kd.S_bound ho0)) (fun k_ hk_ => ⟨(Nat.le_trans (below_size (Zh4 HB.out GE386.out GE387.out GE388.out GE399.out)) hk_.2.1), (Kd.fresh' (Kd.N_lt (ZN HO_400000.out)) k_ hk_.2.1), (Kd.freshB (g := gb386) (o := .cells #[.slice A0_0 l0_0.length c0_0] 24 (0, 0)) (Zb BK386.out) k_ hk_.2.1), (Kd.freshB (g := gb387) (o := .cells #[.int .i64 a1_0, .slice A1_1 l1_1.length c1_1] 31 (0, 0)) (Zb BK387.out) k_ hk_.2.1), (Kd.freshB (g := gb388) (o := .cells #[.slice none 0 0] 24 (0, 0)) (Zb BK388.out) k_ hk_.2.1), (Kd.freshB (g := gb399) (o := .cells #[.slice Ao53 y404.length co53] 24 (0, 0)) (Zb BK399.out) k_ hk_.2.1)⟩)) (below_size (Zh4 HB.out GE386.out GE387.out GE388.out GE399.out)))
               have n2_ := Zw (blk_below (g := gb386) (o := .cells #[.slice A0_0 l0_0.length c0_0] 24 (0, 0)) (Zb BK386.out) hb)
               have n3_ := Zw (blk_below (g := gb387) (o := .cells #[.int .i64 a1_0, .slice A1_1 l1_1.length c1_1] 31 (0, 0)) (Zb BK387.out) hb)
               have n4_ := Zw (blk_below (g := gb388) (o := .cells #[.slice none 0 0] 24 (0, 0)) (Zb BK388.out) hb)
               have n5_ := Zw (blk_below (g := gb399) (o := .cells #[.slice Ao53 y404.length co53] 24 (0, 0)) (Zb BK399.out) hb)
               have n6_ := Zw (below_step (Zh4 HB.out GE386.out GE387.out GE388.out GE399.out) hb)
               clear HO_400000
               clear BK386
               clear BK387
               clear BK388
               clear BK399
               clear HB
               have HO_400000 := n0_
               have HO413 := n1_
               have BK386 := n2_
               have BK387 := n3_
               have BK388 := n4_
               have BK399 := n5_
               have HB := n6_
               clear n0_ n1_ n2_ n3_ n4_ n5_ n6_
               (try clear hb)
               (try clear hb2)
               (try clear hk)
               (try clear hi)
               (try clear ho0)
               obtain ⟨Ao64, co64, eo64⟩ := Kd.N_slice HO413.out
               (first | subst eo64 | (injection eo64 with f1_ f2_ f3_; have f4_ := f1_.symm; have f5_ := f3_.symm; clear f1_ f2_ f3_; subst f4_; subst f5_))
               refine hK.out _ _ ⟨(blk_cell BK399.out 0).trans rfl, (blk_cell BK386.out 0).trans rfl⟩ (fun hHeld => ?_)
               clear hK K
               refine norm_ (a' := ?_) ?_ ?_
               rotate_left
               ·show Act.put _ (some 65) _ = _
                simp only [Act.put, zsA, zsZ, zsS, i64_w, i32_w]
                rfl
               refine pure_ (i := 8) (N := some 66) (v := ?_) (a' := ?_) #[true, true, true, true, true, true, true, true, true, false, false, false, false] rfl rfl (any_of HT_.out (by kernel_rfl)) (fun _ _ _ h => h) (Or.inl ⟨by rfl, ?_⟩) ?_ ?_
               rotate_left
               ·intro w'
                go_simp
                with_reducible rfl
               rotate_left
               ·simp only [Act.put, zsA, zsZ, zsS, i64_w, i32_w]
                rfl
               refine one_ (i := 9) (N := some 67) #[true, true, true, true, true, true, true, true, true, true, false, false, false] rfl rfl (one_of HT_.out (by kernel_rfl)) (by decide) (fun K hK => ?_)
               refine Kd.N_append_rows_step k31 (w0 := w) w.heap.size (by rfl) (.tmp 59) (.tmp 66) 22 31 (.agg #[(.int .i64 0), (.slice none 0 0)]) 32 rfl Try.underlying22 info31 rfl (by decide) (by omega) (.slice Ao53 y404.length co53) y404 t411 _ _ _ (fun k_ => (w.heap.size ≤ k_) ∧ k_ ≠ gb386 ∧ k_ ≠ gb387 ∧ k_ ≠ gb388 ∧ k_ ≠ gb399) (fun k_ => ((fun k_ => (w.heap.size ≤ k_) ∧ k_ ≠ gb386 ∧ k_ ≠ gb387 ∧ k_ ≠ gb388 ∧ k_ ≠ gb399)) k_ ∧ some k_ ≠ (.slice Ao53 y404.length co53 : Value).ownBlock) rfl rfl ?aO ?aR (fun _ hk => hk) ?aF ?aB ?aS ?aL ?_
               (case aR => exact (by skip; exact Kd.N_F (Kd.N_mono (ok' := (fun k_ => ((fun k_ => (w.heap.size ≤ k_) ∧ k_ ≠ gb386 ∧ k_ ≠ gb387 ∧ k_ ≠ gb388 ∧ k_ ≠ gb399)) k_ ∧ some k_ ≠ (.slice Ao53 y404.length co53 : Value).ownBlock)) (HO413.out) (fun k_ hk => ⟨⟨hk.1, ⟨hk.2.2.1, ⟨hk.2.2.2.1, ⟨hk.2.2.2.2.1, hk.2.2.2.2.2⟩⟩⟩⟩, hk.2.1⟩))))
               (case aB => exact (Zh4 HB.out GE386.out GE387.out GE388.out GE399.out))
               (case aF => exact (fun k_ hk => ⟨(Nat.le_trans (below_size (Zh4 HB.out GE386.out GE387.out GE388.out GE399.out)) hk), Kd.freshB (g := gb386) (o := .cells #[.slice A0_0 l0_0.length c0_0] 24 (0, 0)) (Zb BK386.out) k_ hk, Kd.freshB (g := gb387) (o := .cells #[.int .i64 a1_0, .slice A1_1 l1_1.length c1_1] 31 (0, 0)) (Zb BK387.out) k_ hk, Kd.freshB (g := gb388) (o := .cells #[.slice none 0 0] 24 (0, 0)) (Zb BK388.out) k_ hk, Kd.freshB (g := gb399) (o := .cells #[.slice Ao53 y404.length co53] 24 (0, 0)) (Zb BK399.out) k_ hk⟩))
               (case aO => exact (by refine ZNk ?_; exact Kd.N_mono HO_400000.out (fun _ hk => ⟨hk.1.1, ⟨hk.1.2.1, ⟨hk.1.2.2.1, ⟨hk.1.2.2.2.1, hk.1.2.2.2.2⟩⟩⟩⟩)))
               (case aS => exact (below_size (Zh4 HB.out GE386.out GE387.out GE388.out GE399.out)))
               (case aL => have := LMc59.out; omega)
               intro v415 w63 ho hb hg hat
               rw [← Ny414.out] at ho
               have n0_ := Zw (blk_grown (g := gb386) (o := .cells #[.slice A0_0 l0_0.length c0_0] 24 (0, 0)) (Zb BK386.out) hg (Kd.N_ne HO_400000.out BK386.out (by decide)))
               have n1_ := Zw (blk_grown (g := gb387) (o := .cells #[.int .i64 a1_0, .slice A1_1 l1_1.length c1_1] 31 (0, 0)) (Zb BK387.out) hg (Kd.N_away HO_400000.out (fun _ hk => hk.1.2.2.1)))
               have n2_ := Zw (blk_grown (g := gb388) (o := .cells #[.slice none 0 0] 24 (0, 0)) (Zb BK388.out) hg (Kd.N_ne HO_400000.out BK388.out (by decide)))
               have n3_ := Zw (blk_grown (g := gb399) (o := .cells #[.slice Ao53 y404.length co53] 24 (0, 0)) (Zb BK399.out) hg (Kd.N_ne HO_400000.out BK399.out (by decide)))
               have n4_ := Zw (Kd.N_afterv (ok := (fun k_ => (w.heap.size ≤ k_) ∧ k_ ≠ gb386 ∧ k_ ≠ gb387 ∧ k_ ≠ gb388 ∧ k_ ≠ gb399)) (by refine ZNk ?_; exact Kd.N_mono HO413.out (fun _ hk => ⟨⟨hk.1, ⟨hk.2.2.1, ⟨hk.2.2.2.1, ⟨hk.2.2.2.2.1, hk.2.2.2.2.2⟩⟩⟩⟩, hk.2.1⟩)) hg hat)
               have n5_ := Zw (hb)
               have n6_ := Zw (ho)
               clear BK386
               clear BK387
               clear BK388
               clear BK399
               clear HO413
               clear HB
               clear HO_400000
               have BK386 := n0_
               have BK387 := n1_
               have BK388 := n2_
               have BK399 := n3_
               have HO413 := n4_
               have HB := n5_
               have HO416 := n6_
               clear n0_ n1_ n2_ n3_ n4_ n5_ n6_
               clear ho hb hg hat
               obtain ⟨Ao65, co65, eo65⟩ := Kd.N_slice HO416.out
               (first | subst eo65 | (injection eo65 with f1_ f2_ f3_; have f4_ := f1_.symm; have f5_ := f3_.symm; clear f1_ f2_ f3_; subst f4_; subst f5_))
               refine hK.out _ _ ⟨(blk_cell BK399.out 0).trans rfl, (blk_cell BK386.out 0).trans rfl⟩ (fun hHeld => ?_)
               clear hK K
               refine norm_ (a' := ?_) ?_ ?_
               rotate_left
               ·show Act.put _ (some 67) _ = _
                simp only [Act.put, zsA, zsZ, zsS, i64_w, i32_w]
                rfl
               refine pure_ (i := 10) (N := some 68) (v := ?_) (a' := ?_) #[true, true, true, true, true, true, true, true, true, true, true, false, false] rfl rfl (any_of HT_.out (by kernel_rfl)) (fun _ _ _ h => h) (Or.inl ⟨by rfl, ?_⟩) ?_ ?_
               rotate_left
               ·intro w'
                go_simp
                with_reducible rfl
               rotate_left
               ·simp only [Act.put, zsA, zsZ, zsS, i64_w, i32_w]
                rfl
               refine one_ (i := 11) (N := none) #[true, true, true, true, true, true, true, true, true, true, true, true, false] rfl rfl (one_of HT_.out (by kernel_rfl)) (by decide) (fun K hK => ?_)
               have hs66 : w63.cell? ⟨gb388, 0, none⟩ = some (.slice none 0 0) := (blk_cell BK388.out 0).trans rfl
               have hfs66 := blk_frozen BK388.out 0
               have hns66_0 := NB386_388.out
               have hns66_1 := NB387_388.out
               have hns66_3 := NB399_388.out
               have hms66_0 := NB388_386.out
               have hms66_1 := NB388_387.out
               have hms66_3 := NB388_399.out
               refine skip_ (w1 := ?_) (by rfl) rfl ?_ ?_
               rotate_left
               ·go_simp
                rfl
               refine hK.out _ _ ⟨((cell_far (p := ⟨gb388, _, none⟩) NB399_388.out _).trans (hHeld.1)), ((cell_far (p := ⟨gb388, _, none⟩) NB386_388.out _).trans (hHeld.2))⟩ (fun hHeld => ?_)
               clear hK K
               refine pure_ (i := 12) (N := some 5) (v := ?_) (a' := ?_) #[true, true, true, true, true, true, true, true, true, true, true, true, true] rfl rfl (any_of HT_.out (by kernel_rfl)) (fun _ _ _ h => h) (Or.inl ⟨by rfl, ?_⟩) ?_ ?_
               rotate_left
               ·intro w'
                go_simp
                with_reducible rfl
               rotate_left
               ·simp only [Act.put, zsA, zsZ, zsS, i64_w, i32_w]
                rfl
               refine done_ (done_of HT_.out (by kernel_rfl)) ?_
               try go_wp2
               refine bodyPost_ret (results_ct rfl _ _ gb388 24 #[.slice Ao65 y414.length co65] (0, 0) _ rfl (by refine Zbk ?_; refine blk_put (cs := #[.slice none 0 0]) ?_ 0 _ rfl; refine Zbk ?_; exact BK388.out) Try.underlying24 rfl (by kernel_rfl)) rfl ?_
               exact ⟨_, by first | rfl | (simp [errW_none, errW_some] <;> rfl) | (simp [*, errW_none, errW_some] <;> rfl), by refine ZNk ?_; exact Kd.N_mono (Kd.N_far (p := ⟨gb388, 0, none⟩) (Kd.N_mono HO416.out (fun k_ hk => (⟨hk, hk.2.2.2.1⟩ : _ ∧ k_ ≠ gb388))) (fun _ hk => hk.2) (.slice Ao65 y414.length co65)) (fun _ hk => hk.1.1), Zh4 HB.out GE386.out GE387.out GE388.out GE399.out⟩
              ·rw [if_neg c59] at H
               exact absurd H (by simp)
             ·rw [if_neg c57] at H
              exact absurd H (by simp)
            ·rw [if_neg c56] at H
             exact absurd H (by simp)
         ·rw [if_neg c35] at H
          exact absurd H (by simp)
        ·rw [if_neg c32] at H
         exact absurd H (by simp)
       ·rw [if_neg c31] at H
        exact absurd H (by simp)
 ·replace c4 := Bool.eq_false_iff.mpr c4
  subst c4
  have H1 : (some (([] : List (S31)), 1)) = some (r1, r2) := by rw [if_neg (show ¬ (false = true) by decide)] at H; exact H
  clear H
  have H := H1
  clear H1
  simp only [Option.some.injEq, Prod.mk.injEq] at H
  obtain ⟨rfl, rfl⟩ := H
  go_enter Try.func26, Try.ntmps26
  go_wp2_with (first | ((with_reducible refine gate_dst (N := 2) rfl ?_); (try (refine gate_guard (by rfl) ?_; dsimp only)); refine box_event ?hg (N := 2) ?hd (cs := #[.slice A0_0 l0_0.length c0_0]) (t := 24) ?hr ?_; (case hd => rfl); (case hg => rfl); (case hr => first | (go_simp; done) | (go_simp; rfl)); intro gb386 hg w67 hbox hb; have n0_ := Zw (below_step (Zh HB.out) hb); have n1_ := Zw (hbox); have n2_ := Zw ((by rw [hg]; exact (below_size (Zh HB.out)) : w.heap.size ≤ gb386)); have n3_ := Zw ((by rw [hg]; exact (below_size (Zh HB.out)) : w.heap.size ≤ gb386)); clear HB; have HB := n0_; have BK386 := n1_; have GW386 := n2_; have GE386 := n3_; clear n0_ n1_ n2_ n3_; clear hb hbox hg) | ((with_reducible refine gate_dst (N := 3) rfl ?_); (try (refine gate_guard (by rfl) ?_; dsimp only)); refine box_event ?hg (N := 3) ?hd (cs := #[.int .i64 a1_0, .slice A1_1 l1_1.length c1_1]) (t := 31) ?hr ?_; (case hd => rfl); (case hg => rfl); (case hr => first | (go_simp; done) | (go_simp; rfl)); intro gb387 hg w68 hbox hb; have n0_ := Zw (blk_below (g := gb386) (o := .cells #[.slice A0_0 l0_0.length c0_0] 24 (0, 0)) (Zb BK386.out) hb); have n1_ := Zw (below_step (Zh1 HB.out GE386.out) hb); have n2_ := Zw (hbox); have n3_ := Zw ((by rw [hg]; exact (below_size (Zh1 HB.out GE386.out)) : w.heap.size ≤ gb387)); have n4_ := Zw ((by rw [hg]; exact (below_size (Zh1 HB.out GE386.out)) : w.heap.size ≤ gb387)); have n5_ := Zw ((by rw [hg]; exact Nat.ne_of_lt (blk_lt (Zb BK386.out)) : gb386 ≠ gb387)); have n6_ := Zw ((by rw [hg]; exact Nat.ne_of_gt (blk_lt (Zb BK386.out)) : gb387 ≠ gb386)); clear BK386; clear HB; have BK386 := n0_; have HB := n1_; have BK387 := n2_; have GW387 := n3_; have GE387 := n4_; have NB386_387 := n5_; have NB387_386 := n6_; clear n0_ n1_ n2_ n3_ n4_ n5_ n6_; clear hb hbox hg) | ((with_reducible refine gate_dst (N := 4) rfl ?_); (try (refine gate_guard (by rfl) ?_; dsimp only)); refine box_event ?hg (N := 4) ?hd (cs := #[.slice none 0 0]) (t := 24) ?hr ?_; (case hd => rfl); (case hg => rfl); (case hr => first | (go_simp; done) | (go_simp; rfl)); intro gb388 hg w69 hbox hb; have n0_ := Zw (blk_below (g := gb386) (o := .cells #[.slice A0_0 l0_0.length c0_0] 24 (0, 0)) (Zb BK386.out) hb); have n1_ := Zw (blk_below (g := gb387) (o := .cells #[.int .i64 a1_0, .slice A1_1 l1_1.length c1_1] 31 (0, 0)) (Zb BK387.out) hb); have n2_ := Zw (below_step (Zh2 HB.out GE386.out GE387.out) hb); have n3_ := Zw (hbox); have n4_ := Zw ((by rw [hg]; exact (below_size (Zh2 HB.out GE386.out GE387.out)) : w.heap.size ≤ gb388)); have n5_ := Zw ((by rw [hg]; exact (below_size (Zh2 HB.out GE386.out GE387.out)) : w.heap.size ≤ gb388)); have n6_ := Zw ((by rw [hg]; exact Nat.ne_of_lt (blk_lt (Zb BK386.out)) : gb386 ≠ gb388)); have n7_ := Zw ((by rw [hg]; exact Nat.ne_of_gt (blk_lt (Zb BK386.out)) : gb388 ≠ gb386)); have n8_ := Zw ((by rw [hg]; exact Nat.ne_of_lt (blk_lt (Zb BK387.out)) : gb387 ≠ gb388)); have n9_ := Zw ((by rw [hg]; exact Nat.ne_of_gt (blk_lt (Zb BK387.out)) : gb388 ≠ gb387)); clear BK386; clear BK387; clear HB; have BK386 := n0_; have BK387 := n1_; have HB := n2_; have BK388 := n3_; have GW388 := n4_; have GE388 := n5_; have NB386_388 := n6_; have NB388_386 := n7_; have NB387_388 := n8_; have NB388_387 := n9_; clear n0_ n1_ n2_ n3_ n4_ n5_ n6_ n7_ n8_ n9_; clear hb hbox hg; have hnb70 := NB387_386.out; have hnc70 := NB386_387.out; have hnb71 := NB387_388.out; have hnc71 := NB388_387.out; have hcz72_0 := Zcl BK387.out 0 rfl; have hcz72_1 := Zcl BK387.out 1 rfl; have hfz72_0 := blk_frozen BK387.out 0; have hfz72_1 := blk_frozen BK387.out 1) | ((with_reducible refine gate_callee (f := 32) rfl ?_); refine goesL_ (some 10) rfl rfl Try.func32 (by kernel_rfl) rfl #[.agg #[.int .i64 a1_0, .slice A1_1 l1_1.length c1_1]] rfl Zm ?_; (with_reducible refine (memory_rightPage.calls a1_0 _ _ l1_1 false _ ?side1 ?side2 A3.out).mono ?_); (case side1 => exact Zc (Kd.C_below HR1_1.out HB.out)); (case side2 => exact HC1_1.out); rintro e w73 ⟨rfl, hb⟩; refine ⟨_, rfl, ?_⟩; have n0_ := Zw (blk_below (g := gb386) (o := .cells #[.slice A0_0 l0_0.length c0_0] 24 (0, 0)) (Zb BK386.out) hb); have n1_ := Zw (blk_below (g := gb387) (o := .cells #[.int .i64 a1_0, .slice A1_1 l1_1.length c1_1] 31 (0, 0)) (Zb BK387.out) hb); have n2_ := Zw (blk_below (g := gb388) (o := .cells #[.slice none 0 0] 24 (0, 0)) (Zb BK388.out) hb); have n3_ := Zw (below_step (Zh3 HB.out GE386.out GE387.out GE388.out) hb); clear BK386; clear BK387; clear BK388; clear HB; have BK386 := n0_; have BK387 := n1_; have BK388 := n2_; have HB := n3_; clear n0_ n1_ n2_ n3_; (try clear hb); (try clear hb2); (try clear hk); (try clear hi); have hnb74 := NB388_386.out; have hnc74 := NB386_388.out; have hcz75_0 := Zcl BK388.out 0 rfl; have hfz75_0 := blk_frozen BK388.out 0))
  refine bodyPost_ret (results_ct rfl _ _ gb388 24 #[.slice none 0 0] (0, 0) _ rfl (by refine Zbk ?_; refine blk_put (cs := #[.slice none 0 0]) ?_ 0 _ rfl; refine Zbk ?_; exact BK388.out) Try.underlying24 rfl (by kernel_rfl)) rfl ?_
  exact ⟨_, by first | rfl | (simp [errW_none, errW_some] <;> rfl) | (simp [*, errW_none, errW_some] <;> rfl), by first | exact Kd.S_nil _ _ _ _ _ | exact Kd.N_nil _ _ _ _ _ | exact Kd.V_nil _ _ _ _ _ | exact Kd.Q_nil _ _ _ _ _ | exact Kd.R_nil _ _ _ _ _, Zh3 HB.out GE386.out GE387.out GE388.out⟩

end Go.Proofs.Ytpifepaflljolaa.PMem
