-- By wip/xprint.py (a driver of this session's over the kit's print), for this claim.
import Derived.Test.YtpifepaflljolaaPMemx0
import Derived.Test.YtpifepaflljolaaPMemx16
import Derived.Test.YtpifepaflljolaaPMemx17
namespace Go.Proofs.Ytpifepaflljolaa.PMem
open Go.RowKit Go.Proofs.YtpifepaflljolaaW.PrintWords Go.Proofs.YtpifepaflljolaaW.PrintLast Go.Proofs.YtpifepaflljolaaW.PrintMore
attribute [local go_sem] max2_int min2_int max_two min_two max_three min_three max_four min_four   -- for this text's walks alone
set_option linter.unusedVariables false
set_option linter.unusedSimpArgs false

/-! ### debuggerref25_Add: function 27 -/
mutual
def debuggerref25_Add.l0 : Nat → Int → Int → List Int → List (S31) → List (S31) → Option ((List (S31)) × Int)
 | 0, _, _, _, _, _ => none
 | k + 1, x8, x206000, x206001, x212000, x213000 => if x8 < (x212000.length : Int) then (if 0 ≤ x8 then (debuggerref25_Add.j1 k x8 (decide (((rd_T31 x212000 x8).f0) < x206000)) x206000 x206001 x212000 x213000) else (none)) else (debuggerref25_Add.j1 k x8 false x206000 x206001 x212000 x213000)
def debuggerref25_Add.j1 : Nat → Int → Bool → Int → List Int → List (S31) → List (S31) → Option ((List (S31)) × Int)
 | 0, _, _, _, _, _, _ => none
 | k + 1, x8, x38, x206000, x206001, x212000, x213000 => if x38 = true then (if 0 ≤ x8 then (if x8 < (x212000.length : Int) then (if x213000.length < 4398046511104 then (debuggerref25_Add.l0 k (wrap64 (x8 + 1)) x206000 x206001 x212000 (x213000 ++ [(⟨(rd_T31 x212000 x8).f0, (rd_T31 x212000 x8).f1⟩ : S31)])) else (none)) else (none)) else (none)) else ((some (([] : List Int) : List Int)).bind fun y218 => (if y218.length + x206001.length < 17592186044416 then (if x213000.length < 4398046511104 then ((some (x213000 ++ [(⟨x206000, (y218 ++ x206001)⟩ : S31)] : List (S31))).bind fun y224 => (if 0 ≤ (x213000.length : Int) then (if (x213000.length : Int) ≤ (x212000.length : Int) then ((some (x212000.drop ((x213000.length : Int) : Int).toNat : List (S31))).bind fun y227 => (if y224.length + y227.length < 4398046511104 then (some ((y224 ++ y227), 0)) else (none))) else (none)) else (none))) else (none)) else (none)))
end
def debuggerref25_Add.f (k : Nat) (l0_0 : List (S31)) (a1_0 : Int) (l1_1 : List Int) : Option ((List (S31)) × Int) := (debuggerref25_page.f a1_0 l1_1).bind fun t207 => (if t207 = true then ((debuggerref25_Without.f k l0_0 a1_0).bind fun t208 => (if (t208.length : Int) ≥ 50000 then (some (([] : List (S31)), 5)) else (debuggerref25_Add.l0 k 0 a1_0 l1_1 t208 ([] : List (S31))))) else (some (([] : List (S31)), 1)))
theorem debuggerref25_Add.mono_l : ∀ k, (∀ y0 y1 y2 y3 y4, LeO (debuggerref25_Add.l0 k y0 y1 y2 y3 y4) (debuggerref25_Add.l0 (k + 1) y0 y1 y2 y3 y4)) ∧ (∀ y0 y1 y2 y3 y4 y5, LeO (debuggerref25_Add.j1 k y0 y1 y2 y3 y4 y5) (debuggerref25_Add.j1 (k + 1) y0 y1 y2 y3 y4 y5))
 | 0 => ⟨fun _ _ _ _ _ r h => by simp [debuggerref25_Add.l0] at h, fun _ _ _ _ _ _ r h => by simp [debuggerref25_Add.j1] at h⟩
 | k + 1 => by
  obtain ⟨ih0, ih1⟩ := debuggerref25_Add.mono_l k
  refine ⟨?_, ?_⟩
  ·intro y0 y1 y2 y3 y4
   unfold debuggerref25_Add.l0
   repeat' first
   | (with_reducible exact ih0 _ _ _ _ _)
   | (with_reducible exact ih1 _ _ _ _ _ _)
   | (with_reducible exact debuggerref25_Without.mono _ _ _)
   | (with_reducible exact LeO.refl _)
   | (with_reducible exact LeO.none _)
   | (with_reducible refine LeO.ite ?_ ?_)
   | (with_reducible refine LeO.bind ?_ (fun _ => ?_))
   | exact ih0 _ _ _ _ _
   | exact ih1 _ _ _ _ _ _
   | exact debuggerref25_Without.mono _ _ _
   | exact LeO.none _
   | refine LeO.ite ?_ ?_
   | refine LeO.bind ?_ (fun _ => ?_)
  ·intro y0 y1 y2 y3 y4 y5
   unfold debuggerref25_Add.j1
   repeat' first
   | (with_reducible exact ih0 _ _ _ _ _)
   | (with_reducible exact ih1 _ _ _ _ _ _)
   | (with_reducible exact debuggerref25_Without.mono _ _ _)
   | (with_reducible exact LeO.refl _)
   | (with_reducible exact LeO.none _)
   | (with_reducible refine LeO.ite ?_ ?_)
   | (with_reducible refine LeO.bind ?_ (fun _ => ?_))
   | exact ih0 _ _ _ _ _
   | exact ih1 _ _ _ _ _ _
   | exact debuggerref25_Without.mono _ _ _
   | exact LeO.none _
   | refine LeO.ite ?_ ?_
   | refine LeO.bind ?_ (fun _ => ?_)
theorem debuggerref25_Add.mono : ∀ a0 a1 a2 k, LeO (debuggerref25_Add.f k a0 a1 a2) (debuggerref25_Add.f (k + 1) a0 a1 a2) := by
 intro a0 a1 a2 k
 obtain ⟨ih0, ih1⟩ := debuggerref25_Add.mono_l k
 unfold debuggerref25_Add.f
 repeat' first
   | (with_reducible exact ih0 _ _ _ _ _)
   | (with_reducible exact ih1 _ _ _ _ _ _)
   | (with_reducible exact debuggerref25_Without.mono _ _ _)
   | (with_reducible exact LeO.refl _)
   | (with_reducible exact LeO.none _)
   | (with_reducible refine LeO.ite ?_ ?_)
   | (with_reducible refine LeO.bind ?_ (fun _ => ?_))
   | exact ih0 _ _ _ _ _
   | exact ih1 _ _ _ _ _ _
   | exact debuggerref25_Without.mono _ _ _
   | exact LeO.none _
   | refine LeO.ite ?_ ?_
   | refine LeO.bind ?_ (fun _ => ?_)
def debuggerref25_Add.T8 : Bool × List (List Nat × List Nat) := (true, [([], []), ([], []), ([1], [1]), ([2], [2]), ([0, 3], [0, 3]), ([4], [4]), ([5], [5]), ([6, 5], [5, 6]), ([5], [5]), ([7, 8, 5], [5, 7, 8]), ([9, 5], [5, 9]), ([10, 5], [5, 10]), ([5], [5]), ([12, 5], [5, 12]), ([11, 13, 5], [5, 11, 13]), ([5, 14], [5, 14])])
def debuggerref25_Add.B8 : List Nat := [0, 0, 2, 6, 15, 31, 63, 127, 63, 511, 1023, 2047, 63, 4159, 16383, 32767]
theorem debuggerref25_Add.tab8 : rtab .any (opsOf Try.f27 8) = debuggerref25_Add.T8 := by kernel_rfl
theorem debuggerref25_Add.bits8 : waitsOk debuggerref25_Add.T8.2 debuggerref25_Add.B8 = true := by kernel_rfl
def debuggerref25_Add.T10 : Bool × List (List Nat × List Nat) := (true, [([], []), ([0], [0]), ([], []), ([2], [2]), ([], []), ([3, 4], [3, 4]), ([5], [5]), ([6], [6]), ([1, 7], [1, 7]), ([0, 1, 2, 3, 4, 5, 6, 7, 8], []), ([9, 8, 8, 0, 1, 2, 3, 4, 5, 6, 7, 8], [8, 9])])
def debuggerref25_Add.B10 : List Nat := [0, 1, 0, 4, 0, 28, 60, 124, 255, 511, 1023]
theorem debuggerref25_Add.tab10 : rtab .any (opsOf Try.f27 10) = debuggerref25_Add.T10 := by kernel_rfl
theorem debuggerref25_Add.bits10 : waitsOk debuggerref25_Add.T10.2 debuggerref25_Add.B10 = true := by kernel_rfl
def debuggerref25_Add.T12 : Bool × List (List Nat × List Nat) := (true, [([], []), ([0], [0]), ([], []), ([2], [2]), ([], []), ([], []), ([5], [5]), ([4, 6], [4, 6]), ([3, 7], [3, 7]), ([8], [8]), ([1, 9, 7], [1, 9]), ([0, 1, 2, 3, 4, 5, 6, 7, 8, 9, 10], []), ([11, 10, 10, 0, 1, 2, 3, 4, 5, 6, 7, 8, 9, 10], [10, 11])])
def debuggerref25_Add.B12 : List Nat := [0, 1, 0, 4, 0, 0, 32, 112, 252, 508, 1023, 2047, 4095]
theorem debuggerref25_Add.tab12 : rtab .any (opsOf Try.f27 12) = debuggerref25_Add.T12 := by kernel_rfl
theorem debuggerref25_Add.bits12 : waitsOk debuggerref25_Add.T12.2 debuggerref25_Add.B12 = true := by kernel_rfl
def debuggerref25_Add.T13 : Bool × List (List Nat × List Nat) := (true, [([], []), ([0], [0]), ([], []), ([2], [2]), ([], []), ([3, 4], [3, 4]), ([1, 5], [1, 5]), ([0, 1, 2, 3, 4, 5, 6], []), ([7, 6, 6, 0, 1, 2, 3, 4, 5, 6], [6, 7])])
def debuggerref25_Add.B13 : List Nat := [0, 1, 0, 4, 0, 28, 63, 127, 255]
theorem debuggerref25_Add.tab13 : rtab .any (opsOf Try.f27 13) = debuggerref25_Add.T13 := by kernel_rfl
theorem debuggerref25_Add.bits13 : waitsOk debuggerref25_Add.T13.2 debuggerref25_Add.B13 = true := by kernel_rfl
set_option maxHeartbeats 8000000 in
set_option maxRecDepth 100000 in
theorem debuggerref25_Add.calls (k : Nat) (A0_0 : Option Addr) (c0_0 : Nat) (l0_0 : List (S31)) (a1_0 : Int) (A1_1 : Option Addr) (c1_1 : Nat) (l1_1 : List Int) (r1 : List (S31)) (r2 : Int) (w : World) (hr0_0 : Kd.C k31 w A0_0 l0_0.length l0_0) (hc0_0 : l0_0.length ≤ c0_0) (hr1_1 : Kd.C (Kd.int .i64) w A1_1 l1_1.length l1_1) (hc1_1 : l1_1.length ≤ c1_1) (h : debuggerref25_Add.f k l0_0 a1_0 l1_1 = some (r1, r2)) :
  Calls Try.prog 27 #[.agg #[.slice A0_0 l0_0.length c0_0], .agg #[.int .i64 a1_0, .slice A1_1 l1_1.length c1_1]] w fun e w' => ∃ v0_ : Value, e = .returned (.tuple #[.agg #[v0_], .int .i64 r2]) ∧ Kd.N k31 31 w' w.heap.size (fun k_ => (w.heap.size ≤ k_)) v0_ r1 ∧ Below w.heap.size w w' := by
 have hu24 := Try.underlying24
 have hu31 := Try.underlying31
 have HR0_0 := Aside0.mk hr0_0
 have HC0_0 := Aside0.mk hc0_0
 clear hr0_0 hc0_0
 have HR1_1 := Aside0.mk hr1_1
 have HC1_1 := Aside0.mk hc1_1
 clear hr1_1 hc1_1
 have HB := Zw (Below.refl w.heap.size w)
 have H : ((debuggerref25_page.f a1_0 l1_1).bind fun t207 => (if t207 = true then ((debuggerref25_Without.f k l0_0 a1_0).bind fun t208 => (if (t208.length : Int) ≥ 50000 then (some (([] : List (S31)), 5)) else (debuggerref25_Add.l0 k 0 a1_0 l1_1 t208 ([] : List (S31))))) else (some (([] : List (S31)), 1)))) = some (r1, r2) := h
 clear h
 replace H := Option.bind_eq_some_iff.mp H
 obtain ⟨t207, A30, H⟩ := H
 replace H : (if t207 = true then ((debuggerref25_Without.f k l0_0 a1_0).bind fun t208 => (if (t208.length : Int) ≥ 50000 then (some (([] : List (S31)), 5)) else (debuggerref25_Add.l0 k 0 a1_0 l1_1 t208 ([] : List (S31))))) else (some (([] : List (S31)), 1))) = some (r1, r2) := H
 have A3 := Aside0.mk A30
 clear A30
 by_cases c4 : t207 = true
 ·subst c4
  have H1 : ((debuggerref25_Without.f k l0_0 a1_0).bind fun t208 => (if (t208.length : Int) ≥ 50000 then (some (([] : List (S31)), 5)) else (debuggerref25_Add.l0 k 0 a1_0 l1_1 t208 ([] : List (S31))))) = some (r1, r2) := by rw [if_pos rfl] at H; exact H
  clear H
  have H := H1
  clear H1
  replace H := Option.bind_eq_some_iff.mp H
  obtain ⟨t208, A50, H⟩ := H
  replace H : (if (t208.length : Int) ≥ 50000 then (some (([] : List (S31)), 5)) else (debuggerref25_Add.l0 k 0 a1_0 l1_1 t208 ([] : List (S31)))) = some (r1, r2) := H
  have A5 := Aside0.mk A50
  clear A50
  by_cases c6 : (t208.length : Int) ≥ 50000
  ·rw [if_pos c6] at H
   have c6b0 : decide (50000 ≤ (t208.length : Int)) = true := decide_eq_true c6
   have c6b1 : decide (50000 ≤ t208.length) = true := decide_eq_true (by omega)
   clear c6
   simp only [Option.some.injEq, Prod.mk.injEq] at H
   obtain ⟨rfl, rfl⟩ := H
   go_enter Try.func27, Try.ntmps27
   go_wp2_with (first | ((with_reducible refine gate_dst (N := 2) rfl ?_); refine box_event ?hg (N := 2) ?hd (cs := #[.slice A0_0 l0_0.length c0_0]) (t := 24) ?hr ?_; (case hd => rfl); (case hg => rfl); (case hr => first | (go_simp; done) | (go_simp; rfl)); intro gb204 hg w7 hbox hb; have n0_ := Zw (below_step (Zh HB.out) hb); have n1_ := Zw (hbox); have n2_ := Zw ((by rw [hg]; exact (below_size (Zh HB.out)) : w.heap.size ≤ gb204)); have n3_ := Zw ((by rw [hg]; exact (below_size (Zh HB.out)) : w.heap.size ≤ gb204)); clear HB; have HB := n0_; have BK204 := n1_; have GW204 := n2_; have GE204 := n3_; clear n0_ n1_ n2_ n3_; clear hb hbox hg) | ((with_reducible refine gate_dst (N := 3) rfl ?_); refine box_event ?hg (N := 3) ?hd (cs := #[.int .i64 a1_0, .slice A1_1 l1_1.length c1_1]) (t := 31) ?hr ?_; (case hd => rfl); (case hg => rfl); (case hr => first | (go_simp; done) | (go_simp; rfl)); intro gb205 hg w8 hbox hb; have n0_ := Zw (blk_below (g := gb204) (o := .cells #[.slice A0_0 l0_0.length c0_0] 24 (0, 0)) (Zb BK204.out) hb); have n1_ := Zw (below_step (Zh1 HB.out GE204.out) hb); have n2_ := Zw (hbox); have n3_ := Zw ((by rw [hg]; exact (below_size (Zh1 HB.out GE204.out)) : w.heap.size ≤ gb205)); have n4_ := Zw ((by rw [hg]; exact (below_size (Zh1 HB.out GE204.out)) : w.heap.size ≤ gb205)); have n5_ := Zw ((by rw [hg]; exact Nat.ne_of_lt (blk_lt (Zb BK204.out)) : gb204 ≠ gb205)); have n6_ := Zw ((by rw [hg]; exact Nat.ne_of_gt (blk_lt (Zb BK204.out)) : gb205 ≠ gb204)); clear BK204; clear HB; have BK204 := n0_; have HB := n1_; have BK205 := n2_; have GW205 := n3_; have GE205 := n4_; have NB204_205 := n5_; have NB205_204 := n6_; clear n0_ n1_ n2_ n3_ n4_ n5_ n6_; clear hb hbox hg) | ((with_reducible refine gate_dst (N := 4) rfl ?_); refine box_event ?hg (N := 4) ?hd (cs := #[.slice none 0 0]) (t := 24) ?hr ?_; (case hd => rfl); (case hg => rfl); (case hr => first | (go_simp; done) | (go_simp; rfl)); intro gb206 hg w9 hbox hb; have n0_ := Zw (blk_below (g := gb204) (o := .cells #[.slice A0_0 l0_0.length c0_0] 24 (0, 0)) (Zb BK204.out) hb); have n1_ := Zw (blk_below (g := gb205) (o := .cells #[.int .i64 a1_0, .slice A1_1 l1_1.length c1_1] 31 (0, 0)) (Zb BK205.out) hb); have n2_ := Zw (below_step (Zh2 HB.out GE204.out GE205.out) hb); have n3_ := Zw (hbox); have n4_ := Zw ((by rw [hg]; exact (below_size (Zh2 HB.out GE204.out GE205.out)) : w.heap.size ≤ gb206)); have n5_ := Zw ((by rw [hg]; exact (below_size (Zh2 HB.out GE204.out GE205.out)) : w.heap.size ≤ gb206)); have n6_ := Zw ((by rw [hg]; exact Nat.ne_of_lt (blk_lt (Zb BK204.out)) : gb204 ≠ gb206)); have n7_ := Zw ((by rw [hg]; exact Nat.ne_of_gt (blk_lt (Zb BK204.out)) : gb206 ≠ gb204)); have n8_ := Zw ((by rw [hg]; exact Nat.ne_of_lt (blk_lt (Zb BK205.out)) : gb205 ≠ gb206)); have n9_ := Zw ((by rw [hg]; exact Nat.ne_of_gt (blk_lt (Zb BK205.out)) : gb206 ≠ gb205)); clear BK204; clear BK205; clear HB; have BK204 := n0_; have BK205 := n1_; have HB := n2_; have BK206 := n3_; have GW206 := n4_; have GE206 := n5_; have NB204_206 := n6_; have NB206_204 := n7_; have NB205_206 := n8_; have NB206_205 := n9_; clear n0_ n1_ n2_ n3_ n4_ n5_ n6_ n7_ n8_ n9_; clear hb hbox hg; have hnb10 := NB205_204.out; have hnc10 := NB204_205.out; have hnb11 := NB205_206.out; have hnc11 := NB206_205.out; have hcz12_0 := Zcl BK205.out 0 rfl; have hcz12_1 := Zcl BK205.out 1 rfl; have hfz12_0 := blk_frozen BK205.out 0; have hfz12_1 := blk_frozen BK205.out 1) | ((with_reducible refine gate_callee (f := 33) rfl ?_); refine goesL_ (some 11) rfl rfl Try.func33 (by kernel_rfl) rfl #[.agg #[.int .i64 a1_0, .slice A1_1 l1_1.length c1_1]] rfl Zm ?_; (with_reducible refine (debuggerref25_page.calls a1_0 _ _ l1_1 true _ ?side1 ?side2 A3.out).mono ?_); (case side1 => exact Zc (Kd.C_below HR1_1.out HB.out)); (case side2 => exact HC1_1.out); rintro e w13 ⟨rfl, hb⟩; refine ⟨_, rfl, ?_⟩; have n0_ := Zw (blk_below (g := gb204) (o := .cells #[.slice A0_0 l0_0.length c0_0] 24 (0, 0)) (Zb BK204.out) hb); have n1_ := Zw (blk_below (g := gb205) (o := .cells #[.int .i64 a1_0, .slice A1_1 l1_1.length c1_1] 31 (0, 0)) (Zb BK205.out) hb); have n2_ := Zw (blk_below (g := gb206) (o := .cells #[.slice none 0 0] 24 (0, 0)) (Zb BK206.out) hb); have n3_ := Zw (below_step (Zh3 HB.out GE204.out GE205.out GE206.out) hb); clear BK204; clear BK205; clear BK206; clear HB; have BK204 := n0_; have BK205 := n1_; have BK206 := n2_; have HB := n3_; clear n0_ n1_ n2_ n3_; (try clear hb); (try clear hb2); (try clear hk); (try clear hi); have hnb14 := NB204_206.out; have hnc14 := NB206_204.out; have hcz15_0 := Zcl BK204.out 0 rfl; have hfz15_0 := blk_frozen BK204.out 0; have hcz16_0 := Zcl BK205.out 0 rfl; have hcz16_1 := Zcl BK205.out 1 rfl; have hfz16_0 := blk_frozen BK205.out 0; have hfz16_1 := blk_frozen BK205.out 1) | ((with_reducible refine gate_callee (f := 29) rfl ?_); refine goesL_ (some 17) rfl rfl Try.func29 (by kernel_rfl) rfl #[.agg #[.slice A0_0 l0_0.length c0_0], .int .i64 a1_0] rfl Zm ?_; (with_reducible refine (debuggerref25_Without.calls k _ _ l0_0 a1_0 t208 _ ?side1 ?side2 A5.out).mono ?_); (case side1 => exact Zc (Kd.C_below HR0_0.out HB.out)); (case side2 => exact HC0_0.out); rintro e w17 ⟨v209, rfl, ho0, hb⟩; refine ⟨_, rfl, ?_⟩; have n0_ := Zw (Kd.N_lower (Kd.N_mono (ok' := fun k_ => (w.heap.size ≤ k_) ∧ k_ ≠ gb204 ∧ k_ ≠ gb205 ∧ k_ ≠ gb206) ho0 (fun k_ hk_ => ⟨(Nat.le_trans (below_size (Zh3 HB.out GE204.out GE205.out GE206.out)) hk_), (Kd.freshB (g := gb204) (o := .cells #[.slice A0_0 l0_0.length c0_0] 24 (0, 0)) (Zb BK204.out) k_ hk_), (Kd.freshB (g := gb205) (o := .cells #[.int .i64 a1_0, .slice A1_1 l1_1.length c1_1] 31 (0, 0)) (Zb BK205.out) k_ hk_), (Kd.freshB (g := gb206) (o := .cells #[.slice none 0 0] 24 (0, 0)) (Zb BK206.out) k_ hk_)⟩)) (below_size (Zh3 HB.out GE204.out GE205.out GE206.out))); have n1_ := Zw (blk_below (g := gb204) (o := .cells #[.slice A0_0 l0_0.length c0_0] 24 (0, 0)) (Zb BK204.out) hb); have n2_ := Zw (blk_below (g := gb205) (o := .cells #[.int .i64 a1_0, .slice A1_1 l1_1.length c1_1] 31 (0, 0)) (Zb BK205.out) hb); have n3_ := Zw (blk_below (g := gb206) (o := .cells #[.slice none 0 0] 24 (0, 0)) (Zb BK206.out) hb); have n4_ := Zw (below_step (Zh3 HB.out GE204.out GE205.out GE206.out) hb); clear BK204; clear BK205; clear BK206; clear HB; have HO210 := n0_; have BK204 := n1_; have BK205 := n2_; have BK206 := n3_; have HB := n4_; clear n0_ n1_ n2_ n3_ n4_; (try clear hb); (try clear hb2); (try clear hk); (try clear hi); (try clear ho0)) | ((with_reducible refine gate_dst (N := 6) rfl ?_); refine box_event ?hg (N := 6) ?hd (cs := #[.slice none 0 0]) (t := 24) ?hr ?_; (case hd => rfl); (case hg => rfl); (case hr => first | (go_simp; done) | (go_simp; rfl)); intro gb211 hg w18 hbox hb; have n0_ := Zw (Kd.N_below (Kd.N_elderB (ZN HO210.out) gb211 (Nat.le_of_eq hg.symm)) hb); have n1_ := Zw (blk_below (g := gb204) (o := .cells #[.slice A0_0 l0_0.length c0_0] 24 (0, 0)) (Zb BK204.out) hb); have n2_ := Zw (blk_below (g := gb205) (o := .cells #[.int .i64 a1_0, .slice A1_1 l1_1.length c1_1] 31 (0, 0)) (Zb BK205.out) hb); have n3_ := Zw (blk_below (g := gb206) (o := .cells #[.slice none 0 0] 24 (0, 0)) (Zb BK206.out) hb); have n4_ := Zw (below_step (Zh3 HB.out GE204.out GE205.out GE206.out) hb); have n5_ := Zw (hbox); have n6_ := Zw ((by rw [hg]; exact (below_size (Zh3 HB.out GE204.out GE205.out GE206.out)) : w.heap.size ≤ gb211)); have n7_ := Zw ((by rw [hg]; exact (below_size (Zh3 HB.out GE204.out GE205.out GE206.out)) : w.heap.size ≤ gb211)); have n8_ := Zw ((by rw [hg]; exact Nat.ne_of_lt (blk_lt (Zb BK204.out)) : gb204 ≠ gb211)); have n9_ := Zw ((by rw [hg]; exact Nat.ne_of_gt (blk_lt (Zb BK204.out)) : gb211 ≠ gb204)); have n10_ := Zw ((by rw [hg]; exact Nat.ne_of_lt (blk_lt (Zb BK205.out)) : gb205 ≠ gb211)); have n11_ := Zw ((by rw [hg]; exact Nat.ne_of_gt (blk_lt (Zb BK205.out)) : gb211 ≠ gb205)); have n12_ := Zw ((by rw [hg]; exact Nat.ne_of_lt (blk_lt (Zb BK206.out)) : gb206 ≠ gb211)); have n13_ := Zw ((by rw [hg]; exact Nat.ne_of_gt (blk_lt (Zb BK206.out)) : gb211 ≠ gb206)); clear HO210; clear BK204; clear BK205; clear BK206; clear HB; have HO210 := n0_; have BK204 := n1_; have BK205 := n2_; have BK206 := n3_; have HB := n4_; have BK211 := n5_; have GW211 := n6_; have GE211 := n7_; have NB204_211 := n8_; have NB211_204 := n9_; have NB205_211 := n10_; have NB211_205 := n11_; have NB206_211 := n12_; have NB211_206 := n13_; clear n0_ n1_ n2_ n3_ n4_ n5_ n6_ n7_ n8_ n9_ n10_ n11_ n12_ n13_; clear hb hbox hg; obtain ⟨Ao19, co19, eo19⟩ := Kd.N_slice HO210.out; subst eo19; have hnb20 := NB211_204.out; have hnc20 := NB204_211.out; have hnb21 := NB211_205.out; have hnc21 := NB205_211.out; have hnb22 := NB211_206.out; have hnc22 := NB206_211.out; have hcz23_0 := Zcl BK211.out 0 rfl; have hfz23_0 := blk_frozen BK211.out 0; have hcz24_0 := Zcl BK206.out 0 rfl; have hfz24_0 := blk_frozen BK206.out 0))
   refine bodyPost_ret (results_ct rfl _ _ gb206 24 #[.slice none 0 0] (0, 0) _ rfl (by refine Zbk ?_; refine blk_put (cs := #[.slice none 0 0]) ?_ 0 _ rfl; refine Zbk ?_; refine blk_far ?_ NB206_211.out _; refine Zbk ?_; exact BK206.out) Try.underlying24 rfl (by kernel_rfl)) rfl ?_
   exact ⟨_, by first | rfl | (simp [errW_none, errW_some] <;> rfl) | (simp [*, errW_none, errW_some] <;> rfl), by first | exact Kd.S_nil _ _ _ _ _ | exact Kd.N_nil _ _ _ _ _ | exact Kd.V_nil _ _ _ _ _ | exact Kd.Q_nil _ _ _ _ _ | exact Kd.R_nil _ _ _ _ _, Zh4 HB.out GE204.out GE205.out GE206.out GE211.out⟩
  ·rw [if_neg c6] at H
   have c6b0 : decide (50000 ≤ (t208.length : Int)) = false := decide_eq_false c6
   have c6b1 : decide (50000 ≤ t208.length) = false := decide_eq_false (by omega)
   clear c6
   have H' := Aside0.mk H
   clear H
   go_enter Try.func27, Try.ntmps27
   go_wp2_with (first | ((with_reducible refine gate_dst (N := 2) rfl ?_); refine box_event ?hg (N := 2) ?hd (cs := #[.slice A0_0 l0_0.length c0_0]) (t := 24) ?hr ?_; (case hd => rfl); (case hg => rfl); (case hr => first | (go_simp; done) | (go_simp; rfl)); intro gb204 hg w25 hbox hb; have n0_ := Zw (below_step (Zh HB.out) hb); have n1_ := Zw (hbox); have n2_ := Zw ((by rw [hg]; exact (below_size (Zh HB.out)) : w.heap.size ≤ gb204)); have n3_ := Zw ((by rw [hg]; exact (below_size (Zh HB.out)) : w.heap.size ≤ gb204)); clear HB; have HB := n0_; have BK204 := n1_; have GW204 := n2_; have GE204 := n3_; clear n0_ n1_ n2_ n3_; clear hb hbox hg) | ((with_reducible refine gate_dst (N := 3) rfl ?_); refine box_event ?hg (N := 3) ?hd (cs := #[.int .i64 a1_0, .slice A1_1 l1_1.length c1_1]) (t := 31) ?hr ?_; (case hd => rfl); (case hg => rfl); (case hr => first | (go_simp; done) | (go_simp; rfl)); intro gb205 hg w26 hbox hb; have n0_ := Zw (blk_below (g := gb204) (o := .cells #[.slice A0_0 l0_0.length c0_0] 24 (0, 0)) (Zb BK204.out) hb); have n1_ := Zw (below_step (Zh1 HB.out GE204.out) hb); have n2_ := Zw (hbox); have n3_ := Zw ((by rw [hg]; exact (below_size (Zh1 HB.out GE204.out)) : w.heap.size ≤ gb205)); have n4_ := Zw ((by rw [hg]; exact (below_size (Zh1 HB.out GE204.out)) : w.heap.size ≤ gb205)); have n5_ := Zw ((by rw [hg]; exact Nat.ne_of_lt (blk_lt (Zb BK204.out)) : gb204 ≠ gb205)); have n6_ := Zw ((by rw [hg]; exact Nat.ne_of_gt (blk_lt (Zb BK204.out)) : gb205 ≠ gb204)); clear BK204; clear HB; have BK204 := n0_; have HB := n1_; have BK205 := n2_; have GW205 := n3_; have GE205 := n4_; have NB204_205 := n5_; have NB205_204 := n6_; clear n0_ n1_ n2_ n3_ n4_ n5_ n6_; clear hb hbox hg) | ((with_reducible refine gate_dst (N := 4) rfl ?_); refine box_event ?hg (N := 4) ?hd (cs := #[.slice none 0 0]) (t := 24) ?hr ?_; (case hd => rfl); (case hg => rfl); (case hr => first | (go_simp; done) | (go_simp; rfl)); intro gb206 hg w27 hbox hb; have n0_ := Zw (blk_below (g := gb204) (o := .cells #[.slice A0_0 l0_0.length c0_0] 24 (0, 0)) (Zb BK204.out) hb); have n1_ := Zw (blk_below (g := gb205) (o := .cells #[.int .i64 a1_0, .slice A1_1 l1_1.length c1_1] 31 (0, 0)) (Zb BK205.out) hb); have n2_ := Zw (below_step (Zh2 HB.out GE204.out GE205.out) hb); have n3_ := Zw (hbox); have n4_ := Zw ((by rw [hg]; exact (below_size (Zh2 HB.out GE204.out GE205.out)) : w.heap.size ≤ gb206)); have n5_ := Zw ((by rw [hg]; exact (below_size (Zh2 HB.out GE204.out GE205.out)) : w.heap.size ≤ gb206)); have n6_ := Zw ((by rw [hg]; exact Nat.ne_of_lt (blk_lt (Zb BK204.out)) : gb204 ≠ gb206)); have n7_ := Zw ((by rw [hg]; exact Nat.ne_of_gt (blk_lt (Zb BK204.out)) : gb206 ≠ gb204)); have n8_ := Zw ((by rw [hg]; exact Nat.ne_of_lt (blk_lt (Zb BK205.out)) : gb205 ≠ gb206)); have n9_ := Zw ((by rw [hg]; exact Nat.ne_of_gt (blk_lt (Zb BK205.out)) : gb206 ≠ gb205)); clear BK204; clear BK205; clear HB; have BK204 := n0_; have BK205 := n1_; have HB := n2_; have BK206 := n3_; have GW206 := n4_; have GE206 := n5_; have NB204_206 := n6_; have NB206_204 := n7_; have NB205_206 := n8_; have NB206_205 := n9_; clear n0_ n1_ n2_ n3_ n4_ n5_ n6_ n7_ n8_ n9_; clear hb hbox hg; have hnb28 := NB205_204.out; have hnc28 := NB204_205.out; have hnb29 := NB205_206.out; have hnc29 := NB206_205.out; have hcz30_0 := Zcl BK205.out 0 rfl; have hcz30_1 := Zcl BK205.out 1 rfl; have hfz30_0 := blk_frozen BK205.out 0; have hfz30_1 := blk_frozen BK205.out 1) | ((with_reducible refine gate_callee (f := 33) rfl ?_); refine goesL_ (some 11) rfl rfl Try.func33 (by kernel_rfl) rfl #[.agg #[.int .i64 a1_0, .slice A1_1 l1_1.length c1_1]] rfl Zm ?_; (with_reducible refine (debuggerref25_page.calls a1_0 _ _ l1_1 true _ ?side1 ?side2 A3.out).mono ?_); (case side1 => exact Zc (Kd.C_below HR1_1.out HB.out)); (case side2 => exact HC1_1.out); rintro e w31 ⟨rfl, hb⟩; refine ⟨_, rfl, ?_⟩; have n0_ := Zw (blk_below (g := gb204) (o := .cells #[.slice A0_0 l0_0.length c0_0] 24 (0, 0)) (Zb BK204.out) hb); have n1_ := Zw (blk_below (g := gb205) (o := .cells #[.int .i64 a1_0, .slice A1_1 l1_1.length c1_1] 31 (0, 0)) (Zb BK205.out) hb); have n2_ := Zw (blk_below (g := gb206) (o := .cells #[.slice none 0 0] 24 (0, 0)) (Zb BK206.out) hb); have n3_ := Zw (below_step (Zh3 HB.out GE204.out GE205.out GE206.out) hb); clear BK204; clear BK205; clear BK206; clear HB; have BK204 := n0_; have BK205 := n1_; have BK206 := n2_; have HB := n3_; clear n0_ n1_ n2_ n3_; (try clear hb); (try clear hb2); (try clear hk); (try clear hi); have hnb32 := NB204_206.out; have hnc32 := NB206_204.out; have hcz33_0 := Zcl BK204.out 0 rfl; have hfz33_0 := blk_frozen BK204.out 0; have hcz34_0 := Zcl BK205.out 0 rfl; have hcz34_1 := Zcl BK205.out 1 rfl; have hfz34_0 := blk_frozen BK205.out 0; have hfz34_1 := blk_frozen BK205.out 1) | ((with_reducible refine gate_callee (f := 29) rfl ?_); refine goesL_ (some 17) rfl rfl Try.func29 (by kernel_rfl) rfl #[.agg #[.slice A0_0 l0_0.length c0_0], .int .i64 a1_0] rfl Zm ?_; (with_reducible refine (debuggerref25_Without.calls k _ _ l0_0 a1_0 t208 _ ?side1 ?side2 A5.out).mono ?_); (case side1 => exact Zc (Kd.C_below HR0_0.out HB.out)); (case side2 => exact HC0_0.out); rintro e w35 ⟨v209, rfl, ho0, hb⟩; refine ⟨_, rfl, ?_⟩; have n0_ := Zw (Kd.N_lower (Kd.N_mono (ok' := fun k_ => (w.heap.size ≤ k_) ∧ k_ ≠ gb204 ∧ k_ ≠ gb205 ∧ k_ ≠ gb206) ho0 (fun k_ hk_ => ⟨(Nat.le_trans (below_size (Zh3 HB.out GE204.out GE205.out GE206.out)) hk_), (Kd.freshB (g := gb204) (o := .cells #[.slice A0_0 l0_0.length c0_0] 24 (0, 0)) (Zb BK204.out) k_ hk_), (Kd.freshB (g := gb205) (o := .cells #[.int .i64 a1_0, .slice A1_1 l1_1.length c1_1] 31 (0, 0)) (Zb BK205.out) k_ hk_), (Kd.freshB (g := gb206) (o := .cells #[.slice none 0 0] 24 (0, 0)) (Zb BK206.out) k_ hk_)⟩)) (below_size (Zh3 HB.out GE204.out GE205.out GE206.out))); have n1_ := Zw (blk_below (g := gb204) (o := .cells #[.slice A0_0 l0_0.length c0_0] 24 (0, 0)) (Zb BK204.out) hb); have n2_ := Zw (blk_below (g := gb205) (o := .cells #[.int .i64 a1_0, .slice A1_1 l1_1.length c1_1] 31 (0, 0)) (Zb BK205.out) hb); have n3_ := Zw (blk_below (g := gb206) (o := .cells #[.slice none 0 0] 24 (0, 0)) (Zb BK206.out) hb); have n4_ := Zw (below_step (Zh3 HB.out GE204.out GE205.out GE206.out) hb); clear BK204; clear BK205; clear BK206; clear HB; have HO210 := n0_; have BK204 := n1_; have BK205 := n2_; have BK206 := n3_; have HB := n4_; clear n0_ n1_ n2_ n3_ n4_; (try clear hb); (try clear hb2); (try clear hk); (try clear hi); (try clear ho0)) | ((with_reducible refine gate_dst (N := 6) rfl ?_); refine box_event ?hg (N := 6) ?hd (cs := #[.slice none 0 0]) (t := 24) ?hr ?_; (case hd => rfl); (case hg => rfl); (case hr => first | (go_simp; done) | (go_simp; rfl)); intro gb211 hg w36 hbox hb; have n0_ := Zw (Kd.N_below (Kd.N_elderB (ZN HO210.out) gb211 (Nat.le_of_eq hg.symm)) hb); have n1_ := Zw (blk_below (g := gb204) (o := .cells #[.slice A0_0 l0_0.length c0_0] 24 (0, 0)) (Zb BK204.out) hb); have n2_ := Zw (blk_below (g := gb205) (o := .cells #[.int .i64 a1_0, .slice A1_1 l1_1.length c1_1] 31 (0, 0)) (Zb BK205.out) hb); have n3_ := Zw (blk_below (g := gb206) (o := .cells #[.slice none 0 0] 24 (0, 0)) (Zb BK206.out) hb); have n4_ := Zw (below_step (Zh3 HB.out GE204.out GE205.out GE206.out) hb); have n5_ := Zw (hbox); have n6_ := Zw ((by rw [hg]; exact (below_size (Zh3 HB.out GE204.out GE205.out GE206.out)) : w.heap.size ≤ gb211)); have n7_ := Zw ((by rw [hg]; exact (below_size (Zh3 HB.out GE204.out GE205.out GE206.out)) : w.heap.size ≤ gb211)); have n8_ := Zw ((by rw [hg]; exact Nat.ne_of_lt (blk_lt (Zb BK204.out)) : gb204 ≠ gb211)); have n9_ := Zw ((by rw [hg]; exact Nat.ne_of_gt (blk_lt (Zb BK204.out)) : gb211 ≠ gb204)); have n10_ := Zw ((by rw [hg]; exact Nat.ne_of_lt (blk_lt (Zb BK205.out)) : gb205 ≠ gb211)); have n11_ := Zw ((by rw [hg]; exact Nat.ne_of_gt (blk_lt (Zb BK205.out)) : gb211 ≠ gb205)); have n12_ := Zw ((by rw [hg]; exact Nat.ne_of_lt (blk_lt (Zb BK206.out)) : gb206 ≠ gb211)); have n13_ := Zw ((by rw [hg]; exact Nat.ne_of_gt (blk_lt (Zb BK206.out)) : gb211 ≠ gb206)); clear HO210; clear BK204; clear BK205; clear BK206; clear HB; have HO210 := n0_; have BK204 := n1_; have BK205 := n2_; have BK206 := n3_; have HB := n4_; have BK211 := n5_; have GW211 := n6_; have GE211 := n7_; have NB204_211 := n8_; have NB211_204 := n9_; have NB205_211 := n10_; have NB211_205 := n11_; have NB206_211 := n12_; have NB211_206 := n13_; clear n0_ n1_ n2_ n3_ n4_ n5_ n6_ n7_ n8_ n9_ n10_ n11_ n12_ n13_; clear hb hbox hg; obtain ⟨Ao37, co37, eo37⟩ := Kd.N_slice HO210.out; subst eo37; have hnb38 := NB211_204.out; have hnc38 := NB204_211.out; have hnb39 := NB211_205.out; have hnc39 := NB205_211.out; have hnb40 := NB211_206.out; have hnc40 := NB206_211.out; have hcz41_0 := Zcl BK211.out 0 rfl; have hfz41_0 := blk_frozen BK211.out 0) | ((with_reducible refine gate_dst (N := 7) rfl ?_); refine box_event ?hg (N := 7) ?hd (cs := #[.slice none 0 0]) (t := 24) ?hr ?_; (case hd => rfl); (case hg => rfl); (case hr => first | (go_simp; done) | (go_simp; rfl)); intro gb212 hg w42 hbox hb; have n0_ := Zw (Kd.N_below (Kd.N_elderB (by refine ZNk ?_; exact (Kd.N_mono (Kd.N_far (p := ⟨gb211, 0, none⟩) (Kd.N_mono HO210.out (fun k_ hk => (⟨hk, hk.2⟩ : _ ∧ k_ ≠ gb211))) (fun _ hk => hk.2) (.slice Ao37 t208.length co37)) (fun _ h_ => h_.1))) gb212 (Nat.le_of_eq hg.symm)) hb); have n1_ := Zw (blk_below (g := gb204) (o := .cells #[.slice A0_0 l0_0.length c0_0] 24 (0, 0)) (by refine Zbk ?_; refine blk_far ?_ NB204_211.out _; refine Zbk ?_; exact BK204.out) hb); have n2_ := Zw (blk_below (g := gb205) (o := .cells #[.int .i64 a1_0, .slice A1_1 l1_1.length c1_1] 31 (0, 0)) (by refine Zbk ?_; refine blk_far ?_ NB205_211.out _; refine Zbk ?_; exact BK205.out) hb); have n3_ := Zw (blk_below (g := gb206) (o := .cells #[.slice none 0 0] 24 (0, 0)) (by refine Zbk ?_; refine blk_far ?_ NB206_211.out _; refine Zbk ?_; exact BK206.out) hb); have n4_ := Zw (blk_below (g := gb211) (o := .cells #[.slice Ao37 t208.length co37] 24 (0, 0)) (by refine Zbk ?_; refine blk_put (cs := #[.slice none 0 0]) ?_ 0 _ rfl; refine Zbk ?_; exact BK211.out) hb); have n5_ := Zw (below_step (Zh4 HB.out GE204.out GE205.out GE206.out GE211.out) hb); have n6_ := Zw (hbox); have n7_ := Zw ((by rw [hg]; exact (below_size (Zh4 HB.out GE204.out GE205.out GE206.out GE211.out)) : w.heap.size ≤ gb212)); have n8_ := Zw ((by rw [hg]; exact (below_size (Zh4 HB.out GE204.out GE205.out GE206.out GE211.out)) : w.heap.size ≤ gb212)); have n9_ := Zw ((by rw [hg]; exact Nat.ne_of_lt (blk_lt (g := gb204) (o := .cells #[.slice A0_0 l0_0.length c0_0] 24 (0, 0)) (by refine Zbk ?_; refine blk_far ?_ NB204_211.out _; refine Zbk ?_; exact BK204.out)) : gb204 ≠ gb212)); have n10_ := Zw ((by rw [hg]; exact Nat.ne_of_gt (blk_lt (g := gb204) (o := .cells #[.slice A0_0 l0_0.length c0_0] 24 (0, 0)) (by refine Zbk ?_; refine blk_far ?_ NB204_211.out _; refine Zbk ?_; exact BK204.out)) : gb212 ≠ gb204)); have n11_ := Zw ((by rw [hg]; exact Nat.ne_of_lt (blk_lt (g := gb205) (o := .cells #[.int .i64 a1_0, .slice A1_1 l1_1.length c1_1] 31 (0, 0)) (by refine Zbk ?_; refine blk_far ?_ NB205_211.out _; refine Zbk ?_; exact BK205.out)) : gb205 ≠ gb212)); have n12_ := Zw ((by rw [hg]; exact Nat.ne_of_gt (blk_lt (g := gb205) (o := .cells #[.int .i64 a1_0, .slice A1_1 l1_1.length c1_1] 31 (0, 0)) (by refine Zbk ?_; refine blk_far ?_ NB205_211.out _; refine Zbk ?_; exact BK205.out)) : gb212 ≠ gb205)); have n13_ := Zw ((by rw [hg]; exact Nat.ne_of_lt (blk_lt (g := gb206) (o := .cells #[.slice none 0 0] 24 (0, 0)) (by refine Zbk ?_; refine blk_far ?_ NB206_211.out _; refine Zbk ?_; exact BK206.out)) : gb206 ≠ gb212)); have n14_ := Zw ((by rw [hg]; exact Nat.ne_of_gt (blk_lt (g := gb206) (o := .cells #[.slice none 0 0] 24 (0, 0)) (by refine Zbk ?_; refine blk_far ?_ NB206_211.out _; refine Zbk ?_; exact BK206.out)) : gb212 ≠ gb206)); have n15_ := Zw ((by rw [hg]; exact Nat.ne_of_lt (blk_lt (g := gb211) (o := .cells #[.slice Ao37 t208.length co37] 24 (0, 0)) (by refine Zbk ?_; refine blk_put (cs := #[.slice none 0 0]) ?_ 0 _ rfl; refine Zbk ?_; exact BK211.out)) : gb211 ≠ gb212)); have n16_ := Zw ((by rw [hg]; exact Nat.ne_of_gt (blk_lt (g := gb211) (o := .cells #[.slice Ao37 t208.length co37] 24 (0, 0)) (by refine Zbk ?_; refine blk_put (cs := #[.slice none 0 0]) ?_ 0 _ rfl; refine Zbk ?_; exact BK211.out)) : gb212 ≠ gb211)); clear HO210; clear BK204; clear BK205; clear BK206; clear BK211; clear HB; have HO210 := n0_; have BK204 := n1_; have BK205 := n2_; have BK206 := n3_; have BK211 := n4_; have HB := n5_; have BK212 := n6_; have GW212 := n7_; have GE212 := n8_; have NB204_212 := n9_; have NB212_204 := n10_; have NB205_212 := n11_; have NB212_205 := n12_; have NB206_212 := n13_; have NB212_206 := n14_; have NB211_212 := n15_; have NB212_211 := n16_; clear n0_ n1_ n2_ n3_ n4_ n5_ n6_ n7_ n8_ n9_ n10_ n11_ n12_ n13_ n14_ n15_ n16_; clear hb hbox hg))
   go_loopg [8] k (fun kq v8 w' => ∃ (x8_1 : Int) (x213000_1 : List (S31)) (u213000 : Value), v8 = .int .i64 x8_1 ∧ Aside0 (debuggerref25_Add.l0 kq x8_1 a1_0 l1_1 t208 x213000_1 = some (r1, r2)) ∧ Aside0 (kq ≤ k) ∧ Aside0 (Kd.N k31 31 w' w.heap.size (fun k_ => (w.heap.size ≤ k_) ∧ some k_ ≠ (u213000 : Value).ownBlock ∧ k_ ≠ gb204 ∧ k_ ≠ gb205 ∧ k_ ≠ gb206 ∧ k_ ≠ gb211 ∧ k_ ≠ gb212) (.slice Ao37 t208.length co37) t208) ∧ Aside0 (Kd.N k31 31 w' w.heap.size (fun k_ => (w.heap.size ≤ k_) ∧ some k_ ≠ ((.slice Ao37 t208.length co37) : Value).ownBlock ∧ k_ ≠ gb204 ∧ k_ ≠ gb205 ∧ k_ ≠ gb206 ∧ k_ ≠ gb211 ∧ k_ ≠ gb212) u213000 x213000_1) ∧ Aside0 (w'.heap[gb204]? = some (.cells #[(.slice A0_0 l0_0.length c0_0)] 24 (0, 0))) ∧ Aside0 (w'.heap[gb205]? = some (.cells #[.int .i64 a1_0, (.slice A1_1 l1_1.length c1_1)] 31 (0, 0))) ∧ Aside0 (w'.heap[gb206]? = some (.cells #[(.slice none 0 0)] 24 (0, 0))) ∧ Aside0 (w'.heap[gb211]? = some (.cells #[(.slice Ao37 t208.length co37)] 24 (0, 0))) ∧ Aside0 (w'.heap[gb212]? = some (.cells #[u213000] 24 (0, 0))) ∧ Aside0 (Below w.heap.size w w'))
   case atStart => exact ⟨(0), (([] : List (S31))), (.slice none 0 0), (by first | rfl | (simp; done) | (simp [*]; done)), H', ⟨Nat.le_refl _⟩, ⟨by refine ZNk ?_; exact Kd.N_mono HO210.out (fun _ hk => ⟨hk.1.1.1, ⟨(by simp [Value.ownBlock]), ⟨hk.1.1.2.1, ⟨hk.1.1.2.2.1, ⟨hk.1.1.2.2.2, ⟨hk.1.2, hk.2⟩⟩⟩⟩⟩⟩)⟩, ⟨by first | exact Kd.S_nil _ _ _ _ _ | exact Kd.N_nil _ _ _ _ _ | exact Kd.V_nil _ _ _ _ _ | exact Kd.Q_nil _ _ _ _ _ | exact Kd.R_nil _ _ _ _ _⟩, ⟨Zb BK204.out⟩, ⟨Zb BK205.out⟩, ⟨Zb BK206.out⟩, ⟨Zb BK211.out⟩, ⟨Zb BK212.out⟩, ⟨by repeat (first | (with_reducible first | exact HB.out | apply below_alloc | apply pw_below_drewN | apply below_drew1 | refine below_set ?_ GE204.out | refine below_set ?_ GE205.out | refine below_set ?_ GE206.out | refine below_set ?_ GE211.out | refine below_set ?_ GE212.out) | exact HB.out)⟩⟩
   case round =>
    clear H'
    try clear c1
    try clear c2
    try clear p2
    try clear c3
    try clear c4
    try clear c6
    try clear c6b0
    try clear c6b1
    try clear c10
    try clear c11
    try clear c14
    try clear c20
    try clear c21
    try clear c22
    try clear c27
    try clear c28
    try clear c29
    try clear c32
    try clear c33
    try clear c38
    try clear c39
    try clear c40
    try clear hcz12_0
    try clear hcz12_1
    try clear hcz15_0
    try clear hcz16_0
    try clear hcz16_1
    try clear hcz23_0
    try clear hcz24_0
    try clear hcz30_0
    try clear hcz30_1
    try clear hcz33_0
    try clear hcz34_0
    try clear hcz34_1
    try clear hcz41_0
    try clear hfz12_0
    try clear hfz12_1
    try clear hfz15_0
    try clear hfz16_0
    try clear hfz16_1
    try clear hfz23_0
    try clear hfz24_0
    try clear hfz30_0
    try clear hfz30_1
    try clear hfz33_0
    try clear hfz34_0
    try clear hfz34_1
    try clear hfz41_0
    obtain ⟨x8_1, x213000_1, u213000, rfl, HA, HK1, HO_212000, HO_213000, BK204, BK205, BK206, BK211, BK212, HB⟩ := hrel
    cases gk with
    | zero => exact absurd HA.out (by simp [debuggerref25_Add.l0])
    | succ k1 =>
     have H := HA.out
     clear HA
     simp only [debuggerref25_Add.l0] at H
     have HC43 := Aside0.mk H
     clear H
     go_upto_region 8 with (fail)
     go_cut [38] (fun v38 wc => ∃ (kq : Nat) (x38_42 : Bool), v38 = .bool x38_42 ∧ Aside0 (debuggerref25_Add.j1 kq x8_1 x38_42 a1_0 l1_1 t208 x213000_1 = some (r1, r2)) ∧ Aside0 (kq ≤ k1) ∧ Aside0 (Kd.N k31 31 wc w.heap.size (fun k_ => (w.heap.size ≤ k_) ∧ some k_ ≠ (u213000 : Value).ownBlock ∧ k_ ≠ gb204 ∧ k_ ≠ gb205 ∧ k_ ≠ gb206 ∧ k_ ≠ gb211 ∧ k_ ≠ gb212) (.slice Ao37 t208.length co37) t208) ∧ Aside0 (Kd.N k31 31 wc w.heap.size (fun k_ => (w.heap.size ≤ k_) ∧ some k_ ≠ ((.slice Ao37 t208.length co37) : Value).ownBlock ∧ k_ ≠ gb204 ∧ k_ ≠ gb205 ∧ k_ ≠ gb206 ∧ k_ ≠ gb211 ∧ k_ ≠ gb212) u213000 x213000_1) ∧ Aside0 (wc.heap[gb204]? = some (.cells #[(.slice A0_0 l0_0.length c0_0)] 24 (0, 0))) ∧ Aside0 (wc.heap[gb205]? = some (.cells #[.int .i64 a1_0, (.slice A1_1 l1_1.length c1_1)] 31 (0, 0))) ∧ Aside0 (wc.heap[gb206]? = some (.cells #[(.slice none 0 0)] 24 (0, 0))) ∧ Aside0 (wc.heap[gb211]? = some (.cells #[(.slice Ao37 t208.length co37)] 24 (0, 0))) ∧ Aside0 (wc.heap[gb212]? = some (.cells #[u213000] 24 (0, 0))) ∧ Aside0 (Below w.heap.size w wc))
     case first =>
      have H := HC43.out
      clear HC43
      by_cases c44 : x8_1 < (t208.length : Int)
      ·rw [if_pos c44] at H
       have c44b0 : decide (x8_1 < (t208.length : Int)) = true := decide_eq_true c44
       clear c44
       (first | rw [c44b0] | (simp only [i64_w, i32_w]; rw [c44b0]) | skip)
       by_cases c45 : 0 ≤ x8_1
       ·rw [if_pos c45] at H
        have c45b0 : decide (0 ≤ x8_1) = true := decide_eq_true c45
        clear c45
        have H' := Aside0.mk H
        clear H
        try go_wp2
        have n0_ := Zw (Kd.N_drew HO_212000.out)
        have n1_ := Zw (Kd.N_drew HO_213000.out)
        have n2_ := Zw (blk_drew BK204.out)
        have n3_ := Zw (blk_drew BK205.out)
        have n4_ := Zw (blk_drew BK206.out)
        have n5_ := Zw (blk_drew BK211.out)
        have n6_ := Zw (blk_drew BK212.out)
        have n7_ := Zw (below_drew1 HB.out)
        clear HO_212000
        clear HO_213000
        clear BK204
        clear BK205
        clear BK206
        clear BK211
        clear BK212
        clear HB
        have HO_212000 := n0_
        have HO_213000 := n1_
        have BK204 := n2_
        have BK205 := n3_
        have BK206 := n4_
        have BK211 := n5_
        have BK212 := n6_
        have HB := n7_
        clear n0_ n1_ n2_ n3_ n4_ n5_ n6_ n7_
        have p213 : 0 ≤ (x8_1 : Int) := of_decide_eq_true Za
        have q213 : x8_1 < (t208.length : Int) := of_decide_eq_true Za
        obtain ⟨ad213, A213_1, c213_1, e213, hx213_0, hx213_1, hl213_1, hi213_1⟩ := at_T31 (Kd.N_reads' HO_212000.out).2.2 x8_1 p213 q213
        cases e213
        obtain ⟨ce213, hce213, hMe213, hcc213⟩ := Kd.N_get HO_212000.out z31 x8_1 p213 (by first | exact q213 | exact of_decide_eq_true Za | (have e_ := (Kd.N_reads' HO_212000.out).1; omega))
        obtain ⟨ua213_1, uc213_1, rfl, ul213_1, ge213_1⟩ := k31_openF hMe213
        have hv213_1 := hcc213 1 _ rfl
        rw [add_field _ _ 1 (by omega)] at hv213_1
        replace hv213_1 := Option.some.inj (hv213_1.symm.trans hx213_1)
        injection hv213_1 with hva_ hvn_ hvc_
        rw [hva_] at ge213_1
        rw [hvc_] at ul213_1
        have HL213_1 := Zw (show Kd.V (Kd.int .i64) 3 _ w.heap.size _ _ ((rd_T31 t208 x8_1).f1) from Kd.V_mk ul213_1 ge213_1)
        clear hva_ hvn_ hvc_ ge213_1 ul213_1
        clear hcc213 hce213
        have HR213_1 := Aside0.mk hi213_1
        have HC213_1 := Aside0.mk hl213_1
        clear hi213_1 hl213_1
        replace p213 := eq_true p213
        replace q213 := eq_true q213
        refine start_ (n := 16) (S := fun w' => w'.cell? ⟨gb211, 0, none⟩ = some (.slice (some ad213) t208.length co37) ∧ w'.cell? ⟨gb205, 0, none⟩ = some (.int .i64 a1_0) ∧ w'.cell? ⟨gb205, 1, none⟩ = some (.slice A1_1 l1_1.length c1_1) ∧ w'.cell? (ad213.add ((x8_1).toNat * 2)) = some (.int .i64 ((rd_T31 t208 x8_1).f0)) ∧ w'.cell? ⟨(ad213.add ((x8_1).toNat * 2)).block, (ad213.add ((x8_1).toNat * 2)).off + 1, none⟩ = some (.slice A213_1 ((rd_T31 t208 x8_1).f1).length c213_1)) (ds := []) #[false, false, false, false, false, false, false, false, false, false, false, false, false, false, false, false] (by kernel_rfl) rfl rfl ⟨(blk_cell BK211.out 0).trans rfl, (blk_cell BK205.out 0).trans rfl, (blk_cell BK205.out 1).trans rfl, hx213_0, hx213_1⟩ (fun hHeld => ?_); refine with_tabW debuggerref25_Add.tab8 debuggerref25_Add.bits8 (fun HT_ HW_ => ?_)
        generalize wr.drew = w46 at HO_212000 HO_213000 BK204 BK205 BK206 BK211 BK212 HB HL213_1 HR213_1 hx213_0 hx213_1 hHeld ⊢
        refine pure_ (i := 0) (N := some 23) (v := ?_) (a' := ?_) #[true, false, false, false, false, false, false, false, false, false, false, false, false, false, false, false] rfl rfl (any_of HT_.out (by kernel_rfl)) (fun _ _ _ h => h) (Or.inl ⟨by rfl, ?_⟩) ?_ ?_
        rotate_left
        ·intro w'
         go_simp
         with_reducible rfl
        rotate_left
        ·simp only [Act.put, zsA, zsZ, zsS, i64_w, i32_w]
         rfl
        refine pure_ (i := 1) (N := some 24) (v := ?_) (a' := ?_) #[true, true, false, false, false, false, false, false, false, false, false, false, false, false, false, false] rfl rfl (any_of HT_.out (by kernel_rfl)) (fun _ _ _ h => h) (Or.inl ⟨by rfl, ?_⟩) ?_ ?_
        rotate_left
        ·intro w'
         go_simp
         with_reducible rfl
        rotate_left
        ·simp only [Act.put, zsA, zsZ, zsS, i64_w, i32_w]
         rfl
        refine take_ (i := 2) (N := some 25) (v := ?_) (a' := ?_) #[true, true, true, false, false, false, false, false, false, false, false, false, false, false, false, false] rfl rfl (take_ofW HT_.out HW_.out (by kernel_rfl)) (fun _ _ _ h => h) (Or.inl ⟨by rfl, ?_⟩) hHeld ?_ ?_
        rotate_left
        ·rintro w' ⟨s0, s1, s2, s3, s4⟩
         go_simp
         with_reducible rfl
        rotate_left
        ·simp only [Act.put, zsA, zsZ, zsS, i64_w, i32_w]
         rfl
        refine pure_ (i := 3) (N := some 26) (v := ?_) (a' := ?_) #[true, true, true, true, false, false, false, false, false, false, false, false, false, false, false, false] rfl rfl (any_of HT_.out (by kernel_rfl)) (fun _ _ _ h => h) (Or.inl ⟨by rfl, ?_⟩) ?_ ?_
        rotate_left
        ·intro w'
         go_simp
         with_reducible rfl
        rotate_left
        ·simp only [Act.put, zsA, zsZ, zsS, i64_w, i32_w]
         rfl
        refine pure_ (i := 4) (N := some 27) (v := ?_) (a' := ?_) #[true, true, true, true, true, false, false, false, false, false, false, false, false, false, false, false] rfl rfl (any_of HT_.out (by kernel_rfl)) (fun _ _ _ h => h) (Or.inl ⟨by rfl, ?_⟩) ?_ ?_
        rotate_left
        ·intro w'
         go_simp
         with_reducible rfl
        rotate_left
        ·simp only [Act.put, zsA, zsZ, zsS, i64_w, i32_w]
         rfl
        refine pure_ (i := 5) (N := some 28) (v := ?_) (a' := ?_) #[true, true, true, true, true, true, false, false, false, false, false, false, false, false, false, false] rfl rfl (any_of HT_.out (by kernel_rfl)) (fun _ _ _ h => h) (Or.inl ⟨by rfl, ?_⟩) ?_ ?_
        rotate_left
        ·intro w'
         go_simp
         with_reducible rfl
        rotate_left
        ·simp only [Act.put, zsA, zsZ, zsS, i64_w, i32_w]
         rfl
        refine pure_ (i := 6) (N := some 29) (v := ?_) (a' := ?_) #[true, true, true, true, true, true, true, false, false, false, false, false, false, false, false, false] rfl rfl (any_of HT_.out (by kernel_rfl)) (fun _ _ _ h => h) (Or.inl ⟨by rfl, ?_⟩) ?_ ?_
        rotate_left
        ·intro w'
         go_simp
         with_reducible rfl
        rotate_left
        ·simp only [Act.put, zsA, zsZ, zsS, i64_w, i32_w]
         rfl
        refine pure_ (i := 8) (N := some 31) (v := ?_) (a' := ?_) #[true, true, true, true, true, true, true, false, true, false, false, false, false, false, false, false] rfl rfl (any_of HT_.out (by kernel_rfl)) (fun _ _ _ h => h) (Or.inl ⟨by rfl, ?_⟩) ?_ ?_
        rotate_left
        ·intro w'
         go_simp
         with_reducible rfl
        rotate_left
        ·simp only [Act.put, zsA, zsZ, zsS, i64_w, i32_w]
         rfl
        refine pure_ (i := 12) (N := some 35) (v := ?_) (a' := ?_) #[true, true, true, true, true, true, true, false, true, false, false, false, true, false, false, false] rfl rfl (any_of HT_.out (by kernel_rfl)) (fun _ _ _ h => h) (Or.inl ⟨by rfl, ?_⟩) ?_ ?_
        rotate_left
        ·intro w'
         go_simp
         with_reducible rfl
        rotate_left
        ·simp only [Act.put, zsA, zsZ, zsS, i64_w, i32_w]
         rfl
        refine take_ (i := 7) (N := some 30) (v := ?_) (a' := ?_) #[true, true, true, true, true, true, true, true, true, false, false, false, true, false, false, false] rfl rfl (take_ofW HT_.out HW_.out (by kernel_rfl)) (fun _ _ _ h => h) (Or.inl ⟨by rfl, ?_⟩) hHeld ?_ ?_
        rotate_left
        ·rintro w' ⟨s0, s1, s2, s3, s4⟩
         go_simp
         with_reducible rfl
        rotate_left
        ·simp only [Act.put, zsA, zsZ, zsS, i64_w, i32_w]
         rfl
        refine pure_ (i := 9) (N := some 32) (v := ?_) (a' := ?_) #[true, true, true, true, true, true, true, true, true, true, false, false, true, false, false, false] rfl rfl (any_of HT_.out (by kernel_rfl)) (fun _ _ _ h => h) (Or.inl ⟨by rfl, ?_⟩) ?_ ?_
        rotate_left
        ·intro w'
         go_simp
         with_reducible rfl
        rotate_left
        ·simp only [Act.put, zsA, zsZ, zsS, i64_w, i32_w]
         rfl
        refine pure_ (i := 10) (N := some 33) (v := ?_) (a' := ?_) #[true, true, true, true, true, true, true, true, true, true, true, false, true, false, false, false] rfl rfl (any_of HT_.out (by kernel_rfl)) (fun _ _ _ h => h) (Or.inl ⟨by rfl, ?_⟩) ?_ ?_
        rotate_left
        ·intro w'
         go_simp
         with_reducible rfl
        rotate_left
        ·simp only [Act.put, zsA, zsZ, zsS, i64_w, i32_w]
         rfl
        refine take_ (i := 11) (N := some 34) (v := ?_) (a' := ?_) #[true, true, true, true, true, true, true, true, true, true, true, true, true, false, false, false] rfl rfl (take_ofW HT_.out HW_.out (by kernel_rfl)) (fun _ _ _ h => h) (Or.inl ⟨by rfl, ?_⟩) hHeld ?_ ?_
        rotate_left
        ·rintro w' ⟨s0, s1, s2, s3, s4⟩
         go_simp
         with_reducible rfl
        rotate_left
        ·simp only [Act.put, zsA, zsZ, zsS, i64_w, i32_w]
         rfl
        refine take_ (i := 13) (N := some 36) (v := ?_) (a' := ?_) #[true, true, true, true, true, true, true, true, true, true, true, true, true, true, false, false] rfl rfl (take_ofW HT_.out HW_.out (by kernel_rfl)) (fun _ _ _ h => h) (Or.inl ⟨by rfl, ?_⟩) hHeld ?_ ?_
        rotate_left
        ·rintro w' ⟨s0, s1, s2, s3, s4⟩
         go_simp
         with_reducible rfl
        rotate_left
        ·simp only [Act.put, zsA, zsZ, zsS, i64_w, i32_w]
         rfl
        refine pure_ (i := 14) (N := some 37) (v := ?_) (a' := ?_) #[true, true, true, true, true, true, true, true, true, true, true, true, true, true, true, false] rfl rfl (any_of HT_.out (by kernel_rfl)) (fun _ _ _ h => h) (Or.inl ⟨by rfl, ?_⟩) ?_ ?_
        rotate_left
        ·intro w'
         go_simp
         with_reducible rfl
        rotate_left
        ·simp only [Act.put, zsA, zsZ, zsS, i64_w, i32_w]
         rfl
        refine pure_ (i := 15) (N := some 38) (v := ?_) (a' := ?_) #[true, true, true, true, true, true, true, true, true, true, true, true, true, true, true, true] rfl rfl (any_of HT_.out (by kernel_rfl)) (fun _ _ _ h => h) (Or.inl ⟨by rfl, ?_⟩) ?_ ?_
        rotate_left
        ·intro w'
         go_simp
         with_reducible rfl
        rotate_left
        ·simp only [Act.put, zsA, zsZ, zsS, i64_w, i32_w]
         rfl
        refine done_ (done_of HT_.out (by kernel_rfl)) ?_
        try go_wp2
        go_meet
        case rel => exact ⟨_, (decide (((rd_T31 t208 x8_1).f0) < a1_0)), (by first | rfl | (simp; done) | (simp [*]; done)), H', ⟨by have := HK1.out; first | omega | exact Nat.le_refl _⟩, ⟨ZN HO_212000.out⟩, ⟨ZN HO_213000.out⟩, ⟨Zb BK204.out⟩, ⟨Zb BK205.out⟩, ⟨Zb BK206.out⟩, ⟨Zb BK211.out⟩, ⟨Zb BK212.out⟩, ⟨by repeat (first | (with_reducible first | exact HB.out | apply below_alloc | apply pw_below_drewN | apply below_drew1 | refine below_set ?_ GE204.out | refine below_set ?_ GE205.out | refine below_set ?_ GE206.out | refine below_set ?_ GE211.out | refine below_set ?_ GE212.out) | exact HB.out)⟩⟩
       ·rw [if_neg c45] at H
        exact absurd H (by simp)
      ·rw [if_neg c44] at H
       have c44b0 : decide (x8_1 < (t208.length : Int)) = false := decide_eq_false c44
       clear c44
       (first | rw [c44b0] | (simp only [i64_w, i32_w]; rw [c44b0]) | skip)
       have H' := Aside0.mk H
       clear H
       try go_wp2
       have n0_ := Zw (Kd.N_drew HO_212000.out)
       have n1_ := Zw (Kd.N_drew HO_213000.out)
       have n2_ := Zw (blk_drew BK204.out)
       have n3_ := Zw (blk_drew BK205.out)
       have n4_ := Zw (blk_drew BK206.out)
       have n5_ := Zw (blk_drew BK211.out)
       have n6_ := Zw (blk_drew BK212.out)
       have n7_ := Zw (below_drew1 HB.out)
       clear HO_212000
       clear HO_213000
       clear BK204
       clear BK205
       clear BK206
       clear BK211
       clear BK212
       clear HB
       have HO_212000 := n0_
       have HO_213000 := n1_
       have BK204 := n2_
       have BK205 := n3_
       have BK206 := n4_
       have BK211 := n5_
       have BK212 := n6_
       have HB := n7_
       clear n0_ n1_ n2_ n3_ n4_ n5_ n6_ n7_
       refine start_ (n := 16) (S := fun w' => w'.cell? ⟨gb211, 0, none⟩ = some (.slice Ao37 t208.length co37)) (ds := []) #[false, false, false, false, false, false, false, false, false, false, false, false, false, false, false, false] (by kernel_rfl) rfl rfl ((blk_cell BK211.out 0).trans rfl) (fun hHeld => ?_); refine with_tabW debuggerref25_Add.tab8 debuggerref25_Add.bits8 (fun HT_ HW_ => ?_)
       generalize wr.drew = w47 at HO_212000 HO_213000 BK204 BK205 BK206 BK211 BK212 HB hHeld ⊢
       refine pure_ (i := 0) (N := some 23) (v := ?_) (a' := ?_) #[true, false, false, false, false, false, false, false, false, false, false, false, false, false, false, false] rfl rfl (any_of HT_.out (by kernel_rfl)) (fun _ _ _ h => h) (Or.inl ⟨by rfl, ?_⟩) ?_ ?_
       rotate_left
       ·intro w'
        go_simp
        with_reducible rfl
       rotate_left
       ·simp only [Act.put, zsA, zsZ, zsS, i64_w, i32_w]
        rfl
       refine pure_ (i := 1) (N := some 24) (v := ?_) (a' := ?_) #[true, true, false, false, false, false, false, false, false, false, false, false, false, false, false, false] rfl rfl (any_of HT_.out (by kernel_rfl)) (fun _ _ _ h => h) (Or.inl ⟨by rfl, ?_⟩) ?_ ?_
       rotate_left
       ·intro w'
        go_simp
        with_reducible rfl
       rotate_left
       ·simp only [Act.put, zsA, zsZ, zsS, i64_w, i32_w]
        rfl
       refine take_ (i := 2) (N := some 25) (v := ?_) (a' := ?_) #[true, true, true, false, false, false, false, false, false, false, false, false, false, false, false, false] rfl rfl (take_ofW HT_.out HW_.out (by kernel_rfl)) (fun _ _ _ h => h) (Or.inl ⟨by rfl, ?_⟩) hHeld ?_ ?_
       rotate_left
       ·intro w' s0
        go_simp
        with_reducible rfl
       rotate_left
       ·simp only [Act.put, zsA, zsZ, zsS, i64_w, i32_w]
        rfl
       refine pure_ (i := 3) (N := some 26) (v := ?_) (a' := ?_) #[true, true, true, true, false, false, false, false, false, false, false, false, false, false, false, false] rfl rfl (any_of HT_.out (by kernel_rfl)) (fun _ _ _ h => h) (Or.inl ⟨by rfl, ?_⟩) ?_ ?_
       rotate_left
       ·intro w'
        go_simp
        with_reducible rfl
       rotate_left
       ·simp only [Act.put, zsA, zsZ, zsS, i64_w, i32_w]
        rfl
       refine pure_ (i := 4) (N := some 27) (v := ?_) (a' := ?_) #[true, true, true, true, true, false, false, false, false, false, false, false, false, false, false, false] rfl rfl (any_of HT_.out (by kernel_rfl)) (fun _ _ _ h => h) (Or.inl ⟨by rfl, ?_⟩) ?_ ?_
       rotate_left
       ·intro w'
        go_simp
        with_reducible rfl
       rotate_left
       ·simp only [Act.put, zsA, zsZ, zsS, i64_w, i32_w]
        rfl
       refine pure_ (i := 5) (N := some 28) (v := ?_) (a' := ?_) #[true, true, true, true, true, true, false, false, false, false, false, false, false, false, false, false] rfl rfl (any_of HT_.out (by kernel_rfl)) (fun _ _ _ h => h) (Or.inl ⟨by rfl, ?_⟩) ?_ ?_
       rotate_left
       ·intro w'
        go_simp
        with_reducible rfl
       rotate_left
       ·simp only [Act.put, zsA, zsZ, zsS, i64_w, i32_w]
        rfl
       refine pure_ (i := 6) (N := some 29) (v := undef) (a' := ?_) #[true, true, true, true, true, true, true, false, false, false, false, false, false, false, false, false] rfl rfl (any_of HT_.out (by kernel_rfl)) (fun _ _ _ h => h) (Or.inr ⟨by rfl, rfl⟩) ?_ ?_
       rotate_left
       ·simp only [Act.put, zsA, zsZ, zsS, i64_w, i32_w]
        rfl
       refine pure_ (i := 7) (N := some 30) (v := undef) (a' := ?_) #[true, true, true, true, true, true, true, true, false, false, false, false, false, false, false, false] rfl rfl (any_of HT_.out (by kernel_rfl)) (fun _ _ _ h => h) (Or.inr ⟨by rfl, rfl⟩) ?_ ?_
       rotate_left
       ·simp only [Act.put, zsA, zsZ, zsS, i64_w, i32_w]
        rfl
       refine pure_ (i := 8) (N := some 31) (v := undef) (a' := ?_) #[true, true, true, true, true, true, true, true, true, false, false, false, false, false, false, false] rfl rfl (any_of HT_.out (by kernel_rfl)) (fun _ _ _ h => h) (Or.inr ⟨by rfl, rfl⟩) ?_ ?_
       rotate_left
       ·simp only [Act.put, zsA, zsZ, zsS, i64_w, i32_w]
        rfl
       refine pure_ (i := 9) (N := some 32) (v := undef) (a' := ?_) #[true, true, true, true, true, true, true, true, true, true, false, false, false, false, false, false] rfl rfl (any_of HT_.out (by kernel_rfl)) (fun _ _ _ h => h) (Or.inr ⟨by rfl, rfl⟩) ?_ ?_
       rotate_left
       ·simp only [Act.put, zsA, zsZ, zsS, i64_w, i32_w]
        rfl
       refine pure_ (i := 10) (N := some 33) (v := undef) (a' := ?_) #[true, true, true, true, true, true, true, true, true, true, true, false, false, false, false, false] rfl rfl (any_of HT_.out (by kernel_rfl)) (fun _ _ _ h => h) (Or.inr ⟨by rfl, rfl⟩) ?_ ?_
       rotate_left
       ·simp only [Act.put, zsA, zsZ, zsS, i64_w, i32_w]
        rfl
       refine pure_ (i := 11) (N := some 34) (v := undef) (a' := ?_) #[true, true, true, true, true, true, true, true, true, true, true, true, false, false, false, false] rfl rfl (any_of HT_.out (by kernel_rfl)) (fun _ _ _ h => h) (Or.inr ⟨by rfl, rfl⟩) ?_ ?_
       rotate_left
       ·simp only [Act.put, zsA, zsZ, zsS, i64_w, i32_w]
        rfl
       refine pure_ (i := 12) (N := some 35) (v := undef) (a' := ?_) #[true, true, true, true, true, true, true, true, true, true, true, true, true, false, false, false] rfl rfl (any_of HT_.out (by kernel_rfl)) (fun _ _ _ h => h) (Or.inr ⟨by rfl, rfl⟩) ?_ ?_
       rotate_left
       ·simp only [Act.put, zsA, zsZ, zsS, i64_w, i32_w]
        rfl
       refine pure_ (i := 13) (N := some 36) (v := undef) (a' := ?_) #[true, true, true, true, true, true, true, true, true, true, true, true, true, true, false, false] rfl rfl (any_of HT_.out (by kernel_rfl)) (fun _ _ _ h => h) (Or.inr ⟨by rfl, rfl⟩) ?_ ?_
       rotate_left
       ·simp only [Act.put, zsA, zsZ, zsS, i64_w, i32_w]
        rfl
       refine pure_ (i := 14) (N := some 37) (v := undef) (a' := ?_) #[true, true, true, true, true, true, true, true, true, true, true, true, true, true, true, false] rfl rfl (any_of HT_.out (by kernel_rfl)) (fun _ _ _ h => h) (Or.inr ⟨by rfl, rfl⟩) ?_ ?_
       rotate_left
       ·simp only [Act.put, zsA, zsZ, zsS, i64_w, i32_w]
        rfl
       refine pure_ (i := 15) (N := some 38) (v := ?_) (a' := ?_) #[true, true, true, true, true, true, true, true, true, true, true, true, true, true, true, true] rfl rfl (any_of HT_.out (by kernel_rfl)) (fun _ _ _ h => h) (Or.inl ⟨by rfl, ?_⟩) ?_ ?_
       rotate_left
       ·intro w'
        go_simp
        with_reducible rfl
       rotate_left
       ·simp only [Act.put, zsA, zsZ, zsS, i64_w, i32_w]
        rfl
       refine done_ (done_of HT_.out (by kernel_rfl)) ?_
       try go_wp2
       go_meet
       case rel => exact ⟨_, (false), (by first | rfl | (simp; done) | (simp [*]; done)), H', ⟨by have := HK1.out; first | omega | exact Nat.le_refl _⟩, ⟨ZN HO_212000.out⟩, ⟨ZN HO_213000.out⟩, ⟨Zb BK204.out⟩, ⟨Zb BK205.out⟩, ⟨Zb BK206.out⟩, ⟨Zb BK211.out⟩, ⟨Zb BK212.out⟩, ⟨by repeat (first | (with_reducible first | exact HB.out | apply below_alloc | apply pw_below_drewN | apply below_drew1 | refine below_set ?_ GE204.out | refine below_set ?_ GE205.out | refine below_set ?_ GE206.out | refine below_set ?_ GE211.out | refine below_set ?_ GE212.out) | exact HB.out)⟩⟩
     case rest =>
      clear HC43
      try clear c1
      try clear c2
      try clear p2
      try clear q2
      try clear hx2
      try clear c3
      try clear c4
      try clear c6
      try clear c6b0
      try clear c6b1
      try clear c10
      try clear c11
      try clear c14
      try clear c20
      try clear c21
      try clear p21
      try clear q21
      try clear hx21
      try clear c22
      try clear c27
      try clear c28
      try clear c29
      try clear c32
      try clear c33
      try clear c38
      try clear c39
      try clear c40
      try clear c44
      try clear c44b0
      try clear c45
      try clear c45b0
      try clear hcz12_0
      try clear hcz12_1
      try clear hcz15_0
      try clear hcz16_0
      try clear hcz16_1
      try clear hcz23_0
      try clear hcz24_0
      try clear hcz30_0
      try clear hcz30_1
      try clear hcz33_0
      try clear hcz34_0
      try clear hcz34_1
      try clear hcz41_0
      try clear hfz12_0
      try clear hfz12_1
      try clear hfz15_0
      try clear hfz16_0
      try clear hfz16_1
      try clear hfz23_0
      try clear hfz24_0
      try clear hfz30_0
      try clear hfz30_1
      try clear hfz33_0
      try clear hfz34_0
      try clear hfz34_1
      try clear hfz41_0
      try clear hx213_0
      try clear hx213_1
      try clear p2
      try clear p213
      try clear q213
      obtain ⟨kq, x38_42, rfl, HA, HJ42, HO_212000, HO_213000, BK204, BK205, BK206, BK211, BK212, HB⟩ := hcut
      cases kq with
      | zero => exact absurd HA.out (by simp [debuggerref25_Add.j1])
      | succ kj42 =>
       have H := HA.out
       clear HA
       simp only [debuggerref25_Add.j1] at H
       by_cases c48 : x38_42 = true
       ·subst c48
        have H1 : (if 0 ≤ x8_1 then (if x8_1 < (t208.length : Int) then (if x213000_1.length < 4398046511104 then (debuggerref25_Add.l0 kj42 (wrap64 (x8_1 + 1)) a1_0 l1_1 t208 (x213000_1 ++ [(⟨(rd_T31 t208 x8_1).f0, (rd_T31 t208 x8_1).f1⟩ : S31)])) else (none)) else (none)) else (none)) = some (r1, r2) := by rw [if_pos rfl] at H; exact H
        clear H
        have H := H1
        clear H1
        by_cases c49 : 0 ≤ x8_1
        ·rw [if_pos c49] at H
         have c49b0 : decide (0 ≤ x8_1) = true := decide_eq_true c49
         clear c49
         by_cases c50 : x8_1 < (t208.length : Int)
         ·rw [if_pos c50] at H
          have c50b0 : decide (x8_1 < (t208.length : Int)) = true := decide_eq_true c50
          clear c50
          by_cases c51 : x213000_1.length < 4398046511104
          ·rw [if_pos c51] at H
           have LMc51 := Aside0.mk c51
           clear c51
           obtain ⟨y215, hy215⟩ : ∃ y_ : List (S31), y_ = (x213000_1 ++ [(⟨(rd_T31 t208 x8_1).f0, (rd_T31 t208 x8_1).f1⟩ : S31)]) := ⟨_, rfl⟩
           replace H : (debuggerref25_Add.l0 kj42 (wrap64 (x8_1 + 1)) a1_0 l1_1 t208 y215) = some (r1, r2) := by first | (rw [hy215]; with_reducible exact H) | (have H2_ := (Option.bind_some _ _).symm.trans H; rw [hy215]; with_reducible exact H2_) | (have H2_ := (Option.bind_some _ _).symm.trans H; with_reducible exact H2_) | with_reducible exact H | (rw [hy215]; exact H) | exact H
           have Ny215 := Aside0.mk hy215
           clear hy215
           have H' := Aside0.mk H
           clear H
           try go_wp2
           have n0_ := Zw (Kd.N_drew HO_212000.out)
           have n1_ := Zw (Kd.N_drew HO_213000.out)
           have n2_ := Zw (blk_drew BK204.out)
           have n3_ := Zw (blk_drew BK205.out)
           have n4_ := Zw (blk_drew BK206.out)
           have n5_ := Zw (blk_drew BK211.out)
           have n6_ := Zw (blk_drew BK212.out)
           have n7_ := Zw (below_drew1 HB.out)
           clear HO_212000
           clear HO_213000
           clear BK204
           clear BK205
           clear BK206
           clear BK211
           clear BK212
           clear HB
           have HO_212000 := n0_
           have HO_213000 := n1_
           have BK204 := n2_
           have BK205 := n3_
           have BK206 := n4_
           have BK211 := n5_
           have BK212 := n6_
           have HB := n7_
           clear n0_ n1_ n2_ n3_ n4_ n5_ n6_ n7_
           have p214 : 0 ≤ (x8_1 : Int) := of_decide_eq_true Za
           have q214 : x8_1 < (t208.length : Int) := of_decide_eq_true Za
           obtain ⟨ad214, A214_1, c214_1, e214, hx214_0, hx214_1, hl214_1, hi214_1⟩ := at_T31 (Kd.N_reads' HO_212000.out).2.2 x8_1 p214 q214
           cases e214
           obtain ⟨ce214, hce214, hMe214, hcc214⟩ := Kd.N_get HO_212000.out z31 x8_1 p214 (by first | exact q214 | exact of_decide_eq_true Za | (have e_ := (Kd.N_reads' HO_212000.out).1; omega))
           obtain ⟨ua214_1, uc214_1, rfl, ul214_1, ge214_1⟩ := k31_openF hMe214
           have hv214_1 := hcc214 1 _ rfl
           rw [add_field _ _ 1 (by omega)] at hv214_1
           replace hv214_1 := Option.some.inj (hv214_1.symm.trans hx214_1)
           injection hv214_1 with hva_ hvn_ hvc_
           rw [hva_] at ge214_1
           rw [hvc_] at ul214_1
           have HL214_1 := Zw (show Kd.V (Kd.int .i64) 3 _ w.heap.size _ _ ((rd_T31 t208 x8_1).f1) from Kd.V_mk ul214_1 ge214_1)
           clear hva_ hvn_ hvc_ ge214_1 ul214_1
           clear hcc214 hce214
           have HR214_1 := Aside0.mk hi214_1
           have HC214_1 := Aside0.mk hl214_1
           clear hi214_1 hl214_1
           replace p214 := eq_true p214
           replace q214 := eq_true q214
           refine start_ (n := 11) (S := fun w' => w'.cell? ⟨gb212, 0, none⟩ = some (u213000) ∧ w'.cell? ⟨gb211, 0, none⟩ = some (.slice (some ad214) t208.length co37) ∧ w'.cell? (ad214.add ((x8_1).toNat * 2)) = some (.int .i64 ((rd_T31 t208 x8_1).f0)) ∧ w'.cell? ⟨(ad214.add ((x8_1).toNat * 2)).block, (ad214.add ((x8_1).toNat * 2)).off + 1, none⟩ = some (.slice A214_1 ((rd_T31 t208 x8_1).f1).length c214_1)) (ds := [8, 10]) #[false, false, false, false, false, false, false, false, false, false, false] (by kernel_rfl) rfl rfl ⟨(blk_cell BK212.out 0).trans rfl, (blk_cell BK211.out 0).trans rfl, hx214_0, hx214_1⟩ (fun hHeld => ?_); refine with_tabW debuggerref25_Add.tab10 debuggerref25_Add.bits10 (fun HT_ HW_ => ?_)
           generalize wc.drew = w52 at HO_212000 HO_213000 BK204 BK205 BK206 BK211 BK212 HB HL214_1 HR214_1 hx214_0 hx214_1 hHeld ⊢
           refine pure_ (i := 0) (N := some 41) (v := ?_) (a' := ?_) #[true, false, false, false, false, false, false, false, false, false, false] rfl rfl (any_of HT_.out (by kernel_rfl)) (fun _ _ _ h => h) (Or.inl ⟨by rfl, ?_⟩) ?_ ?_
           rotate_left
           ·intro w'
            go_simp
            with_reducible rfl
           rotate_left
           ·simp only [Act.put, zsA, zsZ, zsS, i64_w, i32_w]
            rfl
           refine pure_ (i := 2) (N := some 43) (v := ?_) (a' := ?_) #[true, false, true, false, false, false, false, false, false, false, false] rfl rfl (any_of HT_.out (by kernel_rfl)) (fun _ _ _ h => h) (Or.inl ⟨by rfl, ?_⟩) ?_ ?_
           rotate_left
           ·intro w'
            go_simp
            with_reducible rfl
           rotate_left
           ·simp only [Act.put, zsA, zsZ, zsS, i64_w, i32_w]
            rfl
           refine pure_ (i := 4) (N := some 45) (v := ?_) (a' := ?_) #[true, false, true, false, true, false, false, false, false, false, false] rfl rfl (any_of HT_.out (by kernel_rfl)) (fun _ _ _ h => h) (Or.inl ⟨by rfl, ?_⟩) ?_ ?_
           rotate_left
           ·intro w'
            go_simp
            with_reducible rfl
           rotate_left
           ·simp only [Act.put, zsA, zsZ, zsS, i64_w, i32_w]
            rfl
           refine take_ (i := 1) (N := some 42) (v := ?_) (a' := ?_) #[true, true, true, false, true, false, false, false, false, false, false] rfl rfl (take_ofW HT_.out HW_.out (by kernel_rfl)) (fun _ _ _ h => h) (Or.inl ⟨by rfl, ?_⟩) hHeld ?_ ?_
           rotate_left
           ·rintro w' ⟨s0, s1, s2, s3⟩
            go_simp
            with_reducible rfl
           rotate_left
           ·simp only [Act.put, zsA, zsZ, zsS, i64_w, i32_w]
            rfl
           refine take_ (i := 3) (N := some 44) (v := ?_) (a' := ?_) #[true, true, true, true, true, false, false, false, false, false, false] rfl rfl (take_ofW HT_.out HW_.out (by kernel_rfl)) (fun _ _ _ h => h) (Or.inl ⟨by rfl, ?_⟩) hHeld ?_ ?_
           rotate_left
           ·rintro w' ⟨s0, s1, s2, s3⟩
            go_simp
            with_reducible rfl
           rotate_left
           ·simp only [Act.put, zsA, zsZ, zsS, i64_w, i32_w]
            rfl
           refine pure_ (i := 5) (N := some 46) (v := ?_) (a' := ?_) #[true, true, true, true, true, true, false, false, false, false, false] rfl rfl (any_of HT_.out (by kernel_rfl)) (fun _ _ _ h => h) (Or.inl ⟨by rfl, ?_⟩) ?_ ?_
           rotate_left
           ·intro w'
            go_simp
            with_reducible rfl
           rotate_left
           ·simp only [Act.put, zsA, zsZ, zsS, i64_w, i32_w]
            rfl
           refine take_ (i := 6) (N := some 47) (v := ?_) (a' := ?_) #[true, true, true, true, true, true, true, false, false, false, false] rfl rfl (take_ofW HT_.out HW_.out (by kernel_rfl)) (fun _ _ _ h => h) (Or.inl ⟨by rfl, ?_⟩) hHeld ?_ ?_
           rotate_left
           ·rintro w' ⟨s0, s1, s2, s3⟩
            go_simp
            with_reducible rfl
           rotate_left
           ·simp only [Act.put, zsA, zsZ, zsS, i64_w, i32_w]
            rfl
           refine one_ (i := 7) (N := some 48) #[true, true, true, true, true, true, true, true, false, false, false] rfl rfl (one_of HT_.out (by kernel_rfl)) (by decide) (fun K hK => ?_)
           refine value_ (w1 := ?_) (v := ?_) (by rfl) rfl ?_ ?_
           rotate_left 2
           ·go_simp
            constructor
            ·rfl
            ·rfl
           refine hK.out _ _ ⟨(blk_cell (blk_alloc BK212.out _) 0).trans rfl, (blk_cell (blk_alloc BK211.out _) 0).trans rfl, (World.cell?_alloc_lt _ _ _ (World.block_lt_of_cell? _ _ (hHeld.2.2.1))).trans (hHeld.2.2.1), (World.cell?_alloc_lt _ _ _ (World.block_lt_of_cell? _ _ (hHeld.2.2.2))).trans (hHeld.2.2.2)⟩ (fun hHeld => ?_)
           clear hK K
           refine norm_ (a' := ?_) ?_ ?_
           rotate_left
           ·show Act.put _ (some 48) _ = _
            simp only [Act.put, zsA, zsZ, zsS, i64_w, i32_w]
            rfl
           refine last_ (i := 8) (N := some 49) #[true, true, true, true, true, true, true, true, true, false, false] rfl rfl (one_of HT_.out (by kernel_rfl)) (by decide) (fun K hK => ?_)
           refine Kd.N_append_step k31 (w0 := w) w.heap.size (by rfl) (.tmp 42) (.tmp 48) 22 31 (.agg #[(.int .i64 0), (.slice none 0 0)]) 32 rfl Try.underlying22 info31 rfl (by decide) (by omega) u213000 x213000_1 (⟨(rd_T31 t208 x8_1).f0, (rd_T31 t208 x8_1).f1⟩ : S31) [.int .i64 ((rd_T31 t208 x8_1).f0), .slice A214_1 ((rd_T31 t208 x8_1).f1).length c214_1] (fun k_ => (w.heap.size ≤ k_) ∧ some k_ ≠ (.slice (some ad214) t208.length co37 : Value).ownBlock ∧ k_ ≠ gb204 ∧ k_ ≠ gb205 ∧ k_ ≠ gb206 ∧ k_ ≠ gb211 ∧ k_ ≠ gb212) (fun k_ => ((fun k_ => (w.heap.size ≤ k_) ∧ some k_ ≠ (.slice (some ad214) t208.length co37 : Value).ownBlock ∧ k_ ≠ gb204 ∧ k_ ≠ gb205 ∧ k_ ≠ gb206 ∧ k_ ≠ gb211 ∧ k_ ≠ gb212)) k_ ∧ some k_ ≠ (u213000 : Value).ownBlock) rfl rfl ?aP (fun _ hk => hk) ?aF ?aO ?aB ?aS ?aL ?_
           (case aP => exact (k31_mkF _ _ (⟨(rd_T31 t208 x8_1).f0, (rd_T31 t208 x8_1).f1⟩ : S31) (Kd.V_reads' (Kd.V_mono (ok' := (fun k_ => ((fun k_ => (w.heap.size ≤ k_) ∧ some k_ ≠ (.slice (some ad214) t208.length co37 : Value).ownBlock ∧ k_ ≠ gb204 ∧ k_ ≠ gb205 ∧ k_ ≠ gb206 ∧ k_ ≠ gb211 ∧ k_ ≠ gb212)) k_ ∧ some k_ ≠ (u213000 : Value).ownBlock)) (HL214_1.out) (fun k_ hk => ⟨⟨hk.1.1, ⟨hk.2, ⟨hk.1.2.2.1, ⟨hk.1.2.2.2.1, ⟨hk.1.2.2.2.2.1, ⟨hk.1.2.2.2.2.2.1, hk.1.2.2.2.2.2.2⟩⟩⟩⟩⟩⟩, hk.1.2.1⟩))).2.1 (Kd.V_F (Kd.V_mono (ok' := (fun k_ => ((fun k_ => (w.heap.size ≤ k_) ∧ some k_ ≠ (.slice (some ad214) t208.length co37 : Value).ownBlock ∧ k_ ≠ gb204 ∧ k_ ≠ gb205 ∧ k_ ≠ gb206 ∧ k_ ≠ gb211 ∧ k_ ≠ gb212)) k_ ∧ some k_ ≠ (u213000 : Value).ownBlock)) (HL214_1.out) (fun k_ hk => ⟨⟨hk.1.1, ⟨hk.2, ⟨hk.1.2.2.1, ⟨hk.1.2.2.2.1, ⟨hk.1.2.2.2.2.1, ⟨hk.1.2.2.2.2.2.1, hk.1.2.2.2.2.2.2⟩⟩⟩⟩⟩⟩, hk.1.2.1⟩)))))
           (case aB => exact (by repeat (first | (with_reducible first | exact HB.out | apply below_alloc | apply pw_below_drewN | apply below_drew1 | refine below_set ?_ GE204.out | refine below_set ?_ GE205.out | refine below_set ?_ GE206.out | refine below_set ?_ GE211.out | refine below_set ?_ GE212.out) | exact HB.out)))
           (case aF => exact (fun k_ hk => ⟨(Nat.le_trans (below_size (by repeat (first | (with_reducible first | exact HB.out | apply below_alloc | apply pw_below_drewN | apply below_drew1 | refine below_set ?_ GE204.out | refine below_set ?_ GE205.out | refine below_set ?_ GE206.out | refine below_set ?_ GE211.out | refine below_set ?_ GE212.out) | exact HB.out))) hk), Kd.fresh' (Kd.N_lt (ZN HO_212000.out)) k_ hk, Kd.freshB (g := gb204) (o := .cells #[.slice A0_0 l0_0.length c0_0] 24 (0, 0)) (Zb BK204.out) k_ hk, Kd.freshB (g := gb205) (o := .cells #[.int .i64 a1_0, .slice A1_1 l1_1.length c1_1] 31 (0, 0)) (Zb BK205.out) k_ hk, Kd.freshB (g := gb206) (o := .cells #[.slice none 0 0] 24 (0, 0)) (Zb BK206.out) k_ hk, Kd.freshB (g := gb211) (o := .cells #[.slice (some ad214) t208.length co37] 24 (0, 0)) (Zb BK211.out) k_ hk, Kd.freshB (g := gb212) (o := .cells #[u213000] 24 (0, 0)) (Zb BK212.out) k_ hk⟩))
           (case aO => exact (ZN HO_213000.out))
           (case aS => exact (below_size (by repeat (first | (with_reducible first | exact HB.out | apply below_alloc | apply pw_below_drewN | apply below_drew1 | refine below_set ?_ GE204.out | refine below_set ?_ GE205.out | refine below_set ?_ GE206.out | refine below_set ?_ GE211.out | refine below_set ?_ GE212.out) | exact HB.out))))
           (case aL => have := LMc51.out; omega)
           intro v216 w53 ho hb hg hat
           rw [← Ny215.out] at ho
           have n0_ := Zw (Kd.N_afterv (ok := (fun k_ => (w.heap.size ≤ k_) ∧ k_ ≠ gb204 ∧ k_ ≠ gb205 ∧ k_ ≠ gb206 ∧ k_ ≠ gb211 ∧ k_ ≠ gb212)) (by refine ZNk ?_; exact Kd.N_mono HO_212000.out (fun _ hk => ⟨⟨hk.1, ⟨hk.2.2.1, ⟨hk.2.2.2.1, ⟨hk.2.2.2.2.1, ⟨hk.2.2.2.2.2.1, hk.2.2.2.2.2.2⟩⟩⟩⟩⟩, hk.2.1⟩)) hg hat)
           have n1_ := Zw (blk_grown (g := gb204) (o := .cells #[.slice A0_0 l0_0.length c0_0] 24 (0, 0)) (Zb BK204.out) hg (Kd.N_ne HO_213000.out BK204.out (by decide)))
           have n2_ := Zw (blk_grown (g := gb205) (o := .cells #[.int .i64 a1_0, .slice A1_1 l1_1.length c1_1] 31 (0, 0)) (Zb BK205.out) hg (Kd.N_away HO_213000.out (fun _ hk => hk.2.2.2.1)))
           have n3_ := Zw (blk_grown (g := gb206) (o := .cells #[.slice none 0 0] 24 (0, 0)) (Zb BK206.out) hg (Kd.N_ne HO_213000.out BK206.out (by decide)))
           have n4_ := Zw (blk_grown (g := gb211) (o := .cells #[.slice (some ad214) t208.length co37] 24 (0, 0)) (Zb BK211.out) hg (Kd.N_ne HO_213000.out BK211.out (by decide)))
           have n5_ := Zw (blk_grown (g := gb212) (o := .cells #[u213000] 24 (0, 0)) (Zb BK212.out) hg (Kd.N_ne HO_213000.out BK212.out (by decide)))
           have n6_ := Zw (Kd.V_afterv (ok := (fun k_ => (w.heap.size ≤ k_) ∧ some k_ ≠ (.slice (some ad214) t208.length co37 : Value).ownBlock ∧ k_ ≠ gb204 ∧ k_ ≠ gb205 ∧ k_ ≠ gb206 ∧ k_ ≠ gb211 ∧ k_ ≠ gb212)) (by (with_reducible repeat (first | apply Kd.V_alloc | apply Kd.V_drewN | apply Kd.V_drew)); exact Kd.V_mono HL214_1.out (fun _ hk => ⟨⟨hk.1.1, ⟨hk.2, ⟨hk.1.2.2.1, ⟨hk.1.2.2.2.1, ⟨hk.1.2.2.2.2.1, ⟨hk.1.2.2.2.2.2.1, hk.1.2.2.2.2.2.2⟩⟩⟩⟩⟩⟩, hk.1.2.1⟩)) hg hat)
           have n7_ := Zw (hb)
           have n8_ := Zw (ho)
           clear HO_212000
           clear BK204
           clear BK205
           clear BK206
           clear BK211
           clear BK212
           clear HL214_1
           clear HB
           clear HO_213000
           have HO_212000 := n0_
           have BK204 := n1_
           have BK205 := n2_
           have BK206 := n3_
           have BK211 := n4_
           have BK212 := n5_
           have HL214_1 := n6_
           have HB := n7_
           have HO217 := n8_
           clear n0_ n1_ n2_ n3_ n4_ n5_ n6_ n7_ n8_
           clear ho hb hg hat
           obtain ⟨Ao54, co54, eo54⟩ := Kd.N_slice HO217.out
           (first | subst eo54 | (injection eo54 with f1_ f2_ f3_; have f4_ := f1_.symm; have f5_ := f3_.symm; clear f1_ f2_ f3_; subst f4_; subst f5_))
           refine hK.out _ _ ?_
           clear hK K
           refine norm_ (a' := ?_) ?_ ?_
           rotate_left
           ·show Act.put _ (some 49) _ = _
            simp only [Act.put, zsA, zsZ, zsS, i64_w, i32_w]
            rfl
           refine pure_ (i := 9) (N := some 50) (v := ?_) (a' := ?_) #[true, true, true, true, true, true, true, true, true, true, false] rfl rfl (any_of HT_.out (by kernel_rfl)) (fun _ _ _ h => h) (Or.inl ⟨by rfl, ?_⟩) ?_ ?_
           rotate_left
           ·intro w'
            go_simp
            with_reducible rfl
           rotate_left
           ·simp only [Act.put, zsA, zsZ, zsS, i64_w, i32_w]
            rfl
           refine last_ (i := 10) (N := none) #[true, true, true, true, true, true, true, true, true, true, true] rfl rfl (one_of HT_.out (by kernel_rfl)) (by decide) (fun K hK => ?_)
           have hs55 : w53.cell? ⟨gb212, 0, none⟩ = some (u213000) := (blk_cell BK212.out 0).trans rfl
           have hfs55 := blk_frozen BK212.out 0
           have hns55_0 := NB204_212.out
           have hns55_1 := NB205_212.out
           have hns55_2 := NB206_212.out
           have hns55_3 := NB211_212.out
           have hms55_0 := NB212_204.out
           have hms55_1 := NB212_205.out
           have hms55_2 := NB212_206.out
           have hms55_3 := NB212_211.out
           refine skip_ (w1 := ?_) (by rfl) rfl ?_ ?_
           rotate_left
           ·go_simp
            rfl
           refine hK.out _ _ ?_
           clear hK K
           refine done_ (done_of HT_.out (by kernel_rfl)) ?_
           try go_wp2
           go_roundg kj42
           case measure => have := HK1.out; have := HJ42.out; omega
           case rel => exact ⟨(wrap64 (x8_1 + 1)), (y215), (.slice Ao54 y215.length co54), (by first | rfl | (simp; done) | (simp [*]; done)), H', ⟨by have := HK1.out; have := HJ42.out; omega⟩, ⟨by refine ZNk ?_; exact Kd.N_mono (Kd.N_far (p := ⟨gb212, 0, none⟩) (Kd.N_mono HO_212000.out (fun k_ hk => (⟨hk, hk.1.2.2.2.2.2⟩ : _ ∧ k_ ≠ gb212))) (fun _ hk => hk.2) (.slice Ao54 y215.length co54)) (fun _ hk => ⟨hk.1.1.1, ⟨hk.1.2, ⟨hk.1.1.2.1, ⟨hk.1.1.2.2.1, ⟨hk.1.1.2.2.2.1, ⟨hk.1.1.2.2.2.2.1, hk.1.1.2.2.2.2.2⟩⟩⟩⟩⟩⟩)⟩, ⟨by refine ZNk ?_; exact Kd.N_mono (Kd.N_far (p := ⟨gb212, 0, none⟩) (Kd.N_mono HO217.out (fun k_ hk => (⟨hk, hk.2.2.2.2.2.2⟩ : _ ∧ k_ ≠ gb212))) (fun _ hk => hk.2) (.slice Ao54 y215.length co54)) (fun _ hk => ⟨hk.1.1, ⟨hk.1.2.1, ⟨hk.1.2.2.1, ⟨hk.1.2.2.2.1, ⟨hk.1.2.2.2.2.1, ⟨hk.1.2.2.2.2.2.1, hk.1.2.2.2.2.2.2⟩⟩⟩⟩⟩⟩)⟩, ⟨by refine Zbk ?_; refine blk_far ?_ NB204_212.out _; refine Zbk ?_; exact BK204.out⟩, ⟨by refine Zbk ?_; refine blk_far ?_ NB205_212.out _; refine Zbk ?_; exact BK205.out⟩, ⟨by refine Zbk ?_; refine blk_far ?_ NB206_212.out _; refine Zbk ?_; exact BK206.out⟩, ⟨by refine Zbk ?_; refine blk_far ?_ NB211_212.out _; refine Zbk ?_; exact BK211.out⟩, ⟨by refine Zbk ?_; refine blk_put (cs := #[u213000]) ?_ 0 _ rfl; refine Zbk ?_; exact BK212.out⟩, ⟨by repeat (first | (with_reducible first | exact HB.out | apply below_alloc | apply pw_below_drewN | apply below_drew1 | refine below_set ?_ GE204.out | refine below_set ?_ GE205.out | refine below_set ?_ GE206.out | refine below_set ?_ GE211.out | refine below_set ?_ GE212.out) | exact HB.out)⟩⟩
          ·rw [if_neg c51] at H
           exact absurd H (by simp)
         ·rw [if_neg c50] at H
          exact absurd H (by simp)
        ·rw [if_neg c49] at H
         exact absurd H (by simp)
       ·replace c48 := Bool.eq_false_iff.mpr c48
        subst c48
        have H1 : ((some (([] : List Int) : List Int)).bind fun y218 => (if y218.length + l1_1.length < 17592186044416 then (if x213000_1.length < 4398046511104 then ((some (x213000_1 ++ [(⟨a1_0, (y218 ++ l1_1)⟩ : S31)] : List (S31))).bind fun y224 => (if 0 ≤ (x213000_1.length : Int) then (if (x213000_1.length : Int) ≤ (t208.length : Int) then ((some (t208.drop ((x213000_1.length : Int) : Int).toNat : List (S31))).bind fun y227 => (if y224.length + y227.length < 4398046511104 then (some ((y224 ++ y227), 0)) else (none))) else (none)) else (none))) else (none)) else (none))) = some (r1, r2) := by rw [if_neg (show ¬ (false = true) by decide)] at H; exact H
        clear H
        have H := H1
        clear H1
        obtain ⟨y218, hy218⟩ : ∃ y_ : List Int, y_ = (([] : List Int)) := ⟨_, rfl⟩
        replace H : (if y218.length + l1_1.length < 17592186044416 then (if x213000_1.length < 4398046511104 then ((some (x213000_1 ++ [(⟨a1_0, (y218 ++ l1_1)⟩ : S31)] : List (S31))).bind fun y224 => (if 0 ≤ (x213000_1.length : Int) then (if (x213000_1.length : Int) ≤ (t208.length : Int) then ((some (t208.drop ((x213000_1.length : Int) : Int).toNat : List (S31))).bind fun y227 => (if y224.length + y227.length < 4398046511104 then (some ((y224 ++ y227), 0)) else (none))) else (none)) else (none))) else (none)) else (none)) = some (r1, r2) := by first | (rw [hy218]; with_reducible exact H) | (have H2_ := (Option.bind_some _ _).symm.trans H; rw [hy218]; with_reducible exact H2_) | (have H2_ := (Option.bind_some _ _).symm.trans H; with_reducible exact H2_) | with_reducible exact H | (rw [hy218]; exact H) | exact H
        have Ny218 := Aside0.mk hy218
        clear hy218
        by_cases c56 : y218.length + l1_1.length < 17592186044416
        ·rw [if_pos c56] at H
         have LMc56 := Aside0.mk c56
         clear c56
         obtain ⟨y221, hy221⟩ : ∃ y_ : List Int, y_ = (y218 ++ l1_1) := ⟨_, rfl⟩
         replace H : (if x213000_1.length < 4398046511104 then ((some (x213000_1 ++ [(⟨a1_0, y221⟩ : S31)] : List (S31))).bind fun y224 => (if 0 ≤ (x213000_1.length : Int) then (if (x213000_1.length : Int) ≤ (t208.length : Int) then ((some (t208.drop ((x213000_1.length : Int) : Int).toNat : List (S31))).bind fun y227 => (if y224.length + y227.length < 4398046511104 then (some ((y224 ++ y227), 0)) else (none))) else (none)) else (none))) else (none)) = some (r1, r2) := by first | (rw [hy221]; with_reducible exact H) | (have H2_ := (Option.bind_some _ _).symm.trans H; rw [hy221]; with_reducible exact H2_) | (have H2_ := (Option.bind_some _ _).symm.trans H; with_reducible exact H2_) | with_reducible exact H | (rw [hy221]; exact H) | exact H
         have Ny221 := Aside0.mk hy221
         clear hy221
         by_cases c57 : x213000_1.length < 4398046511104
         ·rw [if_pos c57] at H
          have LMc57 := Aside0.mk c57
          clear c57
          obtain ⟨y224, hy224⟩ : ∃ y_ : List (S31), y_ = (x213000_1 ++ [(⟨a1_0, y221⟩ : S31)]) := ⟨_, rfl⟩
          replace H : (if 0 ≤ (x213000_1.length : Int) then (if (x213000_1.length : Int) ≤ (t208.length : Int) then ((some (t208.drop ((x213000_1.length : Int) : Int).toNat : List (S31))).bind fun y227 => (if y224.length + y227.length < 4398046511104 then (some ((y224 ++ y227), 0)) else (none))) else (none)) else (none)) = some (r1, r2) := by first | (rw [hy224]; with_reducible exact H) | (have H2_ := (Option.bind_some _ _).symm.trans H; rw [hy224]; with_reducible exact H2_) | (have H2_ := (Option.bind_some _ _).symm.trans H; with_reducible exact H2_) | with_reducible exact H | (rw [hy224]; exact H) | exact H
          have Ny224 := Aside0.mk hy224
          clear hy224
          by_cases c58 : 0 ≤ (x213000_1.length : Int)
          ·rw [if_pos c58] at H
           have c58b0 := eq_true c58
           have c58b1 : decide (0 ≤ (x213000_1.length : Int)) = true := decide_eq_true c58
           clear c58
           by_cases c59 : (x213000_1.length : Int) ≤ (t208.length : Int)
           ·rw [if_pos c59] at H
            have c59b0 := eq_true c59
            have c59b1 : decide ((x213000_1.length : Int) ≤ (t208.length : Int)) = true := decide_eq_true c59
            clear c59
            obtain ⟨y227, hy227⟩ : ∃ y_ : List (S31), y_ = (t208.drop ((x213000_1.length : Int) : Int).toNat) := ⟨_, rfl⟩
            replace H : (if y224.length + y227.length < 4398046511104 then (some ((y224 ++ y227), 0)) else (none)) = some (r1, r2) := by first | (rw [hy227]; with_reducible exact H) | (have H2_ := (Option.bind_some _ _).symm.trans H; rw [hy227]; with_reducible exact H2_) | (have H2_ := (Option.bind_some _ _).symm.trans H; with_reducible exact H2_) | with_reducible exact H | (rw [hy227]; exact H) | exact H
            have Ny227 := Aside0.mk hy227
            clear hy227
            by_cases c60 : y224.length + y227.length < 4398046511104
            ·rw [if_pos c60] at H
             have LMc60 := Aside0.mk c60
             clear c60
             obtain ⟨y232, hy232⟩ : ∃ y_ : List (S31), y_ = (y224 ++ y227) := ⟨_, rfl⟩
             replace H : (some (y232, 0)) = some (r1, r2) := by first | (rw [hy232]; with_reducible exact H) | (have H2_ := (Option.bind_some _ _).symm.trans H; rw [hy232]; with_reducible exact H2_) | (have H2_ := (Option.bind_some _ _).symm.trans H; with_reducible exact H2_) | with_reducible exact H | (rw [hy232]; exact H) | exact H
             have Ny232 := Aside0.mk hy232
             clear hy232
             simp only [Option.some.injEq, Prod.mk.injEq] at H
             obtain ⟨rfl, rfl⟩ := H
             have hnb61 := NB212_204.out
             have hnc61 := NB204_212.out
             have hnb62 := NB212_205.out
             have hnc62 := NB205_212.out
             have hnb63 := NB212_206.out
             have hnc63 := NB206_212.out
             have hnb64 := NB212_211.out
             have hnc64 := NB211_212.out
             have hcz65_0 := Zcl BK212.out 0 rfl
             have hfz65_0 := blk_frozen BK212.out 0
             obtain ⟨Ao66, co66, eo66⟩ := Kd.N_slice HO_213000.out
             subst eo66
             try go_wp2
             have n0_ := Zw (Kd.N_drew HO_212000.out)
             have n1_ := Zw (Kd.N_drew HO_213000.out)
             have n2_ := Zw (blk_drew BK204.out)
             have n3_ := Zw (blk_drew BK205.out)
             have n4_ := Zw (blk_drew BK206.out)
             have n5_ := Zw (blk_drew BK211.out)
             have n6_ := Zw (blk_drew BK212.out)
             have n7_ := Zw (below_drew1 HB.out)
             clear HO_212000
             clear HO_213000
             clear BK204
             clear BK205
             clear BK206
             clear BK211
             clear BK212
             clear HB
             have HO_212000 := n0_
             have HO_213000 := n1_
             have BK204 := n2_
             have BK205 := n3_
             have BK206 := n4_
             have BK211 := n5_
             have BK212 := n6_
             have HB := n7_
             clear n0_ n1_ n2_ n3_ n4_ n5_ n6_ n7_
             refine start_ (n := 13) (S := fun w' => w'.cell? ⟨gb212, 0, none⟩ = some (.slice Ao66 x213000_1.length co66) ∧ w'.cell? ⟨gb205, 0, none⟩ = some (.int .i64 a1_0) ∧ w'.cell? ⟨gb205, 1, none⟩ = some (.slice A1_1 l1_1.length c1_1)) (ds := [12]) #[false, false, false, false, false, false, false, false, false, false, false, false, false] (by kernel_rfl) rfl rfl ⟨(blk_cell BK212.out 0).trans rfl, (blk_cell BK205.out 0).trans rfl, (blk_cell BK205.out 1).trans rfl⟩ (fun hHeld => ?_); refine with_tabW debuggerref25_Add.tab12 debuggerref25_Add.bits12 (fun HT_ HW_ => ?_)
             generalize wc.drew = w67 at HO_212000 HO_213000 BK204 BK205 BK206 BK211 BK212 HB hHeld ⊢
             refine pure_ (i := 0) (N := some 54) (v := ?_) (a' := ?_) #[true, false, false, false, false, false, false, false, false, false, false, false, false] rfl rfl (any_of HT_.out (by kernel_rfl)) (fun _ _ _ h => h) (Or.inl ⟨by rfl, ?_⟩) ?_ ?_
             rotate_left
             ·intro w'
              go_simp
              with_reducible rfl
             rotate_left
             ·simp only [Act.put, zsA, zsZ, zsS, i64_w, i32_w]
              rfl
             refine pure_ (i := 2) (N := some 56) (v := ?_) (a' := ?_) #[true, false, true, false, false, false, false, false, false, false, false, false, false] rfl rfl (any_of HT_.out (by kernel_rfl)) (fun _ _ _ h => h) (Or.inl ⟨by rfl, ?_⟩) ?_ ?_
             rotate_left
             ·intro w'
              go_simp
              with_reducible rfl
             rotate_left
             ·simp only [Act.put, zsA, zsZ, zsS, i64_w, i32_w]
              rfl
             refine pure_ (i := 5) (N := some 59) (v := ?_) (a' := ?_) #[true, false, true, false, false, true, false, false, false, false, false, false, false] rfl rfl (any_of HT_.out (by kernel_rfl)) (fun _ _ _ h => h) (Or.inl ⟨by rfl, ?_⟩) ?_ ?_
             rotate_left
             ·intro w'
              go_simp
              with_reducible rfl
             rotate_left
             ·simp only [Act.put, zsA, zsZ, zsS, i64_w, i32_w]
              rfl
             refine take_ (i := 1) (N := some 55) (v := ?_) (a' := ?_) #[true, true, true, false, false, true, false, false, false, false, false, false, false] rfl rfl (take_ofW HT_.out HW_.out (by kernel_rfl)) (fun _ _ _ h => h) (Or.inl ⟨by rfl, ?_⟩) hHeld ?_ ?_
             rotate_left
             ·rintro w' ⟨s0, s1, s2⟩
              go_simp
              with_reducible rfl
             rotate_left
             ·simp only [Act.put, zsA, zsZ, zsS, i64_w, i32_w]
              rfl
             refine take_ (i := 3) (N := some 57) (v := ?_) (a' := ?_) #[true, true, true, true, false, true, false, false, false, false, false, false, false] rfl rfl (take_ofW HT_.out HW_.out (by kernel_rfl)) (fun _ _ _ h => h) (Or.inl ⟨by rfl, ?_⟩) hHeld ?_ ?_
             rotate_left
             ·rintro w' ⟨s0, s1, s2⟩
              go_simp
              with_reducible rfl
             rotate_left
             ·simp only [Act.put, zsA, zsZ, zsS, i64_w, i32_w]
              rfl
             refine take_ (i := 6) (N := some 60) (v := ?_) (a' := ?_) #[true, true, true, true, false, true, true, false, false, false, false, false, false] rfl rfl (take_ofW HT_.out HW_.out (by kernel_rfl)) (fun _ _ _ h => h) (Or.inl ⟨by rfl, ?_⟩) hHeld ?_ ?_
             rotate_left
             ·rintro w' ⟨s0, s1, s2⟩
              go_simp
              with_reducible rfl
             rotate_left
             ·simp only [Act.put, zsA, zsZ, zsS, i64_w, i32_w]
              rfl
             refine one_ (i := 4) (N := some 58) #[true, true, true, true, true, true, true, false, false, false, false, false, false] rfl rfl (one_of HT_.out (by kernel_rfl)) (by decide) (fun K hK => ?_)
             refine Kd.R_lit_step (Kd.int .i64) _ 3 ?hg (N := 58) ?hd (xs := ([] : List Int)) (inner := []) (ok := fun _ => True) (okp := fun _ => True) ?hr ?hp (fun _ hk => hk) trivial (Below.refl _ _) (Nat.le_refl _) (by simp) ?_; (case hd => rfl); (case hg => rfl); (case hr => first | (go_simp; done) | (go_simp; rfl)); (case hp => exact (Reps.none _ _))
             intro v219 w68 ho69 hb hg_ hnew_
             clear hg_ hnew_
             (first | rw [← Ny218.out] at ho69 | (simp only [Int.reduceToNat] at ho69; rw [← Ny218.out] at ho69))
             have n0_ := Zw (Kd.N_elder' (ZN HO_212000.out) (by first | exact Kd.R_base ho69 | exact Kd.S_base ho69 | exact Kd.R_base ho69 | exact Kd.N_base ho69) hb)
             have n1_ := Zw (Kd.N_elder' (ZN HO_213000.out) (by first | exact Kd.R_base ho69 | exact Kd.S_base ho69 | exact Kd.R_base ho69 | exact Kd.N_base ho69) hb)
             have n2_ := Zw (Kd.R_lower (Kd.R_newM (M := fun k_ => (w.heap.size ≤ k_)) ho69 (below_size (by repeat (first | (with_reducible first | exact HB.out | apply below_alloc | apply pw_below_drewN | apply below_drew1 | refine below_set ?_ GE204.out | refine below_set ?_ GE205.out | refine below_set ?_ GE206.out | refine below_set ?_ GE211.out | refine below_set ?_ GE212.out) | exact HB.out))) (fun k_ h_ => h_)) (below_size (by repeat (first | (with_reducible first | exact HB.out | apply below_alloc | apply pw_below_drewN | apply below_drew1 | refine below_set ?_ GE204.out | refine below_set ?_ GE205.out | refine below_set ?_ GE206.out | refine below_set ?_ GE211.out | refine below_set ?_ GE212.out) | exact HB.out))))
             have n3_ := Zw (blk_below (g := gb204) (o := .cells #[.slice A0_0 l0_0.length c0_0] 24 (0, 0)) (Zb BK204.out) hb)
             have n4_ := Zw (blk_below (g := gb205) (o := .cells #[.int .i64 a1_0, .slice A1_1 l1_1.length c1_1] 31 (0, 0)) (Zb BK205.out) hb)
             have n5_ := Zw (blk_below (g := gb206) (o := .cells #[.slice none 0 0] 24 (0, 0)) (Zb BK206.out) hb)
             have n6_ := Zw (blk_below (g := gb211) (o := .cells #[.slice Ao37 t208.length co37] 24 (0, 0)) (Zb BK211.out) hb)
             have n7_ := Zw (blk_below (g := gb212) (o := .cells #[.slice Ao66 x213000_1.length co66] 24 (0, 0)) (Zb BK212.out) hb)
             have n8_ := Zw (below_step (by repeat (first | (with_reducible first | exact HB.out | apply below_alloc | apply pw_below_drewN | apply below_drew1 | refine below_set ?_ GE204.out | refine below_set ?_ GE205.out | refine below_set ?_ GE206.out | refine below_set ?_ GE211.out | refine below_set ?_ GE212.out) | exact HB.out)) hb)
             clear HO_212000
             clear HO_213000
             clear BK204
             clear BK205
             clear BK206
             clear BK211
             clear BK212
             clear HB
             have HO_212000 := n0_
             have HO_213000 := n1_
             have HO220 := n2_
             have BK204 := n3_
             have BK205 := n4_
             have BK206 := n5_
             have BK211 := n6_
             have BK212 := n7_
             have HB := n8_
             clear n0_ n1_ n2_ n3_ n4_ n5_ n6_ n7_ n8_
             clear hb ho69
             refine hK.out _ _ ⟨(blk_cell BK212.out 0).trans rfl, (blk_cell BK205.out 0).trans rfl, (blk_cell BK205.out 1).trans rfl⟩ (fun hHeld => ?_)
             clear hK K
             refine norm_ (a' := ?_) ?_ ?_
             rotate_left
             ·show Act.put _ (some 58) _ = _
              simp only [Act.put, zsA, zsZ, zsS, i64_w, i32_w]
              rfl
             refine one_ (i := 7) (N := some 61) #[true, true, true, true, true, true, true, true, false, false, false, false, false] rfl rfl (one_of HT_.out (by kernel_rfl)) (by decide) (fun K hK => ?_)
             refine Kd.R_append_rows_step (Kd.int .i64) (w0 := w) w.heap.size (by rfl) (.tmp 58) (.tmp 60) 25 3 (.int .i64 0) 8 rfl Try.underlying25 info3 rfl (by decide) (by omega) v219 y218 l1_1 _ _ _ (fun k_ => (w.heap.size ≤ k_)) (fun _ => False) rfl rfl ?aO ?aR (fun _ _ h => h) (fun _ h => h.elim) ?aF ?aB ?aS ?aL ?_
             (case aR => exact Zc (Kd.C_below HR1_1.out HB.out))
             (case aB => exact (by repeat (first | (with_reducible first | exact HB.out | apply below_alloc | apply pw_below_drewN | apply below_drew1 | refine below_set ?_ GE204.out | refine below_set ?_ GE205.out | refine below_set ?_ GE206.out | refine below_set ?_ GE211.out | refine below_set ?_ GE212.out) | exact HB.out)))
             (case aF => exact (fun k_ hk => (Nat.le_trans (below_size (by repeat (first | (with_reducible first | exact HB.out | apply below_alloc | apply pw_below_drewN | apply below_drew1 | refine below_set ?_ GE204.out | refine below_set ?_ GE205.out | refine below_set ?_ GE206.out | refine below_set ?_ GE211.out | refine below_set ?_ GE212.out) | exact HB.out))) hk)))
             (case aO => exact (by refine ZRk ?_; exact Kd.R_mono HO220.out (fun _ hk => hk.1)))
             (case aS => exact (below_size (by repeat (first | (with_reducible first | exact HB.out | apply below_alloc | apply pw_below_drewN | apply below_drew1 | refine below_set ?_ GE204.out | refine below_set ?_ GE205.out | refine below_set ?_ GE206.out | refine below_set ?_ GE211.out | refine below_set ?_ GE212.out) | exact HB.out))))
             (case aL => have := LMc56.out; omega)
             intro v222 w70 ho hb hg hat
             rw [← Ny221.out] at ho
             have n0_ := Zw (Kd.N_afterv (ok := (fun k_ => (w.heap.size ≤ k_) ∧ some k_ ≠ (.slice Ao66 x213000_1.length co66 : Value).ownBlock ∧ k_ ≠ gb204 ∧ k_ ≠ gb205 ∧ k_ ≠ gb206 ∧ k_ ≠ gb211 ∧ k_ ≠ gb212)) (ZN HO_212000.out) hg hat)
             have n1_ := Zw (Kd.N_afterv (ok := (fun k_ => (w.heap.size ≤ k_) ∧ some k_ ≠ (.slice Ao37 t208.length co37 : Value).ownBlock ∧ k_ ≠ gb204 ∧ k_ ≠ gb205 ∧ k_ ≠ gb206 ∧ k_ ≠ gb211 ∧ k_ ≠ gb212)) (ZN HO_213000.out) hg hat)
             have n2_ := Zw (blk_grown (g := gb204) (o := .cells #[.slice A0_0 l0_0.length c0_0] 24 (0, 0)) (Zb BK204.out) hg (Kd.R_ne HO220.out BK204.out (by decide)))
             have n3_ := Zw (blk_grown (g := gb205) (o := .cells #[.int .i64 a1_0, .slice A1_1 l1_1.length c1_1] 31 (0, 0)) (Zb BK205.out) hg (Kd.R_ne HO220.out BK205.out (by decide)))
             have n4_ := Zw (blk_grown (g := gb206) (o := .cells #[.slice none 0 0] 24 (0, 0)) (Zb BK206.out) hg (Kd.R_ne HO220.out BK206.out (by decide)))
             have n5_ := Zw (blk_grown (g := gb211) (o := .cells #[.slice Ao37 t208.length co37] 24 (0, 0)) (Zb BK211.out) hg (Kd.R_ne HO220.out BK211.out (by decide)))
             have n6_ := Zw (blk_grown (g := gb212) (o := .cells #[.slice Ao66 x213000_1.length co66] 24 (0, 0)) (Zb BK212.out) hg (Kd.R_ne HO220.out BK212.out (by decide)))
             have n7_ := Zw (hb)
             have n8_ := Zw (ho)
             clear HO_212000
             clear HO_213000
             clear BK204
             clear BK205
             clear BK206
             clear BK211
             clear BK212
             clear HB
             clear HO220
             have HO_212000 := n0_
             have HO_213000 := n1_
             have BK204 := n2_
             have BK205 := n3_
             have BK206 := n4_
             have BK211 := n5_
             have BK212 := n6_
             have HB := n7_
             have HO223 := n8_
             clear n0_ n1_ n2_ n3_ n4_ n5_ n6_ n7_ n8_
             clear ho hb hg hat
             obtain ⟨Ao71, co71, eo71⟩ := Kd.R_slice HO223.out
             (first | subst eo71 | (injection eo71 with f1_ f2_ f3_; have f4_ := f1_.symm; have f5_ := f3_.symm; clear f1_ f2_ f3_; subst f4_; subst f5_))
             refine hK.out _ _ ⟨(blk_cell BK212.out 0).trans rfl, (blk_cell BK205.out 0).trans rfl, (blk_cell BK205.out 1).trans rfl⟩ (fun hHeld => ?_)
             clear hK K
             refine norm_ (a' := ?_) ?_ ?_
             rotate_left
             ·show Act.put _ (some 61) _ = _
              simp only [Act.put, zsA, zsZ, zsS, i64_w, i32_w]
              rfl
             refine pure_ (i := 8) (N := some 62) (v := ?_) (a' := ?_) #[true, true, true, true, true, true, true, true, true, false, false, false, false] rfl rfl (any_of HT_.out (by kernel_rfl)) (fun _ _ _ h => h) (Or.inl ⟨by rfl, ?_⟩) ?_ ?_
             rotate_left
             ·intro w'
              go_simp
              with_reducible rfl
             rotate_left
             ·simp only [Act.put, zsA, zsZ, zsS, i64_w, i32_w]
              rfl
             refine one_ (i := 9) (N := some 63) #[true, true, true, true, true, true, true, true, true, true, false, false, false] rfl rfl (one_of HT_.out (by kernel_rfl)) (by decide) (fun K hK => ?_)
             refine value_ (w1 := ?_) (v := ?_) (by rfl) rfl ?_ ?_
             rotate_left 2
             ·go_simp
              constructor
              ·rfl
              ·rfl
             refine hK.out _ _ ⟨(blk_cell (blk_alloc BK212.out _) 0).trans rfl, (blk_cell (blk_alloc BK205.out _) 0).trans rfl, (blk_cell (blk_alloc BK205.out _) 1).trans rfl⟩ (fun hHeld => ?_)
             clear hK K
             refine norm_ (a' := ?_) ?_ ?_
             rotate_left
             ·show Act.put _ (some 63) _ = _
              simp only [Act.put, zsA, zsZ, zsS, i64_w, i32_w]
              rfl
             refine one_ (i := 10) (N := some 64) #[true, true, true, true, true, true, true, true, true, true, true, false, false] rfl rfl (one_of HT_.out (by kernel_rfl)) (by decide) (fun K hK => ?_)
             refine Kd.N_append_step k31 (w0 := w) w.heap.size (by rfl) (.tmp 55) (.tmp 63) 22 31 (.agg #[(.int .i64 0), (.slice none 0 0)]) 32 rfl Try.underlying22 info31 rfl (by decide) (by omega) (.slice Ao66 x213000_1.length co66) x213000_1 (⟨a1_0, y221⟩ : S31) [.int .i64 a1_0, .slice Ao71 y221.length co71] (fun k_ => (w.heap.size ≤ k_) ∧ some k_ ≠ (.slice Ao37 t208.length co37 : Value).ownBlock ∧ k_ ≠ gb204 ∧ k_ ≠ gb205 ∧ k_ ≠ gb206 ∧ k_ ≠ gb211 ∧ k_ ≠ gb212) (fun k_ => ((fun k_ => (w.heap.size ≤ k_) ∧ some k_ ≠ (.slice Ao37 t208.length co37 : Value).ownBlock ∧ k_ ≠ gb204 ∧ k_ ≠ gb205 ∧ k_ ≠ gb206 ∧ k_ ≠ gb211 ∧ k_ ≠ gb212)) k_ ∧ some k_ ≠ (.slice Ao66 x213000_1.length co66 : Value).ownBlock) rfl rfl ?aP (fun _ hk => hk) ?aF ?aO ?aB ?aS ?aL ?_
             (case aP => exact (k31_mkF _ _ (⟨a1_0, y221⟩ : S31) (Kd.R_reads' (Kd.R_mono (ok' := (fun k_ => ((fun k_ => (w.heap.size ≤ k_) ∧ some k_ ≠ (.slice Ao37 t208.length co37 : Value).ownBlock ∧ k_ ≠ gb204 ∧ k_ ≠ gb205 ∧ k_ ≠ gb206 ∧ k_ ≠ gb211 ∧ k_ ≠ gb212)) k_ ∧ some k_ ≠ (.slice Ao66 x213000_1.length co66 : Value).ownBlock)) (Kd.R_types (Kd.R_types (Kd.R_types (Kd.R_types (Kd.R_types (Kd.R_apart' (Kd.R_apart' (HO223.out) (Kd.N_typed HO_212000.out) (by decide)) (Kd.N_typed HO_213000.out) (by decide)) BK204.out (by decide)) BK205.out (by decide)) BK206.out (by decide)) BK211.out (by decide)) BK212.out (by decide)) (fun k_ hk => ⟨⟨hk.1.1.1.1.1.1.1, ⟨hk.1.1.1.1.1.1.2, ⟨hk.1.1.1.1.2, ⟨hk.1.1.1.2, ⟨hk.1.1.2, ⟨hk.1.2, hk.2⟩⟩⟩⟩⟩⟩, hk.1.1.1.1.1.2⟩))).2.1 (Kd.R_F (Kd.R_mono (ok' := (fun k_ => ((fun k_ => (w.heap.size ≤ k_) ∧ some k_ ≠ (.slice Ao37 t208.length co37 : Value).ownBlock ∧ k_ ≠ gb204 ∧ k_ ≠ gb205 ∧ k_ ≠ gb206 ∧ k_ ≠ gb211 ∧ k_ ≠ gb212)) k_ ∧ some k_ ≠ (.slice Ao66 x213000_1.length co66 : Value).ownBlock)) (Kd.R_types (Kd.R_types (Kd.R_types (Kd.R_types (Kd.R_types (Kd.R_apart' (Kd.R_apart' (HO223.out) (Kd.N_typed HO_212000.out) (by decide)) (Kd.N_typed HO_213000.out) (by decide)) BK204.out (by decide)) BK205.out (by decide)) BK206.out (by decide)) BK211.out (by decide)) BK212.out (by decide)) (fun k_ hk => ⟨⟨hk.1.1.1.1.1.1.1, ⟨hk.1.1.1.1.1.1.2, ⟨hk.1.1.1.1.2, ⟨hk.1.1.1.2, ⟨hk.1.1.2, ⟨hk.1.2, hk.2⟩⟩⟩⟩⟩⟩, hk.1.1.1.1.1.2⟩)))))
             (case aB => exact (by repeat (first | (with_reducible first | exact HB.out | apply below_alloc | apply pw_below_drewN | apply below_drew1 | refine below_set ?_ GE204.out | refine below_set ?_ GE205.out | refine below_set ?_ GE206.out | refine below_set ?_ GE211.out | refine below_set ?_ GE212.out) | exact HB.out)))
             (case aF => exact (fun k_ hk => ⟨(Nat.le_trans (below_size (by repeat (first | (with_reducible first | exact HB.out | apply below_alloc | apply pw_below_drewN | apply below_drew1 | refine below_set ?_ GE204.out | refine below_set ?_ GE205.out | refine below_set ?_ GE206.out | refine below_set ?_ GE211.out | refine below_set ?_ GE212.out) | exact HB.out))) hk), Kd.fresh' (Kd.N_lt (ZN HO_212000.out)) k_ hk, Kd.freshB (g := gb204) (o := .cells #[.slice A0_0 l0_0.length c0_0] 24 (0, 0)) (Zb BK204.out) k_ hk, Kd.freshB (g := gb205) (o := .cells #[.int .i64 a1_0, .slice A1_1 l1_1.length c1_1] 31 (0, 0)) (Zb BK205.out) k_ hk, Kd.freshB (g := gb206) (o := .cells #[.slice none 0 0] 24 (0, 0)) (Zb BK206.out) k_ hk, Kd.freshB (g := gb211) (o := .cells #[.slice Ao37 t208.length co37] 24 (0, 0)) (Zb BK211.out) k_ hk, Kd.freshB (g := gb212) (o := .cells #[.slice Ao66 x213000_1.length co66] 24 (0, 0)) (Zb BK212.out) k_ hk⟩))
             (case aO => exact (by refine ZNk ?_; exact Kd.N_mono HO_213000.out (fun _ hk => ⟨hk.1.1, ⟨hk.1.2.1, ⟨hk.1.2.2.1, ⟨hk.1.2.2.2.1, ⟨hk.1.2.2.2.2.1, ⟨hk.1.2.2.2.2.2.1, hk.1.2.2.2.2.2.2⟩⟩⟩⟩⟩⟩)))
             (case aS => exact (below_size (by repeat (first | (with_reducible first | exact HB.out | apply below_alloc | apply pw_below_drewN | apply below_drew1 | refine below_set ?_ GE204.out | refine below_set ?_ GE205.out | refine below_set ?_ GE206.out | refine below_set ?_ GE211.out | refine below_set ?_ GE212.out) | exact HB.out))))
             (case aL => have := LMc57.out; omega)
             intro v225 w72 ho hb hg hat
             rw [← Ny224.out] at ho
             have n0_ := Zw (Kd.N_afterv (ok := (fun k_ => (w.heap.size ≤ k_) ∧ some k_ ≠ (.slice Ao71 y221.length co71 : Value).ownBlock ∧ k_ ≠ gb204 ∧ k_ ≠ gb205 ∧ k_ ≠ gb206 ∧ k_ ≠ gb211 ∧ k_ ≠ gb212)) (by refine ZNk ?_; exact Kd.N_mono HO_212000.out (fun _ hk => ⟨⟨hk.1.1, ⟨hk.2, ⟨hk.1.2.2.1, ⟨hk.1.2.2.2.1, ⟨hk.1.2.2.2.2.1, ⟨hk.1.2.2.2.2.2.1, hk.1.2.2.2.2.2.2⟩⟩⟩⟩⟩⟩, hk.1.2.1⟩)) hg hat)
             have n1_ := Zw (blk_grown (g := gb204) (o := .cells #[.slice A0_0 l0_0.length c0_0] 24 (0, 0)) (Zb BK204.out) hg (Kd.N_ne HO_213000.out BK204.out (by decide)))
             have n2_ := Zw (blk_grown (g := gb205) (o := .cells #[.int .i64 a1_0, .slice A1_1 l1_1.length c1_1] 31 (0, 0)) (Zb BK205.out) hg (Kd.N_away HO_213000.out (fun _ hk => hk.1.2.2.2.1)))
             have n3_ := Zw (blk_grown (g := gb206) (o := .cells #[.slice none 0 0] 24 (0, 0)) (Zb BK206.out) hg (Kd.N_ne HO_213000.out BK206.out (by decide)))
             have n4_ := Zw (blk_grown (g := gb211) (o := .cells #[.slice Ao37 t208.length co37] 24 (0, 0)) (Zb BK211.out) hg (Kd.N_ne HO_213000.out BK211.out (by decide)))
             have n5_ := Zw (blk_grown (g := gb212) (o := .cells #[.slice Ao66 x213000_1.length co66] 24 (0, 0)) (Zb BK212.out) hg (Kd.N_ne HO_213000.out BK212.out (by decide)))
             have n6_ := Zw (hb)
             have n7_ := Zw (ho)
             clear HO_212000
             clear BK204
             clear BK205
             clear BK206
             clear BK211
             clear BK212
             clear HB
             clear HO_213000
             clear HO223
             have HO_212000 := n0_
             have BK204 := n1_
             have BK205 := n2_
             have BK206 := n3_
             have BK211 := n4_
             have BK212 := n5_
             have HB := n6_
             have HO226 := n7_
             clear n0_ n1_ n2_ n3_ n4_ n5_ n6_ n7_
             clear ho hb hg hat
             obtain ⟨Ao73, co73, eo73⟩ := Kd.N_slice HO226.out
             (first | subst eo73 | (injection eo73 with f1_ f2_ f3_; have f4_ := f1_.symm; have f5_ := f3_.symm; clear f1_ f2_ f3_; subst f4_; subst f5_))
             refine hK.out _ _ ⟨(blk_cell BK212.out 0).trans rfl, (blk_cell BK205.out 0).trans rfl, (blk_cell BK205.out 1).trans rfl⟩ (fun hHeld => ?_)
             clear hK K
             refine norm_ (a' := ?_) ?_ ?_
             rotate_left
             ·show Act.put _ (some 64) _ = _
              simp only [Act.put, zsA, zsZ, zsS, i64_w, i32_w]
              rfl
             refine pure_ (i := 11) (N := some 65) (v := ?_) (a' := ?_) #[true, true, true, true, true, true, true, true, true, true, true, true, false] rfl rfl (any_of HT_.out (by kernel_rfl)) (fun _ _ _ h => h) (Or.inl ⟨by rfl, ?_⟩) ?_ ?_
             rotate_left
             ·intro w'
              go_simp
              with_reducible rfl
             rotate_left
             ·simp only [Act.put, zsA, zsZ, zsS, i64_w, i32_w]
              rfl
             refine last_ (i := 12) (N := none) #[true, true, true, true, true, true, true, true, true, true, true, true, true] rfl rfl (one_of HT_.out (by kernel_rfl)) (by decide) (fun K hK => ?_)
             have hs74 : w72.cell? ⟨gb212, 0, none⟩ = some (.slice Ao66 x213000_1.length co66) := (blk_cell BK212.out 0).trans rfl
             have hfs74 := blk_frozen BK212.out 0
             have hns74_0 := NB204_212.out
             have hns74_1 := NB205_212.out
             have hns74_2 := NB206_212.out
             have hns74_3 := NB211_212.out
             have hms74_0 := NB212_204.out
             have hms74_1 := NB212_205.out
             have hms74_2 := NB212_206.out
             have hms74_3 := NB212_211.out
             refine skip_ (w1 := ?_) (by rfl) rfl ?_ ?_
             rotate_left
             ·go_simp
              rfl
             refine hK.out _ _ ?_
             clear hK K
             refine done_ (done_of HT_.out (by kernel_rfl)) ?_
             try go_wp2
             have n0_ : Aside0 (Kd.N k31 31 (w72.setCell ⟨gb212, 0, none⟩ (.slice Ao73 y224.length co73)) w.heap.size (fun k_ => (w.heap.size ≤ k_) ∧ some k_ ≠ (.slice Ao73 y224.length co73 : Value).ownBlock ∧ k_ ≠ gb204 ∧ k_ ≠ gb205 ∧ k_ ≠ gb206 ∧ k_ ≠ gb211 ∧ k_ ≠ gb212) (.slice Ao37 t208.length co37) t208) := ⟨by refine ZNk ?_; exact Kd.N_mono (Kd.N_far (p := ⟨gb212, 0, none⟩) (Kd.N_mono HO_212000.out (fun k_ hk => (⟨hk, hk.1.2.2.2.2.2.2⟩ : _ ∧ k_ ≠ gb212))) (fun _ hk => hk.2) (.slice Ao73 y224.length co73)) (fun _ hk => ⟨hk.1.1.1, ⟨hk.1.2, ⟨hk.1.1.2.2.1, ⟨hk.1.1.2.2.2.1, ⟨hk.1.1.2.2.2.2.1, ⟨hk.1.1.2.2.2.2.2.1, hk.1.1.2.2.2.2.2.2⟩⟩⟩⟩⟩⟩)⟩
             have n1_ : Aside0 (Kd.N k31 31 (w72.setCell ⟨gb212, 0, none⟩ (.slice Ao73 y224.length co73)) w.heap.size (fun k_ => (w.heap.size ≤ k_) ∧ some k_ ≠ (.slice Ao37 t208.length co37 : Value).ownBlock ∧ k_ ≠ gb204 ∧ k_ ≠ gb205 ∧ k_ ≠ gb206 ∧ k_ ≠ gb211 ∧ k_ ≠ gb212) (.slice Ao73 y224.length co73) y224) := ⟨by refine ZNk ?_; exact Kd.N_mono (Kd.N_far (p := ⟨gb212, 0, none⟩) (Kd.N_mono HO226.out (fun k_ hk => (⟨hk, hk.2.2.2.2.2.2⟩ : _ ∧ k_ ≠ gb212))) (fun _ hk => hk.2) (.slice Ao73 y224.length co73)) (fun _ hk => ⟨hk.1.1, ⟨hk.1.2.1, ⟨hk.1.2.2.1, ⟨hk.1.2.2.2.1, ⟨hk.1.2.2.2.2.1, ⟨hk.1.2.2.2.2.2.1, hk.1.2.2.2.2.2.2⟩⟩⟩⟩⟩⟩)⟩
             have n2_ : Aside0 ((w72.setCell ⟨gb212, 0, none⟩ (.slice Ao73 y224.length co73)).heap[gb204]? = some (.cells #[.slice A0_0 l0_0.length c0_0] 24 (0, 0))) := ⟨by refine Zbk ?_; refine blk_far ?_ NB204_212.out _; refine Zbk ?_; exact BK204.out⟩
             have n3_ : Aside0 ((w72.setCell ⟨gb212, 0, none⟩ (.slice Ao73 y224.length co73)).heap[gb205]? = some (.cells #[.int .i64 a1_0, .slice A1_1 l1_1.length c1_1] 31 (0, 0))) := ⟨by refine Zbk ?_; refine blk_far ?_ NB205_212.out _; refine Zbk ?_; exact BK205.out⟩
             have n4_ : Aside0 ((w72.setCell ⟨gb212, 0, none⟩ (.slice Ao73 y224.length co73)).heap[gb206]? = some (.cells #[.slice none 0 0] 24 (0, 0))) := ⟨by refine Zbk ?_; refine blk_far ?_ NB206_212.out _; refine Zbk ?_; exact BK206.out⟩
             have n5_ : Aside0 ((w72.setCell ⟨gb212, 0, none⟩ (.slice Ao73 y224.length co73)).heap[gb211]? = some (.cells #[.slice Ao37 t208.length co37] 24 (0, 0))) := ⟨by refine Zbk ?_; refine blk_far ?_ NB211_212.out _; refine Zbk ?_; exact BK211.out⟩
             have n6_ : Aside0 ((w72.setCell ⟨gb212, 0, none⟩ (.slice Ao73 y224.length co73)).heap[gb212]? = some (.cells #[.slice Ao73 y224.length co73] 24 (0, 0))) := ⟨by refine Zbk ?_; refine blk_put (cs := #[.slice Ao66 x213000_1.length co66]) ?_ 0 _ rfl; refine Zbk ?_; exact BK212.out⟩
             have n7_ : Aside0 (Below w.heap.size w (w72.setCell ⟨gb212, 0, none⟩ (.slice Ao73 y224.length co73))) := ⟨by repeat (first | (with_reducible first | exact HB.out | apply below_alloc | apply pw_below_drewN | apply below_drew1 | refine below_set ?_ GE204.out | refine below_set ?_ GE205.out | refine below_set ?_ GE206.out | refine below_set ?_ GE211.out | refine below_set ?_ GE212.out) | exact HB.out)⟩
             (try clear HO_212000)
             (try clear HO226)
             (try clear BK204)
             (try clear BK205)
             (try clear BK206)
             (try clear BK211)
             (try clear BK212)
             (try clear HB)
             generalize (w72.setCell ⟨gb212, 0, none⟩ (.slice Ao73 y224.length co73)) = w75 at n0_ n1_ n2_ n3_ n4_ n5_ n6_ n7_ ⊢
             have HO_212000 := n0_
             have HO226 := n1_
             have BK204 := n2_
             have BK205 := n3_
             have BK206 := n4_
             have BK211 := n5_
             have BK212 := n6_
             have HB := n7_
             clear n0_ n1_ n2_ n3_ n4_ n5_ n6_ n7_
             have n0_ := Zw (Kd.N_drew HO_212000.out)
             have n1_ := Zw (Kd.N_drew HO226.out)
             have n2_ := Zw (blk_drew BK204.out)
             have n3_ := Zw (blk_drew BK205.out)
             have n4_ := Zw (blk_drew BK206.out)
             have n5_ := Zw (blk_drew BK211.out)
             have n6_ := Zw (blk_drew BK212.out)
             have n7_ := Zw (below_drew1 HB.out)
             clear HO_212000
             clear HO226
             clear BK204
             clear BK205
             clear BK206
             clear BK211
             clear BK212
             clear HB
             have HO_212000 := n0_
             have HO226 := n1_
             have BK204 := n2_
             have BK205 := n3_
             have BK206 := n4_
             have BK211 := n5_
             have BK212 := n6_
             have HB := n7_
             clear n0_ n1_ n2_ n3_ n4_ n5_ n6_ n7_
             have q77 : ((x213000_1.length : Int) : Int) ≤ ((t208.length : Int) : Int) := of_decide_eq_true Za
             obtain ⟨i077, hi077, _, hsz77, _⟩ := info_parts info31
             have hroom77 : t208.length ≤ co37 := (Kd.N_reads' HO_212000.out).2.1
             have hC77 : Kd.F k31 _ _ Ao37 t208.length t208 := (Kd.V_at (base := w.heap.size) (Kd.N_V HO_212000.out)).2.2
             have q077 : (0 : Int) ≤ ((x213000_1.length : Int) : Int) := of_decide_eq_true Za
             have hcut77 := cut_from (P := Try.prog) 22 31 .i64 Try.underlying22 hi077 2 hsz77 Ao37 t208.length co37 (x213000_1.length : Int) q077 q77
             have hr77 := Kd.F_cut (m := ((x213000_1.length : Int) : Int).toNat) (c := co37) hC77 (by omega) hroom77
             obtain ⟨A77, hA77⟩ : ∃ A1, A1 = (if co37 = ((x213000_1.length : Int) : Int).toNat then Ao37 else (Ao37 : Option Addr).map (·.add (((x213000_1.length : Int) : Int).toNat * 2))) := ⟨_, rfl⟩
             obtain ⟨c77, hc77⟩ : ∃ c1, c1 = co37 - ((x213000_1.length : Int) : Int).toNat := ⟨_, rfl⟩
             have hy77 : y227.length = t208.length - ((x213000_1.length : Int) : Int).toNat := (by rw [Ny227.out, List.length_drop] <;> omega)
             rw [show (t208).drop ((x213000_1.length : Int) : Int).toNat = y227 from Ny227.out.symm] at hr77
             replace hr77 : Kd.F k31 _ _ A77 y227.length y227 := (by rw [hA77]; exact hr77)
             rw [← hy77, ← hA77, ← hc77] at hcut77
             have HO231 := Zw (show Kd.V k31 31 _ w.heap.size _ (.slice A77 y227.length c77) y227 from Kd.V_mk (by rw [hy77, hc77]; exact Nat.sub_le_sub_right hroom77 _) hr77)
             have HC231 := Zw (show y227.length ≤ c77 from by rw [hy77, hc77]; exact Nat.sub_le_sub_right hroom77 _)
             clear hr77 hC77 hroom77 hi077 hsz77 hc77
             have KY77 := Aside0.mk hy77
             have KA77 := Aside0.mk hA77
             clear hy77 hA77
             replace q77 := eq_true q77
             refine start_ (n := 9) (S := fun w' => w'.cell? ⟨gb212, 0, none⟩ = some (.slice Ao73 y224.length co73) ∧ w'.cell? ⟨gb211, 0, none⟩ = some (.slice Ao37 t208.length co37)) (ds := [8]) #[false, false, false, false, false, false, false, false, false] (by kernel_rfl) rfl rfl ⟨(blk_cell BK212.out 0).trans rfl, (blk_cell BK211.out 0).trans rfl⟩ (fun hHeld => ?_); refine with_tabW debuggerref25_Add.tab13 debuggerref25_Add.bits13 (fun HT_ HW_ => ?_)
             generalize w75.drew = w76 at HO_212000 HO226 BK204 BK205 BK206 BK211 BK212 HB HO231 hHeld ⊢
             refine pure_ (i := 0) (N := some 66) (v := ?_) (a' := ?_) #[true, false, false, false, false, false, false, false, false] rfl rfl (any_of HT_.out (by kernel_rfl)) (fun _ _ _ h => h) (Or.inl ⟨by rfl, ?_⟩) ?_ ?_
             rotate_left
             ·intro w'
              go_simp
              with_reducible rfl
             rotate_left
             ·simp only [Act.put, zsA, zsZ, zsS, i64_w, i32_w]
              rfl
             refine pure_ (i := 2) (N := some 68) (v := ?_) (a' := ?_) #[true, false, true, false, false, false, false, false, false] rfl rfl (any_of HT_.out (by kernel_rfl)) (fun _ _ _ h => h) (Or.inl ⟨by rfl, ?_⟩) ?_ ?_
             rotate_left
             ·intro w'
              go_simp
              with_reducible rfl
             rotate_left
             ·simp only [Act.put, zsA, zsZ, zsS, i64_w, i32_w]
              rfl
             refine pure_ (i := 4) (N := some 70) (v := ?_) (a' := ?_) #[true, false, true, false, true, false, false, false, false] rfl rfl (any_of HT_.out (by kernel_rfl)) (fun _ _ _ h => h) (Or.inl ⟨by rfl, ?_⟩) ?_ ?_
             rotate_left
             ·intro w'
              go_simp
              with_reducible rfl
             rotate_left
             ·simp only [Act.put, zsA, zsZ, zsS, i64_w, i32_w]
              rfl
             refine take_ (i := 1) (N := some 67) (v := ?_) (a' := ?_) #[true, true, true, false, true, false, false, false, false] rfl rfl (take_ofW HT_.out HW_.out (by kernel_rfl)) (fun _ _ _ h => h) (Or.inl ⟨by rfl, ?_⟩) hHeld ?_ ?_
             rotate_left
             ·rintro w' ⟨s0, s1⟩
              go_simp
              with_reducible rfl
             rotate_left
             ·simp only [Act.put, zsA, zsZ, zsS, i64_w, i32_w]
              rfl
             refine take_ (i := 3) (N := some 69) (v := ?_) (a' := ?_) #[true, true, true, true, true, false, false, false, false] rfl rfl (take_ofW HT_.out HW_.out (by kernel_rfl)) (fun _ _ _ h => h) (Or.inl ⟨by rfl, ?_⟩) hHeld ?_ ?_
             rotate_left
             ·rintro w' ⟨s0, s1⟩
              go_simp
              with_reducible rfl
             rotate_left
             ·simp only [Act.put, zsA, zsZ, zsS, i64_w, i32_w]
              rfl
             refine pure_ (i := 5) (N := some 71) (v := ?_) (a' := ?_) #[true, true, true, true, true, true, false, false, false] rfl rfl (any_of HT_.out (by kernel_rfl)) (fun _ _ _ h => h) (Or.inl ⟨by rfl, ?_⟩) ?_ ?_
             rotate_left
             ·intro w'
              go_simp
              with_reducible rfl
             rotate_left
             ·simp only [Act.put, zsA, zsZ, zsS, i64_w, i32_w]
              rfl
             refine one_ (i := 6) (N := some 72) #[true, true, true, true, true, true, true, false, false] rfl rfl (one_of HT_.out (by kernel_rfl)) (by decide) (fun K hK => ?_)
             refine Kd.N_append_rows_step k31 (w0 := w) w.heap.size (by rfl) (.tmp 67) (.tmp 71) 22 31 (.agg #[(.int .i64 0), (.slice none 0 0)]) 32 rfl Try.underlying22 info31 rfl (by decide) (by omega) (.slice Ao73 y224.length co73) y224 y227 _ _ _ (fun k_ => (w.heap.size ≤ k_) ∧ k_ ≠ gb204 ∧ k_ ≠ gb205 ∧ k_ ≠ gb206 ∧ k_ ≠ gb211 ∧ k_ ≠ gb212) (fun k_ => ((fun k_ => (w.heap.size ≤ k_) ∧ k_ ≠ gb204 ∧ k_ ≠ gb205 ∧ k_ ≠ gb206 ∧ k_ ≠ gb211 ∧ k_ ≠ gb212)) k_ ∧ some k_ ≠ (.slice Ao73 y224.length co73 : Value).ownBlock) rfl rfl ?aO ?aR (fun _ hk => hk) ?aF ?aB ?aS ?aL ?_
             (case aR => exact (by skip; exact Kd.V_F (Kd.V_mono (ok' := (fun k_ => ((fun k_ => (w.heap.size ≤ k_) ∧ k_ ≠ gb204 ∧ k_ ≠ gb205 ∧ k_ ≠ gb206 ∧ k_ ≠ gb211 ∧ k_ ≠ gb212)) k_ ∧ some k_ ≠ (.slice Ao73 y224.length co73 : Value).ownBlock)) (HO231.out) (fun k_ hk => ⟨⟨hk.1, ⟨hk.2.2.1, ⟨hk.2.2.2.1, ⟨hk.2.2.2.2.1, ⟨hk.2.2.2.2.2.1, hk.2.2.2.2.2.2⟩⟩⟩⟩⟩, hk.2.1⟩))))
             (case aB => exact (by repeat (first | (with_reducible first | exact HB.out | apply below_alloc | apply pw_below_drewN | apply below_drew1 | refine below_set ?_ GE204.out | refine below_set ?_ GE205.out | refine below_set ?_ GE206.out | refine below_set ?_ GE211.out | refine below_set ?_ GE212.out) | exact HB.out)))
             (case aF => exact (fun k_ hk => ⟨(Nat.le_trans (below_size (by repeat (first | (with_reducible first | exact HB.out | apply below_alloc | apply pw_below_drewN | apply below_drew1 | refine below_set ?_ GE204.out | refine below_set ?_ GE205.out | refine below_set ?_ GE206.out | refine below_set ?_ GE211.out | refine below_set ?_ GE212.out) | exact HB.out))) hk), Kd.freshB (g := gb204) (o := .cells #[.slice A0_0 l0_0.length c0_0] 24 (0, 0)) (Zb BK204.out) k_ hk, Kd.freshB (g := gb205) (o := .cells #[.int .i64 a1_0, .slice A1_1 l1_1.length c1_1] 31 (0, 0)) (Zb BK205.out) k_ hk, Kd.freshB (g := gb206) (o := .cells #[.slice none 0 0] 24 (0, 0)) (Zb BK206.out) k_ hk, Kd.freshB (g := gb211) (o := .cells #[.slice Ao37 t208.length co37] 24 (0, 0)) (Zb BK211.out) k_ hk, Kd.freshB (g := gb212) (o := .cells #[.slice Ao73 y224.length co73] 24 (0, 0)) (Zb BK212.out) k_ hk⟩))
             (case aO => exact (by refine ZNk ?_; exact Kd.N_mono HO226.out (fun _ hk => ⟨hk.1, ⟨hk.2.2.1, ⟨hk.2.2.2.1, ⟨hk.2.2.2.2.1, ⟨hk.2.2.2.2.2.1, hk.2.2.2.2.2.2⟩⟩⟩⟩⟩)))
             (case aS => exact (below_size (by repeat (first | (with_reducible first | exact HB.out | apply below_alloc | apply pw_below_drewN | apply below_drew1 | refine below_set ?_ GE204.out | refine below_set ?_ GE205.out | refine below_set ?_ GE206.out | refine below_set ?_ GE211.out | refine below_set ?_ GE212.out) | exact HB.out))))
             (case aL => have := LMc60.out; omega)
             intro v233 w78 ho hb hg hat
             rw [← Ny232.out] at ho
             have n0_ := Zw (Kd.N_afterv (ok := (fun k_ => (w.heap.size ≤ k_) ∧ k_ ≠ gb204 ∧ k_ ≠ gb205 ∧ k_ ≠ gb206 ∧ k_ ≠ gb211 ∧ k_ ≠ gb212)) (by refine ZNk ?_; exact Kd.N_mono HO_212000.out (fun _ hk => ⟨⟨hk.1, ⟨hk.2.2.1, ⟨hk.2.2.2.1, ⟨hk.2.2.2.2.1, ⟨hk.2.2.2.2.2.1, hk.2.2.2.2.2.2⟩⟩⟩⟩⟩, hk.2.1⟩)) hg hat)
             have n1_ := Zw (blk_grown (g := gb204) (o := .cells #[.slice A0_0 l0_0.length c0_0] 24 (0, 0)) (Zb BK204.out) hg (Kd.N_ne HO226.out BK204.out (by decide)))
             have n2_ := Zw (blk_grown (g := gb205) (o := .cells #[.int .i64 a1_0, .slice A1_1 l1_1.length c1_1] 31 (0, 0)) (Zb BK205.out) hg (Kd.N_away HO226.out (fun _ hk => hk.2.2.2.1)))
             have n3_ := Zw (blk_grown (g := gb206) (o := .cells #[.slice none 0 0] 24 (0, 0)) (Zb BK206.out) hg (Kd.N_ne HO226.out BK206.out (by decide)))
             have n4_ := Zw (blk_grown (g := gb211) (o := .cells #[.slice Ao37 t208.length co37] 24 (0, 0)) (Zb BK211.out) hg (Kd.N_ne HO226.out BK211.out (by decide)))
             have n5_ := Zw (blk_grown (g := gb212) (o := .cells #[.slice Ao73 y224.length co73] 24 (0, 0)) (Zb BK212.out) hg (Kd.N_ne HO226.out BK212.out (by decide)))
             have n6_ := Zw (Kd.V_afterv (ok := (fun k_ => (w.heap.size ≤ k_) ∧ k_ ≠ gb204 ∧ k_ ≠ gb205 ∧ k_ ≠ gb206 ∧ k_ ≠ gb211 ∧ k_ ≠ gb212)) (by (with_reducible repeat (first | apply Kd.V_alloc | apply Kd.V_drewN | apply Kd.V_drew)); exact Kd.V_mono HO231.out (fun _ hk => ⟨⟨hk.1, ⟨hk.2.2.1, ⟨hk.2.2.2.1, ⟨hk.2.2.2.2.1, ⟨hk.2.2.2.2.2.1, hk.2.2.2.2.2.2⟩⟩⟩⟩⟩, hk.2.1⟩)) hg hat)
             have n7_ := Zw (hb)
             have n8_ := Zw (ho)
             clear HO_212000
             clear BK204
             clear BK205
             clear BK206
             clear BK211
             clear BK212
             clear HO231
             clear HB
             clear HO226
             have HO_212000 := n0_
             have BK204 := n1_
             have BK205 := n2_
             have BK206 := n3_
             have BK211 := n4_
             have BK212 := n5_
             have HO231 := n6_
             have HB := n7_
             have HO234 := n8_
             clear n0_ n1_ n2_ n3_ n4_ n5_ n6_ n7_ n8_
             clear ho hb hg hat
             obtain ⟨Ao79, co79, eo79⟩ := Kd.N_slice HO234.out
             (first | subst eo79 | (injection eo79 with f1_ f2_ f3_; have f4_ := f1_.symm; have f5_ := f3_.symm; clear f1_ f2_ f3_; subst f4_; subst f5_))
             refine hK.out _ _ ⟨(blk_cell BK212.out 0).trans rfl, (blk_cell BK211.out 0).trans rfl⟩ (fun hHeld => ?_)
             clear hK K
             refine norm_ (a' := ?_) ?_ ?_
             rotate_left
             ·show Act.put _ (some 72) _ = _
              simp only [Act.put, zsA, zsZ, zsS, i64_w, i32_w]
              rfl
             refine pure_ (i := 7) (N := some 73) (v := ?_) (a' := ?_) #[true, true, true, true, true, true, true, true, false] rfl rfl (any_of HT_.out (by kernel_rfl)) (fun _ _ _ h => h) (Or.inl ⟨by rfl, ?_⟩) ?_ ?_
             rotate_left
             ·intro w'
              go_simp
              with_reducible rfl
             rotate_left
             ·simp only [Act.put, zsA, zsZ, zsS, i64_w, i32_w]
              rfl
             refine last_ (i := 8) (N := none) #[true, true, true, true, true, true, true, true, true] rfl rfl (one_of HT_.out (by kernel_rfl)) (by decide) (fun K hK => ?_)
             have hs80 : w78.cell? ⟨gb212, 0, none⟩ = some (.slice Ao73 y224.length co73) := (blk_cell BK212.out 0).trans rfl
             have hfs80 := blk_frozen BK212.out 0
             have hns80_0 := NB204_212.out
             have hns80_1 := NB205_212.out
             have hns80_2 := NB206_212.out
             have hns80_3 := NB211_212.out
             have hms80_0 := NB212_204.out
             have hms80_1 := NB212_205.out
             have hms80_2 := NB212_206.out
             have hms80_3 := NB212_211.out
             refine skip_ (w1 := ?_) (by rfl) rfl ?_ ?_
             rotate_left
             ·go_simp
              rfl
             refine hK.out _ _ ?_
             clear hK K
             refine done_ (done_of HT_.out (by kernel_rfl)) ?_
             have hcz81_0 := Zcl BK212.out 0 rfl
             have hfz81_0 := blk_frozen BK212.out 0
             have hnb82 := NB206_204.out
             have hnc82 := NB204_206.out
             have hnb83 := NB206_205.out
             have hnc83 := NB205_206.out
             have hnb84 := NB206_211.out
             have hnc84 := NB211_206.out
             have hcz85_0 := Zcl BK206.out 0 rfl
             have hfz85_0 := blk_frozen BK206.out 0
             try go_wp2
             refine bodyPost_ret (results_ct rfl _ _ gb206 24 #[.slice Ao79 y232.length co79] (0, 0) _ rfl (by refine Zbk ?_; refine blk_put (cs := #[.slice none 0 0]) ?_ 0 _ rfl; refine Zbk ?_; refine blk_far ?_ NB206_212.out _; refine Zbk ?_; exact BK206.out) Try.underlying24 rfl (by kernel_rfl)) rfl ?_
             exact ⟨_, by first | rfl | (simp [errW_none, errW_some] <;> rfl) | (simp [*, errW_none, errW_some] <;> rfl), by refine ZNk ?_; exact Kd.N_mono (Kd.N_far (p := ⟨gb206, 0, none⟩) (Kd.N_far (p := ⟨gb212, 0, none⟩) (Kd.N_mono (Kd.N_mono HO234.out (fun k_ hk => (⟨hk, hk.2.2.2.2.2⟩ : _ ∧ k_ ≠ gb212))) (fun k_ hk => (⟨hk, hk.1.2.2.2.1⟩ : _ ∧ k_ ≠ gb206))) (fun _ hk => hk.1.2) (.slice Ao79 y232.length co79)) (fun _ hk => hk.2) (.slice Ao79 y232.length co79)) (fun _ hk => hk.1.1.1), by repeat (first | (with_reducible first | exact HB.out | apply below_alloc | apply pw_below_drewN | apply below_drew1 | refine below_set ?_ GE204.out | refine below_set ?_ GE205.out | refine below_set ?_ GE206.out | refine below_set ?_ GE211.out | refine below_set ?_ GE212.out) | exact HB.out)⟩
            ·rw [if_neg c60] at H
             exact absurd H (by simp)
           ·rw [if_neg c59] at H
            exact absurd H (by simp)
          ·rw [if_neg c58] at H
           exact absurd H (by simp)
         ·rw [if_neg c57] at H
          exact absurd H (by simp)
        ·rw [if_neg c56] at H
         exact absurd H (by simp)
 ·replace c4 := Bool.eq_false_iff.mpr c4
  subst c4
  have H1 : (some (([] : List (S31)), 1)) = some (r1, r2) := by rw [if_neg (show ¬ (false = true) by decide)] at H; exact H
  clear H
  have H := H1
  clear H1
  simp only [Option.some.injEq, Prod.mk.injEq] at H
  obtain ⟨rfl, rfl⟩ := H
  go_enter Try.func27, Try.ntmps27
  go_wp2_with (first | ((with_reducible refine gate_dst (N := 2) rfl ?_); refine box_event ?hg (N := 2) ?hd (cs := #[.slice A0_0 l0_0.length c0_0]) (t := 24) ?hr ?_; (case hd => rfl); (case hg => rfl); (case hr => first | (go_simp; done) | (go_simp; rfl)); intro gb204 hg w86 hbox hb; have n0_ := Zw (below_step (Zh HB.out) hb); have n1_ := Zw (hbox); have n2_ := Zw ((by rw [hg]; exact (below_size (Zh HB.out)) : w.heap.size ≤ gb204)); have n3_ := Zw ((by rw [hg]; exact (below_size (Zh HB.out)) : w.heap.size ≤ gb204)); clear HB; have HB := n0_; have BK204 := n1_; have GW204 := n2_; have GE204 := n3_; clear n0_ n1_ n2_ n3_; clear hb hbox hg) | ((with_reducible refine gate_dst (N := 3) rfl ?_); refine box_event ?hg (N := 3) ?hd (cs := #[.int .i64 a1_0, .slice A1_1 l1_1.length c1_1]) (t := 31) ?hr ?_; (case hd => rfl); (case hg => rfl); (case hr => first | (go_simp; done) | (go_simp; rfl)); intro gb205 hg w87 hbox hb; have n0_ := Zw (blk_below (g := gb204) (o := .cells #[.slice A0_0 l0_0.length c0_0] 24 (0, 0)) (Zb BK204.out) hb); have n1_ := Zw (below_step (Zh1 HB.out GE204.out) hb); have n2_ := Zw (hbox); have n3_ := Zw ((by rw [hg]; exact (below_size (Zh1 HB.out GE204.out)) : w.heap.size ≤ gb205)); have n4_ := Zw ((by rw [hg]; exact (below_size (Zh1 HB.out GE204.out)) : w.heap.size ≤ gb205)); have n5_ := Zw ((by rw [hg]; exact Nat.ne_of_lt (blk_lt (Zb BK204.out)) : gb204 ≠ gb205)); have n6_ := Zw ((by rw [hg]; exact Nat.ne_of_gt (blk_lt (Zb BK204.out)) : gb205 ≠ gb204)); clear BK204; clear HB; have BK204 := n0_; have HB := n1_; have BK205 := n2_; have GW205 := n3_; have GE205 := n4_; have NB204_205 := n5_; have NB205_204 := n6_; clear n0_ n1_ n2_ n3_ n4_ n5_ n6_; clear hb hbox hg) | ((with_reducible refine gate_dst (N := 4) rfl ?_); refine box_event ?hg (N := 4) ?hd (cs := #[.slice none 0 0]) (t := 24) ?hr ?_; (case hd => rfl); (case hg => rfl); (case hr => first | (go_simp; done) | (go_simp; rfl)); intro gb206 hg w88 hbox hb; have n0_ := Zw (blk_below (g := gb204) (o := .cells #[.slice A0_0 l0_0.length c0_0] 24 (0, 0)) (Zb BK204.out) hb); have n1_ := Zw (blk_below (g := gb205) (o := .cells #[.int .i64 a1_0, .slice A1_1 l1_1.length c1_1] 31 (0, 0)) (Zb BK205.out) hb); have n2_ := Zw (below_step (Zh2 HB.out GE204.out GE205.out) hb); have n3_ := Zw (hbox); have n4_ := Zw ((by rw [hg]; exact (below_size (Zh2 HB.out GE204.out GE205.out)) : w.heap.size ≤ gb206)); have n5_ := Zw ((by rw [hg]; exact (below_size (Zh2 HB.out GE204.out GE205.out)) : w.heap.size ≤ gb206)); have n6_ := Zw ((by rw [hg]; exact Nat.ne_of_lt (blk_lt (Zb BK204.out)) : gb204 ≠ gb206)); have n7_ := Zw ((by rw [hg]; exact Nat.ne_of_gt (blk_lt (Zb BK204.out)) : gb206 ≠ gb204)); have n8_ := Zw ((by rw [hg]; exact Nat.ne_of_lt (blk_lt (Zb BK205.out)) : gb205 ≠ gb206)); have n9_ := Zw ((by rw [hg]; exact Nat.ne_of_gt (blk_lt (Zb BK205.out)) : gb206 ≠ gb205)); clear BK204; clear BK205; clear HB; have BK204 := n0_; have BK205 := n1_; have HB := n2_; have BK206 := n3_; have GW206 := n4_; have GE206 := n5_; have NB204_206 := n6_; have NB206_204 := n7_; have NB205_206 := n8_; have NB206_205 := n9_; clear n0_ n1_ n2_ n3_ n4_ n5_ n6_ n7_ n8_ n9_; clear hb hbox hg; have hnb89 := NB205_204.out; have hnc89 := NB204_205.out; have hnb90 := NB205_206.out; have hnc90 := NB206_205.out; have hcz91_0 := Zcl BK205.out 0 rfl; have hcz91_1 := Zcl BK205.out 1 rfl; have hfz91_0 := blk_frozen BK205.out 0; have hfz91_1 := blk_frozen BK205.out 1) | ((with_reducible refine gate_callee (f := 33) rfl ?_); refine goesL_ (some 11) rfl rfl Try.func33 (by kernel_rfl) rfl #[.agg #[.int .i64 a1_0, .slice A1_1 l1_1.length c1_1]] rfl Zm ?_; (with_reducible refine (debuggerref25_page.calls a1_0 _ _ l1_1 false _ ?side1 ?side2 A3.out).mono ?_); (case side1 => exact Zc (Kd.C_below HR1_1.out HB.out)); (case side2 => exact HC1_1.out); rintro e w92 ⟨rfl, hb⟩; refine ⟨_, rfl, ?_⟩; have n0_ := Zw (blk_below (g := gb204) (o := .cells #[.slice A0_0 l0_0.length c0_0] 24 (0, 0)) (Zb BK204.out) hb); have n1_ := Zw (blk_below (g := gb205) (o := .cells #[.int .i64 a1_0, .slice A1_1 l1_1.length c1_1] 31 (0, 0)) (Zb BK205.out) hb); have n2_ := Zw (blk_below (g := gb206) (o := .cells #[.slice none 0 0] 24 (0, 0)) (Zb BK206.out) hb); have n3_ := Zw (below_step (Zh3 HB.out GE204.out GE205.out GE206.out) hb); clear BK204; clear BK205; clear BK206; clear HB; have BK204 := n0_; have BK205 := n1_; have BK206 := n2_; have HB := n3_; clear n0_ n1_ n2_ n3_; (try clear hb); (try clear hb2); (try clear hk); (try clear hi); have hnb93 := NB206_204.out; have hnc93 := NB204_206.out; have hcz94_0 := Zcl BK206.out 0 rfl; have hfz94_0 := blk_frozen BK206.out 0))
  refine bodyPost_ret (results_ct rfl _ _ gb206 24 #[.slice none 0 0] (0, 0) _ rfl (by refine Zbk ?_; refine blk_put (cs := #[.slice none 0 0]) ?_ 0 _ rfl; refine Zbk ?_; exact BK206.out) Try.underlying24 rfl (by kernel_rfl)) rfl ?_
  exact ⟨_, by first | rfl | (simp [errW_none, errW_some] <;> rfl) | (simp [*, errW_none, errW_some] <;> rfl), by first | exact Kd.S_nil _ _ _ _ _ | exact Kd.N_nil _ _ _ _ _ | exact Kd.V_nil _ _ _ _ _ | exact Kd.Q_nil _ _ _ _ _ | exact Kd.R_nil _ _ _ _ _, Zh3 HB.out GE204.out GE205.out GE206.out⟩

end Go.Proofs.Ytpifepaflljolaa.PMem
