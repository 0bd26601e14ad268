-- By wip/xprint.py (a driver of this session's over the kit's print), for this claim.
import Derived.Test.YtpifepaflljolaaPMemx0
namespace Go.Proofs.Ytpifepaflljolaa.PMem
open Go.RowKit Go.Proofs.YtpifepaflljolaaW.PrintWords Go.Proofs.YtpifepaflljolaaW.PrintLast Go.Proofs.YtpifepaflljolaaW.PrintMore
attribute [local go_sem] max2_int min2_int max_two min_two max_three min_three max_four min_four   -- for this text's walks alone
set_option linter.unusedVariables false
set_option linter.unusedSimpArgs false

/-! ### debuggerref25_Copy: function 37 -/
def debuggerref25_Copy.l0 : Nat → Int → List (S31) → List (S31) → Option ((List (S31)))
 | 0, _, _, _ => none
 | k + 1, x4, x178000, x180000 => if x4 < (x178000.length : Int) then (if 0 ≤ x4 then ((some (([] : List Int) : List Int)).bind fun y181 => (if y181.length + ((rd_T31 x178000 x4).f1).length < 17592186044416 then (if x180000.length < 4398046511104 then (debuggerref25_Copy.l0 k (wrap64 (x4 + 1)) x178000 (x180000 ++ [(⟨(rd_T31 x178000 x4).f0, (y181 ++ ((rd_T31 x178000 x4).f1))⟩ : S31)])) else (none)) else (none))) else (none)) else (some x180000)
def debuggerref25_Copy.f (k : Nat) (l0_0 : List (S31)) : Option ((List (S31))) := debuggerref25_Copy.l0 k 0 l0_0 ([] : List (S31))
theorem debuggerref25_Copy.mono_l : ∀ k, (∀ y0 y1 y2, LeO (debuggerref25_Copy.l0 k y0 y1 y2) (debuggerref25_Copy.l0 (k + 1) y0 y1 y2))
 | 0 => fun _ _ _ r h => by simp [debuggerref25_Copy.l0] at h
 | k + 1 => by
  have ih0 := debuggerref25_Copy.mono_l k
  ·intro y0 y1 y2
   unfold debuggerref25_Copy.l0
   repeat' first
   | (with_reducible exact ih0 _ _ _)
   | (with_reducible exact LeO.refl _)
   | (with_reducible exact LeO.none _)
   | (with_reducible refine LeO.ite ?_ ?_)
   | (with_reducible refine LeO.bind ?_ (fun _ => ?_))
   | exact ih0 _ _ _
   | exact LeO.none _
   | refine LeO.ite ?_ ?_
   | refine LeO.bind ?_ (fun _ => ?_)
theorem debuggerref25_Copy.mono : ∀ a0 k, LeO (debuggerref25_Copy.f k a0) (debuggerref25_Copy.f (k + 1) a0) := by
 intro a0 k
 have ih0 := debuggerref25_Copy.mono_l k
 unfold debuggerref25_Copy.f
 repeat' first
   | (with_reducible exact ih0 _ _ _)
   | (with_reducible exact LeO.refl _)
   | (with_reducible exact LeO.none _)
   | (with_reducible refine LeO.ite ?_ ?_)
   | (with_reducible refine LeO.bind ?_ (fun _ => ?_))
   | exact ih0 _ _ _
   | exact LeO.none _
   | refine LeO.ite ?_ ?_
   | refine LeO.bind ?_ (fun _ => ?_)
def debuggerref25_Copy.T5 : Bool × List (List Nat × List Nat) := (true, [([], []), ([0], [0]), ([], []), ([2], [2]), ([], []), ([3, 4], [3, 4]), ([5], [5]), ([6], [6]), ([], []), ([], []), ([9], [9]), ([], []), ([10, 11], [10, 11]), ([12], [12]), ([13], [13]), ([8, 14], [8, 14]), ([7, 15], [7, 15]), ([16], [16]), ([1, 17, 15], [1, 17]), ([0, 1, 2, 3, 4, 5, 6, 7, 8, 9, 10, 11, 12, 13, 14, 15, 16, 17, 18], []), ([19, 18, 18, 0, 1, 2, 3, 4, 5, 6, 7, 8, 9, 10, 11, 12, 13, 14, 15, 16, 17, 18], [18, 19])])
def debuggerref25_Copy.B5 : List Nat := [0, 1, 0, 4, 0, 28, 60, 124, 0, 0, 512, 0, 3584, 7680, 15872, 32512, 65532, 131068, 262143, 524287, 1048575]
theorem debuggerref25_Copy.tab5 : rtab .any (opsOf Try.f37 5) = debuggerref25_Copy.T5 := by kernel_rfl
theorem debuggerref25_Copy.bits5 : waitsOk debuggerref25_Copy.T5.2 debuggerref25_Copy.B5 = true := by kernel_rfl
set_option maxHeartbeats 8000000 in
set_option maxRecDepth 100000 in
theorem debuggerref25_Copy.calls (k : Nat) (A0_0 : Option Addr) (c0_0 : Nat) (l0_0 : List (S31)) (r : List (S31)) (w : World) (hr0_0 : Kd.C k31 w A0_0 l0_0.length l0_0) (hc0_0 : l0_0.length ≤ c0_0) (h : debuggerref25_Copy.f k l0_0 = some r) :
  Calls Try.prog 37 #[.agg #[.slice A0_0 l0_0.length c0_0]] w fun e w' => ∃ v0_ : Value, e = .returned (.agg #[v0_]) ∧ Kd.S k31 31 w' w.heap.size (fun _ => True) v0_ r ∧ Below w.heap.size w w' := by
 have hu24 := Try.underlying24
 have hu31 := Try.underlying31
 have HR0_0 := Aside0.mk hr0_0
 have HC0_0 := Aside0.mk hc0_0
 clear hr0_0 hc0_0
 have HB := Zw (Below.refl w.heap.size w)
 have H : (debuggerref25_Copy.l0 k 0 l0_0 ([] : List (S31))) = some r := h
 clear h
 have H' := Aside0.mk H
 clear H
 go_enter Try.func37, Try.ntmps37
 go_wp2_with (first | ((with_reducible refine gate_dst (N := 1) rfl ?_); refine box_event ?hg (N := 1) ?hd (cs := #[.slice A0_0 l0_0.length c0_0]) (t := 24) ?hr ?_; (case hd => rfl); (case hg => rfl); (case hr => first | (go_simp; done) | (go_simp; rfl)); intro gb177 hg w2 hbox hb; have n0_ := Zw (below_step (Zh HB.out) hb); have n1_ := Zw (hbox); have n2_ := Zw ((by rw [hg]; exact (below_size (Zh HB.out)) : w.heap.size ≤ gb177)); have n3_ := Zw ((by rw [hg]; exact (below_size (Zh HB.out)) : w.heap.size ≤ gb177)); clear HB; have HB := n0_; have BK177 := n1_; have GW177 := n2_; have GE177 := n3_; clear n0_ n1_ n2_ n3_; clear hb hbox hg) | ((with_reducible refine gate_dst (N := 2) rfl ?_); refine box_event ?hg (N := 2) ?hd (cs := #[.slice none 0 0]) (t := 24) ?hr ?_; (case hd => rfl); (case hg => rfl); (case hr => first | (go_simp; done) | (go_simp; rfl)); intro gb178 hg w3 hbox hb; have n0_ := Zw (blk_below (g := gb177) (o := .cells #[.slice A0_0 l0_0.length c0_0] 24 (0, 0)) (Zb BK177.out) hb); have n1_ := Zw (below_step (Zh1 HB.out GE177.out) hb); have n2_ := Zw (hbox); have n3_ := Zw ((by rw [hg]; exact (below_size (Zh1 HB.out GE177.out)) : w.heap.size ≤ gb178)); have n4_ := Zw ((by rw [hg]; exact (below_size (Zh1 HB.out GE177.out)) : w.heap.size ≤ gb178)); have n5_ := Zw ((by rw [hg]; exact Nat.ne_of_lt (blk_lt (Zb BK177.out)) : gb177 ≠ gb178)); have n6_ := Zw ((by rw [hg]; exact Nat.ne_of_gt (blk_lt (Zb BK177.out)) : gb178 ≠ gb177)); clear BK177; clear HB; have BK177 := n0_; have HB := n1_; have BK178 := n2_; have GW178 := n3_; have GE178 := n4_; have NB177_178 := n5_; have NB178_177 := n6_; clear n0_ n1_ n2_ n3_ n4_ n5_ n6_; clear hb hbox hg) | ((with_reducible refine gate_dst (N := 3) rfl ?_); refine box_event ?hg (N := 3) ?hd (cs := #[.slice none 0 0]) (t := 24) ?hr ?_; (case hd => rfl); (case hg => rfl); (case hr => first | (go_simp; done) | (go_simp; rfl)); intro gb179 hg w4 hbox hb; have n0_ := Zw (blk_below (g := gb177) (o := .cells #[.slice A0_0 l0_0.length c0_0] 24 (0, 0)) (Zb BK177.out) hb); have n1_ := Zw (blk_below (g := gb178) (o := .cells #[.slice none 0 0] 24 (0, 0)) (Zb BK178.out) hb); have n2_ := Zw (below_step (Zh2 HB.out GE177.out GE178.out) hb); have n3_ := Zw (hbox); have n4_ := Zw ((by rw [hg]; exact (below_size (Zh2 HB.out GE177.out GE178.out)) : w.heap.size ≤ gb179)); have n5_ := Zw ((by rw [hg]; exact (below_size (Zh2 HB.out GE177.out GE178.out)) : w.heap.size ≤ gb179)); have n6_ := Zw ((by rw [hg]; exact Nat.ne_of_lt (blk_lt (Zb BK177.out)) : gb177 ≠ gb179)); have n7_ := Zw ((by rw [hg]; exact Nat.ne_of_gt (blk_lt (Zb BK177.out)) : gb179 ≠ gb177)); have n8_ := Zw ((by rw [hg]; exact Nat.ne_of_lt (blk_lt (Zb BK178.out)) : gb178 ≠ gb179)); have n9_ := Zw ((by rw [hg]; exact Nat.ne_of_gt (blk_lt (Zb BK178.out)) : gb179 ≠ gb178)); clear BK177; clear BK178; clear HB; have BK177 := n0_; have BK178 := n1_; have HB := n2_; have BK179 := n3_; have GW179 := n4_; have GE179 := n5_; have NB177_179 := n6_; have NB179_177 := n7_; have NB178_179 := n8_; have NB179_178 := n9_; clear n0_ n1_ n2_ n3_ n4_ n5_ n6_ n7_ n8_ n9_; clear hb hbox hg))
 go_loopg [4] k (fun kq v4 w' => ∃ (x4_1 : Int) (x180000_1 : List (S31)) (u180000 : Value), v4 = .int .i64 x4_1 ∧ Aside0 (debuggerref25_Copy.l0 kq x4_1 l0_0 x180000_1 = some r) ∧ Aside0 (kq ≤ k) ∧ Aside0 (Kd.S k31 31 w' w.heap.size (fun _ => True) u180000 x180000_1) ∧ Aside0 (w'.heap[gb177]? = some (.cells #[(.slice A0_0 l0_0.length c0_0)] 24 (0, 0))) ∧ Aside0 (w'.heap[gb178]? = some (.cells #[(.slice none 0 0)] 24 (0, 0))) ∧ Aside0 (w'.heap[gb179]? = some (.cells #[u180000] 24 (0, 0))) ∧ Aside0 (Below w.heap.size w w'))
 case atStart => exact ⟨(0), (([] : List (S31))), (.slice none 0 0), (by first | rfl | (simp; done) | (simp [*]; done)), H', ⟨Nat.le_refl _⟩, ⟨by first | exact Kd.S_nil _ _ _ _ _ | exact Kd.N_nil _ _ _ _ _ | exact Kd.V_nil _ _ _ _ _ | exact Kd.Q_nil _ _ _ _ _ | exact Kd.R_nil _ _ _ _ _⟩, ⟨Zb BK177.out⟩, ⟨Zb BK178.out⟩, ⟨Zb BK179.out⟩, ⟨Zh3 HB.out GE177.out GE178.out GE179.out⟩⟩
 case round =>
  clear H'
  try clear p2
  try clear c3
  obtain ⟨x4_1, x180000_1, u180000, rfl, HA, HK1, HO_180000, BK177, BK178, BK179, HB⟩ := hrel
  cases gk with
  | zero => exact absurd HA.out (by simp [debuggerref25_Copy.l0])
  | succ k1 =>
   have H := HA.out
   clear HA
   simp only [debuggerref25_Copy.l0] at H
   by_cases c5 : x4_1 < (l0_0.length : Int)
   ·rw [if_pos c5] at H
    have c5b0 : decide (x4_1 < (l0_0.length : Int)) = true := decide_eq_true c5
    clear c5
    by_cases c6 : 0 ≤ x4_1
    ·rw [if_pos c6] at H
     have c6b0 : decide (0 ≤ x4_1) = true := decide_eq_true c6
     clear c6
     obtain ⟨y181, hy181⟩ : ∃ y_ : List Int, y_ = (([] : List Int)) := ⟨_, rfl⟩
     replace H : (if y181.length + ((rd_T31 l0_0 x4_1).f1).length < 17592186044416 then (if x180000_1.length < 4398046511104 then (debuggerref25_Copy.l0 k1 (wrap64 (x4_1 + 1)) l0_0 (x180000_1 ++ [(⟨(rd_T31 l0_0 x4_1).f0, (y181 ++ ((rd_T31 l0_0 x4_1).f1))⟩ : S31)])) else (none)) else (none)) = some r := by first | (rw [hy181]; with_reducible exact H) | (have H2_ := (Option.bind_some _ _).symm.trans H; rw [hy181]; with_reducible exact H2_) | (have H2_ := (Option.bind_some _ _).symm.trans H; with_reducible exact H2_) | with_reducible exact H | (rw [hy181]; exact H) | exact H
     have Ny181 := Aside0.mk hy181
     clear hy181
     by_cases c7 : y181.length + ((rd_T31 l0_0 x4_1).f1).length < 17592186044416
     ·rw [if_pos c7] at H
      have LMc7 := Aside0.mk c7
      clear c7
      obtain ⟨y185, hy185⟩ : ∃ y_ : List Int, y_ = (y181 ++ ((rd_T31 l0_0 x4_1).f1)) := ⟨_, rfl⟩
      replace H : (if x180000_1.length < 4398046511104 then (debuggerref25_Copy.l0 k1 (wrap64 (x4_1 + 1)) l0_0 (x180000_1 ++ [(⟨(rd_T31 l0_0 x4_1).f0, y185⟩ : S31)])) else (none)) = some r := by first | (rw [hy185]; with_reducible exact H) | (have H2_ := (Option.bind_some _ _).symm.trans H; rw [hy185]; with_reducible exact H2_) | (have H2_ := (Option.bind_some _ _).symm.trans H; with_reducible exact H2_) | with_reducible exact H | (rw [hy185]; exact H) | exact H
      have Ny185 := Aside0.mk hy185
      clear hy185
      by_cases c8 : x180000_1.length < 4398046511104
      ·rw [if_pos c8] at H
       have LMc8 := Aside0.mk c8
       clear c8
       obtain ⟨y188, hy188⟩ : ∃ y_ : List (S31), y_ = (x180000_1 ++ [(⟨(rd_T31 l0_0 x4_1).f0, y185⟩ : S31)]) := ⟨_, rfl⟩
       replace H : (debuggerref25_Copy.l0 k1 (wrap64 (x4_1 + 1)) l0_0 y188) = some r := by first | (rw [hy188]; with_reducible exact H) | (have H2_ := (Option.bind_some _ _).symm.trans H; rw [hy188]; with_reducible exact H2_) | (have H2_ := (Option.bind_some _ _).symm.trans H; with_reducible exact H2_) | with_reducible exact H | (rw [hy188]; exact H) | exact H
       have Ny188 := Aside0.mk hy188
       clear hy188
       have H' := Aside0.mk H
       clear H
       have hnb9 := NB177_178.out
       have hnc9 := NB178_177.out
       have hnb10 := NB177_179.out
       have hnc10 := NB179_177.out
       have hcz11_0 := Zcl BK177.out 0 rfl
       have hfz11_0 := blk_frozen BK177.out 0
       try go_wp2
       have n0_ := Zw (Kd.S_drew HO_180000.out)
       have n1_ := Zw (blk_drew BK177.out)
       have n2_ := Zw (blk_drew BK178.out)
       have n3_ := Zw (blk_drew BK179.out)
       have n4_ := Zw (below_drew1 HB.out)
       clear HO_180000
       clear BK177
       clear BK178
       clear BK179
       clear HB
       have HO_180000 := n0_
       have BK177 := n1_
       have BK178 := n2_
       have BK179 := n3_
       have HB := n4_
       clear n0_ n1_ n2_ n3_ n4_
       have p180 : 0 ≤ (x4_1 : Int) := of_decide_eq_true Za
       have q180 : x4_1 < (l0_0.length : Int) := of_decide_eq_true Za
       obtain ⟨ad180, A180_1, c180_1, e180, hx180_0, hx180_1, hl180_1, hi180_1⟩ := at_T31 HR0_0.out x4_1 p180 q180
       have hw180_1 := hx180_1
       have hw180_0 := hx180_0
       cases e180
       replace hx180_0 := Zl HB.out hx180_0
       replace hx180_1 := Zl HB.out hx180_1
       have HR180_1 := Aside0.mk hi180_1
       have HC180_1 := Aside0.mk hl180_1
       clear hi180_1 hl180_1
       replace p180 := eq_true p180
       replace q180 := eq_true q180
       have p184 : 0 ≤ (x4_1 : Int) := of_decide_eq_true Za
       have q184 : x4_1 < (l0_0.length : Int) := of_decide_eq_true Za
       obtain ⟨ad184, A184_1, c184_1, e184, hx184_0, hx184_1, hl184_1, hi184_1⟩ := at_T31 HR0_0.out x4_1 p184 q184
       have hw184_1 := hx184_1
       have hw184_0 := hx184_0
       obtain rfl : ad180 = ad184 := (by injection e184)
       replace hx184_0 := Zl HB.out hx184_0
       replace hx184_1 := Zl HB.out hx184_1
       have HR184_1 := Aside0.mk hi184_1
       have HC184_1 := Aside0.mk hl184_1
       clear hi184_1 hl184_1
       replace p184 := eq_true p184
       replace q184 := eq_true q184
       have ea_ := Option.some.inj (hx180_1.symm.trans hx184_1)
       injection ea_ with ea_ en_ ec_
       subst ea_
       subst ec_
       clear en_
       refine start_ (n := 21) (S := fun w' => w'.cell? ⟨gb179, 0, none⟩ = some (u180000) ∧ w'.cell? ⟨gb177, 0, none⟩ = some (.slice (some ad180) l0_0.length c0_0) ∧ w'.cell? (ad180.add ((x4_1).toNat * 2)) = some (.int .i64 ((rd_T31 l0_0 x4_1).f0)) ∧ w'.cell? ⟨(ad180.add ((x4_1).toNat * 2)).block, (ad180.add ((x4_1).toNat * 2)).off + 1, none⟩ = some (.slice A180_1 ((rd_T31 l0_0 x4_1).f1).length c180_1) ∧ w'.cell? (ad180.add ((x4_1).toNat * 2)) = some (.int .i64 ((rd_T31 l0_0 x4_1).f0)) ∧ w'.cell? ⟨(ad180.add ((x4_1).toNat * 2)).block, (ad180.add ((x4_1).toNat * 2)).off + 1, none⟩ = some (.slice A180_1 ((rd_T31 l0_0 x4_1).f1).length c180_1)) (ds := [20]) #[false, false, false, false, false, false, false, false, false, false, false, false, false, false, false, false, false, false, false, false, false] (by kernel_rfl) rfl rfl ⟨(blk_cell BK179.out 0).trans rfl, (blk_cell BK177.out 0).trans rfl, ((HB.out.cell (World.block_lt_of_cell? w _ hw180_0)).trans hw180_0), ((HB.out.cell (World.block_lt_of_cell? w _ hw180_1)).trans hw180_1), ((HB.out.cell (World.block_lt_of_cell? w _ hw184_0)).trans hw184_0), ((HB.out.cell (World.block_lt_of_cell? w _ hw184_1)).trans hw184_1)⟩ (fun hHeld => ?_); refine with_tabW debuggerref25_Copy.tab5 debuggerref25_Copy.bits5 (fun HT_ HW_ => ?_)
       generalize wr.drew = w12 at HO_180000 BK177 BK178 BK179 HB HR180_1 HR184_1 hx180_0 hx180_1 hx184_0 hx184_1 hHeld ⊢
       refine pure_ (i := 0) (N := some 12) (v := ?_) (a' := ?_) #[true, false, false, false, false, false, false, false, false, false, false, false, false, false, false, false, false, false, false, false, false] rfl rfl (any_of HT_.out (by kernel_rfl)) (fun _ _ _ h => h) (Or.inl ⟨by rfl, ?_⟩) ?_ ?_
       rotate_left
       ·intro w'
        go_simp
        with_reducible rfl
       rotate_left
       ·simp only [Act.put, zsA, zsZ, zsS, i64_w, i32_w]
        rfl
       refine pure_ (i := 2) (N := some 14) (v := ?_) (a' := ?_) #[true, false, true, false, false, false, false, false, false, false, false, false, false, false, false, false, false, false, false, false, false] rfl rfl (any_of HT_.out (by kernel_rfl)) (fun _ _ _ h => h) (Or.inl ⟨by rfl, ?_⟩) ?_ ?_
       rotate_left
       ·intro w'
        go_simp
        with_reducible rfl
       rotate_left
       ·simp only [Act.put, zsA, zsZ, zsS, i64_w, i32_w]
        rfl
       refine pure_ (i := 4) (N := some 16) (v := ?_) (a' := ?_) #[true, false, true, false, true, false, false, false, false, false, false, false, false, false, false, false, false, false, false, false, false] rfl rfl (any_of HT_.out (by kernel_rfl)) (fun _ _ _ h => h) (Or.inl ⟨by rfl, ?_⟩) ?_ ?_
       rotate_left
       ·intro w'
        go_simp
        with_reducible rfl
       rotate_left
       ·simp only [Act.put, zsA, zsZ, zsS, i64_w, i32_w]
        rfl
       refine pure_ (i := 9) (N := some 21) (v := ?_) (a' := ?_) #[true, false, true, false, true, false, false, false, false, true, false, false, false, false, false, false, false, false, false, false, false] rfl rfl (any_of HT_.out (by kernel_rfl)) (fun _ _ _ h => h) (Or.inl ⟨by rfl, ?_⟩) ?_ ?_
       rotate_left
       ·intro w'
        go_simp
        with_reducible rfl
       rotate_left
       ·simp only [Act.put, zsA, zsZ, zsS, i64_w, i32_w]
        rfl
       refine pure_ (i := 11) (N := some 23) (v := ?_) (a' := ?_) #[true, false, true, false, true, false, false, false, false, true, false, true, false, false, false, false, false, false, false, false, false] rfl rfl (any_of HT_.out (by kernel_rfl)) (fun _ _ _ h => h) (Or.inl ⟨by rfl, ?_⟩) ?_ ?_
       rotate_left
       ·intro w'
        go_simp
        with_reducible rfl
       rotate_left
       ·simp only [Act.put, zsA, zsZ, zsS, i64_w, i32_w]
        rfl
       refine take_ (i := 1) (N := some 13) (v := ?_) (a' := ?_) #[true, true, true, false, true, false, false, false, false, true, false, true, false, false, false, false, false, false, false, false, false] rfl rfl (take_ofW HT_.out HW_.out (by kernel_rfl)) (fun _ _ _ h => h) (Or.inl ⟨by rfl, ?_⟩) hHeld ?_ ?_
       rotate_left
       ·rintro w' ⟨s0, s1, s2, s3, s4, s5⟩
        go_simp
        with_reducible rfl
       rotate_left
       ·simp only [Act.put, zsA, zsZ, zsS, i64_w, i32_w]
        rfl
       refine take_ (i := 3) (N := some 15) (v := ?_) (a' := ?_) #[true, true, true, true, true, false, false, false, false, true, false, true, false, false, false, false, false, false, false, false, false] rfl rfl (take_ofW HT_.out HW_.out (by kernel_rfl)) (fun _ _ _ h => h) (Or.inl ⟨by rfl, ?_⟩) hHeld ?_ ?_
       rotate_left
       ·rintro w' ⟨s0, s1, s2, s3, s4, s5⟩
        go_simp
        with_reducible rfl
       rotate_left
       ·simp only [Act.put, zsA, zsZ, zsS, i64_w, i32_w]
        rfl
       refine pure_ (i := 5) (N := some 17) (v := ?_) (a' := ?_) #[true, true, true, true, true, true, false, false, false, true, false, true, false, false, false, false, false, false, false, false, false] rfl rfl (any_of HT_.out (by kernel_rfl)) (fun _ _ _ h => h) (Or.inl ⟨by rfl, ?_⟩) ?_ ?_
       rotate_left
       ·intro w'
        go_simp
        with_reducible rfl
       rotate_left
       ·simp only [Act.put, zsA, zsZ, zsS, i64_w, i32_w]
        rfl
       refine pure_ (i := 6) (N := some 18) (v := ?_) (a' := ?_) #[true, true, true, true, true, true, true, false, false, true, false, true, false, false, false, false, false, false, false, false, false] rfl rfl (any_of HT_.out (by kernel_rfl)) (fun _ _ _ h => h) (Or.inl ⟨by rfl, ?_⟩) ?_ ?_
       rotate_left
       ·intro w'
        go_simp
        with_reducible rfl
       rotate_left
       ·simp only [Act.put, zsA, zsZ, zsS, i64_w, i32_w]
        rfl
       refine take_ (i := 7) (N := some 19) (v := ?_) (a' := ?_) #[true, true, true, true, true, true, true, true, false, true, false, true, false, false, false, false, false, false, false, false, false] rfl rfl (take_ofW HT_.out HW_.out (by kernel_rfl)) (fun _ _ _ h => h) (Or.inl ⟨by rfl, ?_⟩) hHeld ?_ ?_
       rotate_left
       ·rintro w' ⟨s0, s1, s2, s3, s4, s5⟩
        go_simp
        with_reducible rfl
       rotate_left
       ·simp only [Act.put, zsA, zsZ, zsS, i64_w, i32_w]
        rfl
       refine take_ (i := 10) (N := some 22) (v := ?_) (a' := ?_) #[true, true, true, true, true, true, true, true, false, true, true, true, false, false, false, false, false, false, false, false, false] rfl rfl (take_ofW HT_.out HW_.out (by kernel_rfl)) (fun _ _ _ h => h) (Or.inl ⟨by rfl, ?_⟩) hHeld ?_ ?_
       rotate_left
       ·rintro w' ⟨s0, s1, s2, s3, s4, s5⟩
        go_simp
        with_reducible rfl
       rotate_left
       ·simp only [Act.put, zsA, zsZ, zsS, i64_w, i32_w]
        rfl
       refine pure_ (i := 12) (N := some 24) (v := ?_) (a' := ?_) #[true, true, true, true, true, true, true, true, false, true, true, true, true, false, false, false, false, false, false, false, false] rfl rfl (any_of HT_.out (by kernel_rfl)) (fun _ _ _ h => h) (Or.inl ⟨by rfl, ?_⟩) ?_ ?_
       rotate_left
       ·intro w'
        go_simp
        with_reducible rfl
       rotate_left
       ·simp only [Act.put, zsA, zsZ, zsS, i64_w, i32_w]
        rfl
       refine pure_ (i := 13) (N := some 25) (v := ?_) (a' := ?_) #[true, true, true, true, true, true, true, true, false, true, true, true, true, true, false, false, false, false, false, false, false] rfl rfl (any_of HT_.out (by kernel_rfl)) (fun _ _ _ h => h) (Or.inl ⟨by rfl, ?_⟩) ?_ ?_
       rotate_left
       ·intro w'
        go_simp
        with_reducible rfl
       rotate_left
       ·simp only [Act.put, zsA, zsZ, zsS, i64_w, i32_w]
        rfl
       refine take_ (i := 14) (N := some 26) (v := ?_) (a' := ?_) #[true, true, true, true, true, true, true, true, false, true, true, true, true, true, true, false, false, false, false, false, false] rfl rfl (take_ofW HT_.out HW_.out (by kernel_rfl)) (fun _ _ _ h => h) (Or.inl ⟨by rfl, ?_⟩) hHeld ?_ ?_
       rotate_left
       ·rintro w' ⟨s0, s1, s2, s3, s4, s5⟩
        go_simp
        with_reducible rfl
       rotate_left
       ·simp only [Act.put, zsA, zsZ, zsS, i64_w, i32_w]
        rfl
       refine one_ (i := 8) (N := some 20) #[true, true, true, true, true, true, true, true, true, true, true, true, true, true, true, false, false, false, false, false, false] rfl rfl (one_of HT_.out (by kernel_rfl)) (by decide) (fun K hK => ?_)
       refine Kd.R_lit_step (Kd.int .i64) _ 3 ?hg (N := 20) ?hd (xs := ([] : List Int)) (inner := []) (ok := fun _ => True) (okp := fun _ => True) ?hr ?hp (fun _ hk => hk) trivial (Below.refl _ _) (Nat.le_refl _) (by simp) ?_; (case hd => rfl); (case hg => rfl); (case hr => first | (go_simp; done) | (go_simp; rfl)); (case hp => exact (Reps.none _ _))
       intro v182 w13 ho14 hb hg_ hnew_
       clear hg_ hnew_
       (first | rw [← Ny181.out] at ho14 | (simp only [Int.reduceToNat] at ho14; rw [← Ny181.out] at ho14))
       have n0_ := Zw (Kd.S_elder' (ZS HO_180000.out) (by first | exact Kd.R_base ho14 | exact Kd.S_base ho14 | exact Kd.R_base ho14 | exact Kd.N_base ho14) hb)
       have n1_ := Zw (Kd.R_lower ho14 (below_size (Zh3 HB.out GE177.out GE178.out GE179.out)))
       have n2_ := Zw (blk_below (g := gb177) (o := .cells #[.slice (some ad180) l0_0.length c0_0] 24 (0, 0)) (Zb BK177.out) hb)
       have n3_ := Zw (blk_below (g := gb178) (o := .cells #[.slice none 0 0] 24 (0, 0)) (Zb BK178.out) hb)
       have n4_ := Zw (blk_below (g := gb179) (o := .cells #[u180000] 24 (0, 0)) (Zb BK179.out) hb)
       have n5_ := Zw (below_step (Zh3 HB.out GE177.out GE178.out GE179.out) hb)
       clear HO_180000
       clear BK177
       clear BK178
       clear BK179
       clear HB
       have HO_180000 := n0_
       have HO183 := n1_
       have BK177 := n2_
       have BK178 := n3_
       have BK179 := n4_
       have HB := n5_
       clear n0_ n1_ n2_ n3_ n4_ n5_
       clear hb ho14
       refine hK.out _ _ ⟨(blk_cell BK179.out 0).trans rfl, (blk_cell BK177.out 0).trans rfl, ((HB.out.cell (World.block_lt_of_cell? w _ hw180_0)).trans hw180_0), ((HB.out.cell (World.block_lt_of_cell? w _ hw180_1)).trans hw180_1), ((HB.out.cell (World.block_lt_of_cell? w _ hw184_0)).trans hw184_0), ((HB.out.cell (World.block_lt_of_cell? w _ hw184_1)).trans hw184_1)⟩ (fun hHeld => ?_)
       clear hK K
       refine norm_ (a' := ?_) ?_ ?_
       rotate_left
       ·show Act.put _ (some 20) _ = _
        simp only [Act.put, zsA, zsZ, zsS, i64_w, i32_w]
        rfl
       refine one_ (i := 15) (N := some 27) #[true, true, true, true, true, true, true, true, true, true, true, true, true, true, true, true, false, false, false, false, false] rfl rfl (one_of HT_.out (by kernel_rfl)) (by decide) (fun K hK => ?_)
       refine Kd.R_append_rows_step (Kd.int .i64) (w0 := w) w.heap.size (by rfl) (.tmp 20) (.tmp 26) 25 3 (.int .i64 0) 8 rfl Try.underlying25 info3 rfl (by decide) (by omega) v182 y181 ((rd_T31 l0_0 x4_1).f1) _ _ _ (fun _ => True) (fun _ => False) rfl rfl ?aO ?aR (fun _ _ h => h) (fun _ h => h.elim) ?aF ?aB ?aS ?aL ?_
       (case aR => exact Zc (Kd.C_below HR184_1.out HB.out))
       (case aB => exact (Zh3 HB.out GE177.out GE178.out GE179.out))
       (case aF => exact (fun _ _ => trivial))
       (case aO => exact (ZR HO183.out))
       (case aS => exact (below_size (Zh3 HB.out GE177.out GE178.out GE179.out)))
       (case aL => have := LMc7.out; omega)
       intro v186 w15 ho hb hg hat
       rw [← Ny185.out] at ho
       have n0_ := Zw (Kd.S_after (ok := (fun _ => True)) (ZS HO_180000.out) hg hat)
       have n1_ := Zw (blk_grown (g := gb177) (o := .cells #[.slice (some ad180) l0_0.length c0_0] 24 (0, 0)) (Zb BK177.out) hg (Kd.R_ne HO183.out BK177.out (by decide)))
       have n2_ := Zw (blk_grown (g := gb178) (o := .cells #[.slice none 0 0] 24 (0, 0)) (Zb BK178.out) hg (Kd.R_ne HO183.out BK178.out (by decide)))
       have n3_ := Zw (blk_grown (g := gb179) (o := .cells #[u180000] 24 (0, 0)) (Zb BK179.out) hg (Kd.R_ne HO183.out BK179.out (by decide)))
       have n4_ := Zw (hb)
       have n5_ := Zw (ho)
       clear HO_180000
       clear BK177
       clear BK178
       clear BK179
       clear HB
       clear HO183
       have HO_180000 := n0_
       have BK177 := n1_
       have BK178 := n2_
       have BK179 := n3_
       have HB := n4_
       have HO187 := n5_
       clear n0_ n1_ n2_ n3_ n4_ n5_
       clear ho hb hg hat
       obtain ⟨Ao16, co16, eo16⟩ := Kd.R_slice HO187.out
       (first | subst eo16 | (injection eo16 with f1_ f2_ f3_; have f4_ := f1_.symm; have f5_ := f3_.symm; clear f1_ f2_ f3_; subst f4_; subst f5_))
       refine hK.out _ _ ⟨(blk_cell BK179.out 0).trans rfl, (blk_cell BK177.out 0).trans rfl, ((HB.out.cell (World.block_lt_of_cell? w _ hw180_0)).trans hw180_0), ((HB.out.cell (World.block_lt_of_cell? w _ hw180_1)).trans hw180_1), ((HB.out.cell (World.block_lt_of_cell? w _ hw184_0)).trans hw184_0), ((HB.out.cell (World.block_lt_of_cell? w _ hw184_1)).trans hw184_1)⟩ (fun hHeld => ?_)
       clear hK K
       refine norm_ (a' := ?_) ?_ ?_
       rotate_left
       ·show Act.put _ (some 27) _ = _
        simp only [Act.put, zsA, zsZ, zsS, i64_w, i32_w]
        rfl
       refine pure_ (i := 16) (N := some 28) (v := ?_) (a' := ?_) #[true, true, true, true, true, true, true, true, true, true, true, true, true, true, true, true, true, false, false, false, false] rfl rfl (any_of HT_.out (by kernel_rfl)) (fun _ _ _ h => h) (Or.inl ⟨by rfl, ?_⟩) ?_ ?_
       rotate_left
       ·intro w'
        go_simp
        with_reducible rfl
       rotate_left
       ·simp only [Act.put, zsA, zsZ, zsS, i64_w, i32_w]
        rfl
       refine one_ (i := 17) (N := some 29) #[true, true, true, true, true, true, true, true, true, true, true, true, true, true, true, true, true, true, false, false, false] rfl rfl (one_of HT_.out (by kernel_rfl)) (by decide) (fun K hK => ?_)
       refine value_ (w1 := ?_) (v := ?_) (by rfl) rfl ?_ ?_
       rotate_left 2
       ·go_simp
        constructor
        ·rfl
        ·rfl
       refine hK.out _ _ ⟨(blk_cell (blk_alloc BK179.out _) 0).trans rfl, (blk_cell (blk_alloc BK177.out _) 0).trans rfl, (World.cell?_alloc_lt _ _ _ (World.block_lt_of_cell? _ _ (((HB.out.cell (World.block_lt_of_cell? w _ hw180_0)).trans hw180_0)))).trans (((HB.out.cell (World.block_lt_of_cell? w _ hw180_0)).trans hw180_0)), (World.cell?_alloc_lt _ _ _ (World.block_lt_of_cell? _ _ (((HB.out.cell (World.block_lt_of_cell? w _ hw180_1)).trans hw180_1)))).trans (((HB.out.cell (World.block_lt_of_cell? w _ hw180_1)).trans hw180_1)), (World.cell?_alloc_lt _ _ _ (World.block_lt_of_cell? _ _ (((HB.out.cell (World.block_lt_of_cell? w _ hw184_0)).trans hw184_0)))).trans (((HB.out.cell (World.block_lt_of_cell? w _ hw184_0)).trans hw184_0)), (World.cell?_alloc_lt _ _ _ (World.block_lt_of_cell? _ _ (((HB.out.cell (World.block_lt_of_cell? w _ hw184_1)).trans hw184_1)))).trans (((HB.out.cell (World.block_lt_of_cell? w _ hw184_1)).trans hw184_1))⟩ (fun hHeld => ?_)
       clear hK K
       refine norm_ (a' := ?_) ?_ ?_
       rotate_left
       ·show Act.put _ (some 29) _ = _
        simp only [Act.put, zsA, zsZ, zsS, i64_w, i32_w]
        rfl
       refine one_ (i := 18) (N := some 30) #[true, true, true, true, true, true, true, true, true, true, true, true, true, true, true, true, true, true, true, false, false] rfl rfl (one_of HT_.out (by kernel_rfl)) (by decide) (fun K hK => ?_)
       refine Kd.S_append_step k31 (w0 := w) w.heap.size (by rfl) (.tmp 13) (.tmp 29) 22 31 (.agg #[(.int .i64 0), (.slice none 0 0)]) 32 rfl Try.underlying22 info31 rfl (by decide) (by omega) u180000 x180000_1 (⟨(rd_T31 l0_0 x4_1).f0, y185⟩ : S31) [.int .i64 ((rd_T31 l0_0 x4_1).f0), .slice Ao16 y185.length co16] (fun _ => True) (fun k_ => some k_ = (.slice Ao16 y185.length co16 : Value).ownBlock) rfl rfl ?aP (fun k_ hk_ => ((Kd.R_mono (ok' := fun k_ => ((fun _ => True)) k_ ∧ some k_ ≠ (u180000 : Value).ownBlock) (Kd.R_apart' (HO187.out) (Kd.S_typed HO_180000.out) (by decide)) (fun k_ hk => ⟨trivial, hk.2⟩))).1 k_ hk_.symm) ?aF ?aO ?aB ?aS ?aL ?_
       (case aP => exact k31_mkM _ _ _ (⟨(rd_T31 l0_0 x4_1).f0, y185⟩ : S31) (Kd.R_mono (Kd.R_tight rfl (Kd.R_mono (ok' := fun k_ => ((fun _ => True)) k_ ∧ some k_ ≠ (u180000 : Value).ownBlock) (Kd.R_apart' (HO187.out) (Kd.S_typed HO_180000.out) (by decide)) (fun k_ hk => ⟨trivial, hk.2⟩))) (fun _ h_ => h_)))
       (case aB => exact (Zh3 HB.out GE177.out GE178.out GE179.out))
       (case aF => exact (fun _ _ => trivial))
       (case aO => exact (by refine ZSk ?_; exact Kd.S_mono HO_180000.out (fun k_ hk => ⟨trivial, fun e_ => hk.2 e_⟩)))
       (case aS => exact (below_size (Zh3 HB.out GE177.out GE178.out GE179.out)))
       (case aL => have := LMc8.out; omega)
       intro v189 w17 ho hb hg hat
       rw [← Ny188.out] at ho
       have n0_ := Zw (blk_grown (g := gb177) (o := .cells #[.slice (some ad180) l0_0.length c0_0] 24 (0, 0)) (Zb BK177.out) hg (Kd.S_ne HO_180000.out BK177.out (by decide)))
       have n1_ := Zw (blk_grown (g := gb178) (o := .cells #[.slice none 0 0] 24 (0, 0)) (Zb BK178.out) hg (Kd.S_ne HO_180000.out BK178.out (by decide)))
       have n2_ := Zw (blk_grown (g := gb179) (o := .cells #[u180000] 24 (0, 0)) (Zb BK179.out) hg (Kd.S_ne HO_180000.out BK179.out (by decide)))
       have n3_ := Zw (hb)
       have n4_ := Zw (ho)
       clear BK177
       clear BK178
       clear BK179
       clear HB
       clear HO_180000
       clear HO187
       have BK177 := n0_
       have BK178 := n1_
       have BK179 := n2_
       have HB := n3_
       have HO190 := n4_
       clear n0_ n1_ n2_ n3_ n4_
       clear ho hb hg hat
       obtain ⟨Ao18, co18, eo18⟩ := Kd.S_slice HO190.out
       (first | subst eo18 | (injection eo18 with f1_ f2_ f3_; have f4_ := f1_.symm; have f5_ := f3_.symm; clear f1_ f2_ f3_; subst f4_; subst f5_))
       refine hK.out _ _ ⟨(blk_cell BK179.out 0).trans rfl, (blk_cell BK177.out 0).trans rfl, ((HB.out.cell (World.block_lt_of_cell? w _ hw180_0)).trans hw180_0), ((HB.out.cell (World.block_lt_of_cell? w _ hw180_1)).trans hw180_1), ((HB.out.cell (World.block_lt_of_cell? w _ hw184_0)).trans hw184_0), ((HB.out.cell (World.block_lt_of_cell? w _ hw184_1)).trans hw184_1)⟩ (fun hHeld => ?_)
       clear hK K
       refine norm_ (a' := ?_) ?_ ?_
       rotate_left
       ·show Act.put _ (some 30) _ = _
        simp only [Act.put, zsA, zsZ, zsS, i64_w, i32_w]
        rfl
       refine pure_ (i := 19) (N := some 31) (v := ?_) (a' := ?_) #[true, true, true, true, true, true, true, true, true, true, true, true, true, true, true, true, true, true, true, true, false] rfl rfl (any_of HT_.out (by kernel_rfl)) (fun _ _ _ h => h) (Or.inl ⟨by rfl, ?_⟩) ?_ ?_
       rotate_left
       ·intro w'
        go_simp
        with_reducible rfl
       rotate_left
       ·simp only [Act.put, zsA, zsZ, zsS, i64_w, i32_w]
        rfl
       refine last_ (i := 20) (N := none) #[true, true, true, true, true, true, true, true, true, true, true, true, true, true, true, true, true, true, true, true, true] rfl rfl (one_of HT_.out (by kernel_rfl)) (by decide) (fun K hK => ?_)
       have hs19 : w17.cell? ⟨gb179, 0, none⟩ = some (u180000) := (blk_cell BK179.out 0).trans rfl
       have hfs19 := blk_frozen BK179.out 0
       have hns19_0 := NB177_179.out
       have hns19_1 := NB178_179.out
       have hms19_0 := NB179_177.out
       have hms19_1 := NB179_178.out
       refine skip_ (w1 := ?_) (by rfl) rfl ?_ ?_
       rotate_left
       ·go_simp
        rfl
       refine hK.out _ _ ?_
       clear hK K
       refine done_ (done_of HT_.out (by kernel_rfl)) ?_
       try go_wp2
       go_roundg k1
       case measure => have := HK1.out; omega
       case rel => exact ⟨(wrap64 (x4_1 + 1)), (y188), (.slice Ao18 y188.length co18), (by first | rfl | (simp; done) | (simp [*]; done)), H', ⟨by have := HK1.out; omega⟩, ⟨by refine ZSk ?_; exact Kd.S_mono (Kd.S_far (p := ⟨gb179, 0, none⟩) (Kd.S_types HO190.out BK179.out (by decide)) (fun _ hk => hk.2) (.slice Ao18 y188.length co18)) (fun _ hk => trivial)⟩, ⟨by refine Zbk ?_; refine blk_far ?_ NB177_179.out _; refine Zbk ?_; exact BK177.out⟩, ⟨by refine Zbk ?_; refine blk_far ?_ NB178_179.out _; refine Zbk ?_; exact BK178.out⟩, ⟨by refine Zbk ?_; refine blk_put (cs := #[u180000]) ?_ 0 _ rfl; refine Zbk ?_; exact BK179.out⟩, ⟨Zh3 HB.out GE177.out GE178.out GE179.out⟩⟩
      ·rw [if_neg c8] at H
       exact absurd H (by simp)
     ·rw [if_neg c7] at H
      exact absurd H (by simp)
    ·rw [if_neg c6] at H
     exact absurd H (by simp)
   ·rw [if_neg c5] at H
    have c5b0 : decide (x4_1 < (l0_0.length : Int)) = false := decide_eq_false c5
    clear c5
    obtain rfl := Option.some.inj H
    have hnb20 := NB177_178.out
    have hnc20 := NB178_177.out
    have hnb21 := NB177_179.out
    have hnc21 := NB179_177.out
    have hcz22_0 := Zcl BK177.out 0 rfl
    have hfz22_0 := blk_frozen BK177.out 0
    have hnb23 := NB179_178.out
    have hnc23 := NB178_179.out
    have hcz24_0 := Zcl BK179.out 0 rfl
    have hfz24_0 := blk_frozen BK179.out 0
    obtain ⟨Ao25, co25, eo25⟩ := Kd.S_slice HO_180000.out
    subst eo25
    have hcz26_0 := Zcl BK178.out 0 rfl
    have hfz26_0 := blk_frozen BK178.out 0
    go_wp2
    refine bodyPost_ret (results_cell_row rfl _ _ gb178 24 #[.slice Ao25 x180000_1.length co25] (0, 0) _ rfl (by refine Zbk ?_; refine blk_put (cs := #[.slice none 0 0]) ?_ 0 _ rfl; refine Zbk ?_; exact BK178.out) Try.underlying24 rfl (by kernel_rfl)) rfl ?_
    exact ⟨_, by first | rfl | (simp [errW_none, errW_some] <;> rfl) | (simp [*, errW_none, errW_some] <;> rfl), by refine ZSk ?_; exact Kd.S_mono (Kd.S_far (p := ⟨gb178, 0, none⟩) (Kd.S_types HO_180000.out BK178.out (by decide)) (fun _ hk => hk.2) (.slice Ao25 x180000_1.length co25)) (fun _ hk => trivial), Zh3 HB.out GE177.out GE178.out GE179.out⟩

end Go.Proofs.Ytpifepaflljolaa.PMem
