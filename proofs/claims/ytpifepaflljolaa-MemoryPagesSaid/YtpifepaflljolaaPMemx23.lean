-- By wip/xprint.py (a driver of this session's over the kit's print), for this claim.
import Derived.Test.YtpifepaflljolaaPMemx0
namespace Go.Proofs.Ytpifepaflljolaa.PMem
open Go.RowKit Go.Proofs.YtpifepaflljolaaW.PrintWords Go.Proofs.YtpifepaflljolaaW.PrintLast Go.Proofs.YtpifepaflljolaaW.PrintMore
attribute [local go_sem] max2_int min2_int max_two min_two max_three min_three max_four min_four   -- for this text's walks alone
set_option linter.unusedVariables false
set_option linter.unusedSimpArgs false

/-! ### memory_clonePage: function 39 -/
def memory_clonePage.f (a0_0 : Int) (l0_1 : List Int) : Option (Int × List Int) := if ([] : List Int).length + l0_1.length < 17592186044416 then (some (a0_0, (([] : List Int) ++ l0_1))) else (none)
set_option maxHeartbeats 8000000 in
set_option maxRecDepth 100000 in
theorem memory_clonePage.calls (a0_0 : Int) (A0_1 : Option Addr) (c0_1 : Nat) (l0_1 : List Int) (r1 : Int) (r2 : List Int) (w : World) (hr0_1 : Kd.C (Kd.int .i64) w A0_1 l0_1.length l0_1) (hc0_1 : l0_1.length ≤ c0_1) (h : memory_clonePage.f a0_0 l0_1 = some (r1, r2)) :
  Calls Try.prog 39 #[.agg #[.int .i64 a0_0, .slice A0_1 l0_1.length c0_1]] w fun e w' => ∃ v1_ : Value, e = .returned (.agg #[.int .i64 r1, v1_]) ∧ Kd.R (Kd.int .i64) 3 w' w.heap.size (fun _ => True) v1_ r2 ∧ Below w.heap.size w w' := by
 have hu31 := Try.underlying31
 have HR0_1 := Aside0.mk hr0_1
 have HC0_1 := Aside0.mk hc0_1
 clear hr0_1 hc0_1
 have HB := Zw (Below.refl w.heap.size w)
 have H : (if ([] : List Int).length + l0_1.length < 17592186044416 then (some (a0_0, (([] : List Int) ++ l0_1))) else (none)) = some (r1, r2) := h
 clear h
 by_cases c2 : ([] : List Int).length + l0_1.length < 17592186044416
 ·rw [if_pos c2] at H
  have LMc2 := Aside0.mk c2
  clear c2
  obtain ⟨y279, hy279⟩ : ∃ y_ : List Int, y_ = (([] : List Int) ++ l0_1) := ⟨_, rfl⟩
  replace H : (some (a0_0, y279)) = some (r1, r2) := by first | (rw [hy279]; with_reducible exact H) | (have H2_ := (Option.bind_some _ _).symm.trans H; rw [hy279]; with_reducible exact H2_) | (have H2_ := (Option.bind_some _ _).symm.trans H; with_reducible exact H2_) | with_reducible exact H | (rw [hy279]; exact H) | exact H
  have Ny279 := Aside0.mk hy279
  clear hy279
  simp only [Option.some.injEq, Prod.mk.injEq] at H
  obtain ⟨rfl, rfl⟩ := H
  go_enter Try.func39, Try.ntmps39
  try go_wp2_with (first | ((with_reducible refine gate_dst (N := 1) rfl ?_); refine box_event ?hg (N := 1) ?hd (cs := #[.int .i64 a0_0, .slice A0_1 l0_1.length c0_1]) (t := 31) ?hr ?_; (case hd => rfl); (case hg => rfl); (case hr => first | (go_simp; done) | (go_simp; rfl)); intro gb277 hg w3 hbox hb; have n0_ := Zw (below_step (Zh HB.out) hb); have n1_ := Zw (hbox); have n2_ := Zw ((by rw [hg]; exact (below_size (Zh HB.out)) : w.heap.size ≤ gb277)); have n3_ := Zw ((by rw [hg]; exact (below_size (Zh HB.out)) : w.heap.size ≤ gb277)); clear HB; have HB := n0_; have BK277 := n1_; have GW277 := n2_; have GE277 := n3_; clear n0_ n1_ n2_ n3_; clear hb hbox hg) | ((with_reducible refine gate_dst (N := 2) rfl ?_); refine box_event ?hg (N := 2) ?hd (cs := #[.int .i64 0, .slice none 0 0]) (t := 31) ?hr ?_; (case hd => rfl); (case hg => rfl); (case hr => first | (go_simp; done) | (go_simp; rfl)); intro gb278 hg w4 hbox hb; have n0_ := Zw (blk_below (g := gb277) (o := .cells #[.int .i64 a0_0, .slice A0_1 l0_1.length c0_1] 31 (0, 0)) (Zb BK277.out) hb); have n1_ := Zw (below_step (Zh1 HB.out GE277.out) hb); have n2_ := Zw (hbox); have n3_ := Zw ((by rw [hg]; exact (below_size (Zh1 HB.out GE277.out)) : w.heap.size ≤ gb278)); have n4_ := Zw ((by rw [hg]; exact (below_size (Zh1 HB.out GE277.out)) : w.heap.size ≤ gb278)); have n5_ := Zw ((by rw [hg]; exact Nat.ne_of_lt (blk_lt (Zb BK277.out)) : gb277 ≠ gb278)); have n6_ := Zw ((by rw [hg]; exact Nat.ne_of_gt (blk_lt (Zb BK277.out)) : gb278 ≠ gb277)); clear BK277; clear HB; have BK277 := n0_; have HB := n1_; have BK278 := n2_; have GW278 := n3_; have GE278 := n4_; have NB277_278 := n5_; have NB278_277 := n6_; clear n0_ n1_ n2_ n3_ n4_ n5_ n6_; clear hb hbox hg))
  have n0_ := Zw (blk_drew BK277.out)
  have n1_ := Zw (blk_drew BK278.out)
  have n2_ := Zw (below_drew1 HB.out)
  clear BK277
  clear BK278
  clear HB
  have BK277 := n0_
  have BK278 := n1_
  have HB := n2_
  clear n0_ n1_ n2_
  refine start_ (n := 7) (S := fun w' => w'.cell? ⟨gb277, 0, none⟩ = some (.int .i64 a0_0) ∧ w'.cell? ⟨gb277, 1, none⟩ = some (.slice A0_1 l0_1.length c0_1)) (ds := []) #[false, false, false, false, false, false, false] (by kernel_rfl) rfl rfl ⟨(blk_cell BK277.out 0).trans rfl, (blk_cell BK277.out 1).trans rfl⟩ (fun hHeld => ?_)
  generalize w4.drew = w5 at BK277 BK278 HB hHeld ⊢
  refine pure_ (i := 0) (N := some 3) (v := ?_) (a' := ?_) #[true, false, false, false, false, false, false] rfl rfl (by kernel_rfl) (fun _ _ _ h => h) (Or.inl ⟨by rfl, ?_⟩) ?_ ?_
  rotate_left
  ·intro w'
   go_simp
   with_reducible rfl
  rotate_left
  ·simp only [Act.put, zsA, zsZ, zsS, i64_w, i32_w]
   rfl
  refine pure_ (i := 2) (N := some 5) (v := ?_) (a' := ?_) #[true, false, true, false, false, false, false] rfl rfl (by kernel_rfl) (fun _ _ _ h => h) (Or.inl ⟨by rfl, ?_⟩) ?_ ?_
  rotate_left
  ·intro w'
   go_simp
   with_reducible rfl
  rotate_left
  ·simp only [Act.put, zsA, zsZ, zsS, i64_w, i32_w]
   rfl
  refine take_ (i := 1) (N := some 4) (v := ?_) (a' := ?_) #[true, true, true, false, false, false, false] rfl rfl (by kernel_rfl) (fun _ _ _ h => h) (Or.inl ⟨by rfl, ?_⟩) hHeld ?_ ?_
  rotate_left
  ·rintro w' ⟨s0, s1⟩
   go_simp
   with_reducible rfl
  rotate_left
  ·simp only [Act.put, zsA, zsZ, zsS, i64_w, i32_w]
   rfl
  refine take_ (i := 3) (N := some 6) (v := ?_) (a' := ?_) #[true, true, true, true, false, false, false] rfl rfl (by kernel_rfl) (fun _ _ _ h => h) (Or.inl ⟨by rfl, ?_⟩) hHeld ?_ ?_
  rotate_left
  ·rintro w' ⟨s0, s1⟩
   go_simp
   with_reducible rfl
  rotate_left
  ·simp only [Act.put, zsA, zsZ, zsS, i64_w, i32_w]
   rfl
  refine one_ (i := 4) (N := some 7) #[true, true, true, true, true, false, false] rfl rfl (by kernel_rfl) (by decide) (fun K hK => ?_)
  refine Kd.R_append_rows_step (Kd.int .i64) (w0 := w) w.heap.size (by rfl) (.const (.slice none 0 0)) (.tmp 6) 25 3 (.int .i64 0) 8 rfl Try.underlying25 info3 rfl (by decide) (by omega) (.slice none 0 0) ([] : List Int) l0_1 _ _ _ (fun _ => True) (fun _ => False) rfl rfl ?aO ?aR (fun _ _ h => h) (fun _ h => h.elim) ?aF ?aB ?aS ?aL ?_
  (case aR => exact Zc (Kd.C_below HR0_1.out HB.out))
  (case aB => exact (Zh2 HB.out GE277.out GE278.out))
  (case aF => exact (fun _ _ => trivial))
  (case aO => exact ((Kd.R_nil _ _ _ _ (fun _ => True))))
  (case aS => exact (below_size (Zh2 HB.out GE277.out GE278.out)))
  (case aL => have := LMc2.out; omega)
  intro v280 w6 ho hb hg hat
  rw [← Ny279.out] at ho
  have n0_ := Zw (blk_grown (g := gb277) (o := .cells #[.int .i64 a0_0, .slice A0_1 l0_1.length c0_1] 31 (0, 0)) (Zb BK277.out) hg (by simp [Value.ownBlock]))
  have n1_ := Zw (blk_grown (g := gb278) (o := .cells #[.int .i64 0, .slice none 0 0] 31 (0, 0)) (Zb BK278.out) hg (by simp [Value.ownBlock]))
  have n2_ := Zw (hb)
  have n3_ := Zw (ho)
  clear BK277
  clear BK278
  clear HB
  have BK277 := n0_
  have BK278 := n1_
  have HB := n2_
  have HO281 := n3_
  clear n0_ n1_ n2_ n3_
  clear ho hb hg hat
  obtain ⟨Ao7, co7, eo7⟩ := Kd.R_slice HO281.out
  (first | subst eo7 | (injection eo7 with f1_ f2_ f3_; have f4_ := f1_.symm; have f5_ := f3_.symm; clear f1_ f2_ f3_; subst f4_; subst f5_))
  refine hK.out _ _ ⟨(blk_cell BK277.out 0).trans rfl, (blk_cell BK277.out 1).trans rfl⟩ (fun hHeld => ?_)
  clear hK K
  refine norm_ (a' := ?_) ?_ ?_
  rotate_left
  ·show Act.put _ (some 7) _ = _
   simp only [Act.put, zsA, zsZ, zsS, i64_w, i32_w]
   rfl
  refine pure_ (i := 5) (N := some 8) (v := ?_) (a' := ?_) #[true, true, true, true, true, true, false] rfl rfl (by kernel_rfl) (fun _ _ _ h => h) (Or.inl ⟨by rfl, ?_⟩) ?_ ?_
  rotate_left
  ·intro w'
   go_simp
   with_reducible rfl
  rotate_left
  ·simp only [Act.put, zsA, zsZ, zsS, i64_w, i32_w]
   rfl
  refine one_ (i := 6) (N := none) #[true, true, true, true, true, true, true] rfl rfl (by kernel_rfl) (by decide) (fun K hK => ?_)
  have hs8 : w6.cell? ⟨gb278, 0, none⟩ = some (.int .i64 0) := (blk_cell BK278.out 0).trans rfl
  have hfs8 := blk_frozen BK278.out 0
  have hns8_0 := NB277_278.out
  have hms8_0 := NB278_277.out
  have hs9 : w6.cell? ⟨gb278, 1, none⟩ = some (.slice none 0 0) := (blk_cell BK278.out 1).trans rfl
  have hfs9 := blk_frozen BK278.out 1
  have hns9_0 := NB277_278.out
  have hms9_0 := NB278_277.out
  refine skip_ (w1 := ?_) (by rfl) rfl ?_ ?_
  rotate_left
  ·go_simp
   rfl
  refine hK.out _ _ ⟨((cell_far (p := ⟨gb278, _, none⟩) NB277_278.out _).trans (((cell_far (p := ⟨gb278, _, none⟩) NB277_278.out _).trans (hHeld.1)))), ((cell_far (p := ⟨gb278, _, none⟩) NB277_278.out _).trans (((cell_far (p := ⟨gb278, _, none⟩) NB277_278.out _).trans (hHeld.2))))⟩ (fun hHeld => ?_)
  clear hK K
  refine done_ (by kernel_rfl) ?_
  try go_wp2
  refine bodyPost_ret (results_cell_row rfl _ _ gb278 31 #[.int .i64 a0_0, .slice Ao7 y279.length co7] (0, 0) _ rfl (by refine Zbk ?_; refine blk_put (cs := #[.int .i64 a0_0, .slice none 0 0]) ?_ 1 _ rfl; refine Zbk ?_; refine blk_put (cs := #[.int .i64 0, .slice none 0 0]) ?_ 0 _ rfl; refine Zbk ?_; exact BK278.out) Try.underlying31 rfl (by kernel_rfl)) rfl ?_
  exact ⟨_, by first | rfl | (simp [errW_none, errW_some] <;> rfl) | (simp [*, errW_none, errW_some] <;> rfl), by refine ZRk ?_; exact Kd.R_mono (Kd.R_far (p := ⟨gb278, 1, none⟩) (Kd.R_far (p := ⟨gb278, 0, none⟩) (Kd.R_types HO281.out BK278.out (by decide)) (fun _ hk => hk.2) (.int .i64 a0_0)) (fun _ hk => hk.2) (.slice Ao7 y279.length co7)) (fun _ hk => trivial), Zh2 HB.out GE277.out GE278.out⟩
 ·rw [if_neg c2] at H
  exact absurd H (by simp)

end Go.Proofs.Ytpifepaflljolaa.PMem
