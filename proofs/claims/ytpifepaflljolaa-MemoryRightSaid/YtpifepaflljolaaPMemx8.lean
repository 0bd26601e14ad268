-- By wip/xprint.py (a driver of this session's over the kit's print), for this claim.
import Derived.Test.YtpifepaflljolaaPMemx0
import Derived.Test.YtpifepaflljolaaPMemx7
namespace Go.Proofs.Ytpifepaflljolaa.PMem
open Go.RowKit Go.Proofs.YtpifepaflljolaaW.PrintWords Go.Proofs.YtpifepaflljolaaW.PrintLast Go.Proofs.YtpifepaflljolaaW.PrintMore
attribute [local go_sem] max2_int min2_int max_two min_two max_three min_three max_four min_four   -- for this text's walks alone
set_option linter.unusedVariables false
set_option linter.unusedSimpArgs false

/-! ### memory_Read: function 19 -/
def memory_Read.l0 : Nat → Int → Int → List Int → Int → List (S31) → Option (List Int × Int)
 | 0, _, _, _, _, _ => none
 | k + 1, x1, x2, x8, x9, x128000 => if x9 < (mn x2 128) then ((memory_Word.f x128000 (wrap64 (x1 + x9))).bind fun bt128 => (if bt128.2 = true then (if x8.length < 17592186044416 then (memory_Read.l0 k x1 x2 (x8 ++ [bt128.1]) (wrap64 (x9 + 1)) x128000) else (none)) else (some (x8, wrap64 (x1 + x9))))) else (some (x8, (-1)))
def memory_Read.f (k : Nat) (l0_0 : List (S31)) (a1 : Int) (a2 : Int) : Option (List Int × Int) := memory_Read.l0 k a1 a2 ([] : List Int) 0 l0_0
theorem memory_Read.mono_l : ∀ k, (∀ y0 y1 y2 y3 y4, LeO (memory_Read.l0 k y0 y1 y2 y3 y4) (memory_Read.l0 (k + 1) y0 y1 y2 y3 y4))
 | 0 => fun _ _ _ _ _ r h => by simp [memory_Read.l0] at h
 | k + 1 => by
  have ih0 := memory_Read.mono_l k
  ·intro y0 y1 y2 y3 y4
   unfold memory_Read.l0
   repeat' first
   | (with_reducible exact ih0 _ _ _ _ _)
   | (with_reducible exact LeO.refl _)
   | (with_reducible exact LeO.none _)
   | (with_reducible refine LeO.ite ?_ ?_)
   | (with_reducible refine LeO.bind ?_ (fun _ => ?_))
   | exact ih0 _ _ _ _ _
   | exact LeO.none _
   | refine LeO.ite ?_ ?_
   | refine LeO.bind ?_ (fun _ => ?_)
theorem memory_Read.mono : ∀ a0 a1 a2 k, LeO (memory_Read.f k a0 a1 a2) (memory_Read.f (k + 1) a0 a1 a2) := by
 intro a0 a1 a2 k
 have ih0 := memory_Read.mono_l k
 unfold memory_Read.f
 repeat' first
   | (with_reducible exact ih0 _ _ _ _ _)
   | (with_reducible exact LeO.refl _)
   | (with_reducible exact LeO.none _)
   | (with_reducible refine LeO.ite ?_ ?_)
   | (with_reducible refine LeO.bind ?_ (fun _ => ?_))
   | exact ih0 _ _ _ _ _
   | exact LeO.none _
   | refine LeO.ite ?_ ?_
   | refine LeO.bind ?_ (fun _ => ?_)
set_option maxHeartbeats 8000000 in
set_option maxRecDepth 100000 in
theorem memory_Read.calls (k : Nat) (A0_0 : Option Addr) (c0_0 : Nat) (l0_0 : List (S31)) (a1 : Int) (a2 : Int) (r1 : List Int) (r2 : Int) (w : World) (hr0_0 : Kd.C k31 w A0_0 l0_0.length l0_0) (hc0_0 : l0_0.length ≤ c0_0) (h : memory_Read.f k l0_0 a1 a2 = some (r1, r2)) :
  Calls Try.prog 19 #[.agg #[.slice A0_0 l0_0.length c0_0], .int .i64 a1, .int .i64 a2] w fun e w' => ∃ v0_ : Value, e = .returned (.tuple #[v0_, .int .i64 r2]) ∧ Kd.R (Kd.int .i64) 3 w' w.heap.size (fun _ => True) v0_ r1 ∧ Below w.heap.size w w' := by
 have hu24 := Try.underlying24
 have HR0_0 := Aside0.mk hr0_0
 have HC0_0 := Aside0.mk hc0_0
 clear hr0_0 hc0_0
 have HB := Zw (Below.refl w.heap.size w)
 have H : (memory_Read.l0 k a1 a2 ([] : List Int) 0 l0_0) = some (r1, r2) := h
 clear h
 have H' := Aside0.mk H
 clear H
 go_enter Try.func19, Try.ntmps19
 go_wp2_with (first | ((with_reducible refine gate_dst (N := 3) rfl ?_); refine box_event ?hg (N := 3) ?hd (cs := #[.slice A0_0 l0_0.length c0_0]) (t := 24) ?hr ?_; (case hd => rfl); (case hg => rfl); (case hr => first | (go_simp; done) | (go_simp; rfl)); intro gb127 hg w4 hbox hb; have n0_ := Zw (below_step (Zh HB.out) hb); have n1_ := Zw (hbox); have n2_ := Zw ((by rw [hg]; exact (below_size (Zh HB.out)) : w.heap.size ≤ gb127)); have n3_ := Zw ((by rw [hg]; exact (below_size (Zh HB.out)) : w.heap.size ≤ gb127)); clear HB; have HB := n0_; have BK127 := n1_; have GW127 := n2_; have GE127 := n3_; clear n0_ n1_ n2_ n3_; clear hb hbox hg))
 go_loopg [8, 9] k (fun kq v8 v9 w' => ∃ (x8_1 : List Int) (x9_1 : Int), v9 = .int .i64 x9_1 ∧ Aside0 (memory_Read.l0 kq a1 a2 x8_1 x9_1 l0_0 = some (r1, r2)) ∧ Aside0 (kq ≤ k) ∧ Aside0 (Kd.R (Kd.int .i64) 3 w' w.heap.size (fun _ => True) v8 x8_1) ∧ Aside0 (w'.heap[gb127]? = some (.cells #[(.slice A0_0 l0_0.length c0_0)] 24 (0, 0))) ∧ Aside0 (Below w.heap.size w w'))
 case atStart => exact ⟨(([] : List Int)), (0), (by first | rfl | (simp; done) | (simp [*]; done)), H', ⟨Nat.le_refl _⟩, ⟨by first | exact Kd.R_nil _ _ _ _ _ | exact Kd.N_nil _ _ _ _ _ | exact Kd.V_nil _ _ _ _ _ | exact Kd.Q_nil _ _ _ _ _ | exact Kd.S_nil _ _ _ _ _⟩, ⟨Zb BK127.out⟩, ⟨Zh1 HB.out GE127.out⟩⟩
 case round =>
  clear H'
  try clear c1
  try clear p2
  obtain ⟨x8_1, x9_1, rfl, HA, HK1, HO_8, BK127, HB⟩ := hrel
  cases gk with
  | zero => exact absurd HA.out (by simp [memory_Read.l0])
  | succ k1 =>
   have H := HA.out
   clear HA
   simp only [memory_Read.l0] at H
   obtain ⟨ji5, hji5⟩ : ∃ j_ : Int, (mn a2 128) = j_ := ⟨_, rfl⟩
   replace H : (if x9_1 < (ji5) then ((memory_Word.f l0_0 (wrap64 (a1 + x9_1))).bind fun bt128 => (if bt128.2 = true then (if x8_1.length < 17592186044416 then (memory_Read.l0 k1 a1 a2 (x8_1 ++ [bt128.1]) (wrap64 (x9_1 + 1)) l0_0) else (none)) else (some (x8_1, wrap64 (a1 + x9_1))))) else (some (x8_1, (-1)))) = some (r1, r2) := by first | (rw [hji5] at H; exact H) | (simp only [hji5] at H ⊢; exact H)
   have hji5_ : (if 128 < a2 then 128 else a2) = ji5 := hji5
   by_cases c6 : x9_1 < (ji5)
   ·rw [if_pos c6] at H
    have c6b0 : decide (x9_1 < (ji5)) = true := decide_eq_true c6
    clear c6
    replace H := Option.bind_eq_some_iff.mp H
    obtain ⟨⟨t128, t129⟩, A70, H⟩ := H
    replace H : (if t129 = true then (if x8_1.length < 17592186044416 then (memory_Read.l0 k1 a1 a2 (x8_1 ++ [t128]) (wrap64 (x9_1 + 1)) l0_0) else (none)) else (some (x8_1, wrap64 (a1 + x9_1)))) = some (r1, r2) := H
    have A7 := Aside0.mk A70
    clear A70
    by_cases c8 : t129 = true
    ·subst c8
     have H1 : (if x8_1.length < 17592186044416 then (memory_Read.l0 k1 a1 a2 (x8_1 ++ [t128]) (wrap64 (x9_1 + 1)) l0_0) else (none)) = some (r1, r2) := by rw [if_pos rfl] at H; exact H
     clear H
     have H := H1
     clear H1
     by_cases c9 : x8_1.length < 17592186044416
     ·rw [if_pos c9] at H
      have LMc9 := Aside0.mk c9
      clear c9
      obtain ⟨y130, hy130⟩ : ∃ y_ : List Int, y_ = (x8_1 ++ [t128]) := ⟨_, rfl⟩
      replace H : (memory_Read.l0 k1 a1 a2 y130 (wrap64 (x9_1 + 1)) l0_0) = some (r1, r2) := by first | (rw [hy130]; with_reducible exact H) | (have H2_ := (Option.bind_some _ _).symm.trans H; rw [hy130]; with_reducible exact H2_) | (have H2_ := (Option.bind_some _ _).symm.trans H; with_reducible exact H2_) | with_reducible exact H | (rw [hy130]; exact H) | exact H
      have Ny130 := Aside0.mk hy130
      clear hy130
      have H' := Aside0.mk H
      clear H
      have hcz10_0 := Zcl BK127.out 0 rfl
      have hfz10_0 := blk_frozen BK127.out 0
      go_wp2_with (first | ((with_reducible refine gate_callee (f := 20) rfl ?_); refine goesL_ (some 23) rfl rfl Try.func20 (by kernel_rfl) rfl #[.agg #[.slice A0_0 l0_0.length c0_0], .int .i64 (wrap64 (a1 + x9_1))] rfl Zm ?_; (with_reducible refine (memory_Word.calls _ _ l0_0 (wrap64 (a1 + x9_1)) t128 true _ ?side1 ?side2 A7.out).mono ?_); (case side1 => exact Zc (Kd.C_below HR0_0.out HB.out)); (case side2 => exact HC0_0.out); rintro e w11 ⟨rfl, hb⟩; refine ⟨_, rfl, ?_⟩; have n0_ := Zw (Kd.R_below (ZR HO_8.out) hb); have n1_ := Zw (blk_below (g := gb127) (o := .cells #[.slice A0_0 l0_0.length c0_0] 24 (0, 0)) (Zb BK127.out) hb); have n2_ := Zw (below_step (Zh1 HB.out GE127.out) hb); clear HO_8; clear BK127; clear HB; have HO_8 := n0_; have BK127 := n1_; have HB := n2_; clear n0_ n1_ n2_; (try clear hb); (try clear hb2); (try clear hk); (try clear hi)) | ((with_reducible refine gate_builtin (b := .append) (xs := #[(.tmp 32), .tmp 34]) rfl ?_); at_builtin; refine Kd.R_append (Kd.int .i64) (w0 := w) w.heap.size rfl (.tmp 32) (.tmp 34) 25 3 (.int .i64 0) 8 rfl Try.underlying25 info3 rfl (by decide) (by omega) u8 x8_1 t128 [.int .i64 t128] (fun _ => True) (fun _ => False) rfl rfl ?aP (fun _ hk => hk.elim) ?aF ?aO ?aB ?aS ?aL ?_; (case aP => exact rfl); (case aB => exact (Zh1 HB.out GE127.out)); (case aF => exact (fun _ _ => trivial)); (case aO => exact (ZR HO_8.out)); (case aS => exact (below_size (Zh1 HB.out GE127.out))); (case aL => have := LMc9.out; omega); intro v131 w12 ho hb hg hat; rw [← Ny130.out] at ho; have n0_ := Zw (blk_grown (g := gb127) (o := .cells #[.slice A0_0 l0_0.length c0_0] 24 (0, 0)) (Zb BK127.out) hg (Kd.R_ne HO_8.out BK127.out (by decide))); have n1_ := Zw (hb); have n2_ := Zw (ho); clear BK127; clear HB; clear HO_8; have BK127 := n0_; have HB := n1_; have HO132 := n2_; clear n0_ n1_ n2_; clear ho hb hg hat))
      go_roundg k1
      case measure => have := HK1.out; omega
      case rel => exact ⟨(y130), (wrap64 (x9_1 + 1)), (by first | rfl | (simp; done) | (simp [*]; done)), H', ⟨by have := HK1.out; omega⟩, ⟨ZR HO132.out⟩, ⟨Zb BK127.out⟩, ⟨Zh1 HB.out GE127.out⟩⟩
     ·rw [if_neg c9] at H
      exact absurd H (by simp)
    ·replace c8 := Bool.eq_false_iff.mpr c8
     subst c8
     have H1 : (some (x8_1, wrap64 (a1 + x9_1))) = some (r1, r2) := by rw [if_neg (show ¬ (false = true) by decide)] at H; exact H
     clear H
     have H := H1
     clear H1
     simp only [Option.some.injEq, Prod.mk.injEq] at H
     obtain ⟨rfl, rfl⟩ := H
     have hcz13_0 := Zcl BK127.out 0 rfl
     have hfz13_0 := blk_frozen BK127.out 0
     go_wp2_with (first | ((with_reducible refine gate_callee (f := 20) rfl ?_); refine goesL_ (some 23) rfl rfl Try.func20 (by kernel_rfl) rfl #[.agg #[.slice A0_0 l0_0.length c0_0], .int .i64 (wrap64 (a1 + x9_1))] rfl Zm ?_; (with_reducible refine (memory_Word.calls _ _ l0_0 (wrap64 (a1 + x9_1)) t128 false _ ?side1 ?side2 A7.out).mono ?_); (case side1 => exact Zc (Kd.C_below HR0_0.out HB.out)); (case side2 => exact HC0_0.out); rintro e w14 ⟨rfl, hb⟩; refine ⟨_, rfl, ?_⟩; have n0_ := Zw (Kd.R_below (ZR HO_8.out) hb); have n1_ := Zw (blk_below (g := gb127) (o := .cells #[.slice A0_0 l0_0.length c0_0] 24 (0, 0)) (Zb BK127.out) hb); have n2_ := Zw (below_step (Zh1 HB.out GE127.out) hb); clear HO_8; clear BK127; clear HB; have HO_8 := n0_; have BK127 := n1_; have HB := n2_; clear n0_ n1_ n2_; (try clear hb); (try clear hb2); (try clear hk); (try clear hi)))
     go_ret2
     exact ⟨_, by first | rfl | (simp [errW_none, errW_some] <;> rfl) | (simp only [← hji5]; first | rfl | (simp [errW_none, errW_some] <;> rfl)) | (simp [*, errW_none, errW_some] <;> rfl), by refine ZRk ?_; exact HO_8.out, Zh1 HB.out GE127.out⟩
   ·rw [if_neg c6] at H
    have c6b0 : decide (x9_1 < (ji5)) = false := decide_eq_false c6
    clear c6
    simp only [Option.some.injEq, Prod.mk.injEq] at H
    obtain ⟨rfl, rfl⟩ := H
    go_wp2
    go_ret2
    exact ⟨_, by first | rfl | (simp [errW_none, errW_some] <;> rfl) | (simp only [← hji5]; first | rfl | (simp [errW_none, errW_some] <;> rfl)) | (simp [*, errW_none, errW_some] <;> rfl), by refine ZRk ?_; exact HO_8.out, Zh1 HB.out GE127.out⟩

end Go.Proofs.Ytpifepaflljolaa.PMem
