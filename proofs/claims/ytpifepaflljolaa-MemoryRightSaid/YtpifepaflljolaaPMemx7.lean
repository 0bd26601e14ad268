-- By wip/xprint.py (a driver of this session's over the kit's print), for this claim.
import Derived.Test.YtpifepaflljolaaPMemx0
import Derived.Test.YtpifepaflljolaaPMemx6
namespace Go.Proofs.Ytpifepaflljolaa.PMem
open Go.RowKit Go.Proofs.YtpifepaflljolaaW.PrintWords Go.Proofs.YtpifepaflljolaaW.PrintLast Go.Proofs.YtpifepaflljolaaW.PrintMore
attribute [local go_sem] max2_int min2_int max_two min_two max_three min_three max_four min_four   -- for this text's walks alone
set_option linter.unusedVariables false
set_option linter.unusedSimpArgs false

/-! ### memory_Word: function 20 -/
def memory_Word.f (l0_0 : List (S31)) (a1 : Int) : Option (Int × Bool) := (memory_page.f l0_0 a1).bind fun bt123 => (if bt123.2 = true then (if 0 ≤ bt123.1 then (if bt123.1 < (l0_0.length : Int) then (if 0 ≤ (Int.tmod a1 64) then (if (Int.tmod a1 64) < (((rd_T31 l0_0 bt123.1).f1).length : Int) then (some (rd ((rd_T31 l0_0 bt123.1).f1) (Int.tmod a1 64), true)) else (none)) else (none)) else (none)) else (none)) else (some (0, false)))
set_option maxHeartbeats 8000000 in
set_option maxRecDepth 100000 in
theorem memory_Word.calls (A0_0 : Option Addr) (c0_0 : Nat) (l0_0 : List (S31)) (a1 : Int) (r1 : Int) (r2 : Bool) (w : World) (hr0_0 : Kd.C k31 w A0_0 l0_0.length l0_0) (hc0_0 : l0_0.length ≤ c0_0) (h : memory_Word.f l0_0 a1 = some (r1, r2)) :
  Calls Try.prog 20 #[.agg #[.slice A0_0 l0_0.length c0_0], .int .i64 a1] w fun e w' => e = .returned (.tuple #[.int .i64 r1, .bool r2]) ∧ Below w.heap.size w w' := by
 have hu24 := Try.underlying24
 have HR0_0 := Aside0.mk hr0_0
 have HC0_0 := Aside0.mk hc0_0
 clear hr0_0 hc0_0
 have HB := Zw (Below.refl w.heap.size w)
 have H : ((memory_page.f l0_0 a1).bind fun bt123 => (if bt123.2 = true then (if 0 ≤ bt123.1 then (if bt123.1 < (l0_0.length : Int) then (if 0 ≤ (Int.tmod a1 64) then (if (Int.tmod a1 64) < (((rd_T31 l0_0 bt123.1).f1).length : Int) then (some (rd ((rd_T31 l0_0 bt123.1).f1) (Int.tmod a1 64), true)) else (none)) else (none)) else (none)) else (none)) else (some (0, false)))) = some (r1, r2) := h
 clear h
 replace H := Option.bind_eq_some_iff.mp H
 obtain ⟨⟨t123, t124⟩, A30, H⟩ := H
 replace H : (if t124 = true then (if 0 ≤ t123 then (if t123 < (l0_0.length : Int) then (if 0 ≤ (Int.tmod a1 64) then (if (Int.tmod a1 64) < (((rd_T31 l0_0 t123).f1).length : Int) then (some (rd ((rd_T31 l0_0 t123).f1) (Int.tmod a1 64), true)) else (none)) else (none)) else (none)) else (none)) else (some (0, false))) = some (r1, r2) := H
 have A3 := Aside0.mk A30
 clear A30
 by_cases c4 : t124 = true
 ·subst c4
  have H1 : (if 0 ≤ t123 then (if t123 < (l0_0.length : Int) then (if 0 ≤ (Int.tmod a1 64) then (if (Int.tmod a1 64) < (((rd_T31 l0_0 t123).f1).length : Int) then (some (rd ((rd_T31 l0_0 t123).f1) (Int.tmod a1 64), true)) else (none)) else (none)) else (none)) else (none)) = some (r1, r2) := by rw [if_pos rfl] at H; exact H
  clear H
  have H := H1
  clear H1
  by_cases c5 : 0 ≤ t123
  ·rw [if_pos c5] at H
   have c5b0 : decide (0 ≤ t123) = true := decide_eq_true c5
   clear c5
   by_cases c6 : t123 < (l0_0.length : Int)
   ·rw [if_pos c6] at H
    have c6b0 : decide (t123 < (l0_0.length : Int)) = true := decide_eq_true c6
    clear c6
    obtain ⟨ji7, hji7⟩ : ∃ j_ : Int, (Int.tmod a1 64) = j_ := ⟨_, rfl⟩
    replace H : (if 0 ≤ (ji7) then (if (ji7) < (((rd_T31 l0_0 t123).f1).length : Int) then (some (rd ((rd_T31 l0_0 t123).f1) (ji7), true)) else (none)) else (none)) = some (r1, r2) := by first | (rw [hji7] at H; exact H) | (simp only [hji7] at H ⊢; exact H)
    (try rw [hji7] at A3)
    by_cases c8 : 0 ≤ (ji7)
    ·rw [if_pos c8] at H
     have c8b0 : decide (0 ≤ (ji7)) = true := decide_eq_true c8
     clear c8
     by_cases c9 : (ji7) < (((rd_T31 l0_0 t123).f1).length : Int)
     ·rw [if_pos c9] at H
      have c9b0 : decide ((ji7) < (((rd_T31 l0_0 t123).f1).length : Int)) = true := decide_eq_true c9
      clear c9
      simp only [Option.some.injEq, Prod.mk.injEq] at H
      obtain ⟨rfl, rfl⟩ := H
      go_enter Try.func20, Try.ntmps20
      go_wp2_with (first | ((with_reducible refine gate_dst (N := 2) rfl ?_); refine box_event ?hg (N := 2) ?hd (cs := #[.slice A0_0 l0_0.length c0_0]) (t := 24) ?hr ?_; (case hd => rfl); (case hg => rfl); (case hr => first | (go_simp; done) | (go_simp; rfl)); intro gb122 hg w10 hbox hb; have n0_ := Zw (below_step (Zh HB.out) hb); have n1_ := Zw (hbox); have n2_ := Zw ((by rw [hg]; exact (below_size (Zh HB.out)) : w.heap.size ≤ gb122)); have n3_ := Zw ((by rw [hg]; exact (below_size (Zh HB.out)) : w.heap.size ≤ gb122)); clear HB; have HB := n0_; have BK122 := n1_; have GW122 := n2_; have GE122 := n3_; clear n0_ n1_ n2_ n3_; clear hb hbox hg; have hcz11_0 := Zcl BK122.out 0 rfl; have hfz11_0 := blk_frozen BK122.out 0) | ((with_reducible refine gate_callee (f := 34) rfl ?_); refine goesL_ (some 11) rfl rfl Try.func34 (by kernel_rfl) rfl #[.agg #[.slice A0_0 l0_0.length c0_0], .int .i64 a1] rfl Zm ?_; (with_reducible refine (memory_page.calls _ _ l0_0 a1 t123 true _ ?side1 ?side2 A3.out).mono ?_); (case side1 => exact Zc (Kd.C_below HR0_0.out HB.out)); (case side2 => exact HC0_0.out); rintro e w12 ⟨rfl, hb⟩; refine ⟨_, rfl, ?_⟩; have n0_ := Zw (blk_below (g := gb122) (o := .cells #[.slice A0_0 l0_0.length c0_0] 24 (0, 0)) (Zb BK122.out) hb); have n1_ := Zw (below_step (Zh1 HB.out GE122.out) hb); clear BK122; clear HB; have BK122 := n0_; have HB := n1_; clear n0_ n1_; (try clear hb); (try clear hb2); (try clear hk); (try clear hi); have hcz13_0 := Zcl BK122.out 0 rfl; have hfz13_0 := blk_frozen BK122.out 0; have p125 : 0 ≤ (t123 : Int) := of_decide_eq_true Za; have q125 : t123 < (l0_0.length : Int) := of_decide_eq_true Za; obtain ⟨ad125, A125_1, c125_1, e125, hx125_0, hx125_1, hl125_1, hi125_1⟩ := at_T31 HR0_0.out t123 p125 q125; cases e125; replace hx125_0 := Zl HB.out hx125_0; replace hx125_1 := Zl HB.out hx125_1; have HR125_1 := Aside0.mk hi125_1; have HC125_1 := Aside0.mk hl125_1; clear hi125_1 hl125_1; replace p125 := eq_true p125; replace q125 := eq_true q125; have p126 : 0 ≤ ((ji7) : Int) := of_decide_eq_true Za; have q126 : (ji7) < (((rd_T31 l0_0 t123).f1).length : Int) := of_decide_eq_true Za; obtain ⟨ad126, e126, hx126_0⟩ := Kd.at_int HR125_1.out (ji7) p126 q126; cases e126; replace hx126_0 := Zl HB.out hx126_0; replace p126 := eq_true p126; replace q126 := eq_true q126))
      go_ret2
      exact ⟨by first | rfl | (simp [errW_none, errW_some] <;> rfl) | (simp only [← hji7]; first | rfl | (simp [errW_none, errW_some] <;> rfl)) | (simp [*, errW_none, errW_some] <;> rfl), Zh1 HB.out GE122.out⟩
     ·rw [if_neg c9] at H
      exact absurd H (by simp)
    ·rw [if_neg c8] at H
     exact absurd H (by simp)
   ·rw [if_neg c6] at H
    exact absurd H (by simp)
  ·rw [if_neg c5] at H
   exact absurd H (by simp)
 ·replace c4 := Bool.eq_false_iff.mpr c4
  subst c4
  have H1 : (some (0, false)) = some (r1, r2) := by rw [if_neg (show ¬ (false = true) by decide)] at H; exact H
  clear H
  have H := H1
  clear H1
  simp only [Option.some.injEq, Prod.mk.injEq] at H
  obtain ⟨rfl, rfl⟩ := H
  go_enter Try.func20, Try.ntmps20
  go_wp2_with (first | ((with_reducible refine gate_dst (N := 2) rfl ?_); refine box_event ?hg (N := 2) ?hd (cs := #[.slice A0_0 l0_0.length c0_0]) (t := 24) ?hr ?_; (case hd => rfl); (case hg => rfl); (case hr => first | (go_simp; done) | (go_simp; rfl)); intro gb122 hg w14 hbox hb; have n0_ := Zw (below_step (Zh HB.out) hb); have n1_ := Zw (hbox); have n2_ := Zw ((by rw [hg]; exact (below_size (Zh HB.out)) : w.heap.size ≤ gb122)); have n3_ := Zw ((by rw [hg]; exact (below_size (Zh HB.out)) : w.heap.size ≤ gb122)); clear HB; have HB := n0_; have BK122 := n1_; have GW122 := n2_; have GE122 := n3_; clear n0_ n1_ n2_ n3_; clear hb hbox hg; have hcz15_0 := Zcl BK122.out 0 rfl; have hfz15_0 := blk_frozen BK122.out 0) | ((with_reducible refine gate_callee (f := 34) rfl ?_); refine goesL_ (some 11) rfl rfl Try.func34 (by kernel_rfl) rfl #[.agg #[.slice A0_0 l0_0.length c0_0], .int .i64 a1] rfl Zm ?_; (with_reducible refine (memory_page.calls _ _ l0_0 a1 t123 false _ ?side1 ?side2 A3.out).mono ?_); (case side1 => exact Zc (Kd.C_below HR0_0.out HB.out)); (case side2 => exact HC0_0.out); rintro e w16 ⟨rfl, hb⟩; refine ⟨_, rfl, ?_⟩; have n0_ := Zw (blk_below (g := gb122) (o := .cells #[.slice A0_0 l0_0.length c0_0] 24 (0, 0)) (Zb BK122.out) hb); have n1_ := Zw (below_step (Zh1 HB.out GE122.out) hb); clear BK122; clear HB; have BK122 := n0_; have HB := n1_; clear n0_ n1_; (try clear hb); (try clear hb2); (try clear hk); (try clear hi)))
  go_ret2
  exact ⟨by first | rfl | (simp [errW_none, errW_some] <;> rfl) | (simp [*, errW_none, errW_some] <;> rfl), Zh1 HB.out GE122.out⟩

end Go.Proofs.Ytpifepaflljolaa.PMem
