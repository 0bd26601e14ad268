-- By wip/xprint.py (a driver of this session's over the kit's print), for this claim.
import Derived.Test.YtpifepaflljolaaPMemx0
import Derived.Test.YtpifepaflljolaaPMemx2
import Derived.Test.YtpifepaflljolaaPMemx3
import Derived.Test.YtpifepaflljolaaPMemx7
import Derived.Test.YtpifepaflljolaaPMemx8
namespace Go.Proofs.Ytpifepaflljolaa.PMem
open Go.RowKit Go.Proofs.YtpifepaflljolaaW.PrintWords Go.Proofs.YtpifepaflljolaaW.PrintLast Go.Proofs.YtpifepaflljolaaW.PrintMore
attribute [local go_sem] max2_int min2_int max_two min_two max_three min_three max_four min_four   -- for this text's walks alone
set_option linter.unusedVariables false
set_option linter.unusedSimpArgs false

/-! ### debuggerlaw25_awake: function 11 -/
def debuggerlaw25_awake.f (k : Nat)  : Option (Bool) := (memory_Of.f k (([7, 8] : List Int))).bind fun t136 => ((memory_Word.f t136 1).bind fun bt140 => ((memory_Word.f t136 64).bind fun bt142 => ((memory_Read.f k t136 62 5).bind fun bt144 => (if bt140.1 = 8 then (if bt140.2 = true then (if bt142.2 = true then (some false) else (if (bt144.1.length : Int) = 2 then (if bt144.2 = 64 then ((memory_Right.f k t136).bind fun t148 => (some t148)) else (some false)) else (some false))) else (some false)) else (some false)))))
theorem debuggerlaw25_awake.mono : ∀ k, LeO (debuggerlaw25_awake.f k ) (debuggerlaw25_awake.f (k + 1) ) := by
 intro  k
 unfold debuggerlaw25_awake.f
 repeat' first
   | (with_reducible exact memory_Of.mono _ _)
   | (with_reducible exact memory_Read.mono _ _ _ _)
   | (with_reducible exact memory_Right.mono _ _)
   | (with_reducible exact LeO.refl _)
   | (with_reducible exact LeO.none _)
   | (with_reducible refine LeO.ite ?_ ?_)
   | (with_reducible refine LeO.bind ?_ (fun _ => ?_))
   | exact memory_Of.mono _ _
   | exact memory_Read.mono _ _ _ _
   | exact memory_Right.mono _ _
   | exact LeO.none _
   | refine LeO.ite ?_ ?_
   | refine LeO.bind ?_ (fun _ => ?_)
theorem debuggerlaw25_awake.only (k : Nat) (r : Bool) (h : debuggerlaw25_awake.f k = some r) : r = true := by
 have h1 : debuggerlaw25_awake.f 200 = some true := by decide +kernel
 have h2 := at_rounds (fun k => debuggerlaw25_awake.mono k) (Nat.le_max_left k 200) h
 have h3 := at_rounds (fun k => debuggerlaw25_awake.mono k) (Nat.le_max_right k 200) h1
 rw [h3] at h2
 exact (Option.some.inj h2).symm
set_option maxHeartbeats 8000000 in
set_option maxRecDepth 100000 in
theorem debuggerlaw25_awake.calls (k : Nat)  (r : Bool) (w : World) (h : debuggerlaw25_awake.f k  = some r) :
  Calls Try.prog 11 #[] w fun e w' => e = .returned (.bool r) ∧ Below w.heap.size w w' := by
 have hu24 := Try.underlying24
 have HT0 := Zw (debuggerlaw25_awake.only k r h)
 have HB := Zw (Below.refl w.heap.size w)
 have H : ((memory_Of.f k (([7, 8] : List Int))).bind fun t136 => ((memory_Word.f t136 1).bind fun bt140 => ((memory_Word.f t136 64).bind fun bt142 => ((memory_Read.f k t136 62 5).bind fun bt144 => (if bt140.1 = 8 then (if bt140.2 = true then (if bt142.2 = true then (some false) else (if (bt144.1.length : Int) = 2 then (if bt144.2 = 64 then ((memory_Right.f k t136).bind fun t148 => (some t148)) else (some false)) else (some false))) else (some false)) else (some false)))))) = some r := h
 clear h
 obtain ⟨y133, hy133⟩ : ∃ y_ : List Int, y_ = (([7, 8] : List Int)) := ⟨_, rfl⟩
 replace H : ((memory_Of.f k y133).bind fun t136 => ((memory_Word.f t136 1).bind fun bt140 => ((memory_Word.f t136 64).bind fun bt142 => ((memory_Read.f k t136 62 5).bind fun bt144 => (if bt140.1 = 8 then (if bt140.2 = true then (if bt142.2 = true then (some false) else (if (bt144.1.length : Int) = 2 then (if bt144.2 = 64 then ((memory_Right.f k t136).bind fun t148 => (some t148)) else (some false)) else (some false))) else (some false)) else (some false)))))) = some r := by first | (rw [hy133]; with_reducible exact H) | (have H2_ := (Option.bind_some _ _).symm.trans H; rw [hy133]; with_reducible exact H2_) | (have H2_ := (Option.bind_some _ _).symm.trans H; with_reducible exact H2_) | with_reducible exact H | (rw [hy133]; exact H) | exact H
 have Ny133 := Aside0.mk hy133
 clear hy133
 replace H := Option.bind_eq_some_iff.mp H
 obtain ⟨t136, A10, H⟩ := H
 replace H : ((memory_Word.f t136 1).bind fun bt140 => ((memory_Word.f t136 64).bind fun bt142 => ((memory_Read.f k t136 62 5).bind fun bt144 => (if bt140.1 = 8 then (if bt140.2 = true then (if bt142.2 = true then (some false) else (if (bt144.1.length : Int) = 2 then (if bt144.2 = 64 then ((memory_Right.f k t136).bind fun t148 => (some t148)) else (some false)) else (some false))) else (some false)) else (some false))))) = some r := H
 have A1 := Aside0.mk A10
 clear A10
 replace H := Option.bind_eq_some_iff.mp H
 obtain ⟨⟨t140, t141⟩, A20, H⟩ := H
 replace H : ((memory_Word.f t136 64).bind fun bt142 => ((memory_Read.f k t136 62 5).bind fun bt144 => (if t140 = 8 then (if t141 = true then (if bt142.2 = true then (some false) else (if (bt144.1.length : Int) = 2 then (if bt144.2 = 64 then ((memory_Right.f k t136).bind fun t148 => (some t148)) else (some false)) else (some false))) else (some false)) else (some false)))) = some r := H
 have A2 := Aside0.mk A20
 clear A20
 replace H := Option.bind_eq_some_iff.mp H
 obtain ⟨⟨t142, t143⟩, A30, H⟩ := H
 replace H : ((memory_Read.f k t136 62 5).bind fun bt144 => (if t140 = 8 then (if t141 = true then (if t143 = true then (some false) else (if (bt144.1.length : Int) = 2 then (if bt144.2 = 64 then ((memory_Right.f k t136).bind fun t148 => (some t148)) else (some false)) else (some false))) else (some false)) else (some false))) = some r := H
 have A3 := Aside0.mk A30
 clear A30
 replace H := Option.bind_eq_some_iff.mp H
 obtain ⟨⟨t144, t147⟩, A40, H⟩ := H
 replace H : (if t140 = 8 then (if t141 = true then (if t143 = true then (some false) else (if (t144.length : Int) = 2 then (if t147 = 64 then ((memory_Right.f k t136).bind fun t148 => (some t148)) else (some false)) else (some false))) else (some false)) else (some false)) = some r := H
 have A4 := Aside0.mk A40
 clear A40
 by_cases c5 : t140 = 8
 ·rw [if_pos c5] at H
  have c5b0 : (t140 == 8) = true := beq_iff_eq.mpr c5
  have c5b1 : (t140 != 8) = false := bne_eq_false_iff_eq.mpr c5
  clear c5
  by_cases c6 : t141 = true
  ·subst c6
   have H1 : (if t143 = true then (some false) else (if (t144.length : Int) = 2 then (if t147 = 64 then ((memory_Right.f k t136).bind fun t148 => (some t148)) else (some false)) else (some false))) = some r := by rw [if_pos rfl] at H; exact H
   clear H
   have H := H1
   clear H1
   by_cases c7 : t143 = true
   ·subst c7
    have H1 : (some false) = some r := by rw [if_pos rfl] at H; exact H
    clear H
    have H := H1
    clear H1
    exact absurd (Option.some.inj (H.trans (congrArg some HT0.out))) (by simp)
   ·replace c7 := Bool.eq_false_iff.mpr c7
    subst c7
    have H1 : (if (t144.length : Int) = 2 then (if t147 = 64 then ((memory_Right.f k t136).bind fun t148 => (some t148)) else (some false)) else (some false)) = some r := by rw [if_neg (show ¬ (false = true) by decide)] at H; exact H
    clear H
    have H := H1
    clear H1
    by_cases c8 : (t144.length : Int) = 2
    ·rw [if_pos c8] at H
     have c8b0 : ((t144.length : Int) == 2) = true := beq_iff_eq.mpr c8
     have c8b1 : ((t144.length : Int) != 2) = false := bne_eq_false_iff_eq.mpr c8
     clear c8
     by_cases c9 : t147 = 64
     ·rw [if_pos c9] at H
      have c9b0 : (t147 == 64) = true := beq_iff_eq.mpr c9
      have c9b1 : (t147 != 64) = false := bne_eq_false_iff_eq.mpr c9
      clear c9
      replace H := Option.bind_eq_some_iff.mp H
      obtain ⟨t148, A100, H⟩ := H
      replace H : (some t148) = some r := H
      have A10 := Aside0.mk A100
      clear A100
      obtain rfl := Option.some.inj H
      go_enter Try.func11, Try.ntmps11
      go_wp2_with (first | ((with_reducible refine gate_dst (N := 8) rfl ?_); (try (refine gate_guard (by rfl) ?_; dsimp only)); refine Kd.R_lit (Kd.int .i64) _ 3 ?hg (N := 8) ?hd (xs := ([7, 8] : List Int)) (inner := [.int .i64 7, .int .i64 8]) (ok := fun _ => True) (okp := fun _ => True) ?hr ?hp (fun _ hk => hk) trivial (Below.refl _ _) (Nat.le_refl _) (by simp) ?_; (case hd => rfl); (case hg => rfl); (case hr => first | (go_simp; done) | (go_simp; rfl)); (case hp => exact (Reps.one (show Kd.M (Kd.int .i64) _ _ _ 7 [.int .i64 7] from rfl) (Reps.one (show Kd.M (Kd.int .i64) _ _ _ 8 [.int .i64 8] from rfl) (Reps.none _ _)))); intro v134 w11 ho12 hb hg_ hnew_; clear hg_ hnew_; (first | rw [← Ny133.out] at ho12 | (simp only [Int.reduceToNat] at ho12; rw [← Ny133.out] at ho12)); have n0_ := Zw (Kd.R_lower ho12 (below_size (Zh HB.out))); have n1_ := Zw (below_step (Zh HB.out) hb); clear HB; have HO135 := n0_; have HB := n1_; clear n0_ n1_; clear hb ho12; obtain ⟨Ao13, co13, eo13⟩ := Kd.R_slice HO135.out; subst eo13) | ((with_reducible refine gate_callee (f := 17) rfl ?_); refine goesL_ (some 9) rfl rfl Try.func17 (by kernel_rfl) rfl #[.slice Ao13 y133.length co13] rfl Zm ?_; (with_reducible refine (memory_Of.calls k _ _ y133 t136 _ ?side1 ?side2 A1.out).mono ?_); (case side1 => exact Zc ((Kd.R_reads' HO135.out).2.2)); (case side2 => exact (Kd.R_reads' HO135.out).2.1); rintro e w14 ⟨v137, rfl, ho0, hb⟩; refine ⟨_, rfl, ?_⟩; have n0_ := Zw (Kd.R_below (ZR HO135.out) hb); have n1_ := Zw (Kd.S_lower (Kd.S_new' ho0 (Kd.R_lt (ZR HO135.out))) (below_size (Zh HB.out))); have n2_ := Zw (below_step (Zh HB.out) hb); clear HO135; clear HB; have HO135 := n0_; have HO138 := n1_; have HB := n2_; clear n0_ n1_ n2_; (try clear hb); (try clear hb2); (try clear hk); (try clear hi); (try clear ho0)) | ((with_reducible refine gate_dst (N := 1) rfl ?_); (try (refine gate_guard (by rfl) ?_; dsimp only)); refine box_event ?hg (N := 1) ?hd (cs := #[.slice none 0 0]) (t := 24) ?hr ?_; (case hd => rfl); (case hg => rfl); (case hr => first | (go_simp; done) | (go_simp; rfl)); intro gb139 hg w15 hbox hb; have n0_ := Zw (Kd.R_below (ZR HO135.out) hb); have n1_ := Zw (Kd.S_below (ZS HO138.out) hb); have n2_ := Zw (below_step (Zh HB.out) hb); have n3_ := Zw (hbox); have n4_ := Zw ((by rw [hg]; exact (below_size (Zh HB.out)) : w.heap.size ≤ gb139)); have n5_ := Zw ((by rw [hg]; exact (below_size (Zh HB.out)) : w.heap.size ≤ gb139)); clear HO135; clear HO138; clear HB; have HO135 := n0_; have HO138 := n1_; have HB := n2_; have BK139 := n3_; have GW139 := n4_; have GE139 := n5_; clear n0_ n1_ n2_ n3_ n4_ n5_; clear hb hbox hg; obtain ⟨Ao16, co16, eo16⟩ := Kd.S_slice HO138.out; subst eo16; have hcz17_0 := Zcl BK139.out 0 rfl; have hfz17_0 := blk_frozen BK139.out 0) | ((with_reducible refine gate_callee (f := 20) rfl ?_); refine goesL_ (some 12) rfl rfl Try.func20 (by kernel_rfl) rfl #[.agg #[.slice Ao16 t136.length co16], .int .i64 1] rfl Zm ?_; (with_reducible refine (memory_Word.calls _ _ t136 1 t140 true _ ?side1 ?side2 A2.out).mono ?_); (case side1 => refine (Kd.S_reads' (e := 31) (base := w.heap.size) (ok := fun k_ => (True ∧ some k_ ≠ (.slice Ao13 y133.length co13 : Value).ownBlock)) (n := t136.length) (c := co16) ?_).2.2; exact (by refine ZSk ?_; exact (Kd.S_mono (Kd.S_far (p := ⟨gb139, 0, none⟩) (Kd.S_types HO138.out BK139.out (by decide)) (fun _ hk => hk.2) (.slice Ao16 t136.length co16)) (fun _ h_ => h_.1)))); (case side2 => exact (Kd.S_reads' HO138.out).2.1); rintro e w18 ⟨rfl, hb⟩; refine ⟨_, rfl, ?_⟩; have n0_ := Zw (Kd.R_below (by refine ZRk ?_; exact (Kd.R_mono (Kd.R_far (p := ⟨gb139, 0, none⟩) (Kd.R_types HO135.out BK139.out (by decide)) (fun _ hk => hk.2) (.slice Ao16 t136.length co16)) (fun _ h_ => h_.1))) hb); have n1_ := Zw (Kd.S_below (by refine ZSk ?_; exact (Kd.S_mono (Kd.S_far (p := ⟨gb139, 0, none⟩) (Kd.S_types HO138.out BK139.out (by decide)) (fun _ hk => hk.2) (.slice Ao16 t136.length co16)) (fun _ h_ => h_.1))) hb); have n2_ := Zw (blk_below (g := gb139) (o := .cells #[.slice Ao16 t136.length co16] 24 (0, 0)) (by refine Zbk ?_; refine blk_put (cs := #[.slice none 0 0]) ?_ 0 _ rfl; refine Zbk ?_; exact BK139.out) hb); have n3_ := Zw (below_step (Zh1 HB.out GE139.out) hb); clear HO135; clear HO138; clear BK139; clear HB; have HO135 := n0_; have HO138 := n1_; have BK139 := n2_; have HB := n3_; clear n0_ n1_ n2_ n3_; (try clear hb); (try clear hb2); (try clear hk); (try clear hi); have hcz19_0 := Zcl BK139.out 0 rfl; have hfz19_0 := blk_frozen BK139.out 0) | ((with_reducible refine gate_callee (f := 20) rfl ?_); refine goesL_ (some 17) rfl rfl Try.func20 (by kernel_rfl) rfl #[.agg #[.slice Ao16 t136.length co16], .int .i64 64] rfl Zm ?_; (with_reducible refine (memory_Word.calls _ _ t136 64 t142 false _ ?side1 ?side2 A3.out).mono ?_); (case side1 => exact Zc ((Kd.S_reads' HO138.out).2.2)); (case side2 => exact (Kd.S_reads' HO138.out).2.1); rintro e w20 ⟨rfl, hb⟩; refine ⟨_, rfl, ?_⟩; have n0_ := Zw (Kd.R_below (ZR HO135.out) hb); have n1_ := Zw (Kd.S_below (ZS HO138.out) hb); have n2_ := Zw (blk_below (g := gb139) (o := .cells #[.slice Ao16 t136.length co16] 24 (0, 0)) (Zb BK139.out) hb); have n3_ := Zw (below_step (Zh1 HB.out GE139.out) hb); clear HO135; clear HO138; clear BK139; clear HB; have HO135 := n0_; have HO138 := n1_; have BK139 := n2_; have HB := n3_; clear n0_ n1_ n2_ n3_; (try clear hb); (try clear hb2); (try clear hk); (try clear hi); have hcz21_0 := Zcl BK139.out 0 rfl; have hfz21_0 := blk_frozen BK139.out 0) | ((with_reducible refine gate_callee (f := 19) rfl ?_); refine goesL_ (some 22) rfl rfl Try.func19 (by kernel_rfl) rfl #[.agg #[.slice Ao16 t136.length co16], .int .i64 62, .int .i64 5] rfl Zm ?_; (with_reducible refine (memory_Read.calls k _ _ t136 62 5 t144 t147 _ ?side1 ?side2 A4.out).mono ?_); (case side1 => exact Zc ((Kd.S_reads' HO138.out).2.2)); (case side2 => exact (Kd.S_reads' HO138.out).2.1); rintro e w22 ⟨v145, rfl, ho0, hb⟩; refine ⟨_, rfl, ?_⟩; have n0_ := Zw (Kd.R_elder' (ZR HO135.out) (by first | exact Kd.R_base ho0 | exact Kd.S_base ho0 | exact Kd.R_base ho0 | exact Kd.N_base ho0) hb); have n1_ := Zw (Kd.S_elder' (ZS HO138.out) (by first | exact Kd.R_base ho0 | exact Kd.S_base ho0 | exact Kd.R_base ho0 | exact Kd.N_base ho0) hb); have n2_ := Zw (Kd.R_lower (Kd.R_new' ho0 (Kd.R_lt (ZR HO135.out))) (below_size (Zh1 HB.out GE139.out))); have n3_ := Zw (blk_below (g := gb139) (o := .cells #[.slice Ao16 t136.length co16] 24 (0, 0)) (Zb BK139.out) hb); have n4_ := Zw (below_step (Zh1 HB.out GE139.out) hb); clear HO135; clear HO138; clear BK139; clear HB; have HO135 := n0_; have HO138 := n1_; have HO146 := n2_; have BK139 := n3_; have HB := n4_; clear n0_ n1_ n2_ n3_ n4_; (try clear hb); (try clear hb2); (try clear hk); (try clear hi); (try clear ho0); obtain ⟨Ao23, co23, eo23⟩ := Kd.R_slice HO146.out; subst eo23; have hcz24_0 := Zcl BK139.out 0 rfl; have hfz24_0 := blk_frozen BK139.out 0) | (go_at_call 14; (with_reducible refine (memory_Right.calls k _ _ t136 t148 _ ?side1 ?side2 A10.out).mono ?_); (case side1 => exact Zc ((Kd.S_reads' HO138.out).2.2)); (case side2 => exact (Kd.S_reads' HO138.out).2.1); rintro e w25 ⟨rfl, hb⟩; have n0_ := Zw (Kd.R_below (ZR HO135.out) hb); have n1_ := Zw (Kd.S_below (ZS HO138.out) hb); have n2_ := Zw (Kd.R_below (ZR HO146.out) hb); have n3_ := Zw (blk_below (g := gb139) (o := .cells #[.slice Ao16 t136.length co16] 24 (0, 0)) (Zb BK139.out) hb); have n4_ := Zw (below_step (Zh1 HB.out GE139.out) hb); clear HO135; clear HO138; clear HO146; clear BK139; clear HB; have HO135 := n0_; have HO138 := n1_; have HO146 := n2_; have BK139 := n3_; have HB := n4_; clear n0_ n1_ n2_ n3_ n4_; (try clear hb); (try clear hb2); (try clear hk); (try clear hi)))
      go_ret
      exact ⟨by first | rfl | (simp [errW_none, errW_some] <;> rfl) | (simp [*, errW_none, errW_some] <;> rfl), Zh1 HB.out GE139.out⟩
     ·rw [if_neg c9] at H
      have c9b0 : (t147 == 64) = false := beq_eq_false_iff_ne.mpr c9
      have c9b1 : (t147 != 64) = true := bne_iff_ne.mpr c9
      exact absurd (Option.some.inj (H.trans (congrArg some HT0.out))) (by simp)
    ·rw [if_neg c8] at H
     have c8b0 : ((t144.length : Int) == 2) = false := beq_eq_false_iff_ne.mpr c8
     have c8b1 : ((t144.length : Int) != 2) = true := bne_iff_ne.mpr c8
     exact absurd (Option.some.inj (H.trans (congrArg some HT0.out))) (by simp)
  ·replace c6 := Bool.eq_false_iff.mpr c6
   subst c6
   have H1 : (some false) = some r := by rw [if_neg (show ¬ (false = true) by decide)] at H; exact H
   clear H
   have H := H1
   clear H1
   exact absurd (Option.some.inj (H.trans (congrArg some HT0.out))) (by simp)
 ·rw [if_neg c5] at H
  have c5b0 : (t140 == 8) = false := beq_eq_false_iff_ne.mpr c5
  have c5b1 : (t140 != 8) = true := bne_iff_ne.mpr c5
  exact absurd (Option.some.inj (H.trans (congrArg some HT0.out))) (by simp)

end Go.Proofs.Ytpifepaflljolaa.PMem
