-- By wip/xprint.py (a driver of this session's over the kit's print), for this claim.
import Derived.Test.YtoakfejpmlgbcaaDoorPIsax0
import Derived.Test.YtoakfejpmlgbcaaDoorPIsax4
import Derived.Test.YtoakfejpmlgbcaaDoorPIsax32
import Derived.Test.YtoakfejpmlgbcaaDoorPIsax42
namespace Go.Proofs.YtoakfejpmlgbcaaDoor.PIsa
open Go.RowKit Go.Proofs.YtoakfejpmlgbcaaDoorW.PrintWords Go.Proofs.YtoakfejpmlgbcaaDoorW.PrintLast Go.Proofs.YtoakfejpmlgbcaaDoorW.PrintMore
attribute [local go_sem] max2_int min2_int max_two min_two max_three min_three max_four min_four   -- for this text's walks alone
set_option linter.unusedVariables false
set_option linter.unusedSimpArgs false

/-! ### debuggerlaw16_known: function 16 -/
def debuggerlaw16_known.f (k : Nat)  : Option (Bool) := (isa_Encode.f k 3 0 0 0 7).bind fun bt164 => ((isa_Encode.f k 24 0 0 0 0).bind fun bt166 => ((isa_Run.f k (([bt164.1, bt166.1] : List Int)) 40 0 ([] : List Int) 9).bind fun bt171 => (if bt164.2 = 0 then (if bt166.2 = 0 then (if bt171.1 = 0 then (if bt171.2.2.1 = 7 then ((isa_Text.f 5 1 2 0 0).bind fun t178 => (some (t178.toList == ([109, 111, 118, 101, 32, 114, 49, 32, 114, 50] : List UInt8)))) else (some false)) else (some false)) else (some false)) else (some false))))
theorem debuggerlaw16_known.mono : ∀ k, LeO (debuggerlaw16_known.f k ) (debuggerlaw16_known.f (k + 1) ) := by
  intro  k
  unfold debuggerlaw16_known.f
  repeat' first
      | (with_reducible exact isa_Encode.mono _ _ _ _ _ _)
      | (with_reducible exact isa_Run.mono _ _ _ _ _ _)
      | (with_reducible exact LeO.refl _)
      | (with_reducible exact LeO.none _)
      | (with_reducible refine LeO.ite ?_ ?_)
      | (with_reducible refine LeO.bind ?_ (fun _ => ?_))
      | exact isa_Encode.mono _ _ _ _ _ _
      | exact isa_Run.mono _ _ _ _ _ _
      | exact LeO.none _
      | refine LeO.ite ?_ ?_
      | refine LeO.bind ?_ (fun _ => ?_)
theorem debuggerlaw16_known.only (k : Nat) (r : Bool) (h : debuggerlaw16_known.f k = some r) : r = true := by
  have h1 : debuggerlaw16_known.f 200 = some true := by decide +kernel
  have h2 := at_rounds (fun k => debuggerlaw16_known.mono k) (Nat.le_max_left k 200) h
  have h3 := at_rounds (fun k => debuggerlaw16_known.mono k) (Nat.le_max_right k 200) h1
  rw [h3] at h2
  exact (Option.some.inj h2).symm
set_option maxHeartbeats 8000000 in
set_option maxRecDepth 100000 in
theorem debuggerlaw16_known.calls (k : Nat)  (r : Bool) (w : World) (hGl : Aside0 (Glob w)) (h : debuggerlaw16_known.f k  = some r) :
    Calls Tryd.prog 16 #[] w fun e w' => e = .returned (.bool r) ∧ Below w.heap.size w w' := by
  have hu23 := Tryd.underlying23
  have hu48 := Tryd.underlying48
  have HT0 := Aside0.mk (debuggerlaw16_known.only k r h)
  have HB := Aside0.mk (Below.refl w.heap.size w)
  have H : ((isa_Encode.f k 3 0 0 0 7).bind fun bt164 => ((isa_Encode.f k 24 0 0 0 0).bind fun bt166 => ((isa_Run.f k (([bt164.1, bt166.1] : List Int)) 40 0 ([] : List Int) 9).bind fun bt171 => (if bt164.2 = 0 then (if bt166.2 = 0 then (if bt171.1 = 0 then (if bt171.2.2.1 = 7 then ((isa_Text.f 5 1 2 0 0).bind fun t178 => (some (t178.toList == ([109, 111, 118, 101, 32, 114, 49, 32, 114, 50] : List UInt8)))) else (some false)) else (some false)) else (some false)) else (some false))))) = some r := h
  clear h
  replace H := Option.bind_eq_some_iff.mp H
  obtain ⟨⟨t164, t165⟩, A10, H⟩ := H
  replace H : ((isa_Encode.f k 24 0 0 0 0).bind fun bt166 => ((isa_Run.f k (([t164, bt166.1] : List Int)) 40 0 ([] : List Int) 9).bind fun bt171 => (if t165 = 0 then (if bt166.2 = 0 then (if bt171.1 = 0 then (if bt171.2.2.1 = 7 then ((isa_Text.f 5 1 2 0 0).bind fun t178 => (some (t178.toList == ([109, 111, 118, 101, 32, 114, 49, 32, 114, 50] : List UInt8)))) else (some false)) else (some false)) else (some false)) else (some false)))) = some r := H
  have A1 := Aside0.mk A10
  clear A10
  replace H := Option.bind_eq_some_iff.mp H
  obtain ⟨⟨t166, t167⟩, A20, H⟩ := H
  replace H : ((isa_Run.f k (([t164, t166] : List Int)) 40 0 ([] : List Int) 9).bind fun bt171 => (if t165 = 0 then (if t167 = 0 then (if bt171.1 = 0 then (if bt171.2.2.1 = 7 then ((isa_Text.f 5 1 2 0 0).bind fun t178 => (some (t178.toList == ([109, 111, 118, 101, 32, 114, 49, 32, 114, 50] : List UInt8)))) else (some false)) else (some false)) else (some false)) else (some false))) = some r := H
  have A2 := Aside0.mk A20
  clear A20
  obtain ⟨y168, hy168⟩ : ∃ y_ : List Int, y_ = (([t164, t166] : List Int)) := ⟨_, rfl⟩
  replace H : ((isa_Run.f k y168 40 0 ([] : List Int) 9).bind fun bt171 => (if t165 = 0 then (if t167 = 0 then (if bt171.1 = 0 then (if bt171.2.2.1 = 7 then ((isa_Text.f 5 1 2 0 0).bind fun t178 => (some (t178.toList == ([109, 111, 118, 101, 32, 114, 49, 32, 114, 50] : List UInt8)))) else (some false)) else (some false)) else (some false)) else (some false))) = some r := by first | (rw [hy168]; with_reducible exact H) | (have H2_ := (Option.bind_some _ _).symm.trans H; rw [hy168]; with_reducible exact H2_) | (have H2_ := (Option.bind_some _ _).symm.trans H; with_reducible exact H2_) | with_reducible exact H | (rw [hy168]; exact H) | exact H
  have Ny168 := Aside0.mk hy168
  clear hy168
  replace H := Option.bind_eq_some_iff.mp H
  obtain ⟨⟨t171, t172, t173, t174⟩, A30, H⟩ := H
  replace H : (if t165 = 0 then (if t167 = 0 then (if t171 = 0 then (if t173 = 7 then ((isa_Text.f 5 1 2 0 0).bind fun t178 => (some (t178.toList == ([109, 111, 118, 101, 32, 114, 49, 32, 114, 50] : List UInt8)))) else (some false)) else (some false)) else (some false)) else (some false)) = some r := H
  have A3 := Aside0.mk A30
  clear A30
  by_cases c4 : t165 = 0
  · rw [if_pos c4] at H
    have c4b0 : (t165 == 0) = true := beq_iff_eq.mpr c4
    have c4b1 : (t165 != 0) = false := bne_eq_false_iff_eq.mpr c4
    clear c4
    by_cases c5 : t167 = 0
    · rw [if_pos c5] at H
      have c5b0 : (t167 == 0) = true := beq_iff_eq.mpr c5
      have c5b1 : (t167 != 0) = false := bne_eq_false_iff_eq.mpr c5
      clear c5
      by_cases c6 : t171 = 0
      · rw [if_pos c6] at H
        have c6b0 : (t171 == 0) = true := beq_iff_eq.mpr c6
        have c6b1 : (t171 != 0) = false := bne_eq_false_iff_eq.mpr c6
        clear c6
        by_cases c7 : t173 = 7
        · rw [if_pos c7] at H
          have c7b0 : (t173 == 7) = true := beq_iff_eq.mpr c7
          have c7b1 : (t173 != 7) = false := bne_eq_false_iff_eq.mpr c7
          clear c7
          replace H := Option.bind_eq_some_iff.mp H
          obtain ⟨t178, A80, H⟩ := H
          replace H : (some (t178.toList == ([109, 111, 118, 101, 32, 114, 49, 32, 114, 50] : List UInt8))) = some r := H
          have A8 := Aside0.mk A80
          clear A80
          obtain rfl := Option.some.inj H
          go_enter Tryd.func16, Tryd.ntmps16
          go_wp2_with (first | ((with_reducible refine gate_callee (f := 10) rfl ?_); refine goesL_ (some 8) rfl rfl Tryd.func10 (by kernel_rfl) rfl #[.agg #[.int .i64 3, .int .i64 0, .int .i64 0, .int .i64 0, .int .i64 7]] rfl (by (try simp only [List.map_toArray, List.map_cons, List.map_nil]); first | done | rfl | (simp only [List.length_drop, List.length_take]; rfl)) ?_; (with_reducible refine (isa_Encode.calls k 3 0 0 0 7 t164 t165 _ A1.out).mono ?_); rintro e w9 ⟨rfl, hb⟩; refine ⟨_, rfl, ?_⟩; have n0_ := Aside0.mk (below_step (by repeat (first | (with_reducible first | exact HB.out | apply below_alloc | apply pw_below_drewN | apply below_drew1) | exact HB.out)) hb); clear HB; have HB := n0_; clear n0_; (try clear hb); (try clear hb2); (try clear hk); (try clear hi)) | ((with_reducible refine gate_callee (f := 10) rfl ?_); refine goesL_ (some 13) rfl rfl Tryd.func10 (by kernel_rfl) rfl #[.agg #[.int .i64 24, .int .i64 0, .int .i64 0, .int .i64 0, .int .i64 0]] rfl (by (try simp only [List.map_toArray, List.map_cons, List.map_nil]); first | done | rfl | (simp only [List.length_drop, List.length_take]; rfl)) ?_; (with_reducible refine (isa_Encode.calls k 24 0 0 0 0 t166 t167 _ A2.out).mono ?_); rintro e w10 ⟨rfl, hb⟩; refine ⟨_, rfl, ?_⟩; have n0_ := Aside0.mk (below_step (by repeat (first | (with_reducible first | exact HB.out | apply below_alloc | apply pw_below_drewN | apply below_drew1) | exact HB.out)) hb); clear HB; have HB := n0_; clear n0_; (try clear hb); (try clear hb2); (try clear hk); (try clear hi)) | ((with_reducible refine gate_dst (N := 18) rfl ?_); refine Kd.R_lit (Kd.int .i64) _ 3 ?hg (N := 18) ?hd (xs := ([t164, t166] : List Int)) (inner := [.int .i64 t164, .int .i64 t166]) (ok := fun _ => True) (okp := fun _ => True) ?hr ?hp (fun _ hk => hk) trivial (Below.refl _ _) (Nat.le_refl _) (by simp) ?_; (case hd => rfl); (case hg => rfl); (case hr => first | (go_simp; done) | (go_simp; rfl)); (case hp => exact (Reps.one (show Kd.M (Kd.int .i64) _ _ _ t164 [.int .i64 t164] from rfl) (Reps.one (show Kd.M (Kd.int .i64) _ _ _ t166 [.int .i64 t166] from rfl) (Reps.none _ _)))); intro v169 w11 ho12 hb hg_ hnew_; clear hg_ hnew_; (first | rw [← Ny168.out] at ho12 | (simp only [Int.reduceToNat] at ho12; rw [← Ny168.out] at ho12)); have n0_ := Aside0.mk (Kd.R_lower ho12 (below_size (by repeat (first | (with_reducible first | exact HB.out | apply below_alloc | apply pw_below_drewN | apply below_drew1) | exact HB.out)))); have n1_ := Aside0.mk (below_step (by repeat (first | (with_reducible first | exact HB.out | apply below_alloc | apply pw_below_drewN | apply below_drew1) | exact HB.out)) hb); clear HB; have HO170 := n0_; have HB := n1_; clear n0_ n1_; clear hb ho12; obtain ⟨Ao13, co13, eo13⟩ := Kd.R_slice HO170.out; subst eo13) | ((with_reducible refine gate_callee (f := 24) rfl ?_); refine goesL_ (some 19) rfl rfl Tryd.func24 (by kernel_rfl) rfl #[.slice Ao13 y168.length co13, .int .i64 40, .int .i64 0, .slice none 0 0, .int .i64 9] rfl (by (try simp only [List.map_toArray, List.map_cons, List.map_nil]); first | done | rfl | (simp only [List.length_drop, List.length_take]; rfl)) ?_; (refine (isa_Run.calls k _ _ y168 40 0 _ _ ([] : List Int) 9 t171 t172 t173 t174 _ ⟨Glob.below hGl.out (by repeat (first | (with_reducible first | exact HB.out | apply below_alloc | apply pw_below_drewN | apply below_drew1) | exact HB.out))⟩ ?side1 ?side2 ?side3 ?side4 A3.out).mono ?_); (case side1 => repeat (first | exact (Kd.R_reads' HO170.out).2.2 | (with_reducible refine Kd.C_alloc ?_ _) | (with_reducible refine Kd.C_drewN ?_ _) | (with_reducible refine Kd.C_drew ?_))); (case side2 => exact (Kd.R_reads' HO170.out).2.1); (case side3 => exact Kd.C_nil _ _); (case side4 => exact Nat.le_refl _); rintro e w14 ⟨v175, rfl, ho0, hb⟩; refine ⟨_, rfl, ?_⟩; have n0_ := Aside0.mk (Kd.R_elder' (by (with_reducible repeat (first | apply Kd.R_alloc | apply Kd.R_drewN | apply Kd.R_drew)); exact HO170.out) (by first | exact Kd.R_base ho0 | exact Kd.S_base ho0 | exact Kd.R_base ho0 | exact Kd.N_base ho0) hb); have n1_ := Aside0.mk (Kd.R_lower (Kd.R_new' ho0 (Kd.R_lt (by (with_reducible repeat (first | apply Kd.R_alloc | apply Kd.R_drewN | apply Kd.R_drew)); exact HO170.out))) (below_size (by repeat (first | (with_reducible first | exact HB.out | apply below_alloc | apply pw_below_drewN | apply below_drew1) | exact HB.out)))); have n2_ := Aside0.mk (below_step (by repeat (first | (with_reducible first | exact HB.out | apply below_alloc | apply pw_below_drewN | apply below_drew1) | exact HB.out)) hb); clear HO170; clear HB; have HO170 := n0_; have HO176 := n1_; have HB := n2_; clear n0_ n1_ n2_; (try clear hb); (try clear hb2); (try clear hk); (try clear hi); (try clear ho0)) | ((with_reducible refine gate_dst (N := 5) rfl ?_); refine box_event ?hg (N := 5) ?hd (cs := #[.int .i64 0, .bool false, .int .i64 0, .slice none 0 0]) (t := 48) ?hr ?_; (case hd => rfl); (case hg => rfl); (case hr => first | (go_simp; done) | (go_simp; rfl)); intro gb177 hg w15 hbox hb; have n0_ := Aside0.mk (Kd.R_below (by (with_reducible repeat (first | apply Kd.R_alloc | apply Kd.R_drewN | apply Kd.R_drew)); exact HO170.out) hb); have n1_ := Aside0.mk (Kd.R_below (by (with_reducible repeat (first | apply Kd.R_alloc | apply Kd.R_drewN | apply Kd.R_drew)); exact HO176.out) hb); have n2_ := Aside0.mk (below_step (by repeat (first | (with_reducible first | exact HB.out | apply below_alloc | apply pw_below_drewN | apply below_drew1) | exact HB.out)) hb); have n3_ := Aside0.mk (hbox); have n4_ := Aside0.mk ((by rw [hg]; exact (below_size (by repeat (first | (with_reducible first | exact HB.out | apply below_alloc | apply pw_below_drewN | apply below_drew1) | exact HB.out))) : w.heap.size ≤ gb177)); have n5_ := Aside0.mk ((by rw [hg]; exact (below_size (by repeat (first | (with_reducible first | exact HB.out | apply below_alloc | apply pw_below_drewN | apply below_drew1) | exact HB.out))) : w.heap.size ≤ gb177)); clear HO170; clear HO176; clear HB; have HO170 := n0_; have HO176 := n1_; have HB := n2_; have BK177 := n3_; have GW177 := n4_; have GE177 := n5_; clear n0_ n1_ n2_ n3_ n4_ n5_; clear hb hbox hg; have hcz16_0 : w15.cell? ⟨gb177, 0, none⟩ = some (.int .i64 0) := (blk_cell BK177.out 0).trans rfl; have hcz16_1 : w15.cell? ⟨gb177, 1, none⟩ = some (.bool false) := (blk_cell BK177.out 1).trans rfl; have hcz16_2 : w15.cell? ⟨gb177, 2, none⟩ = some (.int .i64 0) := (blk_cell BK177.out 2).trans rfl; have hcz16_3 : w15.cell? ⟨gb177, 3, none⟩ = some (.slice none 0 0) := (blk_cell BK177.out 3).trans rfl; have hfz16_0 := blk_frozen BK177.out 0; have hfz16_1 := blk_frozen BK177.out 1; have hfz16_2 := blk_frozen BK177.out 2; have hfz16_3 := blk_frozen BK177.out 3; obtain ⟨Ao17, co17, eo17⟩ := Kd.R_slice HO176.out; subst eo17) | (go_at_call 14; (with_reducible refine (isa_Text.calls 5 1 2 0 0 t178 _ ⟨Glob.below hGl.out (by repeat (first | (with_reducible first | exact HB.out | apply below_alloc | apply pw_below_drewN | apply below_drew1 | refine below_set ?_ GE177.out) | exact HB.out))⟩ A8.out).mono ?_); rintro e w18 ⟨rfl, hb⟩; have n0_ := Aside0.mk (Kd.R_below (by (with_reducible repeat (first | apply Kd.R_alloc | apply Kd.R_drewN | apply Kd.R_drew)); exact (Kd.R_mono (Kd.R_far (p := ⟨gb177, 3, none⟩) (Kd.R_far (p := ⟨gb177, 2, none⟩) (Kd.R_far (p := ⟨gb177, 1, none⟩) (Kd.R_far (p := ⟨gb177, 0, none⟩) (Kd.R_types HO170.out BK177.out (by decide)) (fun _ hk => hk.2) (.int .i64 t171)) (fun _ hk => hk.2) (.bool t172)) (fun _ hk => hk.2) (.int .i64 t173)) (fun _ hk => hk.2) (.slice Ao17 t174.length co17)) (fun _ h_ => h_.1))) hb); have n1_ := Aside0.mk (Kd.R_below (by (with_reducible repeat (first | apply Kd.R_alloc | apply Kd.R_drewN | apply Kd.R_drew)); exact (Kd.R_mono (Kd.R_far (p := ⟨gb177, 3, none⟩) (Kd.R_far (p := ⟨gb177, 2, none⟩) (Kd.R_far (p := ⟨gb177, 1, none⟩) (Kd.R_far (p := ⟨gb177, 0, none⟩) (Kd.R_types HO176.out BK177.out (by decide)) (fun _ hk => hk.2) (.int .i64 t171)) (fun _ hk => hk.2) (.bool t172)) (fun _ hk => hk.2) (.int .i64 t173)) (fun _ hk => hk.2) (.slice Ao17 t174.length co17)) (fun _ h_ => h_.1))) hb); have n2_ := Aside0.mk (blk_below (g := gb177) (o := .cells #[.int .i64 t171, .bool t172, .int .i64 t173, .slice Ao17 t174.length co17] 48 (0, 0)) (by (with_reducible repeat (first | refine blk_drewN ?_ _ | refine blk_drew ?_ | refine blk_alloc ?_ _)); refine blk_put (cs := #[.int .i64 t171, .bool t172, .int .i64 t173, .slice none 0 0]) ?_ 3 _ rfl; (with_reducible repeat (first | refine blk_drewN ?_ _ | refine blk_drew ?_ | refine blk_alloc ?_ _)); refine blk_put (cs := #[.int .i64 t171, .bool t172, .int .i64 0, .slice none 0 0]) ?_ 2 _ rfl; (with_reducible repeat (first | refine blk_drewN ?_ _ | refine blk_drew ?_ | refine blk_alloc ?_ _)); refine blk_put (cs := #[.int .i64 t171, .bool false, .int .i64 0, .slice none 0 0]) ?_ 1 _ rfl; (with_reducible repeat (first | refine blk_drewN ?_ _ | refine blk_drew ?_ | refine blk_alloc ?_ _)); refine blk_put (cs := #[.int .i64 0, .bool false, .int .i64 0, .slice none 0 0]) ?_ 0 _ rfl; (with_reducible repeat (first | refine blk_drewN ?_ _ | refine blk_drew ?_ | refine blk_alloc ?_ _)); exact BK177.out) hb); have n3_ := Aside0.mk (below_step (by repeat (first | (with_reducible first | exact HB.out | apply below_alloc | apply pw_below_drewN | apply below_drew1 | refine below_set ?_ GE177.out) | exact HB.out)) hb); clear HO170; clear HO176; clear BK177; clear HB; have HO170 := n0_; have HO176 := n1_; have BK177 := n2_; have HB := n3_; clear n0_ n1_ n2_ n3_; (try clear hb); (try clear hb2); (try clear hk); (try clear hi)))
          go_ret
          exact ⟨by first | rfl | (simp [errW_none, errW_some] <;> rfl) | (simp [*, errW_none, errW_some] <;> rfl), by repeat (first | (with_reducible first | exact HB.out | apply below_alloc | apply pw_below_drewN | apply below_drew1 | refine below_set ?_ GE177.out) | exact HB.out)⟩
        · rw [if_neg c7] at H
          have c7b0 : (t173 == 7) = false := beq_eq_false_iff_ne.mpr c7
          have c7b1 : (t173 != 7) = true := bne_iff_ne.mpr c7
          exact absurd (Option.some.inj (H.trans (congrArg some HT0.out))) (by simp)
      · rw [if_neg c6] at H
        have c6b0 : (t171 == 0) = false := beq_eq_false_iff_ne.mpr c6
        have c6b1 : (t171 != 0) = true := bne_iff_ne.mpr c6
        exact absurd (Option.some.inj (H.trans (congrArg some HT0.out))) (by simp)
    · rw [if_neg c5] at H
      have c5b0 : (t167 == 0) = false := beq_eq_false_iff_ne.mpr c5
      have c5b1 : (t167 != 0) = true := bne_iff_ne.mpr c5
      exact absurd (Option.some.inj (H.trans (congrArg some HT0.out))) (by simp)
  · rw [if_neg c4] at H
    have c4b0 : (t165 == 0) = false := beq_eq_false_iff_ne.mpr c4
    have c4b1 : (t165 != 0) = true := bne_iff_ne.mpr c4
    exact absurd (Option.some.inj (H.trans (congrArg some HT0.out))) (by simp)

end Go.Proofs.YtoakfejpmlgbcaaDoor.PIsa
