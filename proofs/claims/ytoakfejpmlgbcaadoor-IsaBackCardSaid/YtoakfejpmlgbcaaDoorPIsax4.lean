-- By wip/xprint.py (a driver of this session's over the kit's print), for this claim.
import Derived.Test.YtoakfejpmlgbcaaDoorPIsax0
import Derived.Test.YtoakfejpmlgbcaaDoorPIsax2
import Derived.Test.YtoakfejpmlgbcaaDoorPIsax3
namespace Go.Proofs.YtoakfejpmlgbcaaDoor.PIsa
open Go.RowKit Go.Proofs.YtoakfejpmlgbcaaDoorW.PrintWords Go.Proofs.YtoakfejpmlgbcaaDoorW.PrintLast Go.Proofs.YtoakfejpmlgbcaaDoorW.PrintMore
attribute [local go_sem] max2_int min2_int max_two min_two max_three min_three max_four min_four   -- for this text's walks alone
set_option linter.unusedVariables false
set_option linter.unusedSimpArgs false

/-! ### isa_Encode: function 10 -/
def isa_Encode.j0 : Nat → Bool → Int → Int → Int → Int → Int → Option (Int × Int)
  | 0, _, _, _, _, _, _ => none
  | k + 1, x4, x102000, x102001, x102002, x102003, x102004 => if x4 = true then (some (0, 2)) else ((isa_known.f x102000).bind fun t105 => (if t105 = true then (some (Go.bits .or .i64 (Go.bits .or .i64 (Go.bits .or .i64 (Go.bits .or .i64 x102000 (wrap64 (x102001 * 256))) (wrap64 (x102002 * 65536))) (wrap64 (x102003 * 16777216))) (wrap64 (x102004 * 4294967296)), 0)) else (some (0, 4))))
def isa_Encode.f (k : Nat) (a0_0 : Int) (a0_1 : Int) (a0_2 : Int) (a0_3 : Int) (a0_4 : Int) : Option (Int × Int) := if a0_4 = (wrap64 (wrap32 (a0_4))) then ((isa_register.f a0_1).bind fun t102 => (if t102 = true then ((isa_register.f a0_2).bind fun t103 => (if t103 = true then ((isa_register.f a0_3).bind fun t104 => (isa_Encode.j0 k (!t104) a0_0 a0_1 a0_2 a0_3 a0_4)) else (isa_Encode.j0 k true a0_0 a0_1 a0_2 a0_3 a0_4))) else (isa_Encode.j0 k true a0_0 a0_1 a0_2 a0_3 a0_4))) else (isa_Encode.j0 k true a0_0 a0_1 a0_2 a0_3 a0_4)
theorem isa_Encode.mono_l : ∀ k, (∀ y0 y1 y2 y3 y4 y5, LeO (isa_Encode.j0 k y0 y1 y2 y3 y4 y5) (isa_Encode.j0 (k + 1) y0 y1 y2 y3 y4 y5))
  | 0 => fun _ _ _ _ _ _ r h => by simp [isa_Encode.j0] at h
  | k + 1 => by
    have ih0 := isa_Encode.mono_l k
    · intro y0 y1 y2 y3 y4 y5
      unfold isa_Encode.j0
      repeat' first
      | (with_reducible exact ih0 _ _ _ _ _ _)
      | (with_reducible exact LeO.refl _)
      | (with_reducible exact LeO.none _)
      | (with_reducible refine LeO.ite ?_ ?_)
      | (with_reducible refine LeO.bind ?_ (fun _ => ?_))
      | exact ih0 _ _ _ _ _ _
      | exact LeO.none _
      | refine LeO.ite ?_ ?_
      | refine LeO.bind ?_ (fun _ => ?_)
theorem isa_Encode.mono : ∀ a0 a1 a2 a3 a4 k, LeO (isa_Encode.f k a0 a1 a2 a3 a4) (isa_Encode.f (k + 1) a0 a1 a2 a3 a4) := by
  intro a0 a1 a2 a3 a4 k
  have ih0 := isa_Encode.mono_l k
  unfold isa_Encode.f
  repeat' first
      | (with_reducible exact ih0 _ _ _ _ _ _)
      | (with_reducible exact LeO.refl _)
      | (with_reducible exact LeO.none _)
      | (with_reducible refine LeO.ite ?_ ?_)
      | (with_reducible refine LeO.bind ?_ (fun _ => ?_))
      | exact ih0 _ _ _ _ _ _
      | exact LeO.none _
      | refine LeO.ite ?_ ?_
      | refine LeO.bind ?_ (fun _ => ?_)
set_option maxHeartbeats 8000000 in
set_option maxRecDepth 100000 in
theorem isa_Encode.calls (k : Nat) (a0_0 : Int) (a0_1 : Int) (a0_2 : Int) (a0_3 : Int) (a0_4 : Int) (r1 : Int) (r2 : Int) (w : World) (h : isa_Encode.f k a0_0 a0_1 a0_2 a0_3 a0_4 = some (r1, r2)) :
    Calls Tryd.prog 10 #[.agg #[.int .i64 a0_0, .int .i64 a0_1, .int .i64 a0_2, .int .i64 a0_3, .int .i64 a0_4]] w fun e w' => e = .returned (.tuple #[.int .i64 r1, .int .i64 r2]) ∧ Below w.heap.size w w' := by
  have hu23 := Tryd.underlying23
  have HB := Aside0.mk (Below.refl w.heap.size w)
  have H : (if a0_4 = (wrap64 (wrap32 (a0_4))) then ((isa_register.f a0_1).bind fun t102 => (if t102 = true then ((isa_register.f a0_2).bind fun t103 => (if t103 = true then ((isa_register.f a0_3).bind fun t104 => (isa_Encode.j0 k (!t104) a0_0 a0_1 a0_2 a0_3 a0_4)) else (isa_Encode.j0 k true a0_0 a0_1 a0_2 a0_3 a0_4))) else (isa_Encode.j0 k true a0_0 a0_1 a0_2 a0_3 a0_4))) else (isa_Encode.j0 k true a0_0 a0_1 a0_2 a0_3 a0_4)) = some (r1, r2) := h
  clear h
  have HC2 := Aside0.mk H
  clear H
  go_enter Tryd.func10, Tryd.ntmps10
  go_upto_region 1 with (first | ((with_reducible refine gate_dst (N := 1) rfl ?_); refine box_event ?hg (N := 1) ?hd (cs := #[.int .i64 a0_0, .int .i64 a0_1, .int .i64 a0_2, .int .i64 a0_3, .int .i64 a0_4]) (t := 23) ?hr ?_; (case hd => rfl); (case hg => rfl); (case hr => first | (go_simp; done) | (go_simp; rfl)); intro gb101 hg w3 hbox hb; have n0_ := Aside0.mk (below_step (by repeat (first | (with_reducible first | exact HB.out | apply below_alloc | apply pw_below_drewN | apply below_drew1) | exact HB.out)) hb); have n1_ := Aside0.mk (hbox); have n2_ := Aside0.mk ((by rw [hg]; exact (below_size (by repeat (first | (with_reducible first | exact HB.out | apply below_alloc | apply pw_below_drewN | apply below_drew1) | exact HB.out))) : w.heap.size ≤ gb101)); have n3_ := Aside0.mk ((by rw [hg]; exact (below_size (by repeat (first | (with_reducible first | exact HB.out | apply below_alloc | apply pw_below_drewN | apply below_drew1) | exact HB.out))) : w.heap.size ≤ gb101)); clear HB; have HB := n0_; have BK101 := n1_; have GW101 := n2_; have GE101 := n3_; clear n0_ n1_ n2_ n3_; clear hb hbox hg))
  (try simp only [Act.put, List.setIfInBounds_toArray, List.set_cons_zero, List.set_cons_succ])
  go_cut [4] (fun v4 wc => ∃ (kq : Nat) (x4_1 : Bool), v4 = .bool x4_1 ∧ Aside0 (isa_Encode.j0 kq x4_1 a0_0 a0_1 a0_2 a0_3 a0_4 = some (r1, r2)) ∧ Aside0 (kq ≤ k) ∧ Aside0 (wc.heap[gb101]? = some (.cells #[.int .i64 a0_0, .int .i64 a0_1, .int .i64 a0_2, .int .i64 a0_3, .int .i64 a0_4] 23 (0, 0))) ∧ Aside0 (Below w.heap.size w wc))
  case first =>
    have H := HC2.out
    clear HC2
    by_cases c4 : a0_4 = (wrap64 (wrap32 (a0_4)))
    · rw [if_pos c4] at H
      have c4b0 : (a0_4 == (wrap64 (wrap32 (a0_4)))) = true := beq_iff_eq.mpr c4
      have c4b1 : (a0_4 != (wrap64 (wrap32 (a0_4)))) = false := bne_eq_false_iff_eq.mpr c4
      clear c4
      (first | rw [c4b0] | (simp only [i64_w, i32_w]; rw [c4b0]) | skip)
      replace H := Option.bind_eq_some_iff.mp H
      obtain ⟨t102, A50, H⟩ := H
      replace H : (if t102 = true then ((isa_register.f a0_2).bind fun t103 => (if t103 = true then ((isa_register.f a0_3).bind fun t104 => (isa_Encode.j0 k (!t104) a0_0 a0_1 a0_2 a0_3 a0_4)) else (isa_Encode.j0 k true a0_0 a0_1 a0_2 a0_3 a0_4))) else (isa_Encode.j0 k true a0_0 a0_1 a0_2 a0_3 a0_4)) = some (r1, r2) := H
      have A5 := Aside0.mk A50
      clear A50
      by_cases c6 : t102 = true
      · subst c6
        have H1 : ((isa_register.f a0_2).bind fun t103 => (if t103 = true then ((isa_register.f a0_3).bind fun t104 => (isa_Encode.j0 k (!t104) a0_0 a0_1 a0_2 a0_3 a0_4)) else (isa_Encode.j0 k true a0_0 a0_1 a0_2 a0_3 a0_4))) = some (r1, r2) := by rw [if_pos rfl] at H; exact H
        clear H
        have H := H1
        clear H1
        replace H := Option.bind_eq_some_iff.mp H
        obtain ⟨t103, A70, H⟩ := H
        replace H : (if t103 = true then ((isa_register.f a0_3).bind fun t104 => (isa_Encode.j0 k (!t104) a0_0 a0_1 a0_2 a0_3 a0_4)) else (isa_Encode.j0 k true a0_0 a0_1 a0_2 a0_3 a0_4)) = some (r1, r2) := H
        have A7 := Aside0.mk A70
        clear A70
        by_cases c8 : t103 = true
        · subst c8
          have H1 : ((isa_register.f a0_3).bind fun t104 => (isa_Encode.j0 k (!t104) a0_0 a0_1 a0_2 a0_3 a0_4)) = some (r1, r2) := by rw [if_pos rfl] at H; exact H
          clear H
          have H := H1
          clear H1
          replace H := Option.bind_eq_some_iff.mp H
          obtain ⟨t104, A90, H⟩ := H
          replace H : (isa_Encode.j0 k (!t104) a0_0 a0_1 a0_2 a0_3 a0_4) = some (r1, r2) := H
          have A9 := Aside0.mk A90
          clear A90
          have H' := Aside0.mk H
          clear H
          have hcz10_0 : w3.cell? ⟨gb101, 0, none⟩ = some (.int .i64 a0_0) := (blk_cell BK101.out 0).trans rfl
          have hcz10_1 : w3.cell? ⟨gb101, 1, none⟩ = some (.int .i64 a0_1) := (blk_cell BK101.out 1).trans rfl
          have hcz10_2 : w3.cell? ⟨gb101, 2, none⟩ = some (.int .i64 a0_2) := (blk_cell BK101.out 2).trans rfl
          have hcz10_3 : w3.cell? ⟨gb101, 3, none⟩ = some (.int .i64 a0_3) := (blk_cell BK101.out 3).trans rfl
          have hcz10_4 : w3.cell? ⟨gb101, 4, none⟩ = some (.int .i64 a0_4) := (blk_cell BK101.out 4).trans rfl
          have hfz10_0 := blk_frozen BK101.out 0
          have hfz10_1 := blk_frozen BK101.out 1
          have hfz10_2 := blk_frozen BK101.out 2
          have hfz10_3 := blk_frozen BK101.out 3
          have hfz10_4 := blk_frozen BK101.out 4
          go_wp2_with (first | (go_at_call 29; (with_reducible refine (isa_register.calls a0_1 true _ A5.out).mono ?_); rintro e w' ⟨rfl, ⟨nd, rfl⟩⟩) | (go_at_call 29; (with_reducible refine (isa_register.calls a0_2 true _ A7.out).mono ?_); rintro e w' ⟨rfl, ⟨nd, rfl⟩⟩) | (go_at_call 29; (with_reducible refine (isa_register.calls a0_3 t104 _ A9.out).mono ?_); rintro e w' ⟨rfl, ⟨nd, rfl⟩⟩))
          go_meet
          case rel => exact ⟨_, (!t104), (by first | rfl | (simp; done) | (simp [*]; done)), H', ⟨by first | omega | exact Nat.le_refl _⟩, ⟨by (with_reducible repeat (first | refine blk_drewN ?_ _ | refine blk_drew ?_ | refine blk_alloc ?_ _)); exact BK101.out⟩, ⟨by repeat (first | (with_reducible first | exact HB.out | apply below_alloc | apply pw_below_drewN | apply below_drew1 | refine below_set ?_ GE101.out) | exact HB.out)⟩⟩
        · replace c8 := Bool.eq_false_iff.mpr c8
          subst c8
          have H1 : (isa_Encode.j0 k true a0_0 a0_1 a0_2 a0_3 a0_4) = some (r1, r2) := by rw [if_neg (show ¬ (false = true) by decide)] at H; exact H
          clear H
          have H := H1
          clear H1
          have H' := Aside0.mk H
          clear H
          have hcz11_0 : w3.cell? ⟨gb101, 0, none⟩ = some (.int .i64 a0_0) := (blk_cell BK101.out 0).trans rfl
          have hcz11_1 : w3.cell? ⟨gb101, 1, none⟩ = some (.int .i64 a0_1) := (blk_cell BK101.out 1).trans rfl
          have hcz11_2 : w3.cell? ⟨gb101, 2, none⟩ = some (.int .i64 a0_2) := (blk_cell BK101.out 2).trans rfl
          have hcz11_3 : w3.cell? ⟨gb101, 3, none⟩ = some (.int .i64 a0_3) := (blk_cell BK101.out 3).trans rfl
          have hcz11_4 : w3.cell? ⟨gb101, 4, none⟩ = some (.int .i64 a0_4) := (blk_cell BK101.out 4).trans rfl
          have hfz11_0 := blk_frozen BK101.out 0
          have hfz11_1 := blk_frozen BK101.out 1
          have hfz11_2 := blk_frozen BK101.out 2
          have hfz11_3 := blk_frozen BK101.out 3
          have hfz11_4 := blk_frozen BK101.out 4
          go_wp2_with (first | (go_at_call 29; (with_reducible refine (isa_register.calls a0_1 true _ A5.out).mono ?_); rintro e w' ⟨rfl, ⟨nd, rfl⟩⟩) | (go_at_call 29; (with_reducible refine (isa_register.calls a0_2 false _ A7.out).mono ?_); rintro e w' ⟨rfl, ⟨nd, rfl⟩⟩))
          go_meet
          case rel => exact ⟨_, (true), (by first | rfl | (simp; done) | (simp [*]; done)), H', ⟨by first | omega | exact Nat.le_refl _⟩, ⟨by (with_reducible repeat (first | refine blk_drewN ?_ _ | refine blk_drew ?_ | refine blk_alloc ?_ _)); exact BK101.out⟩, ⟨by repeat (first | (with_reducible first | exact HB.out | apply below_alloc | apply pw_below_drewN | apply below_drew1 | refine below_set ?_ GE101.out) | exact HB.out)⟩⟩
      · replace c6 := Bool.eq_false_iff.mpr c6
        subst c6
        have H1 : (isa_Encode.j0 k true a0_0 a0_1 a0_2 a0_3 a0_4) = some (r1, r2) := by rw [if_neg (show ¬ (false = true) by decide)] at H; exact H
        clear H
        have H := H1
        clear H1
        have H' := Aside0.mk H
        clear H
        have hcz12_0 : w3.cell? ⟨gb101, 0, none⟩ = some (.int .i64 a0_0) := (blk_cell BK101.out 0).trans rfl
        have hcz12_1 : w3.cell? ⟨gb101, 1, none⟩ = some (.int .i64 a0_1) := (blk_cell BK101.out 1).trans rfl
        have hcz12_2 : w3.cell? ⟨gb101, 2, none⟩ = some (.int .i64 a0_2) := (blk_cell BK101.out 2).trans rfl
        have hcz12_3 : w3.cell? ⟨gb101, 3, none⟩ = some (.int .i64 a0_3) := (blk_cell BK101.out 3).trans rfl
        have hcz12_4 : w3.cell? ⟨gb101, 4, none⟩ = some (.int .i64 a0_4) := (blk_cell BK101.out 4).trans rfl
        have hfz12_0 := blk_frozen BK101.out 0
        have hfz12_1 := blk_frozen BK101.out 1
        have hfz12_2 := blk_frozen BK101.out 2
        have hfz12_3 := blk_frozen BK101.out 3
        have hfz12_4 := blk_frozen BK101.out 4
        go_wp2_with (first | (go_at_call 29; (with_reducible refine (isa_register.calls a0_1 false _ A5.out).mono ?_); rintro e w' ⟨rfl, ⟨nd, rfl⟩⟩))
        go_meet
        case rel => exact ⟨_, (true), (by first | rfl | (simp; done) | (simp [*]; done)), H', ⟨by first | omega | exact Nat.le_refl _⟩, ⟨by (with_reducible repeat (first | refine blk_drewN ?_ _ | refine blk_drew ?_ | refine blk_alloc ?_ _)); exact BK101.out⟩, ⟨by repeat (first | (with_reducible first | exact HB.out | apply below_alloc | apply pw_below_drewN | apply below_drew1 | refine below_set ?_ GE101.out) | exact HB.out)⟩⟩
    · rw [if_neg c4] at H
      have c4b0 : (a0_4 == (wrap64 (wrap32 (a0_4)))) = false := beq_eq_false_iff_ne.mpr c4
      have c4b1 : (a0_4 != (wrap64 (wrap32 (a0_4)))) = true := bne_iff_ne.mpr c4
      (first | rw [c4b0] | (simp only [i64_w, i32_w]; rw [c4b0]) | skip)
      have H' := Aside0.mk H
      clear H
      have hcz13_0 : w3.cell? ⟨gb101, 0, none⟩ = some (.int .i64 a0_0) := (blk_cell BK101.out 0).trans rfl
      have hcz13_1 : w3.cell? ⟨gb101, 1, none⟩ = some (.int .i64 a0_1) := (blk_cell BK101.out 1).trans rfl
      have hcz13_2 : w3.cell? ⟨gb101, 2, none⟩ = some (.int .i64 a0_2) := (blk_cell BK101.out 2).trans rfl
      have hcz13_3 : w3.cell? ⟨gb101, 3, none⟩ = some (.int .i64 a0_3) := (blk_cell BK101.out 3).trans rfl
      have hcz13_4 : w3.cell? ⟨gb101, 4, none⟩ = some (.int .i64 a0_4) := (blk_cell BK101.out 4).trans rfl
      have hfz13_0 := blk_frozen BK101.out 0
      have hfz13_1 := blk_frozen BK101.out 1
      have hfz13_2 := blk_frozen BK101.out 2
      have hfz13_3 := blk_frozen BK101.out 3
      have hfz13_4 := blk_frozen BK101.out 4
      go_wp2
      go_meet
      case rel => exact ⟨_, (true), (by first | rfl | (simp; done) | (simp [*]; done)), H', ⟨by first | omega | exact Nat.le_refl _⟩, ⟨by (with_reducible repeat (first | refine blk_drewN ?_ _ | refine blk_drew ?_ | refine blk_alloc ?_ _)); exact BK101.out⟩, ⟨by repeat (first | (with_reducible first | exact HB.out | apply below_alloc | apply pw_below_drewN | apply below_drew1 | refine below_set ?_ GE101.out) | exact HB.out)⟩⟩
  case rest =>
    clear HC2
    try clear c1
    try clear p2
    try clear p3
    try clear c4
    try clear c4b0
    try clear c4b1
    try clear c6
    try clear p6
    try clear c8
    try clear c10
    try clear hcz10_0
    try clear hcz10_1
    try clear hcz10_2
    try clear hcz10_3
    try clear hcz10_4
    try clear hcz11_0
    try clear hcz11_1
    try clear hcz11_2
    try clear hcz11_3
    try clear hcz11_4
    try clear hcz12_0
    try clear hcz12_1
    try clear hcz12_2
    try clear hcz12_3
    try clear hcz12_4
    try clear hcz13_0
    try clear hcz13_1
    try clear hcz13_2
    try clear hcz13_3
    try clear hcz13_4
    try clear hfz10_0
    try clear hfz10_1
    try clear hfz10_2
    try clear hfz10_3
    try clear hfz10_4
    try clear hfz11_0
    try clear hfz11_1
    try clear hfz11_2
    try clear hfz11_3
    try clear hfz11_4
    try clear hfz12_0
    try clear hfz12_1
    try clear hfz12_2
    try clear hfz12_3
    try clear hfz12_4
    try clear hfz13_0
    try clear hfz13_1
    try clear hfz13_2
    try clear hfz13_3
    try clear hfz13_4
    obtain ⟨kq, x4_1, rfl, HA, HJ1, BK101, HB⟩ := hcut
    cases kq with
    | zero => exact absurd HA.out (by simp [isa_Encode.j0])
    | succ kj1 =>
      have H := HA.out
      clear HA
      simp only [isa_Encode.j0] at H
      by_cases c14 : x4_1 = true
      · subst c14
        have H1 : (some (0, 2)) = some (r1, r2) := by rw [if_pos rfl] at H; exact H
        clear H
        have H := H1
        clear H1
        simp only [Option.some.injEq, Prod.mk.injEq] at H
        obtain ⟨rfl, rfl⟩ := H
        go_wp2
        go_ret2
        exact ⟨by first | rfl | (simp [errW_none, errW_some] <;> rfl) | (simp [*, errW_none, errW_some] <;> rfl), by repeat (first | (with_reducible first | exact HB.out | apply below_alloc | apply pw_below_drewN | apply below_drew1 | refine below_set ?_ GE101.out) | exact HB.out)⟩
      · replace c14 := Bool.eq_false_iff.mpr c14
        subst c14
        have H1 : ((isa_known.f a0_0).bind fun t105 => (if t105 = true then (some (Go.bits .or .i64 (Go.bits .or .i64 (Go.bits .or .i64 (Go.bits .or .i64 a0_0 (wrap64 (a0_1 * 256))) (wrap64 (a0_2 * 65536))) (wrap64 (a0_3 * 16777216))) (wrap64 (a0_4 * 4294967296)), 0)) else (some (0, 4)))) = some (r1, r2) := by rw [if_neg (show ¬ (false = true) by decide)] at H; exact H
        clear H
        have H := H1
        clear H1
        replace H := Option.bind_eq_some_iff.mp H
        obtain ⟨t105, A150, H⟩ := H
        replace H : (if t105 = true then (some (Go.bits .or .i64 (Go.bits .or .i64 (Go.bits .or .i64 (Go.bits .or .i64 a0_0 (wrap64 (a0_1 * 256))) (wrap64 (a0_2 * 65536))) (wrap64 (a0_3 * 16777216))) (wrap64 (a0_4 * 4294967296)), 0)) else (some (0, 4))) = some (r1, r2) := H
        have A15 := Aside0.mk A150
        clear A150
        by_cases c16 : t105 = true
        · subst c16
          have H1 : (some (Go.bits .or .i64 (Go.bits .or .i64 (Go.bits .or .i64 (Go.bits .or .i64 a0_0 (wrap64 (a0_1 * 256))) (wrap64 (a0_2 * 65536))) (wrap64 (a0_3 * 16777216))) (wrap64 (a0_4 * 4294967296)), 0)) = some (r1, r2) := by rw [if_pos rfl] at H; exact H
          clear H
          have H := H1
          clear H1
          simp only [Option.some.injEq, Prod.mk.injEq] at H
          obtain ⟨rfl, rfl⟩ := H
          have hcz17_0 : wc.cell? ⟨gb101, 0, none⟩ = some (.int .i64 a0_0) := (blk_cell BK101.out 0).trans rfl
          have hcz17_1 : wc.cell? ⟨gb101, 1, none⟩ = some (.int .i64 a0_1) := (blk_cell BK101.out 1).trans rfl
          have hcz17_2 : wc.cell? ⟨gb101, 2, none⟩ = some (.int .i64 a0_2) := (blk_cell BK101.out 2).trans rfl
          have hcz17_3 : wc.cell? ⟨gb101, 3, none⟩ = some (.int .i64 a0_3) := (blk_cell BK101.out 3).trans rfl
          have hcz17_4 : wc.cell? ⟨gb101, 4, none⟩ = some (.int .i64 a0_4) := (blk_cell BK101.out 4).trans rfl
          have hfz17_0 := blk_frozen BK101.out 0
          have hfz17_1 := blk_frozen BK101.out 1
          have hfz17_2 := blk_frozen BK101.out 2
          have hfz17_3 := blk_frozen BK101.out 3
          have hfz17_4 := blk_frozen BK101.out 4
          go_wp2_with (first | ((with_reducible refine gate_callee (f := 30) rfl ?_); refine goesL_ (some 33) rfl rfl Tryd.func30 (by kernel_rfl) rfl #[.int .i64 a0_0] rfl (by (try simp only [List.map_toArray, List.map_cons, List.map_nil]); first | done | rfl | (simp only [List.length_drop, List.length_take]; rfl)) ?_; (with_reducible refine (isa_known.calls a0_0 true _ A15.out).mono ?_); rintro e w' ⟨rfl, ⟨nd, rfl⟩⟩; refine ⟨_, rfl, ?_⟩))
          go_ret2
          exact ⟨by first | rfl | (simp [errW_none, errW_some] <;> rfl) | (simp [*, errW_none, errW_some] <;> rfl), by repeat (first | (with_reducible first | exact HB.out | apply below_alloc | apply pw_below_drewN | apply below_drew1 | refine below_set ?_ GE101.out) | exact HB.out)⟩
        · replace c16 := Bool.eq_false_iff.mpr c16
          subst c16
          have H1 : (some (0, 4)) = some (r1, r2) := by rw [if_neg (show ¬ (false = true) by decide)] at H; exact H
          clear H
          have H := H1
          clear H1
          simp only [Option.some.injEq, Prod.mk.injEq] at H
          obtain ⟨rfl, rfl⟩ := H
          have hcz18_0 : wc.cell? ⟨gb101, 0, none⟩ = some (.int .i64 a0_0) := (blk_cell BK101.out 0).trans rfl
          have hcz18_1 : wc.cell? ⟨gb101, 1, none⟩ = some (.int .i64 a0_1) := (blk_cell BK101.out 1).trans rfl
          have hcz18_2 : wc.cell? ⟨gb101, 2, none⟩ = some (.int .i64 a0_2) := (blk_cell BK101.out 2).trans rfl
          have hcz18_3 : wc.cell? ⟨gb101, 3, none⟩ = some (.int .i64 a0_3) := (blk_cell BK101.out 3).trans rfl
          have hcz18_4 : wc.cell? ⟨gb101, 4, none⟩ = some (.int .i64 a0_4) := (blk_cell BK101.out 4).trans rfl
          have hfz18_0 := blk_frozen BK101.out 0
          have hfz18_1 := blk_frozen BK101.out 1
          have hfz18_2 := blk_frozen BK101.out 2
          have hfz18_3 := blk_frozen BK101.out 3
          have hfz18_4 := blk_frozen BK101.out 4
          go_wp2_with (first | ((with_reducible refine gate_callee (f := 30) rfl ?_); refine goesL_ (some 33) rfl rfl Tryd.func30 (by kernel_rfl) rfl #[.int .i64 a0_0] rfl (by (try simp only [List.map_toArray, List.map_cons, List.map_nil]); first | done | rfl | (simp only [List.length_drop, List.length_take]; rfl)) ?_; (with_reducible refine (isa_known.calls a0_0 false _ A15.out).mono ?_); rintro e w' ⟨rfl, ⟨nd, rfl⟩⟩; refine ⟨_, rfl, ?_⟩))
          go_ret2
          exact ⟨by first | rfl | (simp [errW_none, errW_some] <;> rfl) | (simp [*, errW_none, errW_some] <;> rfl), by repeat (first | (with_reducible first | exact HB.out | apply below_alloc | apply pw_below_drewN | apply below_drew1 | refine below_set ?_ GE101.out) | exact HB.out)⟩

end Go.Proofs.YtoakfejpmlgbcaaDoor.PIsa
