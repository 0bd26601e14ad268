-- By wip/xprint.py (a driver of this session's over the kit's print), for this claim.
import Derived.Test.YtoakfejpmlgbcaaDoorPIsax0
import Derived.Test.YtoakfejpmlgbcaaDoorPIsax2
namespace Go.Proofs.YtoakfejpmlgbcaaDoor.PIsa
open Go.RowKit Go.Proofs.YtoakfejpmlgbcaaDoorW.PrintWords Go.Proofs.YtoakfejpmlgbcaaDoorW.PrintLast Go.Proofs.YtoakfejpmlgbcaaDoorW.PrintMore
attribute [local go_sem] max2_int min2_int max_two min_two max_three min_three max_four min_four   -- for this text's walks alone
set_option linter.unusedVariables false
set_option linter.unusedSimpArgs false

/-! ### isa_Reads: function 18, by hand: a processor's registers lie in an array -/
def isa_Reads.f (cs : List Int) (i0 i1 i2 i3 i4 : Int) : Option (Int × Bool) := if i0 = 4 then some (i4, true) else if i0 = 19 then (if 0 ≤ i2 ∧ i2 < 16 then some (wrap64 (cs.getD i2.toNat 0 + i4), true) else some (i4, true)) else if i0 = 24 then some (cs.getD 14 0, true) else some (0, false)
set_option maxHeartbeats 8000000 in
set_option maxRecDepth 100000 in
theorem isa_Reads.calls (cs : List Int) (i0 i1 i2 i3 i4 : Int) (r1 : Int) (r2 : Bool) (w : World) (hc : cs.length = 17) (h : isa_Reads.f cs i0 i1 i2 i3 i4 = some (r1, r2)) :
    Calls Tryd.prog 18 #[.agg (cellsI cs), .agg #[.int .i64 i0, .int .i64 i1, .int .i64 i2, .int .i64 i3, .int .i64 i4]] w fun e w' => e = .returned (.tuple #[.int .i64 r1, .bool r2]) ∧ Below w.heap.size w w' := by
  have HB := Aside0.mk (Below.refl w.heap.size w)
  have hu33 := Tryd.underlying33
  have HC := Aside0.mk hc
  clear hc
  have H := Aside0.mk h
  clear h
  go_enter Tryd.func18, Tryd.ntmps18
  go_upto_region 1 with (first | ((with_reducible refine gate_dst (N := 2) rfl ?_); refine box_event ?hg (N := 2) ?hd (cs := cellsI cs) (t := 35) ?hr ?_; (case hd => rfl); (case hg => rfl); (case hr => first | (go_simp; done) | (go_simp; rfl)); intro gb101 hg w101 hbox hb; have n0_ := Aside0.mk (below_step (by repeat (first | (with_reducible first | exact HB.out | apply below_alloc | apply pw_below_drewN | apply below_drew1) | exact HB.out)) hb); have n1_ := Aside0.mk hbox; have n2_ := Aside0.mk ((by rw [hg]; exact (below_size (by repeat (first | (with_reducible first | exact HB.out | apply below_alloc | apply pw_below_drewN | apply below_drew1) | exact HB.out)))) : w.heap.size ≤ gb101); clear HB; have HB := n0_; have BK101 := n1_; have GE101 := n2_; clear n0_ n1_ n2_; clear hb hbox hg) | ((with_reducible refine gate_dst (N := 3) rfl ?_); refine box_event ?hg (N := 3) ?hd (cs := #[.int .i64 i0, .int .i64 i1, .int .i64 i2, .int .i64 i3, .int .i64 i4]) (t := 23) ?hr ?_; (case hd => rfl); (case hg => rfl); (case hr => first | (go_simp; done) | (go_simp; rfl)); intro gb102 hg w102 hbox hb; have n0_ := Aside0.mk (below_step (by repeat (first | (with_reducible first | exact HB.out | apply below_alloc | apply pw_below_drewN | apply below_drew1) | exact HB.out)) hb); have n1_ := Aside0.mk hbox; have n2_ := Aside0.mk ((by rw [hg]; exact (below_size (by repeat (first | (with_reducible first | exact HB.out | apply below_alloc | apply pw_below_drewN | apply below_drew1) | exact HB.out)))) : w.heap.size ≤ gb102); have m101_ := Aside0.mk (blk_below (by (with_reducible repeat (first | exact BK101.out | refine blk_drewN ?_ _ | refine blk_drew ?_ | refine blk_alloc ?_ _)); try exact BK101.out) hb); have k101_ := Aside0.mk (show gb101 ≠ gb102 from by rw [hg]; exact Nat.ne_of_lt (blk_lt (by (with_reducible repeat (first | exact BK101.out | refine blk_drewN ?_ _ | refine blk_drew ?_ | refine blk_alloc ?_ _)); try exact BK101.out))); clear HB; have HB := n0_; have BK102 := n1_; have GE102 := n2_; clear n0_ n1_ n2_; clear BK101; have BK101 := m101_; have NE101_102 := k101_; clear m101_ k101_; clear hb hbox hg))
  have hca_0 : w102.cell? ⟨gb102, 0, none⟩ = some (.int .i64 i0) := (blk_cell BK102.out 0).trans (rfl)
  have hca_1 : w102.cell? ⟨gb102, 1, none⟩ = some (.int .i64 i1) := (blk_cell BK102.out 1).trans (rfl)
  have hca_2 : w102.cell? ⟨gb102, 2, none⟩ = some (.int .i64 i2) := (blk_cell BK102.out 2).trans (rfl)
  have hca_3 : w102.cell? ⟨gb102, 3, none⟩ = some (.int .i64 i3) := (blk_cell BK102.out 3).trans (rfl)
  have hca_4 : w102.cell? ⟨gb102, 4, none⟩ = some (.int .i64 i4) := (blk_cell BK102.out 4).trans (rfl)
  have hfa_0 := blk_frozen BK102.out 0
  have hfa_1 := blk_frozen BK102.out 1
  have hfa_2 := blk_frozen BK102.out 2
  have hfa_3 := blk_frozen BK102.out 3
  have hfa_4 := blk_frozen BK102.out 4
  have h := H.out
  clear H
  unfold isa_Reads.f at h
  by_cases c4 : i0 = 4
  · rw [if_pos c4] at h
    simp only [Option.some.injEq, Prod.mk.injEq] at h
    obtain ⟨rfl, rfl⟩ := h
    subst c4
    go_wp2
    go_ret2
    exact ⟨rfl, by repeat (first | (with_reducible first | exact HB.out | apply below_alloc | apply pw_below_drewN | apply below_drew1) | exact HB.out)⟩
  rw [if_neg c4] at h
  have c4b : (i0 == 4) = false := beq_eq_false_iff_ne.mpr c4
  clear c4
  by_cases c19 : i0 = 19
  · rw [if_pos c19] at h
    subst c19
    clear c4b
    by_cases hb : 0 ≤ i2 ∧ i2 < 16
    · rw [if_pos hb] at h
      simp only [Option.some.injEq, Prod.mk.injEq] at h
      obtain ⟨rfl, rfl⟩ := h
      obtain ⟨hb0, hb1⟩ := hb
      have hx : w102.cell? ⟨gb101, i2.toNat, none⟩ = some (.int .i64 (cs.getD i2.toNat 0)) := (blk_cell BK101.out _).trans (cellsI_get (by rw [HC.out]; omega))
      have hy := blk_frozen BK101.out i2.toNat
      have AR := Aside0.mk (show isa_register.f i2 = some true from by unfold isa_register.f; rw [if_pos hb0, decide_eq_true hb1])
      go_wp2_with (first | (go_at_call 29; (with_reducible refine (isa_register.calls i2 true _ AR.out).mono ?_); rintro e w' ⟨rfl, ⟨nd, rfl⟩⟩))
      repeat (go_quiet (fail); try go_wp2)
      go_ret2
      exact ⟨rfl, by repeat (first | (with_reducible first | exact HB.out | apply below_alloc | apply pw_below_drewN | apply below_drew1) | exact HB.out)⟩
    · rw [if_neg hb] at h
      simp only [Option.some.injEq, Prod.mk.injEq] at h
      obtain ⟨rfl, rfl⟩ := h
      have AR := Aside0.mk (show isa_register.f i2 = some false from by
        unfold isa_register.f
        by_cases hz : i2 ≥ 0
        · rw [if_pos hz, decide_eq_false (fun h1 => hb ⟨hz, h1⟩)]
        · rw [if_neg hz])
      clear hb
      go_wp2_with (first | (go_at_call 29; (with_reducible refine (isa_register.calls i2 false _ AR.out).mono ?_); rintro e w' ⟨rfl, ⟨nd, rfl⟩⟩))
      go_ret2
      exact ⟨rfl, by repeat (first | (with_reducible first | exact HB.out | apply below_alloc | apply pw_below_drewN | apply below_drew1) | exact HB.out)⟩
  rw [if_neg c19] at h
  have c19b : (i0 == 19) = false := beq_eq_false_iff_ne.mpr c19
  clear c19
  by_cases c24 : i0 = 24
  · rw [if_pos c24] at h
    simp only [Option.some.injEq, Prod.mk.injEq] at h
    obtain ⟨rfl, rfl⟩ := h
    subst c24
    clear c4b c19b
    have hx : w102.cell? ⟨gb101, 14, none⟩ = some (.int .i64 (cs.getD 14 0)) := (blk_cell BK101.out _).trans (cellsI_get (by rw [HC.out]; omega))
    have hy := blk_frozen BK101.out 14
    go_wp2
    go_ret2
    exact ⟨rfl, by repeat (first | (with_reducible first | exact HB.out | apply below_alloc | apply pw_below_drewN | apply below_drew1) | exact HB.out)⟩
  rw [if_neg c24] at h
  have c24b : (i0 == 24) = false := beq_eq_false_iff_ne.mpr c24
  clear c24
  simp only [Option.some.injEq, Prod.mk.injEq] at h
  obtain ⟨rfl, rfl⟩ := h
  go_wp2
  go_ret2
  exact ⟨rfl, by repeat (first | (with_reducible first | exact HB.out | apply below_alloc | apply pw_below_drewN | apply below_drew1) | exact HB.out)⟩

end Go.Proofs.YtoakfejpmlgbcaaDoor.PIsa
