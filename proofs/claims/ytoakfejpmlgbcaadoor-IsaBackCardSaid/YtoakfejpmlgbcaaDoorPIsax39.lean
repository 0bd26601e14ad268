-- By wip/xprint.py (a driver of this session's over the kit's print), for this claim.
import Derived.Test.YtoakfejpmlgbcaaDoorPIsax0
import Derived.Test.YtoakfejpmlgbcaaDoorPIsax2
import Derived.Test.YtoakfejpmlgbcaaDoorPIsax3
import Derived.Test.YtoakfejpmlgbcaaDoorPIsax4
import Derived.Test.YtoakfejpmlgbcaaDoorPIsax9
import Derived.Test.YtoakfejpmlgbcaaDoorPIsax37
import Derived.Test.YtoakfejpmlgbcaaDoorPIsax38
namespace Go.Proofs.YtoakfejpmlgbcaaDoor.PIsa
open Go.RowKit Go.Proofs.YtoakfejpmlgbcaaDoorW.PrintWords Go.Proofs.YtoakfejpmlgbcaaDoorW.PrintLast Go.Proofs.YtoakfejpmlgbcaaDoorW.PrintMore
attribute [local go_sem] max2_int min2_int max_two min_two max_three min_three max_four min_four   -- for this text's walks alone
set_option linter.unusedVariables false
set_option linter.unusedSimpArgs false

/-! ### isa_Execute: function 20, by hand -/
theorem isa_compute.total (op a b : Int) : ∃ v, isa_compute.f op a b = some v := by
  have ht : ∀ x, ∃ v, isa_truth.f x = some v := by
    intro x
    cases x
    · exact ⟨0, rfl⟩
    · exact ⟨1, rfl⟩
  unfold isa_compute.f
  by_cases h6 : op = 6
  · exact ⟨_, if_pos h6⟩
  rw [if_neg h6]
  by_cases h7 : op = 7
  · exact ⟨_, if_pos h7⟩
  rw [if_neg h7]
  by_cases h8 : op = 8
  · exact ⟨_, if_pos h8⟩
  rw [if_neg h8]
  by_cases h9 : op = 9
  · rw [if_pos h9]
    by_cases hb : b = 0
    · exact ⟨_, if_pos hb⟩
    · exact ⟨_, if_neg hb⟩
  rw [if_neg h9]
  by_cases h10 : op = 10
  · rw [if_pos h10]
    by_cases hb : b = 0
    · exact ⟨_, if_pos hb⟩
    · exact ⟨_, if_neg hb⟩
  rw [if_neg h10]
  by_cases h11 : op = 11
  · exact ⟨_, if_pos h11⟩
  rw [if_neg h11]
  by_cases h12 : op = 12
  · exact ⟨_, if_pos h12⟩
  rw [if_neg h12]
  by_cases h13 : op = 13
  · exact ⟨_, if_pos h13⟩
  rw [if_neg h13]
  by_cases h14 : op = 14
  · rw [if_pos h14]
    obtain ⟨v, hv⟩ := ht (decide (a < b))
    exact ⟨v, by rw [hv]; rfl⟩
  rw [if_neg h14]
  by_cases h15 : op = 15
  · rw [if_pos h15]
    obtain ⟨v, hv⟩ := ht (decide (a ≤ b))
    exact ⟨v, by rw [hv]; rfl⟩
  rw [if_neg h15]
  by_cases h16 : op = 16
  · rw [if_pos h16]
    obtain ⟨v, hv⟩ := ht (a == b)
    exact ⟨v, by rw [hv]; rfl⟩
  rw [if_neg h16]
  obtain ⟨v, hv⟩ := ht (a != b)
  exact ⟨v, by rw [hv]; rfl⟩
theorem isa_register.ev (x : Int) : isa_register.f x = some (decide (0 ≤ x ∧ x < 16)) := by
  unfold isa_register.f
  by_cases h : x ≥ 0
  · rw [if_pos h]
    congr 1
    by_cases h' : x < 16
    · rw [decide_eq_true h', decide_eq_true ⟨h, h'⟩]
    · rw [decide_eq_false h', decide_eq_false (fun z => h' z.2)]
  · rw [if_neg h, decide_eq_false (fun z => h z.1)]
theorem isa_known.ev (x : Int) : isa_known.f x = some (decide (1 ≤ x ∧ x < 26)) := by
  unfold isa_known.f
  by_cases h : x ≥ 1
  · rw [if_pos h]
    congr 1
    by_cases h' : x < 26
    · rw [decide_eq_true h', decide_eq_true ⟨h, h'⟩]
    · rw [decide_eq_false h', decide_eq_false (fun z => h' z.2)]
  · rw [if_neg h, decide_eq_false (fun z => h z.1)]
/-- An instruction's word. -/
def encW (i0 i1 i2 i3 i4 : Int) : Int := Go.bits .or .i64 (Go.bits .or .i64 (Go.bits .or .i64 (Go.bits .or .i64 i0 (wrap64 (i1 * 256))) (wrap64 (i2 * 65536))) (wrap64 (i3 * 16777216))) (wrap64 (i4 * 4294967296))
theorem isa_Encode.ev (i0 i1 i2 i3 i4 : Int) : isa_Encode.f 1 i0 i1 i2 i3 i4 = some (if -2147483648 ≤ i4 ∧ i4 < 2147483648 ∧ 0 ≤ i1 ∧ i1 < 16 ∧ 0 ≤ i2 ∧ i2 < 16 ∧ 0 ≤ i3 ∧ i3 < 16 then (if 1 ≤ i0 ∧ i0 < 26 then (encW i0 i1 i2 i3 i4, 0) else (0, 4)) else (0, 2)) := by
  have hw : (i4 = wrap64 (wrap32 i4)) ↔ (-2147483648 ≤ i4 ∧ i4 < 2147483648) := by
    unfold wrap64 wrap32
    omega
  have hj : ∀ b, isa_Encode.j0 1 b i0 i1 i2 i3 i4 = some (if b = true then (0, 2) else if 1 ≤ i0 ∧ i0 < 26 then (encW i0 i1 i2 i3 i4, 0) else (0, 4)) := by
    intro b
    show (if b = true then some (0, 2) else ((isa_known.f i0).bind fun t => (if t = true then (some (encW i0 i1 i2 i3 i4, 0)) else (some (0, 4))))) = _
    rw [isa_known.ev, Option.bind_some]
    cases b
    · by_cases hk : 1 ≤ i0 ∧ i0 < 26 <;> simp [hk]
    · rfl
  unfold isa_Encode.f
  simp only [isa_register.ev, Option.bind_some, hj]
  by_cases h4 : i4 = wrap64 (wrap32 i4)
  · rw [if_pos h4]
    have h4' := hw.mp h4
    by_cases h1 : 0 ≤ i1 ∧ i1 < 16 <;> by_cases h2 : 0 ≤ i2 ∧ i2 < 16 <;> by_cases h3 : 0 ≤ i3 ∧ i3 < 16 <;> simp [h1, h2, h3, h4'.1, h4'.2]
  · rw [if_neg h4]
    have h5 : ¬ (-2147483648 ≤ i4 ∧ i4 < 2147483648 ∧ 0 ≤ i1 ∧ i1 < 16 ∧ 0 ≤ i2 ∧ i2 < 16 ∧ 0 ≤ i3 ∧ i3 < 16) := fun z => h4 (hw.mpr ⟨z.1, z.2.1⟩)
    rw [if_neg h5]
    rfl
theorem isa_encodable.ev (i0 i1 i2 i3 i4 : Int) : isa_encodable.f 1 i0 i1 i2 i3 i4 = some (enc1 i0 i1 i2 i3 i4) := by
  unfold isa_encodable.f enc1
  rw [isa_Encode.ev, Option.bind_some]
  congr 1
  by_cases h : -2147483648 ≤ i4 ∧ i4 < 2147483648 ∧ 0 ≤ i1 ∧ i1 < 16 ∧ 0 ≤ i2 ∧ i2 < 16 ∧ 0 ≤ i3 ∧ i3 < 16
  · rw [if_pos h]
    by_cases hk : 1 ≤ i0 ∧ i0 < 26
    · rw [if_pos hk, decide_eq_true (by omega)]
      rfl
    · rw [if_neg hk, decide_eq_false (by omega)]
      rfl
  · rw [if_neg h, decide_eq_false (by omega)]
    rfl
def isa_Execute.T8 : Bool × List (List Nat × List Nat) := (true, [([], []), ([], []), ([1], [1]), ([], []), ([3], [3]), ([], []), ([5], [5]), ([], []), ([7, 6], [6, 7]), ([8], [8]), ([], []), ([10], [10]), ([], []), ([12, 11], [11, 12]), ([13], [13]), ([4, 9, 14], [4, 9, 14]), ([0], [0]), ([16, 2, 0, 1, 2, 3, 4, 5, 6, 7, 8, 9, 10, 11, 12, 13, 14, 15], [2, 16]), ([17, 15, 15, 0, 1, 2, 3, 4, 5, 6, 7, 8, 9, 10, 11, 12, 13, 14, 15], [15, 17])])
def isa_Execute.B8 : List Nat := [0, 0, 2, 0, 8, 0, 32, 0, 224, 480, 0, 1024, 0, 7168, 15360, 32760, 1, 131071, 262143]
theorem isa_Execute.tab8 : rtab .any (opsOf Tryd.f20 8) = isa_Execute.T8 := by kernel_rfl
theorem isa_Execute.bits8 : waitsOk isa_Execute.T8.2 isa_Execute.B8 = true := by kernel_rfl
def isa_Execute.f (cs : List Int) (i0 i1 i2 i3 i4 ld : Int) : Option (List Int × Bool × Int × Int × Bool × Int × Int) :=
  if i0 = 2 then some (zeros17, false, 0, 0, false, 0, 14) else if enc1 i0 i1 i2 i3 i4 = true then (let x := exec1 (fun op a b => (isa_compute.f op a b).getD 0) cs i0 i1 i2 i3 i4 ld; some (x.1, x.2.1, x.2.2.1, x.2.2.2.1, x.2.2.2.2.1, x.2.2.2.2.2, 0)) else some (zeros17, false, 0, 0, false, 0, 14)
set_option maxHeartbeats 8000000 in
set_option maxRecDepth 100000 in
theorem isa_Execute.calls (cs : List Int) (i0 i1 i2 i3 i4 ld : Int) (r1 : List Int) (r2 : Bool) (r3 r4 : Int) (r5 : Bool) (r6 r7 : Int) (w : World) (hGl : Aside0 (Glob w)) (hc : cs.length = 17) (h : isa_Execute.f cs i0 i1 i2 i3 i4 ld = some (r1, r2, r3, r4, r5, r6, r7)) :
    Calls Tryd.prog 20 #[.agg (cellsI cs), .agg #[.int .i64 i0, .int .i64 i1, .int .i64 i2, .int .i64 i3, .int .i64 i4], .int .i64 ld] w fun e w' => e = .returned (.tuple #[.agg (cellsE r1 r2 r3 r4 r5 r6), .int .i64 r7]) ∧ Below w.heap.size w w' := by
  have HB := Aside0.mk (Below.refl w.heap.size w)
  have hu33 := Tryd.underlying33
  have hu23 := Tryd.underlying23
  have hu35 := Tryd.underlying35
  have hu40 := Tryd.underlying40
  have HC := Aside0.mk hc
  clear hc
  have HE := Aside0.mk (isa_encodable.ev i0 i1 i2 i3 i4)
  have H := Aside0.mk h
  clear h
  by_cases c2 : i0 = 2
  · have c2b : (i0 == 2) = true := beq_iff_eq.mpr c2
    have h := H.out
    clear H
    unfold isa_Execute.f at h
    rw [if_pos c2] at h
    clear c2
    have h2 : (some (zeros17, false, 0, 0, false, 0, 14) : Option (List Int × Bool × Int × Int × Bool × Int × Int)) = some (r1, r2, r3, r4, r5, r6, r7) := h
    clear h
    simp only [Option.some.injEq, Prod.mk.injEq] at h2
    obtain ⟨rfl, rfl, rfl, rfl, rfl, rfl, rfl⟩ := h2
    go_enter Tryd.func20, Tryd.ntmps20
    go_upto_region 1 with (first | ((with_reducible refine gate_dst (N := 3) rfl ?_); refine box_event ?hg (N := 3) ?hd (cs := cellsI cs) (t := 35) ?hr ?_; (case hd => rfl); (case hg => rfl); (case hr => first | (go_simp; done) | (go_simp; rfl)); intro gb101 hg w101 hbox hb; have n0_ := Aside0.mk (below_step (by repeat (first | (with_reducible first | exact HB.out | apply below_alloc | apply pw_below_drewN | apply below_drew1) | exact HB.out)) hb); have n1_ := Aside0.mk hbox; have n2_ := Aside0.mk ((by rw [hg]; exact (below_size (by repeat (first | (with_reducible first | exact HB.out | apply below_alloc | apply pw_below_drewN | apply below_drew1) | exact HB.out)))) : w.heap.size ≤ gb101); clear HB; have HB := n0_; have BK101 := n1_; have GE101 := n2_; clear n0_ n1_ n2_; clear hb hbox hg) | ((with_reducible refine gate_dst (N := 4) rfl ?_); refine box_event ?hg (N := 4) ?hd (cs := #[.int .i64 i0, .int .i64 i1, .int .i64 i2, .int .i64 i3, .int .i64 i4]) (t := 23) ?hr ?_; (case hd => rfl); (case hg => rfl); (case hr => first | (go_simp; done) | (go_simp; rfl)); intro gb102 hg w102 hbox hb; have n0_ := Aside0.mk (below_step (by repeat (first | (with_reducible first | exact HB.out | apply below_alloc | apply pw_below_drewN | apply below_drew1) | exact HB.out)) hb); have n1_ := Aside0.mk hbox; have n2_ := Aside0.mk ((by rw [hg]; exact (below_size (by repeat (first | (with_reducible first | exact HB.out | apply below_alloc | apply pw_below_drewN | apply below_drew1) | exact HB.out)))) : w.heap.size ≤ gb102); have m101_ := Aside0.mk (blk_below (by (with_reducible repeat (first | exact BK101.out | refine blk_drewN ?_ _ | refine blk_drew ?_ | refine blk_alloc ?_ _)); try exact BK101.out) hb); have k101_ := Aside0.mk (show gb101 ≠ gb102 from by rw [hg]; exact Nat.ne_of_lt (blk_lt (by (with_reducible repeat (first | exact BK101.out | refine blk_drewN ?_ _ | refine blk_drew ?_ | refine blk_alloc ?_ _)); try exact BK101.out))); clear HB; have HB := n0_; have BK102 := n1_; have GE102 := n2_; clear n0_ n1_ n2_; clear BK101; have BK101 := m101_; have NE101_102 := k101_; clear m101_ k101_; clear hb hbox hg) | ((with_reducible refine gate_dst (N := 6) rfl ?_); refine box_event ?hg (N := 6) ?hd (cs := cellsE zeros17 false 0 0 false 0) (t := 40) ?hr ?_; (case hd => rfl); (case hg => rfl); (case hr => first | (go_simp; done) | (go_simp; rfl)); intro gb103 hg w103 hbox hb; have n0_ := Aside0.mk (below_step (by repeat (first | (with_reducible first | exact HB.out | apply below_alloc | apply pw_below_drewN | apply below_drew1) | exact HB.out)) hb); have n1_ := Aside0.mk hbox; have n2_ := Aside0.mk ((by rw [hg]; exact (below_size (by repeat (first | (with_reducible first | exact HB.out | apply below_alloc | apply pw_below_drewN | apply below_drew1) | exact HB.out)))) : w.heap.size ≤ gb103); have m101_ := Aside0.mk (blk_below (by (with_reducible repeat (first | exact BK101.out | refine blk_drewN ?_ _ | refine blk_drew ?_ | refine blk_alloc ?_ _)); try exact BK101.out) hb); have k101_ := Aside0.mk (show gb101 ≠ gb103 from by rw [hg]; exact Nat.ne_of_lt (blk_lt (by (with_reducible repeat (first | exact BK101.out | refine blk_drewN ?_ _ | refine blk_drew ?_ | refine blk_alloc ?_ _)); try exact BK101.out))); have m102_ := Aside0.mk (blk_below (by (with_reducible repeat (first | exact BK102.out | refine blk_drewN ?_ _ | refine blk_drew ?_ | refine blk_alloc ?_ _)); try exact BK102.out) hb); have k102_ := Aside0.mk (show gb102 ≠ gb103 from by rw [hg]; exact Nat.ne_of_lt (blk_lt (by (with_reducible repeat (first | exact BK102.out | refine blk_drewN ?_ _ | refine blk_drew ?_ | refine blk_alloc ?_ _)); try exact BK102.out))); clear HB; have HB := n0_; have BK103 := n1_; have GE103 := n2_; clear n0_ n1_ n2_; clear BK101; have BK101 := m101_; have NE101_103 := k101_; clear m101_ k101_; clear BK102; have BK102 := m102_; have NE102_103 := k102_; clear m102_ k102_; clear hb hbox hg))
    have hca_0 : w103.cell? ⟨gb102, 0, none⟩ = some (.int .i64 i0) := (blk_cell BK102.out 0).trans (rfl)
    have hca_1 : w103.cell? ⟨gb102, 1, none⟩ = some (.int .i64 i1) := (blk_cell BK102.out 1).trans (rfl)
    have hca_2 : w103.cell? ⟨gb102, 2, none⟩ = some (.int .i64 i2) := (blk_cell BK102.out 2).trans (rfl)
    have hca_3 : w103.cell? ⟨gb102, 3, none⟩ = some (.int .i64 i3) := (blk_cell BK102.out 3).trans (rfl)
    have hca_4 : w103.cell? ⟨gb102, 4, none⟩ = some (.int .i64 i4) := (blk_cell BK102.out 4).trans (rfl)
    have hfa_0 := blk_frozen BK102.out 0
    have hfa_1 := blk_frozen BK102.out 1
    have hfa_2 := blk_frozen BK102.out 2
    have hfa_3 := blk_frozen BK102.out 3
    have hfa_4 := blk_frozen BK102.out 4
    go_wp2_with (first | ((with_reducible refine gate_store (t := 40) (p := 6) rfl ?_); refine row_event (by rfl) 40 _ _ rfl gb103 (cellsE zeros17 false 0 0 false 0) _ _ (by (with_reducible repeat (first | exact BK103.out | refine blk_drewN ?_ _ | refine blk_drew ?_ | refine blk_alloc ?_ _)); try exact BK103.out) (by rfl) (by rfl) (info40 rfl) (rfl) (cellsE_one) ?_; intro w103_ hbox hg; have n0_ := Aside0.mk (pw_below_grown (by repeat (first | (with_reducible first | exact HB.out | apply below_alloc | apply pw_below_drewN | apply below_drew1) | exact HB.out)) (some gb103) (below_size (by repeat (first | (with_reducible first | exact HB.out | apply below_alloc | apply pw_below_drewN | apply below_drew1) | exact HB.out))) hg (by rintro k_ e_; injection e_ with e_; rw [← e_]; exact GE103.out)); have n1_ := Aside0.mk hbox; clear HB BK103; have HB := n0_; have BK103 := n1_; clear n0_ n1_; clear hg hbox))
    refine bodyPost_ret (results_ct rfl _ _ gb103 40 (cellsE zeros17 false 0 0 false 0) (0, 0) _ rfl (by (with_reducible repeat (first | refine blk_drewN ?_ _ | refine blk_drew ?_)); exact BK103.out) Tryd.underlying40 rfl (info40 rfl)) rfl ?_
    exact ⟨rfl, (by repeat (first | (with_reducible first | exact HB.out | apply below_alloc | apply pw_below_drewN | apply below_drew1) | exact HB.out))⟩
  have c2b : (i0 == 2) = false := beq_eq_false_iff_ne.mpr c2
  by_cases ce : enc1 i0 i1 i2 i3 i4 = true
  · have HE1 := Aside0.mk (HE.out.trans (congrArg some ce))
    clear HE
    have h := H.out
    clear H
    unfold isa_Execute.f at h
    rw [if_neg c2, if_pos ce] at h
    have H := Aside0.mk h
    clear h
    go_enter Tryd.func20, Tryd.ntmps20
    go_upto_region 1 with (first | ((with_reducible refine gate_dst (N := 3) rfl ?_); refine box_event ?hg (N := 3) ?hd (cs := cellsI cs) (t := 35) ?hr ?_; (case hd => rfl); (case hg => rfl); (case hr => first | (go_simp; done) | (go_simp; rfl)); intro gb101 hg w101 hbox hb; have n0_ := Aside0.mk (below_step (by repeat (first | (with_reducible first | exact HB.out | apply below_alloc | apply pw_below_drewN | apply below_drew1) | exact HB.out)) hb); have n1_ := Aside0.mk hbox; have n2_ := Aside0.mk ((by rw [hg]; exact (below_size (by repeat (first | (with_reducible first | exact HB.out | apply below_alloc | apply pw_below_drewN | apply below_drew1) | exact HB.out)))) : w.heap.size ≤ gb101); clear HB; have HB := n0_; have BK101 := n1_; have GE101 := n2_; clear n0_ n1_ n2_; clear hb hbox hg) | ((with_reducible refine gate_dst (N := 4) rfl ?_); refine box_event ?hg (N := 4) ?hd (cs := #[.int .i64 i0, .int .i64 i1, .int .i64 i2, .int .i64 i3, .int .i64 i4]) (t := 23) ?hr ?_; (case hd => rfl); (case hg => rfl); (case hr => first | (go_simp; done) | (go_simp; rfl)); intro gb102 hg w102 hbox hb; have n0_ := Aside0.mk (below_step (by repeat (first | (with_reducible first | exact HB.out | apply below_alloc | apply pw_below_drewN | apply below_drew1) | exact HB.out)) hb); have n1_ := Aside0.mk hbox; have n2_ := Aside0.mk ((by rw [hg]; exact (below_size (by repeat (first | (with_reducible first | exact HB.out | apply below_alloc | apply pw_below_drewN | apply below_drew1) | exact HB.out)))) : w.heap.size ≤ gb102); have m101_ := Aside0.mk (blk_below (by (with_reducible repeat (first | exact BK101.out | refine blk_drewN ?_ _ | refine blk_drew ?_ | refine blk_alloc ?_ _)); try exact BK101.out) hb); have k101_ := Aside0.mk (show gb101 ≠ gb102 from by rw [hg]; exact Nat.ne_of_lt (blk_lt (by (with_reducible repeat (first | exact BK101.out | refine blk_drewN ?_ _ | refine blk_drew ?_ | refine blk_alloc ?_ _)); try exact BK101.out))); clear HB; have HB := n0_; have BK102 := n1_; have GE102 := n2_; clear n0_ n1_ n2_; clear BK101; have BK101 := m101_; have NE101_102 := k101_; clear m101_ k101_; clear hb hbox hg) | ((with_reducible refine gate_dst (N := 6) rfl ?_); refine box_event ?hg (N := 6) ?hd (cs := cellsE zeros17 false 0 0 false 0) (t := 40) ?hr ?_; (case hd => rfl); (case hg => rfl); (case hr => first | (go_simp; done) | (go_simp; rfl)); intro gb103 hg w103 hbox hb; have n0_ := Aside0.mk (below_step (by repeat (first | (with_reducible first | exact HB.out | apply below_alloc | apply pw_below_drewN | apply below_drew1) | exact HB.out)) hb); have n1_ := Aside0.mk hbox; have n2_ := Aside0.mk ((by rw [hg]; exact (below_size (by repeat (first | (with_reducible first | exact HB.out | apply below_alloc | apply pw_below_drewN | apply below_drew1) | exact HB.out)))) : w.heap.size ≤ gb103); have m101_ := Aside0.mk (blk_below (by (with_reducible repeat (first | exact BK101.out | refine blk_drewN ?_ _ | refine blk_drew ?_ | refine blk_alloc ?_ _)); try exact BK101.out) hb); have k101_ := Aside0.mk (show gb101 ≠ gb103 from by rw [hg]; exact Nat.ne_of_lt (blk_lt (by (with_reducible repeat (first | exact BK101.out | refine blk_drewN ?_ _ | refine blk_drew ?_ | refine blk_alloc ?_ _)); try exact BK101.out))); have m102_ := Aside0.mk (blk_below (by (with_reducible repeat (first | exact BK102.out | refine blk_drewN ?_ _ | refine blk_drew ?_ | refine blk_alloc ?_ _)); try exact BK102.out) hb); have k102_ := Aside0.mk (show gb102 ≠ gb103 from by rw [hg]; exact Nat.ne_of_lt (blk_lt (by (with_reducible repeat (first | exact BK102.out | refine blk_drewN ?_ _ | refine blk_drew ?_ | refine blk_alloc ?_ _)); try exact BK102.out))); clear HB; have HB := n0_; have BK103 := n1_; have GE103 := n2_; clear n0_ n1_ n2_; clear BK101; have BK101 := m101_; have NE101_103 := k101_; clear m101_ k101_; clear BK102; have BK102 := m102_; have NE102_103 := k102_; clear m102_ k102_; clear hb hbox hg))
    have hca_0 : w103.cell? ⟨gb102, 0, none⟩ = some (.int .i64 i0) := (blk_cell BK102.out 0).trans (rfl)
    have hca_1 : w103.cell? ⟨gb102, 1, none⟩ = some (.int .i64 i1) := (blk_cell BK102.out 1).trans (rfl)
    have hca_2 : w103.cell? ⟨gb102, 2, none⟩ = some (.int .i64 i2) := (blk_cell BK102.out 2).trans (rfl)
    have hca_3 : w103.cell? ⟨gb102, 3, none⟩ = some (.int .i64 i3) := (blk_cell BK102.out 3).trans (rfl)
    have hca_4 : w103.cell? ⟨gb102, 4, none⟩ = some (.int .i64 i4) := (blk_cell BK102.out 4).trans (rfl)
    have hfa_0 := blk_frozen BK102.out 0
    have hfa_1 := blk_frozen BK102.out 1
    have hfa_2 := blk_frozen BK102.out 2
    have hfa_3 := blk_frozen BK102.out 3
    have hfa_4 := blk_frozen BK102.out 4
    go_upto_region 5 with (first | (go_at_call 32; (with_reducible refine (isa_encodable.calls 1 i0 i1 i2 i3 i4 true _ HE1.out).mono ?_); rintro e w' ⟨rfl, hb⟩; have n0_ := Aside0.mk (below_step (by repeat (first | (with_reducible first | exact HB.out | apply below_alloc | apply pw_below_drewN | apply below_drew1) | exact HB.out)) hb); have m101_ := Aside0.mk (blk_below (by (with_reducible repeat (first | exact BK101.out | refine blk_drewN ?_ _ | refine blk_drew ?_ | refine blk_alloc ?_ _)); try exact BK101.out) hb); have m102_ := Aside0.mk (blk_below (by (with_reducible repeat (first | exact BK102.out | refine blk_drewN ?_ _ | refine blk_drew ?_ | refine blk_alloc ?_ _)); try exact BK102.out) hb); have m103_ := Aside0.mk (blk_below (by (with_reducible repeat (first | exact BK103.out | refine blk_drewN ?_ _ | refine blk_drew ?_ | refine blk_alloc ?_ _)); try exact BK103.out) hb); clear HB; have HB := n0_; clear n0_; clear BK101; have BK101 := m101_; clear m101_; clear BK102; have BK102 := m102_; clear m102_; clear BK103; have BK103 := m103_; clear m103_; clear hb) | (((with_reducible refine gate_dst (N := 19) rfl ?_); refine load_event (by rfl) 35 _ rfl gb101 _ _ _ (by (with_reducible repeat (first | exact BK101.out | refine blk_drewN ?_ _ | refine blk_drew ?_ | refine blk_alloc ?_ _)); try exact BK101.out) (by rfl) Tryd.underlying35 rfl (info35 HC.out) ?_); ((with_reducible refine gate_dst (N := 20) rfl ?_); refine build_event (by rfl) 40 [(0, .tmp 19)] rfl (cellsE cs false 0 0 false 0) (built_eff HC.out) ?_)) | ((with_reducible refine gate_dst (N := 8) rfl ?_); refine box_event ?hg (N := 8) ?hd (cs := cellsE zeros17 false 0 0 false 0) (t := 40) ?hr ?_; (case hd => rfl); (case hg => rfl); (case hr => first | (go_simp; done) | (go_simp; rfl)); intro gb104 hg w104 hbox hb; have n0_ := Aside0.mk (below_step (by repeat (first | (with_reducible first | exact HB.out | apply below_alloc | apply pw_below_drewN | apply below_drew1) | exact HB.out)) hb); have n1_ := Aside0.mk hbox; have n2_ := Aside0.mk ((by rw [hg]; exact (below_size (by repeat (first | (with_reducible first | exact HB.out | apply below_alloc | apply pw_below_drewN | apply below_drew1) | exact HB.out)))) : w.heap.size ≤ gb104); have m101_ := Aside0.mk (blk_below (by (with_reducible repeat (first | exact BK101.out | refine blk_drewN ?_ _ | refine blk_drew ?_ | refine blk_alloc ?_ _)); try exact BK101.out) hb); have k101_ := Aside0.mk (show gb101 ≠ gb104 from by rw [hg]; exact Nat.ne_of_lt (blk_lt (by (with_reducible repeat (first | exact BK101.out | refine blk_drewN ?_ _ | refine blk_drew ?_ | refine blk_alloc ?_ _)); try exact BK101.out))); have m102_ := Aside0.mk (blk_below (by (with_reducible repeat (first | exact BK102.out | refine blk_drewN ?_ _ | refine blk_drew ?_ | refine blk_alloc ?_ _)); try exact BK102.out) hb); have k102_ := Aside0.mk (show gb102 ≠ gb104 from by rw [hg]; exact Nat.ne_of_lt (blk_lt (by (with_reducible repeat (first | exact BK102.out | refine blk_drewN ?_ _ | refine blk_drew ?_ | refine blk_alloc ?_ _)); try exact BK102.out))); have m103_ := Aside0.mk (blk_below (by (with_reducible repeat (first | exact BK103.out | refine blk_drewN ?_ _ | refine blk_drew ?_ | refine blk_alloc ?_ _)); try exact BK103.out) hb); have k103_ := Aside0.mk (show gb103 ≠ gb104 from by rw [hg]; exact Nat.ne_of_lt (blk_lt (by (with_reducible repeat (first | exact BK103.out | refine blk_drewN ?_ _ | refine blk_drew ?_ | refine blk_alloc ?_ _)); try exact BK103.out))); clear HB; have HB := n0_; have BK104 := n1_; have GE104 := n2_; clear n0_ n1_ n2_; clear BK101; have BK101 := m101_; have NE101_104 := k101_; clear m101_ k101_; clear BK102; have BK102 := m102_; have NE102_104 := k102_; clear m102_ k102_; clear BK103; have BK103 := m103_; have NE103_104 := k103_; clear m103_ k103_; clear hb hbox hg) | ((with_reducible refine gate_store (t := 40) (p := 8) rfl ?_); refine row_event (by rfl) 40 _ _ rfl gb104 (cellsE cs false 0 0 false 0) _ _ (by (with_reducible repeat (first | exact BK104.out | refine blk_drewN ?_ _ | refine blk_drew ?_ | refine blk_alloc ?_ _)); try exact BK104.out) (by rfl) (by rfl) (info40 HC.out) ((cellsE_size rfl).trans (cellsE_size HC.out).symm) (cellsE_one) ?_; intro w104_ hbox hg; have n0_ := Aside0.mk (pw_below_grown (by repeat (first | (with_reducible first | exact HB.out | apply below_alloc | apply pw_below_drewN | apply below_drew1) | exact HB.out)) (some gb104) (below_size (by repeat (first | (with_reducible first | exact HB.out | apply below_alloc | apply pw_below_drewN | apply below_drew1) | exact HB.out))) hg (by rintro k_ e_; injection e_ with e_; rw [← e_]; exact GE104.out)); have n1_ := Aside0.mk hbox; have m101_ := Aside0.mk (blk_grown (by (with_reducible repeat (first | exact BK101.out | refine blk_drewN ?_ _ | refine blk_drew ?_ | refine blk_alloc ?_ _)); try exact BK101.out) hg (fun e_ => by injection e_ with e_; exact NE101_104.out e_)); have m102_ := Aside0.mk (blk_grown (by (with_reducible repeat (first | exact BK102.out | refine blk_drewN ?_ _ | refine blk_drew ?_ | refine blk_alloc ?_ _)); try exact BK102.out) hg (fun e_ => by injection e_ with e_; exact NE102_104.out e_)); have m103_ := Aside0.mk (blk_grown (by (with_reducible repeat (first | exact BK103.out | refine blk_drewN ?_ _ | refine blk_drew ?_ | refine blk_alloc ?_ _)); try exact BK103.out) hg (fun e_ => by injection e_ with e_; exact NE103_104.out e_)); clear HB BK104; have HB := n0_; have BK104 := n1_; clear n0_ n1_; clear BK101; have BK101 := m101_; clear m101_; clear BK102; have BK102 := m102_; clear m102_; clear BK103; have BK103 := m103_; clear m103_; clear hg hbox))
    have hpa : w104_.cell? ⟨gb104, 16, none⟩ = some (.int .i64 (cs.getD 16 0)) := (blk_cell BK104.out 16).trans (cellsE_reg HC.out (by decide))
    have hpf := blk_frozen BK104.out 16
    go_upto_region 6 with (fail)
    refine gen_w (P := Code.wp _ _ _) (F := fun W => Below w.heap.size w W ∧ W.heap[gb101]? = some (.cells (cellsI cs) 35 (0, 0)) ∧ W.heap[gb102]? = some (.cells #[.int .i64 i0, .int .i64 i1, .int .i64 i2, .int .i64 i3, .int .i64 i4] 23 (0, 0)) ∧ W.heap[gb103]? = some (.cells (cellsE zeros17 false 0 0 false 0) 40 (0, 0)) ∧ W.heap[gb104]? = some (.cells (cellsE (cs.set 16 (wrap64 (cs.getD 16 0 + 1))) false 0 0 false 0) 40 (0, 0))) ⟨below_set HB.out GE104.out, blk_far BK101.out NE101_104.out _, blk_far BK102.out NE102_104.out _, blk_far BK103.out NE103_104.out _, blk_put BK104.out 16 _ (cellsE_setReg HC.out (by decide) _)⟩ ?_
    clear hpa hpf
    clear BK101 BK102 BK103 BK104 HB
    rintro W ⟨hb, h1, h2, h3, h4⟩
    have HB := Aside0.mk hb
    have BK101 := Aside0.mk h1
    have BK102 := Aside0.mk h2
    have BK103 := Aside0.mk h3
    have BK104 := Aside0.mk h4
    clear hb h1 h2 h3 h4
    have hcb_0 : W.cell? ⟨gb102, 0, none⟩ = some (.int .i64 i0) := (blk_cell BK102.out 0).trans (rfl)
    have hcb_1 : W.cell? ⟨gb102, 1, none⟩ = some (.int .i64 i1) := (blk_cell BK102.out 1).trans (rfl)
    have hcb_2 : W.cell? ⟨gb102, 2, none⟩ = some (.int .i64 i2) := (blk_cell BK102.out 2).trans (rfl)
    have hcb_3 : W.cell? ⟨gb102, 3, none⟩ = some (.int .i64 i3) := (blk_cell BK102.out 3).trans (rfl)
    have hcb_4 : W.cell? ⟨gb102, 4, none⟩ = some (.int .i64 i4) := (blk_cell BK102.out 4).trans (rfl)
    have hfb_0 := blk_frozen BK102.out 0
    have hfb_1 := blk_frozen BK102.out 1
    have hfb_2 := blk_frozen BK102.out 2
    have hfb_3 := blk_frozen BK102.out 3
    have hfb_4 := blk_frozen BK102.out 4
    have he := of_decide_eq_true ce
    obtain ⟨b1, b2, b3, b4, b5, b6, b7, b8, b9, b10⟩ := he
    have HL := Aside0.mk (show (cs.set 16 (wrap64 (cs.getD 16 0 + 1))).length = 17 from by rw [List.length_set]; exact HC.out)
    by_cases c3 : i0 = 3
    · subst c3
      have hx0 : W.cell? ⟨gb104, i1.toNat, none⟩ = some (.int .i64 ((cs.set 16 (wrap64 (cs.getD 16 0 + 1))).getD i1.toNat 0)) := (blk_cell BK104.out _).trans (cellsE_reg HL.out (by omega))
      have hy0 := blk_frozen BK104.out (i1.toNat)
      have h := H.out
      clear H
      have h2 : (some (((cs.set 16 (wrap64 (cs.getD 16 0 + 1))).set i1.toNat i4), false, 0, 0, false, 0, 0) : Option (List Int × Bool × Int × Int × Bool × Int × Int)) = some (r1, r2, r3, r4, r5, r6, r7) := h
      clear h
      simp only [Option.some.injEq, Prod.mk.injEq] at h2
      obtain ⟨rfl, rfl, rfl, rfl, rfl, rfl, rfl⟩ := h2
      go_wp2
      go_region
      go_upto_region 39 with (fail)
      refine gen_w (P := Code.wp _ _ _) (F := fun W2 => Below w.heap.size w W2 ∧ W2.heap[gb103]? = some (.cells (cellsE zeros17 false 0 0 false 0) 40 (0, 0)) ∧ W2.heap[gb104]? = some (.cells (cellsE ((cs.set 16 (wrap64 (cs.getD 16 0 + 1))).set i1.toNat i4) false 0 0 false 0) 40 (0, 0))) ⟨by repeat (first | (with_reducible first | exact HB.out | apply pw_below_drewN | apply below_drew1 | refine below_set ?_ GE104.out) | exact HB.out), by (with_reducible repeat (first | refine blk_drewN ?_ _ | refine blk_drew ?_)); refine blk_far ?_ NE103_104.out _; (with_reducible repeat (first | refine blk_drewN ?_ _ | refine blk_drew ?_)); exact BK103.out, by (with_reducible repeat (first | refine blk_drewN ?_ _ | refine blk_drew ?_)); refine blk_put (cs := (cellsE (cs.set 16 (wrap64 (cs.getD 16 0 + 1))) false 0 0 false 0)) ?_ (i1.toNat) _ (cellsE_setReg (by (repeat rw [List.length_set]); exact HC.out) (by omega) _); (with_reducible repeat (first | refine blk_drewN ?_ _ | refine blk_drew ?_)); exact BK104.out⟩ ?_
      clear HB BK103 BK104
      rintro W2 ⟨hb, h3, h4⟩
      obtain ⟨FC, hFC⟩ : ∃ FC, FC = (cellsE ((cs.set 16 (wrap64 (cs.getD 16 0 + 1))).set i1.toNat i4) false 0 0 false 0) := ⟨_, rfl⟩
      rw [← hFC] at h4
      have HFC := Aside0.mk hFC
      have HB := Aside0.mk hb
      have BK103 := Aside0.mk h3
      have BK104 := Aside0.mk h4
      clear hb h3 h4 hFC
      go_wp2_with (first | ((with_reducible refine gate_dst (N := 179) rfl ?_); refine load_event (by rfl) 40 _ rfl gb104 _ _ _ (by (with_reducible repeat (first | exact BK104.out | refine blk_drewN ?_ _ | refine blk_drew ?_ | refine blk_alloc ?_ _)); try exact BK104.out) (by rfl) Tryd.underlying40 rfl ((by rw [HFC.out]; exact info40 (by (repeat rw [List.length_set]); exact HC.out))) ?_) | ((with_reducible refine gate_store (t := 40) (p := 6) rfl ?_); refine row_event (by rfl) 40 _ _ rfl gb103 (FC) _ _ (by (with_reducible repeat (first | exact BK103.out | refine blk_drewN ?_ _ | refine blk_drew ?_ | refine blk_alloc ?_ _)); try exact BK103.out) (by rfl) (by rfl) ((by rw [HFC.out]; exact info40 (by (repeat rw [List.length_set]); exact HC.out))) ((by rw [HFC.out]; exact (cellsE_size rfl).trans (cellsE_size (by (repeat rw [List.length_set]); exact HC.out)).symm)) ((by rw [HFC.out]; exact cellsE_one)) ?_; intro w103_ hbox hg; have n0_ := Aside0.mk (pw_below_grown (by repeat (first | (with_reducible first | exact HB.out | apply below_alloc | apply pw_below_drewN | apply below_drew1) | exact HB.out)) (some gb103) (below_size (by repeat (first | (with_reducible first | exact HB.out | apply below_alloc | apply pw_below_drewN | apply below_drew1) | exact HB.out))) hg (by rintro k_ e_; injection e_ with e_; rw [← e_]; exact GE103.out)); have n1_ := Aside0.mk hbox; clear HB BK103; have HB := n0_; have BK103 := n1_; clear n0_ n1_; clear hg hbox))
      refine bodyPost_ret (results_ct rfl _ _ gb103 40 FC (0, 0) _ rfl (by (with_reducible repeat (first | refine blk_drewN ?_ _ | refine blk_drew ?_)); exact BK103.out) Tryd.underlying40 rfl (by rw [HFC.out]; exact info40 (by (repeat rw [List.length_set]); exact HC.out))) rfl ?_
      rw [HFC.out]
      exact ⟨rfl, (by repeat (first | (with_reducible first | exact HB.out | apply below_alloc | apply pw_below_drewN | apply below_drew1) | exact HB.out))⟩
    by_cases c4 : i0 = 4
    · subst c4
      have hx0 : W.cell? ⟨gb104, i1.toNat, none⟩ = some (.int .i64 ((cs.set 16 (wrap64 (cs.getD 16 0 + 1))).getD i1.toNat 0)) := (blk_cell BK104.out _).trans (cellsE_reg HL.out (by omega))
      have hy0 := blk_frozen BK104.out (i1.toNat)
      have h := H.out
      clear H
      have h2 : (some (((cs.set 16 (wrap64 (cs.getD 16 0 + 1))).set i1.toNat ld), false, 0, 0, false, 0, 0) : Option (List Int × Bool × Int × Int × Bool × Int × Int)) = some (r1, r2, r3, r4, r5, r6, r7) := h
      clear h
      simp only [Option.some.injEq, Prod.mk.injEq] at h2
      obtain ⟨rfl, rfl, rfl, rfl, rfl, rfl, rfl⟩ := h2
      go_wp2
      go_region
      go_upto_region 39 with (fail)
      refine gen_w (P := Code.wp _ _ _) (F := fun W2 => Below w.heap.size w W2 ∧ W2.heap[gb103]? = some (.cells (cellsE zeros17 false 0 0 false 0) 40 (0, 0)) ∧ W2.heap[gb104]? = some (.cells (cellsE ((cs.set 16 (wrap64 (cs.getD 16 0 + 1))).set i1.toNat ld) false 0 0 false 0) 40 (0, 0))) ⟨by repeat (first | (with_reducible first | exact HB.out | apply pw_below_drewN | apply below_drew1 | refine below_set ?_ GE104.out) | exact HB.out), by (with_reducible repeat (first | refine blk_drewN ?_ _ | refine blk_drew ?_)); refine blk_far ?_ NE103_104.out _; (with_reducible repeat (first | refine blk_drewN ?_ _ | refine blk_drew ?_)); exact BK103.out, by (with_reducible repeat (first | refine blk_drewN ?_ _ | refine blk_drew ?_)); refine blk_put (cs := (cellsE (cs.set 16 (wrap64 (cs.getD 16 0 + 1))) false 0 0 false 0)) ?_ (i1.toNat) _ (cellsE_setReg (by (repeat rw [List.length_set]); exact HC.out) (by omega) _); (with_reducible repeat (first | refine blk_drewN ?_ _ | refine blk_drew ?_)); exact BK104.out⟩ ?_
      clear HB BK103 BK104
      rintro W2 ⟨hb, h3, h4⟩
      obtain ⟨FC, hFC⟩ : ∃ FC, FC = (cellsE ((cs.set 16 (wrap64 (cs.getD 16 0 + 1))).set i1.toNat ld) false 0 0 false 0) := ⟨_, rfl⟩
      rw [← hFC] at h4
      have HFC := Aside0.mk hFC
      have HB := Aside0.mk hb
      have BK103 := Aside0.mk h3
      have BK104 := Aside0.mk h4
      clear hb h3 h4 hFC
      go_wp2_with (first | ((with_reducible refine gate_dst (N := 179) rfl ?_); refine load_event (by rfl) 40 _ rfl gb104 _ _ _ (by (with_reducible repeat (first | exact BK104.out | refine blk_drewN ?_ _ | refine blk_drew ?_ | refine blk_alloc ?_ _)); try exact BK104.out) (by rfl) Tryd.underlying40 rfl ((by rw [HFC.out]; exact info40 (by (repeat rw [List.length_set]); exact HC.out))) ?_) | ((with_reducible refine gate_store (t := 40) (p := 6) rfl ?_); refine row_event (by rfl) 40 _ _ rfl gb103 (FC) _ _ (by (with_reducible repeat (first | exact BK103.out | refine blk_drewN ?_ _ | refine blk_drew ?_ | refine blk_alloc ?_ _)); try exact BK103.out) (by rfl) (by rfl) ((by rw [HFC.out]; exact info40 (by (repeat rw [List.length_set]); exact HC.out))) ((by rw [HFC.out]; exact (cellsE_size rfl).trans (cellsE_size (by (repeat rw [List.length_set]); exact HC.out)).symm)) ((by rw [HFC.out]; exact cellsE_one)) ?_; intro w103_ hbox hg; have n0_ := Aside0.mk (pw_below_grown (by repeat (first | (with_reducible first | exact HB.out | apply below_alloc | apply pw_below_drewN | apply below_drew1) | exact HB.out)) (some gb103) (below_size (by repeat (first | (with_reducible first | exact HB.out | apply below_alloc | apply pw_below_drewN | apply below_drew1) | exact HB.out))) hg (by rintro k_ e_; injection e_ with e_; rw [← e_]; exact GE103.out)); have n1_ := Aside0.mk hbox; clear HB BK103; have HB := n0_; have BK103 := n1_; clear n0_ n1_; clear hg hbox))
      refine bodyPost_ret (results_ct rfl _ _ gb103 40 FC (0, 0) _ rfl (by (with_reducible repeat (first | refine blk_drewN ?_ _ | refine blk_drew ?_)); exact BK103.out) Tryd.underlying40 rfl (by rw [HFC.out]; exact info40 (by (repeat rw [List.length_set]); exact HC.out))) rfl ?_
      rw [HFC.out]
      exact ⟨rfl, (by repeat (first | (with_reducible first | exact HB.out | apply below_alloc | apply pw_below_drewN | apply below_drew1) | exact HB.out))⟩
    by_cases c19 : i0 = 19
    · subst c19
      have hx0 : W.cell? ⟨gb104, i1.toNat, none⟩ = some (.int .i64 ((cs.set 16 (wrap64 (cs.getD 16 0 + 1))).getD i1.toNat 0)) := (blk_cell BK104.out _).trans (cellsE_reg HL.out (by omega))
      have hy0 := blk_frozen BK104.out (i1.toNat)
      have h := H.out
      clear H
      have h2 : (some (((cs.set 16 (wrap64 (cs.getD 16 0 + 1))).set i1.toNat ld), false, 0, 0, false, 0, 0) : Option (List Int × Bool × Int × Int × Bool × Int × Int)) = some (r1, r2, r3, r4, r5, r6, r7) := h
      clear h
      simp only [Option.some.injEq, Prod.mk.injEq] at h2
      obtain ⟨rfl, rfl, rfl, rfl, rfl, rfl, rfl⟩ := h2
      go_wp2
      go_region
      go_upto_region 39 with (fail)
      refine gen_w (P := Code.wp _ _ _) (F := fun W2 => Below w.heap.size w W2 ∧ W2.heap[gb103]? = some (.cells (cellsE zeros17 false 0 0 false 0) 40 (0, 0)) ∧ W2.heap[gb104]? = some (.cells (cellsE ((cs.set 16 (wrap64 (cs.getD 16 0 + 1))).set i1.toNat ld) false 0 0 false 0) 40 (0, 0))) ⟨by repeat (first | (with_reducible first | exact HB.out | apply pw_below_drewN | apply below_drew1 | refine below_set ?_ GE104.out) | exact HB.out), by (with_reducible repeat (first | refine blk_drewN ?_ _ | refine blk_drew ?_)); refine blk_far ?_ NE103_104.out _; (with_reducible repeat (first | refine blk_drewN ?_ _ | refine blk_drew ?_)); exact BK103.out, by (with_reducible repeat (first | refine blk_drewN ?_ _ | refine blk_drew ?_)); refine blk_put (cs := (cellsE (cs.set 16 (wrap64 (cs.getD 16 0 + 1))) false 0 0 false 0)) ?_ (i1.toNat) _ (cellsE_setReg (by (repeat rw [List.length_set]); exact HC.out) (by omega) _); (with_reducible repeat (first | refine blk_drewN ?_ _ | refine blk_drew ?_)); exact BK104.out⟩ ?_
      clear HB BK103 BK104
      rintro W2 ⟨hb, h3, h4⟩
      obtain ⟨FC, hFC⟩ : ∃ FC, FC = (cellsE ((cs.set 16 (wrap64 (cs.getD 16 0 + 1))).set i1.toNat ld) false 0 0 false 0) := ⟨_, rfl⟩
      rw [← hFC] at h4
      have HFC := Aside0.mk hFC
      have HB := Aside0.mk hb
      have BK103 := Aside0.mk h3
      have BK104 := Aside0.mk h4
      clear hb h3 h4 hFC
      go_wp2_with (first | ((with_reducible refine gate_dst (N := 179) rfl ?_); refine load_event (by rfl) 40 _ rfl gb104 _ _ _ (by (with_reducible repeat (first | exact BK104.out | refine blk_drewN ?_ _ | refine blk_drew ?_ | refine blk_alloc ?_ _)); try exact BK104.out) (by rfl) Tryd.underlying40 rfl ((by rw [HFC.out]; exact info40 (by (repeat rw [List.length_set]); exact HC.out))) ?_) | ((with_reducible refine gate_store (t := 40) (p := 6) rfl ?_); refine row_event (by rfl) 40 _ _ rfl gb103 (FC) _ _ (by (with_reducible repeat (first | exact BK103.out | refine blk_drewN ?_ _ | refine blk_drew ?_ | refine blk_alloc ?_ _)); try exact BK103.out) (by rfl) (by rfl) ((by rw [HFC.out]; exact info40 (by (repeat rw [List.length_set]); exact HC.out))) ((by rw [HFC.out]; exact (cellsE_size rfl).trans (cellsE_size (by (repeat rw [List.length_set]); exact HC.out)).symm)) ((by rw [HFC.out]; exact cellsE_one)) ?_; intro w103_ hbox hg; have n0_ := Aside0.mk (pw_below_grown (by repeat (first | (with_reducible first | exact HB.out | apply below_alloc | apply pw_below_drewN | apply below_drew1) | exact HB.out)) (some gb103) (below_size (by repeat (first | (with_reducible first | exact HB.out | apply below_alloc | apply pw_below_drewN | apply below_drew1) | exact HB.out))) hg (by rintro k_ e_; injection e_ with e_; rw [← e_]; exact GE103.out)); have n1_ := Aside0.mk hbox; clear HB BK103; have HB := n0_; have BK103 := n1_; clear n0_ n1_; clear hg hbox))
      refine bodyPost_ret (results_ct rfl _ _ gb103 40 FC (0, 0) _ rfl (by (with_reducible repeat (first | refine blk_drewN ?_ _ | refine blk_drew ?_)); exact BK103.out) Tryd.underlying40 rfl (by rw [HFC.out]; exact info40 (by (repeat rw [List.length_set]); exact HC.out))) rfl ?_
      rw [HFC.out]
      exact ⟨rfl, (by repeat (first | (with_reducible first | exact HB.out | apply below_alloc | apply pw_below_drewN | apply below_drew1) | exact HB.out))⟩
    by_cases c5 : i0 = 5
    · subst c5
      have hx0 : W.cell? ⟨gb104, i1.toNat, none⟩ = some (.int .i64 ((cs.set 16 (wrap64 (cs.getD 16 0 + 1))).getD i1.toNat 0)) := (blk_cell BK104.out _).trans (cellsE_reg HL.out (by omega))
      have hy0 := blk_frozen BK104.out (i1.toNat)
      have hr5 : W.cell? ⟨gb101, i2.toNat, none⟩ = some (.int .i64 (cs.getD i2.toNat 0)) := (blk_cell BK101.out _).trans (cellsI_get (by rw [HC.out]; omega))
      have hs5 := blk_frozen BK101.out (i2.toNat)
      have h := H.out
      clear H
      have h2 : (some (((cs.set 16 (wrap64 (cs.getD 16 0 + 1))).set i1.toNat (cs.getD i2.toNat 0)), false, 0, 0, false, 0, 0) : Option (List Int × Bool × Int × Int × Bool × Int × Int)) = some (r1, r2, r3, r4, r5, r6, r7) := h
      clear h
      simp only [Option.some.injEq, Prod.mk.injEq] at h2
      obtain ⟨rfl, rfl, rfl, rfl, rfl, rfl, rfl⟩ := h2
      go_wp2
      go_region
      go_upto_region 39 with (fail)
      refine gen_w (P := Code.wp _ _ _) (F := fun W2 => Below w.heap.size w W2 ∧ W2.heap[gb103]? = some (.cells (cellsE zeros17 false 0 0 false 0) 40 (0, 0)) ∧ W2.heap[gb104]? = some (.cells (cellsE ((cs.set 16 (wrap64 (cs.getD 16 0 + 1))).set i1.toNat (cs.getD i2.toNat 0)) false 0 0 false 0) 40 (0, 0))) ⟨by repeat (first | (with_reducible first | exact HB.out | apply pw_below_drewN | apply below_drew1 | refine below_set ?_ GE104.out) | exact HB.out), by (with_reducible repeat (first | refine blk_drewN ?_ _ | refine blk_drew ?_)); refine blk_far ?_ NE103_104.out _; (with_reducible repeat (first | refine blk_drewN ?_ _ | refine blk_drew ?_)); exact BK103.out, by (with_reducible repeat (first | refine blk_drewN ?_ _ | refine blk_drew ?_)); refine blk_put (cs := (cellsE (cs.set 16 (wrap64 (cs.getD 16 0 + 1))) false 0 0 false 0)) ?_ (i1.toNat) _ (cellsE_setReg (by (repeat rw [List.length_set]); exact HC.out) (by omega) _); (with_reducible repeat (first | refine blk_drewN ?_ _ | refine blk_drew ?_)); exact BK104.out⟩ ?_
      clear HB BK103 BK104
      rintro W2 ⟨hb, h3, h4⟩
      obtain ⟨FC, hFC⟩ : ∃ FC, FC = (cellsE ((cs.set 16 (wrap64 (cs.getD 16 0 + 1))).set i1.toNat (cs.getD i2.toNat 0)) false 0 0 false 0) := ⟨_, rfl⟩
      rw [← hFC] at h4
      have HFC := Aside0.mk hFC
      have HB := Aside0.mk hb
      have BK103 := Aside0.mk h3
      have BK104 := Aside0.mk h4
      clear hb h3 h4 hFC
      go_wp2_with (first | ((with_reducible refine gate_dst (N := 179) rfl ?_); refine load_event (by rfl) 40 _ rfl gb104 _ _ _ (by (with_reducible repeat (first | exact BK104.out | refine blk_drewN ?_ _ | refine blk_drew ?_ | refine blk_alloc ?_ _)); try exact BK104.out) (by rfl) Tryd.underlying40 rfl ((by rw [HFC.out]; exact info40 (by (repeat rw [List.length_set]); exact HC.out))) ?_) | ((with_reducible refine gate_store (t := 40) (p := 6) rfl ?_); refine row_event (by rfl) 40 _ _ rfl gb103 (FC) _ _ (by (with_reducible repeat (first | exact BK103.out | refine blk_drewN ?_ _ | refine blk_drew ?_ | refine blk_alloc ?_ _)); try exact BK103.out) (by rfl) (by rfl) ((by rw [HFC.out]; exact info40 (by (repeat rw [List.length_set]); exact HC.out))) ((by rw [HFC.out]; exact (cellsE_size rfl).trans (cellsE_size (by (repeat rw [List.length_set]); exact HC.out)).symm)) ((by rw [HFC.out]; exact cellsE_one)) ?_; intro w103_ hbox hg; have n0_ := Aside0.mk (pw_below_grown (by repeat (first | (with_reducible first | exact HB.out | apply below_alloc | apply pw_below_drewN | apply below_drew1) | exact HB.out)) (some gb103) (below_size (by repeat (first | (with_reducible first | exact HB.out | apply below_alloc | apply pw_below_drewN | apply below_drew1) | exact HB.out))) hg (by rintro k_ e_; injection e_ with e_; rw [← e_]; exact GE103.out)); have n1_ := Aside0.mk hbox; clear HB BK103; have HB := n0_; have BK103 := n1_; clear n0_ n1_; clear hg hbox))
      refine bodyPost_ret (results_ct rfl _ _ gb103 40 FC (0, 0) _ rfl (by (with_reducible repeat (first | refine blk_drewN ?_ _ | refine blk_drew ?_)); exact BK103.out) Tryd.underlying40 rfl (by rw [HFC.out]; exact info40 (by (repeat rw [List.length_set]); exact HC.out))) rfl ?_
      rw [HFC.out]
      exact ⟨rfl, (by repeat (first | (with_reducible first | exact HB.out | apply below_alloc | apply pw_below_drewN | apply below_drew1) | exact HB.out))⟩
    by_cases c18 : i0 = 18
    · subst c18
      have hx0 : W.cell? ⟨gb104, i1.toNat, none⟩ = some (.int .i64 ((cs.set 16 (wrap64 (cs.getD 16 0 + 1))).getD i1.toNat 0)) := (blk_cell BK104.out _).trans (cellsE_reg HL.out (by omega))
      have hy0 := blk_frozen BK104.out (i1.toNat)
      have hr5 : W.cell? ⟨gb101, i2.toNat, none⟩ = some (.int .i64 (cs.getD i2.toNat 0)) := (blk_cell BK101.out _).trans (cellsI_get (by rw [HC.out]; omega))
      have hs5 := blk_frozen BK101.out (i2.toNat)
      have h := H.out
      clear H
      have h2 : (some (((cs.set 16 (wrap64 (cs.getD 16 0 + 1))).set i1.toNat (wrap64 (cs.getD i2.toNat 0 + i4))), false, 0, 0, false, 0, 0) : Option (List Int × Bool × Int × Int × Bool × Int × Int)) = some (r1, r2, r3, r4, r5, r6, r7) := h
      clear h
      simp only [Option.some.injEq, Prod.mk.injEq] at h2
      obtain ⟨rfl, rfl, rfl, rfl, rfl, rfl, rfl⟩ := h2
      go_wp2
      go_region
      go_upto_region 39 with (fail)
      refine gen_w (P := Code.wp _ _ _) (F := fun W2 => Below w.heap.size w W2 ∧ W2.heap[gb103]? = some (.cells (cellsE zeros17 false 0 0 false 0) 40 (0, 0)) ∧ W2.heap[gb104]? = some (.cells (cellsE ((cs.set 16 (wrap64 (cs.getD 16 0 + 1))).set i1.toNat (wrap64 (cs.getD i2.toNat 0 + i4))) false 0 0 false 0) 40 (0, 0))) ⟨by repeat (first | (with_reducible first | exact HB.out | apply pw_below_drewN | apply below_drew1 | refine below_set ?_ GE104.out) | exact HB.out), by (with_reducible repeat (first | refine blk_drewN ?_ _ | refine blk_drew ?_)); refine blk_far ?_ NE103_104.out _; (with_reducible repeat (first | refine blk_drewN ?_ _ | refine blk_drew ?_)); exact BK103.out, by (with_reducible repeat (first | refine blk_drewN ?_ _ | refine blk_drew ?_)); refine blk_put (cs := (cellsE (cs.set 16 (wrap64 (cs.getD 16 0 + 1))) false 0 0 false 0)) ?_ (i1.toNat) _ (cellsE_setReg (by (repeat rw [List.length_set]); exact HC.out) (by omega) _); (with_reducible repeat (first | refine blk_drewN ?_ _ | refine blk_drew ?_)); exact BK104.out⟩ ?_
      clear HB BK103 BK104
      rintro W2 ⟨hb, h3, h4⟩
      obtain ⟨FC, hFC⟩ : ∃ FC, FC = (cellsE ((cs.set 16 (wrap64 (cs.getD 16 0 + 1))).set i1.toNat (wrap64 (cs.getD i2.toNat 0 + i4))) false 0 0 false 0) := ⟨_, rfl⟩
      rw [← hFC] at h4
      have HFC := Aside0.mk hFC
      have HB := Aside0.mk hb
      have BK103 := Aside0.mk h3
      have BK104 := Aside0.mk h4
      clear hb h3 h4 hFC
      go_wp2_with (first | ((with_reducible refine gate_dst (N := 179) rfl ?_); refine load_event (by rfl) 40 _ rfl gb104 _ _ _ (by (with_reducible repeat (first | exact BK104.out | refine blk_drewN ?_ _ | refine blk_drew ?_ | refine blk_alloc ?_ _)); try exact BK104.out) (by rfl) Tryd.underlying40 rfl ((by rw [HFC.out]; exact info40 (by (repeat rw [List.length_set]); exact HC.out))) ?_) | ((with_reducible refine gate_store (t := 40) (p := 6) rfl ?_); refine row_event (by rfl) 40 _ _ rfl gb103 (FC) _ _ (by (with_reducible repeat (first | exact BK103.out | refine blk_drewN ?_ _ | refine blk_drew ?_ | refine blk_alloc ?_ _)); try exact BK103.out) (by rfl) (by rfl) ((by rw [HFC.out]; exact info40 (by (repeat rw [List.length_set]); exact HC.out))) ((by rw [HFC.out]; exact (cellsE_size rfl).trans (cellsE_size (by (repeat rw [List.length_set]); exact HC.out)).symm)) ((by rw [HFC.out]; exact cellsE_one)) ?_; intro w103_ hbox hg; have n0_ := Aside0.mk (pw_below_grown (by repeat (first | (with_reducible first | exact HB.out | apply below_alloc | apply pw_below_drewN | apply below_drew1) | exact HB.out)) (some gb103) (below_size (by repeat (first | (with_reducible first | exact HB.out | apply below_alloc | apply pw_below_drewN | apply below_drew1) | exact HB.out))) hg (by rintro k_ e_; injection e_ with e_; rw [← e_]; exact GE103.out)); have n1_ := Aside0.mk hbox; clear HB BK103; have HB := n0_; have BK103 := n1_; clear n0_ n1_; clear hg hbox))
      refine bodyPost_ret (results_ct rfl _ _ gb103 40 FC (0, 0) _ rfl (by (with_reducible repeat (first | refine blk_drewN ?_ _ | refine blk_drew ?_)); exact BK103.out) Tryd.underlying40 rfl (by rw [HFC.out]; exact info40 (by (repeat rw [List.length_set]); exact HC.out))) rfl ?_
      rw [HFC.out]
      exact ⟨rfl, (by repeat (first | (with_reducible first | exact HB.out | apply below_alloc | apply pw_below_drewN | apply below_drew1) | exact HB.out))⟩
    by_cases c20 : i0 = 20
    · subst c20
      have hx17 : W.cell? ⟨gb104, 17, none⟩ = some (.bool false) := (blk_cell BK104.out _).trans (cellsE_at17 HL.out)
      have hy17 := blk_frozen BK104.out 17
      have hx18 : W.cell? ⟨gb104, 18, none⟩ = some (.int .i64 0) := (blk_cell BK104.out _).trans (cellsE_at18 HL.out)
      have hy18 := blk_frozen BK104.out 18
      have hx19 : W.cell? ⟨gb104, 19, none⟩ = some (.int .i64 0) := (blk_cell BK104.out _).trans (cellsE_at19 HL.out)
      have hy19 := blk_frozen BK104.out 19
      have hr5 : W.cell? ⟨gb101, i2.toNat, none⟩ = some (.int .i64 (cs.getD i2.toNat 0)) := (blk_cell BK101.out _).trans (cellsI_get (by rw [HC.out]; omega))
      have hs5 := blk_frozen BK101.out (i2.toNat)
      have hr6 : W.cell? ⟨gb101, i1.toNat, none⟩ = some (.int .i64 (cs.getD i1.toNat 0)) := (blk_cell BK101.out _).trans (cellsI_get (by rw [HC.out]; omega))
      have hs6 := blk_frozen BK101.out (i1.toNat)
      have h := H.out
      clear H
      have h2 : (some ((cs.set 16 (wrap64 (cs.getD 16 0 + 1))), true, (wrap64 (cs.getD i2.toNat 0 + i4)), (cs.getD i1.toNat 0), false, 0, 0) : Option (List Int × Bool × Int × Int × Bool × Int × Int)) = some (r1, r2, r3, r4, r5, r6, r7) := h
      clear h
      simp only [Option.some.injEq, Prod.mk.injEq] at h2
      obtain ⟨rfl, rfl, rfl, rfl, rfl, rfl, rfl⟩ := h2
      go_wp2
      go_region
      go_upto_region 39 with (fail)
      refine gen_w (P := Code.wp _ _ _) (F := fun W2 => Below w.heap.size w W2 ∧ W2.heap[gb103]? = some (.cells (cellsE zeros17 false 0 0 false 0) 40 (0, 0)) ∧ W2.heap[gb104]? = some (.cells (cellsE (cs.set 16 (wrap64 (cs.getD 16 0 + 1))) true (wrap64 (cs.getD i2.toNat 0 + i4)) (cs.getD i1.toNat 0) false 0) 40 (0, 0))) ⟨by repeat (first | (with_reducible first | exact HB.out | apply pw_below_drewN | apply below_drew1 | refine below_set ?_ GE104.out) | exact HB.out), by (with_reducible repeat (first | refine blk_drewN ?_ _ | refine blk_drew ?_)); refine blk_far ?_ NE103_104.out _; (with_reducible repeat (first | refine blk_drewN ?_ _ | refine blk_drew ?_)); refine blk_far ?_ NE103_104.out _; (with_reducible repeat (first | refine blk_drewN ?_ _ | refine blk_drew ?_)); refine blk_far ?_ NE103_104.out _; (with_reducible repeat (first | refine blk_drewN ?_ _ | refine blk_drew ?_)); exact BK103.out, by (with_reducible repeat (first | refine blk_drewN ?_ _ | refine blk_drew ?_)); refine blk_put (cs := (cellsE (cs.set 16 (wrap64 (cs.getD 16 0 + 1))) true (wrap64 (cs.getD i2.toNat 0 + i4)) 0 false 0)) ?_ (19) _ (cellsE_set19 (by (repeat rw [List.length_set]); exact HC.out) _); (with_reducible repeat (first | refine blk_drewN ?_ _ | refine blk_drew ?_)); refine blk_put (cs := (cellsE (cs.set 16 (wrap64 (cs.getD 16 0 + 1))) true 0 0 false 0)) ?_ (18) _ (cellsE_set18 (by (repeat rw [List.length_set]); exact HC.out) _); (with_reducible repeat (first | refine blk_drewN ?_ _ | refine blk_drew ?_)); refine blk_put (cs := (cellsE (cs.set 16 (wrap64 (cs.getD 16 0 + 1))) false 0 0 false 0)) ?_ (17) _ (cellsE_set17 (by (repeat rw [List.length_set]); exact HC.out) _); (with_reducible repeat (first | refine blk_drewN ?_ _ | refine blk_drew ?_)); exact BK104.out⟩ ?_
      clear HB BK103 BK104
      rintro W2 ⟨hb, h3, h4⟩
      obtain ⟨FC, hFC⟩ : ∃ FC, FC = (cellsE (cs.set 16 (wrap64 (cs.getD 16 0 + 1))) true (wrap64 (cs.getD i2.toNat 0 + i4)) (cs.getD i1.toNat 0) false 0) := ⟨_, rfl⟩
      rw [← hFC] at h4
      have HFC := Aside0.mk hFC
      have HB := Aside0.mk hb
      have BK103 := Aside0.mk h3
      have BK104 := Aside0.mk h4
      clear hb h3 h4 hFC
      go_wp2_with (first | ((with_reducible refine gate_dst (N := 179) rfl ?_); refine load_event (by rfl) 40 _ rfl gb104 _ _ _ (by (with_reducible repeat (first | exact BK104.out | refine blk_drewN ?_ _ | refine blk_drew ?_ | refine blk_alloc ?_ _)); try exact BK104.out) (by rfl) Tryd.underlying40 rfl ((by rw [HFC.out]; exact info40 (by (repeat rw [List.length_set]); exact HC.out))) ?_) | ((with_reducible refine gate_store (t := 40) (p := 6) rfl ?_); refine row_event (by rfl) 40 _ _ rfl gb103 (FC) _ _ (by (with_reducible repeat (first | exact BK103.out | refine blk_drewN ?_ _ | refine blk_drew ?_ | refine blk_alloc ?_ _)); try exact BK103.out) (by rfl) (by rfl) ((by rw [HFC.out]; exact info40 (by (repeat rw [List.length_set]); exact HC.out))) ((by rw [HFC.out]; exact (cellsE_size rfl).trans (cellsE_size (by (repeat rw [List.length_set]); exact HC.out)).symm)) ((by rw [HFC.out]; exact cellsE_one)) ?_; intro w103_ hbox hg; have n0_ := Aside0.mk (pw_below_grown (by repeat (first | (with_reducible first | exact HB.out | apply below_alloc | apply pw_below_drewN | apply below_drew1) | exact HB.out)) (some gb103) (below_size (by repeat (first | (with_reducible first | exact HB.out | apply below_alloc | apply pw_below_drewN | apply below_drew1) | exact HB.out))) hg (by rintro k_ e_; injection e_ with e_; rw [← e_]; exact GE103.out)); have n1_ := Aside0.mk hbox; clear HB BK103; have HB := n0_; have BK103 := n1_; clear n0_ n1_; clear hg hbox))
      refine bodyPost_ret (results_ct rfl _ _ gb103 40 FC (0, 0) _ rfl (by (with_reducible repeat (first | refine blk_drewN ?_ _ | refine blk_drew ?_)); exact BK103.out) Tryd.underlying40 rfl (by rw [HFC.out]; exact info40 (by (repeat rw [List.length_set]); exact HC.out))) rfl ?_
      rw [HFC.out]
      exact ⟨rfl, (by repeat (first | (with_reducible first | exact HB.out | apply below_alloc | apply pw_below_drewN | apply below_drew1) | exact HB.out))⟩
    by_cases c21 : i0 = 21
    · subst c21
      have hx16 : W.cell? ⟨gb104, 16, none⟩ = some (.int .i64 ((cs.set 16 (wrap64 (cs.getD 16 0 + 1))).getD 16 0)) := (blk_cell BK104.out _).trans (cellsE_reg HL.out (by omega))
      have hy16 := blk_frozen BK104.out (16)
      have h := H.out
      clear H
      have h2 : (some (((cs.set 16 (wrap64 (cs.getD 16 0 + 1))).set 16 i4), false, 0, 0, false, 0, 0) : Option (List Int × Bool × Int × Int × Bool × Int × Int)) = some (r1, r2, r3, r4, r5, r6, r7) := h
      clear h
      simp only [Option.some.injEq, Prod.mk.injEq] at h2
      obtain ⟨rfl, rfl, rfl, rfl, rfl, rfl, rfl⟩ := h2
      go_upto_region 39 with (fail)
      refine gen_w (P := Code.wp _ _ _) (F := fun W2 => Below w.heap.size w W2 ∧ W2.heap[gb103]? = some (.cells (cellsE zeros17 false 0 0 false 0) 40 (0, 0)) ∧ W2.heap[gb104]? = some (.cells (cellsE ((cs.set 16 (wrap64 (cs.getD 16 0 + 1))).set 16 i4) false 0 0 false 0) 40 (0, 0))) ⟨by repeat (first | (with_reducible first | exact HB.out | apply pw_below_drewN | apply below_drew1 | refine below_set ?_ GE104.out) | exact HB.out), by (with_reducible repeat (first | refine blk_drewN ?_ _ | refine blk_drew ?_)); refine blk_far ?_ NE103_104.out _; (with_reducible repeat (first | refine blk_drewN ?_ _ | refine blk_drew ?_)); exact BK103.out, by (with_reducible repeat (first | refine blk_drewN ?_ _ | refine blk_drew ?_)); refine blk_put (cs := (cellsE (cs.set 16 (wrap64 (cs.getD 16 0 + 1))) false 0 0 false 0)) ?_ (16) _ (cellsE_setReg (by (repeat rw [List.length_set]); exact HC.out) (by omega) _); (with_reducible repeat (first | refine blk_drewN ?_ _ | refine blk_drew ?_)); exact BK104.out⟩ ?_
      clear HB BK103 BK104
      rintro W2 ⟨hb, h3, h4⟩
      obtain ⟨FC, hFC⟩ : ∃ FC, FC = (cellsE ((cs.set 16 (wrap64 (cs.getD 16 0 + 1))).set 16 i4) false 0 0 false 0) := ⟨_, rfl⟩
      rw [← hFC] at h4
      have HFC := Aside0.mk hFC
      have HB := Aside0.mk hb
      have BK103 := Aside0.mk h3
      have BK104 := Aside0.mk h4
      clear hb h3 h4 hFC
      go_wp2_with (first | ((with_reducible refine gate_dst (N := 179) rfl ?_); refine load_event (by rfl) 40 _ rfl gb104 _ _ _ (by (with_reducible repeat (first | exact BK104.out | refine blk_drewN ?_ _ | refine blk_drew ?_ | refine blk_alloc ?_ _)); try exact BK104.out) (by rfl) Tryd.underlying40 rfl ((by rw [HFC.out]; exact info40 (by (repeat rw [List.length_set]); exact HC.out))) ?_) | ((with_reducible refine gate_store (t := 40) (p := 6) rfl ?_); refine row_event (by rfl) 40 _ _ rfl gb103 (FC) _ _ (by (with_reducible repeat (first | exact BK103.out | refine blk_drewN ?_ _ | refine blk_drew ?_ | refine blk_alloc ?_ _)); try exact BK103.out) (by rfl) (by rfl) ((by rw [HFC.out]; exact info40 (by (repeat rw [List.length_set]); exact HC.out))) ((by rw [HFC.out]; exact (cellsE_size rfl).trans (cellsE_size (by (repeat rw [List.length_set]); exact HC.out)).symm)) ((by rw [HFC.out]; exact cellsE_one)) ?_; intro w103_ hbox hg; have n0_ := Aside0.mk (pw_below_grown (by repeat (first | (with_reducible first | exact HB.out | apply below_alloc | apply pw_below_drewN | apply below_drew1) | exact HB.out)) (some gb103) (below_size (by repeat (first | (with_reducible first | exact HB.out | apply below_alloc | apply pw_below_drewN | apply below_drew1) | exact HB.out))) hg (by rintro k_ e_; injection e_ with e_; rw [← e_]; exact GE103.out)); have n1_ := Aside0.mk hbox; clear HB BK103; have HB := n0_; have BK103 := n1_; clear n0_ n1_; clear hg hbox))
      refine bodyPost_ret (results_ct rfl _ _ gb103 40 FC (0, 0) _ rfl (by (with_reducible repeat (first | refine blk_drewN ?_ _ | refine blk_drew ?_)); exact BK103.out) Tryd.underlying40 rfl (by rw [HFC.out]; exact info40 (by (repeat rw [List.length_set]); exact HC.out))) rfl ?_
      rw [HFC.out]
      exact ⟨rfl, (by repeat (first | (with_reducible first | exact HB.out | apply below_alloc | apply pw_below_drewN | apply below_drew1) | exact HB.out))⟩
    by_cases c23 : i0 = 23
    · subst c23
      have hx16 : W.cell? ⟨gb104, 16, none⟩ = some (.int .i64 ((cs.set 16 (wrap64 (cs.getD 16 0 + 1))).getD 16 0)) := (blk_cell BK104.out _).trans (cellsE_reg HL.out (by omega))
      have hy16 := blk_frozen BK104.out (16)
      have hx14 : W.cell? ⟨gb104, 14, none⟩ = some (.int .i64 (cs.getD 14 0)) := (blk_cell BK104.out _).trans ((cellsE_reg HL.out (by omega)).trans (by rw [get14]))
      have hy14 := blk_frozen BK104.out 14
      have hx17 : W.cell? ⟨gb104, 17, none⟩ = some (.bool false) := (blk_cell BK104.out _).trans (cellsE_at17 HL.out)
      have hy17 := blk_frozen BK104.out 17
      have hx18 : W.cell? ⟨gb104, 18, none⟩ = some (.int .i64 0) := (blk_cell BK104.out _).trans (cellsE_at18 HL.out)
      have hy18 := blk_frozen BK104.out 18
      have hx19 : W.cell? ⟨gb104, 19, none⟩ = some (.int .i64 0) := (blk_cell BK104.out _).trans (cellsE_at19 HL.out)
      have hy19 := blk_frozen BK104.out 19
      have hr5 : W.cell? ⟨gb101, 16, none⟩ = some (.int .i64 (cs.getD 16 0)) := (blk_cell BK101.out _).trans (cellsI_get (by rw [HC.out]; omega))
      have hs5 := blk_frozen BK101.out (16)
      have h := H.out
      clear H
      have h2 : (some ((((cs.set 16 (wrap64 (cs.getD 16 0 + 1))).set 14 (wrap64 (cs.getD 14 0 - 1))).set 16 i4), true, (wrap64 (cs.getD 14 0 - 1)), (wrap64 (cs.getD 16 0 + 1)), false, 0, 0) : Option (List Int × Bool × Int × Int × Bool × Int × Int)) = some (r1, r2, r3, r4, r5, r6, r7) := h
      clear h
      simp only [Option.some.injEq, Prod.mk.injEq] at h2
      obtain ⟨rfl, rfl, rfl, rfl, rfl, rfl, rfl⟩ := h2
      go_wp2
      go_region
      go_upto_region 39 with (fail)
      refine gen_w (P := Code.wp _ _ _) (F := fun W2 => Below w.heap.size w W2 ∧ W2.heap[gb103]? = some (.cells (cellsE zeros17 false 0 0 false 0) 40 (0, 0)) ∧ W2.heap[gb104]? = some (.cells (cellsE (((cs.set 16 (wrap64 (cs.getD 16 0 + 1))).set 14 (wrap64 (cs.getD 14 0 - 1))).set 16 i4) true (wrap64 (cs.getD 14 0 - 1)) (wrap64 (cs.getD 16 0 + 1)) false 0) 40 (0, 0))) ⟨by repeat (first | (with_reducible first | exact HB.out | apply pw_below_drewN | apply below_drew1 | refine below_set ?_ GE104.out) | exact HB.out), by (with_reducible repeat (first | refine blk_drewN ?_ _ | refine blk_drew ?_)); refine blk_far ?_ NE103_104.out _; (with_reducible repeat (first | refine blk_drewN ?_ _ | refine blk_drew ?_)); refine blk_far ?_ NE103_104.out _; (with_reducible repeat (first | refine blk_drewN ?_ _ | refine blk_drew ?_)); refine blk_far ?_ NE103_104.out _; (with_reducible repeat (first | refine blk_drewN ?_ _ | refine blk_drew ?_)); refine blk_far ?_ NE103_104.out _; (with_reducible repeat (first | refine blk_drewN ?_ _ | refine blk_drew ?_)); refine blk_far ?_ NE103_104.out _; (with_reducible repeat (first | refine blk_drewN ?_ _ | refine blk_drew ?_)); exact BK103.out, by (with_reducible repeat (first | refine blk_drewN ?_ _ | refine blk_drew ?_)); refine blk_put (cs := (cellsE ((cs.set 16 (wrap64 (cs.getD 16 0 + 1))).set 14 (wrap64 (cs.getD 14 0 - 1))) true (wrap64 (cs.getD 14 0 - 1)) (wrap64 (cs.getD 16 0 + 1)) false 0)) ?_ (16) _ (cellsE_setReg (by (repeat rw [List.length_set]); exact HC.out) (by omega) _); (with_reducible repeat (first | refine blk_drewN ?_ _ | refine blk_drew ?_)); refine blk_put (cs := (cellsE ((cs.set 16 (wrap64 (cs.getD 16 0 + 1))).set 14 (wrap64 (cs.getD 14 0 - 1))) true (wrap64 (cs.getD 14 0 - 1)) 0 false 0)) ?_ (19) _ (cellsE_set19 (by (repeat rw [List.length_set]); exact HC.out) _); (with_reducible repeat (first | refine blk_drewN ?_ _ | refine blk_drew ?_)); refine blk_put (cs := (cellsE ((cs.set 16 (wrap64 (cs.getD 16 0 + 1))).set 14 (wrap64 (cs.getD 14 0 - 1))) true 0 0 false 0)) ?_ (18) _ (cellsE_set18 (by (repeat rw [List.length_set]); exact HC.out) _); (with_reducible repeat (first | refine blk_drewN ?_ _ | refine blk_drew ?_)); refine blk_put (cs := (cellsE ((cs.set 16 (wrap64 (cs.getD 16 0 + 1))).set 14 (wrap64 (cs.getD 14 0 - 1))) false 0 0 false 0)) ?_ (17) _ (cellsE_set17 (by (repeat rw [List.length_set]); exact HC.out) _); (with_reducible repeat (first | refine blk_drewN ?_ _ | refine blk_drew ?_)); refine blk_put (cs := (cellsE (cs.set 16 (wrap64 (cs.getD 16 0 + 1))) false 0 0 false 0)) ?_ (14) _ (cellsE_setReg (by (repeat rw [List.length_set]); exact HC.out) (by omega) _); (with_reducible repeat (first | refine blk_drewN ?_ _ | refine blk_drew ?_)); exact BK104.out⟩ ?_
      clear HB BK103 BK104
      rintro W2 ⟨hb, h3, h4⟩
      obtain ⟨FC, hFC⟩ : ∃ FC, FC = (cellsE (((cs.set 16 (wrap64 (cs.getD 16 0 + 1))).set 14 (wrap64 (cs.getD 14 0 - 1))).set 16 i4) true (wrap64 (cs.getD 14 0 - 1)) (wrap64 (cs.getD 16 0 + 1)) false 0) := ⟨_, rfl⟩
      rw [← hFC] at h4
      have HFC := Aside0.mk hFC
      have HB := Aside0.mk hb
      have BK103 := Aside0.mk h3
      have BK104 := Aside0.mk h4
      clear hb h3 h4 hFC
      go_wp2_with (first | ((with_reducible refine gate_dst (N := 179) rfl ?_); refine load_event (by rfl) 40 _ rfl gb104 _ _ _ (by (with_reducible repeat (first | exact BK104.out | refine blk_drewN ?_ _ | refine blk_drew ?_ | refine blk_alloc ?_ _)); try exact BK104.out) (by rfl) Tryd.underlying40 rfl ((by rw [HFC.out]; exact info40 (by (repeat rw [List.length_set]); exact HC.out))) ?_) | ((with_reducible refine gate_store (t := 40) (p := 6) rfl ?_); refine row_event (by rfl) 40 _ _ rfl gb103 (FC) _ _ (by (with_reducible repeat (first | exact BK103.out | refine blk_drewN ?_ _ | refine blk_drew ?_ | refine blk_alloc ?_ _)); try exact BK103.out) (by rfl) (by rfl) ((by rw [HFC.out]; exact info40 (by (repeat rw [List.length_set]); exact HC.out))) ((by rw [HFC.out]; exact (cellsE_size rfl).trans (cellsE_size (by (repeat rw [List.length_set]); exact HC.out)).symm)) ((by rw [HFC.out]; exact cellsE_one)) ?_; intro w103_ hbox hg; have n0_ := Aside0.mk (pw_below_grown (by repeat (first | (with_reducible first | exact HB.out | apply below_alloc | apply pw_below_drewN | apply below_drew1) | exact HB.out)) (some gb103) (below_size (by repeat (first | (with_reducible first | exact HB.out | apply below_alloc | apply pw_below_drewN | apply below_drew1) | exact HB.out))) hg (by rintro k_ e_; injection e_ with e_; rw [← e_]; exact GE103.out)); have n1_ := Aside0.mk hbox; clear HB BK103; have HB := n0_; have BK103 := n1_; clear n0_ n1_; clear hg hbox))
      refine bodyPost_ret (results_ct rfl _ _ gb103 40 FC (0, 0) _ rfl (by (with_reducible repeat (first | refine blk_drewN ?_ _ | refine blk_drew ?_)); exact BK103.out) Tryd.underlying40 rfl (by rw [HFC.out]; exact info40 (by (repeat rw [List.length_set]); exact HC.out))) rfl ?_
      rw [HFC.out]
      exact ⟨rfl, (by repeat (first | (with_reducible first | exact HB.out | apply below_alloc | apply pw_below_drewN | apply below_drew1) | exact HB.out))⟩
    by_cases c24 : i0 = 24
    · subst c24
      have hx16 : W.cell? ⟨gb104, 16, none⟩ = some (.int .i64 ((cs.set 16 (wrap64 (cs.getD 16 0 + 1))).getD 16 0)) := (blk_cell BK104.out _).trans (cellsE_reg HL.out (by omega))
      have hy16 := blk_frozen BK104.out (16)
      have hx14 : W.cell? ⟨gb104, 14, none⟩ = some (.int .i64 (cs.getD 14 0)) := (blk_cell BK104.out _).trans ((cellsE_reg HL.out (by omega)).trans (by rw [get14]))
      have hy14 := blk_frozen BK104.out 14
      have h := H.out
      clear H
      have h2 : (some ((((cs.set 16 (wrap64 (cs.getD 16 0 + 1))).set 16 ld).set 14 (wrap64 (cs.getD 14 0 + 1))), false, 0, 0, false, 0, 0) : Option (List Int × Bool × Int × Int × Bool × Int × Int)) = some (r1, r2, r3, r4, r5, r6, r7) := h
      clear h
      simp only [Option.some.injEq, Prod.mk.injEq] at h2
      obtain ⟨rfl, rfl, rfl, rfl, rfl, rfl, rfl⟩ := h2
      go_wp2
      go_region
      go_upto_region 39 with (fail)
      refine gen_w (P := Code.wp _ _ _) (F := fun W2 => Below w.heap.size w W2 ∧ W2.heap[gb103]? = some (.cells (cellsE zeros17 false 0 0 false 0) 40 (0, 0)) ∧ W2.heap[gb104]? = some (.cells (cellsE (((cs.set 16 (wrap64 (cs.getD 16 0 + 1))).set 16 ld).set 14 (wrap64 (cs.getD 14 0 + 1))) false 0 0 false 0) 40 (0, 0))) ⟨by repeat (first | (with_reducible first | exact HB.out | apply pw_below_drewN | apply below_drew1 | refine below_set ?_ GE104.out) | exact HB.out), by (with_reducible repeat (first | refine blk_drewN ?_ _ | refine blk_drew ?_)); refine blk_far ?_ NE103_104.out _; (with_reducible repeat (first | refine blk_drewN ?_ _ | refine blk_drew ?_)); refine blk_far ?_ NE103_104.out _; (with_reducible repeat (first | refine blk_drewN ?_ _ | refine blk_drew ?_)); exact BK103.out, by (with_reducible repeat (first | refine blk_drewN ?_ _ | refine blk_drew ?_)); refine blk_put (cs := (cellsE ((cs.set 16 (wrap64 (cs.getD 16 0 + 1))).set 16 ld) false 0 0 false 0)) ?_ (14) _ (cellsE_setReg (by (repeat rw [List.length_set]); exact HC.out) (by omega) _); (with_reducible repeat (first | refine blk_drewN ?_ _ | refine blk_drew ?_)); refine blk_put (cs := (cellsE (cs.set 16 (wrap64 (cs.getD 16 0 + 1))) false 0 0 false 0)) ?_ (16) _ (cellsE_setReg (by (repeat rw [List.length_set]); exact HC.out) (by omega) _); (with_reducible repeat (first | refine blk_drewN ?_ _ | refine blk_drew ?_)); exact BK104.out⟩ ?_
      clear HB BK103 BK104
      rintro W2 ⟨hb, h3, h4⟩
      obtain ⟨FC, hFC⟩ : ∃ FC, FC = (cellsE (((cs.set 16 (wrap64 (cs.getD 16 0 + 1))).set 16 ld).set 14 (wrap64 (cs.getD 14 0 + 1))) false 0 0 false 0) := ⟨_, rfl⟩
      rw [← hFC] at h4
      have HFC := Aside0.mk hFC
      have HB := Aside0.mk hb
      have BK103 := Aside0.mk h3
      have BK104 := Aside0.mk h4
      clear hb h3 h4 hFC
      go_wp2_with (first | ((with_reducible refine gate_dst (N := 179) rfl ?_); refine load_event (by rfl) 40 _ rfl gb104 _ _ _ (by (with_reducible repeat (first | exact BK104.out | refine blk_drewN ?_ _ | refine blk_drew ?_ | refine blk_alloc ?_ _)); try exact BK104.out) (by rfl) Tryd.underlying40 rfl ((by rw [HFC.out]; exact info40 (by (repeat rw [List.length_set]); exact HC.out))) ?_) | ((with_reducible refine gate_store (t := 40) (p := 6) rfl ?_); refine row_event (by rfl) 40 _ _ rfl gb103 (FC) _ _ (by (with_reducible repeat (first | exact BK103.out | refine blk_drewN ?_ _ | refine blk_drew ?_ | refine blk_alloc ?_ _)); try exact BK103.out) (by rfl) (by rfl) ((by rw [HFC.out]; exact info40 (by (repeat rw [List.length_set]); exact HC.out))) ((by rw [HFC.out]; exact (cellsE_size rfl).trans (cellsE_size (by (repeat rw [List.length_set]); exact HC.out)).symm)) ((by rw [HFC.out]; exact cellsE_one)) ?_; intro w103_ hbox hg; have n0_ := Aside0.mk (pw_below_grown (by repeat (first | (with_reducible first | exact HB.out | apply below_alloc | apply pw_below_drewN | apply below_drew1) | exact HB.out)) (some gb103) (below_size (by repeat (first | (with_reducible first | exact HB.out | apply below_alloc | apply pw_below_drewN | apply below_drew1) | exact HB.out))) hg (by rintro k_ e_; injection e_ with e_; rw [← e_]; exact GE103.out)); have n1_ := Aside0.mk hbox; clear HB BK103; have HB := n0_; have BK103 := n1_; clear n0_ n1_; clear hg hbox))
      refine bodyPost_ret (results_ct rfl _ _ gb103 40 FC (0, 0) _ rfl (by (with_reducible repeat (first | refine blk_drewN ?_ _ | refine blk_drew ?_)); exact BK103.out) Tryd.underlying40 rfl (by rw [HFC.out]; exact info40 (by (repeat rw [List.length_set]); exact HC.out))) rfl ?_
      rw [HFC.out]
      exact ⟨rfl, (by repeat (first | (with_reducible first | exact HB.out | apply below_alloc | apply pw_below_drewN | apply below_drew1) | exact HB.out))⟩
    by_cases c25 : i0 = 25
    · subst c25
      have hx20 : W.cell? ⟨gb104, 20, none⟩ = some (.bool false) := (blk_cell BK104.out _).trans (cellsE_at20 HL.out)
      have hy20 := blk_frozen BK104.out 20
      have hx21 : W.cell? ⟨gb104, 21, none⟩ = some (.int .i64 0) := (blk_cell BK104.out _).trans (cellsE_at21 HL.out)
      have hy21 := blk_frozen BK104.out 21
      have hr5 : W.cell? ⟨gb101, i1.toNat, none⟩ = some (.int .i64 (cs.getD i1.toNat 0)) := (blk_cell BK101.out _).trans (cellsI_get (by rw [HC.out]; omega))
      have hs5 := blk_frozen BK101.out (i1.toNat)
      have h := H.out
      clear H
      have h2 : (some ((cs.set 16 (wrap64 (cs.getD 16 0 + 1))), false, 0, 0, true, (cs.getD i1.toNat 0), 0) : Option (List Int × Bool × Int × Int × Bool × Int × Int)) = some (r1, r2, r3, r4, r5, r6, r7) := h
      clear h
      simp only [Option.some.injEq, Prod.mk.injEq] at h2
      obtain ⟨rfl, rfl, rfl, rfl, rfl, rfl, rfl⟩ := h2
      go_upto_region 39 with (fail)
      refine gen_w (P := Code.wp _ _ _) (F := fun W2 => Below w.heap.size w W2 ∧ W2.heap[gb103]? = some (.cells (cellsE zeros17 false 0 0 false 0) 40 (0, 0)) ∧ W2.heap[gb104]? = some (.cells (cellsE (cs.set 16 (wrap64 (cs.getD 16 0 + 1))) false 0 0 true (cs.getD i1.toNat 0)) 40 (0, 0))) ⟨by repeat (first | (with_reducible first | exact HB.out | apply pw_below_drewN | apply below_drew1 | refine below_set ?_ GE104.out) | exact HB.out), by (with_reducible repeat (first | refine blk_drewN ?_ _ | refine blk_drew ?_)); refine blk_far ?_ NE103_104.out _; (with_reducible repeat (first | refine blk_drewN ?_ _ | refine blk_drew ?_)); refine blk_far ?_ NE103_104.out _; (with_reducible repeat (first | refine blk_drewN ?_ _ | refine blk_drew ?_)); exact BK103.out, by (with_reducible repeat (first | refine blk_drewN ?_ _ | refine blk_drew ?_)); refine blk_put (cs := (cellsE (cs.set 16 (wrap64 (cs.getD 16 0 + 1))) false 0 0 true 0)) ?_ (21) _ (cellsE_set21 (by (repeat rw [List.length_set]); exact HC.out) _); (with_reducible repeat (first | refine blk_drewN ?_ _ | refine blk_drew ?_)); refine blk_put (cs := (cellsE (cs.set 16 (wrap64 (cs.getD 16 0 + 1))) false 0 0 false 0)) ?_ (20) _ (cellsE_set20 (by (repeat rw [List.length_set]); exact HC.out) _); (with_reducible repeat (first | refine blk_drewN ?_ _ | refine blk_drew ?_)); exact BK104.out⟩ ?_
      clear HB BK103 BK104
      rintro W2 ⟨hb, h3, h4⟩
      obtain ⟨FC, hFC⟩ : ∃ FC, FC = (cellsE (cs.set 16 (wrap64 (cs.getD 16 0 + 1))) false 0 0 true (cs.getD i1.toNat 0)) := ⟨_, rfl⟩
      rw [← hFC] at h4
      have HFC := Aside0.mk hFC
      have HB := Aside0.mk hb
      have BK103 := Aside0.mk h3
      have BK104 := Aside0.mk h4
      clear hb h3 h4 hFC
      go_wp2_with (first | ((with_reducible refine gate_dst (N := 179) rfl ?_); refine load_event (by rfl) 40 _ rfl gb104 _ _ _ (by (with_reducible repeat (first | exact BK104.out | refine blk_drewN ?_ _ | refine blk_drew ?_ | refine blk_alloc ?_ _)); try exact BK104.out) (by rfl) Tryd.underlying40 rfl ((by rw [HFC.out]; exact info40 (by (repeat rw [List.length_set]); exact HC.out))) ?_) | ((with_reducible refine gate_store (t := 40) (p := 6) rfl ?_); refine row_event (by rfl) 40 _ _ rfl gb103 (FC) _ _ (by (with_reducible repeat (first | exact BK103.out | refine blk_drewN ?_ _ | refine blk_drew ?_ | refine blk_alloc ?_ _)); try exact BK103.out) (by rfl) (by rfl) ((by rw [HFC.out]; exact info40 (by (repeat rw [List.length_set]); exact HC.out))) ((by rw [HFC.out]; exact (cellsE_size rfl).trans (cellsE_size (by (repeat rw [List.length_set]); exact HC.out)).symm)) ((by rw [HFC.out]; exact cellsE_one)) ?_; intro w103_ hbox hg; have n0_ := Aside0.mk (pw_below_grown (by repeat (first | (with_reducible first | exact HB.out | apply below_alloc | apply pw_below_drewN | apply below_drew1) | exact HB.out)) (some gb103) (below_size (by repeat (first | (with_reducible first | exact HB.out | apply below_alloc | apply pw_below_drewN | apply below_drew1) | exact HB.out))) hg (by rintro k_ e_; injection e_ with e_; rw [← e_]; exact GE103.out)); have n1_ := Aside0.mk hbox; clear HB BK103; have HB := n0_; have BK103 := n1_; clear n0_ n1_; clear hg hbox))
      refine bodyPost_ret (results_ct rfl _ _ gb103 40 FC (0, 0) _ rfl (by (with_reducible repeat (first | refine blk_drewN ?_ _ | refine blk_drew ?_)); exact BK103.out) Tryd.underlying40 rfl (by rw [HFC.out]; exact info40 (by (repeat rw [List.length_set]); exact HC.out))) rfl ?_
      rw [HFC.out]
      exact ⟨rfl, (by repeat (first | (with_reducible first | exact HB.out | apply below_alloc | apply pw_below_drewN | apply below_drew1) | exact HB.out))⟩
    by_cases c1 : i0 = 1
    · subst c1
      have hq := shapes_nop
      obtain ⟨⟨tG, hG⟩, _⟩ := Glob.below hGl.out HB.out
      have hg0 : W.cell? ⟨0, 12, none⟩ = some (.bool false) := (blk_cell hG 12).trans hq
      have hg1 := blk_frozen hG 12
      clear hG hq
      have h := H.out
      clear H
      have h2 : (some ((cs.set 16 (wrap64 (cs.getD 16 0 + 1))), false, 0, 0, false, 0, 0) : Option (List Int × Bool × Int × Int × Bool × Int × Int)) = some (r1, r2, r3, r4, r5, r6, r7) := h
      clear h
      simp only [Option.some.injEq, Prod.mk.injEq] at h2
      obtain ⟨rfl, rfl, rfl, rfl, rfl, rfl, rfl⟩ := h2
      go_upto_region 39 with (fail)
      refine gen_w (P := Code.wp _ _ _) (F := fun W2 => Below w.heap.size w W2 ∧ W2.heap[gb103]? = some (.cells (cellsE zeros17 false 0 0 false 0) 40 (0, 0)) ∧ W2.heap[gb104]? = some (.cells (cellsE (cs.set 16 (wrap64 (cs.getD 16 0 + 1))) false 0 0 false 0) 40 (0, 0))) ⟨by repeat (first | (with_reducible first | exact HB.out | apply pw_below_drewN | apply below_drew1 | refine below_set ?_ GE104.out) | exact HB.out), by (with_reducible repeat (first | refine blk_drewN ?_ _ | refine blk_drew ?_)); exact BK103.out, by (with_reducible repeat (first | refine blk_drewN ?_ _ | refine blk_drew ?_)); exact BK104.out⟩ ?_
      clear HB BK103 BK104
      rintro W2 ⟨hb, h3, h4⟩
      obtain ⟨FC, hFC⟩ : ∃ FC, FC = (cellsE (cs.set 16 (wrap64 (cs.getD 16 0 + 1))) false 0 0 false 0) := ⟨_, rfl⟩
      rw [← hFC] at h4
      have HFC := Aside0.mk hFC
      have HB := Aside0.mk hb
      have BK103 := Aside0.mk h3
      have BK104 := Aside0.mk h4
      clear hb h3 h4 hFC
      go_wp2_with (first | ((with_reducible refine gate_dst (N := 179) rfl ?_); refine load_event (by rfl) 40 _ rfl gb104 _ _ _ (by (with_reducible repeat (first | exact BK104.out | refine blk_drewN ?_ _ | refine blk_drew ?_ | refine blk_alloc ?_ _)); try exact BK104.out) (by rfl) Tryd.underlying40 rfl ((by rw [HFC.out]; exact info40 (by (repeat rw [List.length_set]); exact HC.out))) ?_) | ((with_reducible refine gate_store (t := 40) (p := 6) rfl ?_); refine row_event (by rfl) 40 _ _ rfl gb103 (FC) _ _ (by (with_reducible repeat (first | exact BK103.out | refine blk_drewN ?_ _ | refine blk_drew ?_ | refine blk_alloc ?_ _)); try exact BK103.out) (by rfl) (by rfl) ((by rw [HFC.out]; exact info40 (by (repeat rw [List.length_set]); exact HC.out))) ((by rw [HFC.out]; exact (cellsE_size rfl).trans (cellsE_size (by (repeat rw [List.length_set]); exact HC.out)).symm)) ((by rw [HFC.out]; exact cellsE_one)) ?_; intro w103_ hbox hg; have n0_ := Aside0.mk (pw_below_grown (by repeat (first | (with_reducible first | exact HB.out | apply below_alloc | apply pw_below_drewN | apply below_drew1) | exact HB.out)) (some gb103) (below_size (by repeat (first | (with_reducible first | exact HB.out | apply below_alloc | apply pw_below_drewN | apply below_drew1) | exact HB.out))) hg (by rintro k_ e_; injection e_ with e_; rw [← e_]; exact GE103.out)); have n1_ := Aside0.mk hbox; clear HB BK103; have HB := n0_; have BK103 := n1_; clear n0_ n1_; clear hg hbox))
      refine bodyPost_ret (results_ct rfl _ _ gb103 40 FC (0, 0) _ rfl (by (with_reducible repeat (first | refine blk_drewN ?_ _ | refine blk_drew ?_)); exact BK103.out) Tryd.underlying40 rfl (by rw [HFC.out]; exact info40 (by (repeat rw [List.length_set]); exact HC.out))) rfl ?_
      rw [HFC.out]
      exact ⟨rfl, (by repeat (first | (with_reducible first | exact HB.out | apply below_alloc | apply pw_below_drewN | apply below_drew1) | exact HB.out))⟩
    by_cases c22 : i0 = 22
    · subst c22
      have hr5 : W.cell? ⟨gb101, i1.toNat, none⟩ = some (.int .i64 (cs.getD i1.toNat 0)) := (blk_cell BK101.out _).trans (cellsI_get (by rw [HC.out]; omega))
      have hs5 := blk_frozen BK101.out (i1.toNat)
      have hx16 : W.cell? ⟨gb104, 16, none⟩ = some (.int .i64 ((cs.set 16 (wrap64 (cs.getD 16 0 + 1))).getD 16 0)) := (blk_cell BK104.out _).trans (cellsE_reg HL.out (by omega))
      have hy16 := blk_frozen BK104.out (16)
      have h := H.out
      clear H
      rw [exec1_zero] at h
      by_cases hz : cs.getD i1.toNat 0 = 0
      · rw [if_pos hz] at h
        have h2 : (some (((cs.set 16 (wrap64 (cs.getD 16 0 + 1))).set 16 i4), false, 0, 0, false, 0, 0) : Option (List Int × Bool × Int × Int × Bool × Int × Int)) = some (r1, r2, r3, r4, r5, r6, r7) := h
        clear h
        simp only [Option.some.injEq, Prod.mk.injEq] at h2
        obtain ⟨rfl, rfl, rfl, rfl, rfl, rfl, rfl⟩ := h2
        have hzb : (cs[i1.toNat]?.getD 0 == 0) = true := beq_iff_eq.mpr hz
        clear hz
        go_upto_region 39 with (fail)
        refine gen_w (P := Code.wp _ _ _) (F := fun W2 => Below w.heap.size w W2 ∧ W2.heap[gb103]? = some (.cells (cellsE zeros17 false 0 0 false 0) 40 (0, 0)) ∧ W2.heap[gb104]? = some (.cells (cellsE ((cs.set 16 (wrap64 (cs.getD 16 0 + 1))).set 16 i4) false 0 0 false 0) 40 (0, 0))) ⟨by repeat (first | (with_reducible first | exact HB.out | apply pw_below_drewN | apply below_drew1 | refine below_set ?_ GE104.out) | exact HB.out), by (with_reducible repeat (first | refine blk_drewN ?_ _ | refine blk_drew ?_)); refine blk_far ?_ NE103_104.out _; (with_reducible repeat (first | refine blk_drewN ?_ _ | refine blk_drew ?_)); exact BK103.out, by (with_reducible repeat (first | refine blk_drewN ?_ _ | refine blk_drew ?_)); refine blk_put (cs := (cellsE (cs.set 16 (wrap64 (cs.getD 16 0 + 1))) false 0 0 false 0)) ?_ (16) _ (cellsE_setReg (by (repeat rw [List.length_set]); exact HC.out) (by omega) _); (with_reducible repeat (first | refine blk_drewN ?_ _ | refine blk_drew ?_)); exact BK104.out⟩ ?_
        clear HB BK103 BK104
        rintro W2 ⟨hb, h3, h4⟩
        obtain ⟨FC, hFC⟩ : ∃ FC, FC = (cellsE ((cs.set 16 (wrap64 (cs.getD 16 0 + 1))).set 16 i4) false 0 0 false 0) := ⟨_, rfl⟩
        rw [← hFC] at h4
        have HFC := Aside0.mk hFC
        have HB := Aside0.mk hb
        have BK103 := Aside0.mk h3
        have BK104 := Aside0.mk h4
        clear hb h3 h4 hFC
        go_wp2_with (first | ((with_reducible refine gate_dst (N := 179) rfl ?_); refine load_event (by rfl) 40 _ rfl gb104 _ _ _ (by (with_reducible repeat (first | exact BK104.out | refine blk_drewN ?_ _ | refine blk_drew ?_ | refine blk_alloc ?_ _)); try exact BK104.out) (by rfl) Tryd.underlying40 rfl ((by rw [HFC.out]; exact info40 (by (repeat rw [List.length_set]); exact HC.out))) ?_) | ((with_reducible refine gate_store (t := 40) (p := 6) rfl ?_); refine row_event (by rfl) 40 _ _ rfl gb103 (FC) _ _ (by (with_reducible repeat (first | exact BK103.out | refine blk_drewN ?_ _ | refine blk_drew ?_ | refine blk_alloc ?_ _)); try exact BK103.out) (by rfl) (by rfl) ((by rw [HFC.out]; exact info40 (by (repeat rw [List.length_set]); exact HC.out))) ((by rw [HFC.out]; exact (cellsE_size rfl).trans (cellsE_size (by (repeat rw [List.length_set]); exact HC.out)).symm)) ((by rw [HFC.out]; exact cellsE_one)) ?_; intro w103_ hbox hg; have n0_ := Aside0.mk (pw_below_grown (by repeat (first | (with_reducible first | exact HB.out | apply below_alloc | apply pw_below_drewN | apply below_drew1) | exact HB.out)) (some gb103) (below_size (by repeat (first | (with_reducible first | exact HB.out | apply below_alloc | apply pw_below_drewN | apply below_drew1) | exact HB.out))) hg (by rintro k_ e_; injection e_ with e_; rw [← e_]; exact GE103.out)); have n1_ := Aside0.mk hbox; clear HB BK103; have HB := n0_; have BK103 := n1_; clear n0_ n1_; clear hg hbox))
        refine bodyPost_ret (results_ct rfl _ _ gb103 40 FC (0, 0) _ rfl (by (with_reducible repeat (first | refine blk_drewN ?_ _ | refine blk_drew ?_)); exact BK103.out) Tryd.underlying40 rfl (by rw [HFC.out]; exact info40 (by (repeat rw [List.length_set]); exact HC.out))) rfl ?_
        rw [HFC.out]
        exact ⟨rfl, (by repeat (first | (with_reducible first | exact HB.out | apply below_alloc | apply pw_below_drewN | apply below_drew1) | exact HB.out))⟩
      · rw [if_neg hz] at h
        have h2 : (some ((cs.set 16 (wrap64 (cs.getD 16 0 + 1))), false, 0, 0, false, 0, 0) : Option (List Int × Bool × Int × Int × Bool × Int × Int)) = some (r1, r2, r3, r4, r5, r6, r7) := h
        clear h
        simp only [Option.some.injEq, Prod.mk.injEq] at h2
        obtain ⟨rfl, rfl, rfl, rfl, rfl, rfl, rfl⟩ := h2
        have hzb : (cs[i1.toNat]?.getD 0 == 0) = false := beq_eq_false_iff_ne.mpr hz
        clear hz
        go_upto_region 39 with (fail)
        refine gen_w (P := Code.wp _ _ _) (F := fun W2 => Below w.heap.size w W2 ∧ W2.heap[gb103]? = some (.cells (cellsE zeros17 false 0 0 false 0) 40 (0, 0)) ∧ W2.heap[gb104]? = some (.cells (cellsE (cs.set 16 (wrap64 (cs.getD 16 0 + 1))) false 0 0 false 0) 40 (0, 0))) ⟨by repeat (first | (with_reducible first | exact HB.out | apply pw_below_drewN | apply below_drew1 | refine below_set ?_ GE104.out) | exact HB.out), by (with_reducible repeat (first | refine blk_drewN ?_ _ | refine blk_drew ?_)); exact BK103.out, by (with_reducible repeat (first | refine blk_drewN ?_ _ | refine blk_drew ?_)); exact BK104.out⟩ ?_
        clear HB BK103 BK104
        rintro W2 ⟨hb, h3, h4⟩
        obtain ⟨FC, hFC⟩ : ∃ FC, FC = (cellsE (cs.set 16 (wrap64 (cs.getD 16 0 + 1))) false 0 0 false 0) := ⟨_, rfl⟩
        rw [← hFC] at h4
        have HFC := Aside0.mk hFC
        have HB := Aside0.mk hb
        have BK103 := Aside0.mk h3
        have BK104 := Aside0.mk h4
        clear hb h3 h4 hFC
        go_wp2_with (first | ((with_reducible refine gate_dst (N := 179) rfl ?_); refine load_event (by rfl) 40 _ rfl gb104 _ _ _ (by (with_reducible repeat (first | exact BK104.out | refine blk_drewN ?_ _ | refine blk_drew ?_ | refine blk_alloc ?_ _)); try exact BK104.out) (by rfl) Tryd.underlying40 rfl ((by rw [HFC.out]; exact info40 (by (repeat rw [List.length_set]); exact HC.out))) ?_) | ((with_reducible refine gate_store (t := 40) (p := 6) rfl ?_); refine row_event (by rfl) 40 _ _ rfl gb103 (FC) _ _ (by (with_reducible repeat (first | exact BK103.out | refine blk_drewN ?_ _ | refine blk_drew ?_ | refine blk_alloc ?_ _)); try exact BK103.out) (by rfl) (by rfl) ((by rw [HFC.out]; exact info40 (by (repeat rw [List.length_set]); exact HC.out))) ((by rw [HFC.out]; exact (cellsE_size rfl).trans (cellsE_size (by (repeat rw [List.length_set]); exact HC.out)).symm)) ((by rw [HFC.out]; exact cellsE_one)) ?_; intro w103_ hbox hg; have n0_ := Aside0.mk (pw_below_grown (by repeat (first | (with_reducible first | exact HB.out | apply below_alloc | apply pw_below_drewN | apply below_drew1) | exact HB.out)) (some gb103) (below_size (by repeat (first | (with_reducible first | exact HB.out | apply below_alloc | apply pw_below_drewN | apply below_drew1) | exact HB.out))) hg (by rintro k_ e_; injection e_ with e_; rw [← e_]; exact GE103.out)); have n1_ := Aside0.mk hbox; clear HB BK103; have HB := n0_; have BK103 := n1_; clear n0_ n1_; clear hg hbox))
        refine bodyPost_ret (results_ct rfl _ _ gb103 40 FC (0, 0) _ rfl (by (with_reducible repeat (first | refine blk_drewN ?_ _ | refine blk_drew ?_)); exact BK103.out) Tryd.underlying40 rfl (by rw [HFC.out]; exact info40 (by (repeat rw [List.length_set]); exact HC.out))) rfl ?_
        rw [HFC.out]
        exact ⟨rfl, (by repeat (first | (with_reducible first | exact HB.out | apply below_alloc | apply pw_below_drewN | apply below_drew1) | exact HB.out))⟩
    have a0 : 6 ≤ i0 := by omega
    have a1 : i0 < 18 := by omega
    have h := H.out
    clear H
    rw [exec1_ar _ _ _ _ _ _ _ _ a0 a1] at h
    obtain ⟨x2, hx2⟩ : ∃ x, cs.getD i2.toNat 0 = x := ⟨_, rfl⟩
    have hr2 : W.cell? ⟨gb101, i2.toNat, none⟩ = some (.int .i64 x2) := (blk_cell BK101.out _).trans ((cellsI_get (by rw [HC.out]; omega)).trans (by rw [hx2]))
    have hs2 := blk_frozen BK101.out i2.toNat
    obtain ⟨x3, hx3⟩ : ∃ x, cs.getD i3.toNat 0 = x := ⟨_, rfl⟩
    have hr3 : W.cell? ⟨gb101, i3.toNat, none⟩ = some (.int .i64 x3) := (blk_cell BK101.out _).trans ((cellsI_get (by rw [HC.out]; omega)).trans (by rw [hx3]))
    have hs3 := blk_frozen BK101.out i3.toNat
    obtain ⟨v, hv⟩ := isa_compute.total i0 x2 x3
    simp only [hx2, hx3, hv, Option.getD_some] at h
    have h2 : (some (((cs.set 16 (wrap64 (cs.getD 16 0 + 1))).set i1.toNat v), false, 0, 0, false, 0, 0) : Option (List Int × Bool × Int × Int × Bool × Int × Int)) = some (r1, r2, r3, r4, r5, r6, r7) := h
    clear h hx2 hx3
    simp only [Option.some.injEq, Prod.mk.injEq] at h2
    obtain ⟨rfl, rfl, rfl, rfl, rfl, rfl, rfl⟩ := h2
    have AC := Aside0.mk hv
    clear hv
    have hx0 : W.cell? ⟨gb104, i1.toNat, none⟩ = some (.int .i64 ((cs.set 16 (wrap64 (cs.getD 16 0 + 1))).getD i1.toNat 0)) := (blk_cell BK104.out _).trans (cellsE_reg HL.out (by omega))
    have hy0 := blk_frozen BK104.out (i1.toNat)
    obtain ⟨⟨tG, hG⟩, _⟩ := Glob.below hGl.out HB.out
    have hg0 : W.cell? ⟨0, i0.toNat * 7 + 5, none⟩ = some (.bool true) := (blk_cell hG _).trans (shapes_ar a0 a1)
    have hg1 := blk_frozen hG (i0.toNat * 7 + 5)
    clear hG
    have d3 : (i0 == 3) = false := beq_eq_false_iff_ne.mpr c3
    have d4 : (i0 == 4) = false := beq_eq_false_iff_ne.mpr c4
    have d19 : (i0 == 19) = false := beq_eq_false_iff_ne.mpr c19
    have d5 : (i0 == 5) = false := beq_eq_false_iff_ne.mpr c5
    have d18 : (i0 == 18) = false := beq_eq_false_iff_ne.mpr c18
    have d20 : (i0 == 20) = false := beq_eq_false_iff_ne.mpr c20
    have d21 : (i0 == 21) = false := beq_eq_false_iff_ne.mpr c21
    have d22 : (i0 == 22) = false := beq_eq_false_iff_ne.mpr c22
    have d23 : (i0 == 23) = false := beq_eq_false_iff_ne.mpr c23
    have d24 : (i0 == 24) = false := beq_eq_false_iff_ne.mpr c24
    have d25 : (i0 == 25) = false := beq_eq_false_iff_ne.mpr c25
    clear c3 c4 c19 c5 c18 c20 c21 c22 c23 c24 c25 c1
    go_wp2
    refine start_ (n := 19) (S := fun w' => w'.cell? ⟨gb102, 0, none⟩ = some (.int .i64 i0) ∧ w'.cell? ⟨gb102, 1, none⟩ = some (.int .i64 i1) ∧ w'.cell? ⟨gb102, 2, none⟩ = some (.int .i64 i2) ∧ w'.cell? ⟨gb102, 3, none⟩ = some (.int .i64 i3) ∧ w'.cell? ⟨gb101, i2.toNat, none⟩ = some (.int .i64 x2) ∧ w'.cell? ⟨gb101, i3.toNat, none⟩ = some (.int .i64 x3)) (ds := [18]) #[false, false, false, false, false, false, false, false, false, false, false, false, false, false, false, false, false, false, false] (by kernel_rfl) rfl rfl ⟨hcb_0, hcb_1, hcb_2, hcb_3, hr2, hr3⟩ (fun hHeld => ?_); refine with_tabW isa_Execute.tab8 isa_Execute.bits8 (fun HT_ HW_ => ?_)
    refine pure_ (i := 0) (N := some 36) (v := ?_) (a' := ?_) #[true, false, false, false, false, false, false, false, false, false, false, false, false, false, false, false, false, false, false] rfl rfl (any_of HT_.out (by kernel_rfl)) (fun _ _ _ h => h) (Or.inl ⟨by rfl, ?_⟩) ?_ ?_
    rotate_left
    · intro w'
      go_simp
      (try with_reducible rfl)
    rotate_left
    · simp only [Act.put, List.setIfInBounds_toArray, List.set_cons_zero, List.set_cons_succ, i64_w, i32_w]
      rfl
    refine pure_ (i := 1) (N := some 37) (v := ?_) (a' := ?_) #[true, true, false, false, false, false, false, false, false, false, false, false, false, false, false, false, false, false, false] rfl rfl (any_of HT_.out (by kernel_rfl)) (fun _ _ _ h => h) (Or.inl ⟨by rfl, ?_⟩) ?_ ?_
    rotate_left
    · intro w'
      go_simp
      (try with_reducible rfl)
    rotate_left
    · simp only [Act.put, List.setIfInBounds_toArray, List.set_cons_zero, List.set_cons_succ, i64_w, i32_w]
      rfl
    refine pure_ (i := 3) (N := some 39) (v := ?_) (a' := ?_) #[true, true, false, true, false, false, false, false, false, false, false, false, false, false, false, false, false, false, false] rfl rfl (any_of HT_.out (by kernel_rfl)) (fun _ _ _ h => h) (Or.inl ⟨by rfl, ?_⟩) ?_ ?_
    rotate_left
    · intro w'
      go_simp
      (try with_reducible rfl)
    rotate_left
    · simp only [Act.put, List.setIfInBounds_toArray, List.set_cons_zero, List.set_cons_succ, i64_w, i32_w]
      rfl
    refine pure_ (i := 5) (N := some 41) (v := ?_) (a' := ?_) #[true, true, false, true, false, true, false, false, false, false, false, false, false, false, false, false, false, false, false] rfl rfl (any_of HT_.out (by kernel_rfl)) (fun _ _ _ h => h) (Or.inl ⟨by rfl, ?_⟩) ?_ ?_
    rotate_left
    · intro w'
      go_simp
      (try with_reducible rfl)
    rotate_left
    · simp only [Act.put, List.setIfInBounds_toArray, List.set_cons_zero, List.set_cons_succ, i64_w, i32_w]
      rfl
    refine pure_ (i := 7) (N := some 43) (v := ?_) (a' := ?_) #[true, true, false, true, false, true, false, true, false, false, false, false, false, false, false, false, false, false, false] rfl rfl (any_of HT_.out (by kernel_rfl)) (fun _ _ _ h => h) (Or.inl ⟨by rfl, ?_⟩) ?_ ?_
    rotate_left
    · intro w'
      go_simp
      (try with_reducible rfl)
    rotate_left
    · simp only [Act.put, List.setIfInBounds_toArray, List.set_cons_zero, List.set_cons_succ, i64_w, i32_w]
      rfl
    refine pure_ (i := 10) (N := some 46) (v := ?_) (a' := ?_) #[true, true, false, true, false, true, false, true, false, false, true, false, false, false, false, false, false, false, false] rfl rfl (any_of HT_.out (by kernel_rfl)) (fun _ _ _ h => h) (Or.inl ⟨by rfl, ?_⟩) ?_ ?_
    rotate_left
    · intro w'
      go_simp
      (try with_reducible rfl)
    rotate_left
    · simp only [Act.put, List.setIfInBounds_toArray, List.set_cons_zero, List.set_cons_succ, i64_w, i32_w]
      rfl
    refine pure_ (i := 12) (N := some 48) (v := ?_) (a' := ?_) #[true, true, false, true, false, true, false, true, false, false, true, false, true, false, false, false, false, false, false] rfl rfl (any_of HT_.out (by kernel_rfl)) (fun _ _ _ h => h) (Or.inl ⟨by rfl, ?_⟩) ?_ ?_
    rotate_left
    · intro w'
      go_simp
      (try with_reducible rfl)
    rotate_left
    · simp only [Act.put, List.setIfInBounds_toArray, List.set_cons_zero, List.set_cons_succ, i64_w, i32_w]
      rfl
    refine pure_ (i := 16) (N := some 52) (v := ?_) (a' := ?_) #[true, true, false, true, false, true, false, true, false, false, true, false, true, false, false, false, true, false, false] rfl rfl (any_of HT_.out (by kernel_rfl)) (fun _ _ _ h => h) (Or.inl ⟨by rfl, ?_⟩) ?_ ?_
    rotate_left
    · intro w'
      go_simp
      (try with_reducible rfl)
    rotate_left
    · simp only [Act.put, List.setIfInBounds_toArray, List.set_cons_zero, List.set_cons_succ, i64_w, i32_w]
      rfl
    refine take_ (i := 2) (N := some 38) (v := ?_) (a' := ?_) #[true, true, true, true, false, true, false, true, false, false, true, false, true, false, false, false, true, false, false] rfl rfl (take_ofW HT_.out HW_.out (by kernel_rfl)) (fun _ _ _ h => h) (Or.inl ⟨by rfl, ?_⟩) hHeld ?_ ?_
    rotate_left
    · rintro w' ⟨s0, s1, s2, s3, s4, s5⟩
      go_simp
      (try with_reducible rfl)
    rotate_left
    · simp only [Act.put, List.setIfInBounds_toArray, List.set_cons_zero, List.set_cons_succ, i64_w, i32_w]
      rfl
    refine take_ (i := 4) (N := some 40) (v := ?_) (a' := ?_) #[true, true, true, true, true, true, false, true, false, false, true, false, true, false, false, false, true, false, false] rfl rfl (take_ofW HT_.out HW_.out (by kernel_rfl)) (fun _ _ _ h => h) (Or.inl ⟨by rfl, ?_⟩) hHeld ?_ ?_
    rotate_left
    · rintro w' ⟨s0, s1, s2, s3, s4, s5⟩
      go_simp
      (try with_reducible rfl)
    rotate_left
    · simp only [Act.put, List.setIfInBounds_toArray, List.set_cons_zero, List.set_cons_succ, i64_w, i32_w]
      rfl
    refine take_ (i := 6) (N := some 42) (v := ?_) (a' := ?_) #[true, true, true, true, true, true, true, true, false, false, true, false, true, false, false, false, true, false, false] rfl rfl (take_ofW HT_.out HW_.out (by kernel_rfl)) (fun _ _ _ h => h) (Or.inl ⟨by rfl, ?_⟩) hHeld ?_ ?_
    rotate_left
    · rintro w' ⟨s0, s1, s2, s3, s4, s5⟩
      go_simp
      (try with_reducible rfl)
    rotate_left
    · simp only [Act.put, List.setIfInBounds_toArray, List.set_cons_zero, List.set_cons_succ, i64_w, i32_w]
      rfl
    refine pure_ (i := 8) (N := some 44) (v := ?_) (a' := ?_) #[true, true, true, true, true, true, true, true, true, false, true, false, true, false, false, false, true, false, false] rfl rfl (any_of HT_.out (by kernel_rfl)) (fun _ _ _ h => h) (Or.inl ⟨by rfl, ?_⟩) ?_ ?_
    rotate_left
    · intro w'
      go_simp
      (try with_reducible rfl)
    rotate_left
    · simp only [Act.put, List.setIfInBounds_toArray, List.set_cons_zero, List.set_cons_succ, i64_w, i32_w]
      rfl
    refine take_ (i := 9) (N := some 45) (v := ?_) (a' := ?_) #[true, true, true, true, true, true, true, true, true, true, true, false, true, false, false, false, true, false, false] rfl rfl (take_ofW HT_.out HW_.out (by kernel_rfl)) (fun _ _ _ h => h) (Or.inl ⟨by rfl, ?_⟩) hHeld ?_ ?_
    rotate_left
    · rintro w' ⟨s0, s1, s2, s3, s4, s5⟩
      go_simp
      (try with_reducible rfl)
    rotate_left
    · simp only [Act.put, List.setIfInBounds_toArray, List.set_cons_zero, List.set_cons_succ, i64_w, i32_w]
      rfl
    refine take_ (i := 11) (N := some 47) (v := ?_) (a' := ?_) #[true, true, true, true, true, true, true, true, true, true, true, true, true, false, false, false, true, false, false] rfl rfl (take_ofW HT_.out HW_.out (by kernel_rfl)) (fun _ _ _ h => h) (Or.inl ⟨by rfl, ?_⟩) hHeld ?_ ?_
    rotate_left
    · rintro w' ⟨s0, s1, s2, s3, s4, s5⟩
      go_simp
      (try with_reducible rfl)
    rotate_left
    · simp only [Act.put, List.setIfInBounds_toArray, List.set_cons_zero, List.set_cons_succ, i64_w, i32_w]
      rfl
    refine pure_ (i := 13) (N := some 49) (v := ?_) (a' := ?_) #[true, true, true, true, true, true, true, true, true, true, true, true, true, true, false, false, true, false, false] rfl rfl (any_of HT_.out (by kernel_rfl)) (fun _ _ _ h => h) (Or.inl ⟨by rfl, ?_⟩) ?_ ?_
    rotate_left
    · intro w'
      go_simp
      (try with_reducible rfl)
    rotate_left
    · simp only [Act.put, List.setIfInBounds_toArray, List.set_cons_zero, List.set_cons_succ, i64_w, i32_w]
      rfl
    refine take_ (i := 14) (N := some 50) (v := ?_) (a' := ?_) #[true, true, true, true, true, true, true, true, true, true, true, true, true, true, true, false, true, false, false] rfl rfl (take_ofW HT_.out HW_.out (by kernel_rfl)) (fun _ _ _ h => h) (Or.inl ⟨by rfl, ?_⟩) hHeld ?_ ?_
    rotate_left
    · rintro w' ⟨s0, s1, s2, s3, s4, s5⟩
      go_simp
      (try with_reducible rfl)
    rotate_left
    · simp only [Act.put, List.setIfInBounds_toArray, List.set_cons_zero, List.set_cons_succ, i64_w, i32_w]
      rfl
    refine one_ (i := 15) (N := some 51) #[true, true, true, true, true, true, true, true, true, true, true, true, true, true, true, true, true, false, false] rfl rfl (one_of HT_.out (by kernel_rfl)) (by decide) (fun K hK => ?_)
    refine goes_ Tryd.func38 (by kernel_rfl) rfl #[.int .i64 i0, .int .i64 x2, .int .i64 x3] (by rfl) rfl rfl (by (try simp only [List.map_toArray, List.map_cons, List.map_nil]); first | done | rfl | (simp only [List.length_drop, List.length_take]; rfl)) ?_
    with_reducible refine (isa_compute.calls i0 x2 x3 v _ AC.out).mono ?_
    rintro e w2 ⟨rfl, ⟨nd, rfl⟩⟩
    refine ⟨_, rfl, ?_⟩
    refine hK.out _ _ ⟨hcb_0, hcb_1, hcb_2, hcb_3, hr2, hr3⟩ (fun hHeld => ?_)
    clear hK K
    refine norm_ (a' := ?_) ?_ ?_
    rotate_left
    · show Act.put _ (some 51) _ = _
      simp only [Act.put, List.setIfInBounds_toArray, List.set_cons_zero, List.set_cons_succ, i64_w, i32_w]
      rfl
    refine pure_ (i := 17) (N := some 53) (v := ?_) (a' := ?_) #[true, true, true, true, true, true, true, true, true, true, true, true, true, true, true, true, true, true, false] rfl rfl (any_of HT_.out (by kernel_rfl)) (fun _ _ _ h => h) (Or.inl ⟨by rfl, ?_⟩) ?_ ?_
    rotate_left
    · intro w'
      go_simp
      (try with_reducible rfl)
    rotate_left
    · simp only [Act.put, List.setIfInBounds_toArray, List.set_cons_zero, List.set_cons_succ, i64_w, i32_w]
      rfl
    refine last_ (i := 18) (N := none) #[true, true, true, true, true, true, true, true, true, true, true, true, true, true, true, true, true, true, true] rfl rfl (one_of HT_.out (by kernel_rfl)) (by decide) (fun K hK => ?_)
    refine skip_ (w1 := ?_) (by rfl) rfl ?_ ?_
    rotate_left
    · go_simp
      rfl
    refine hK.out _ _ ?_
    clear hK K
    refine done_ (done_of HT_.out (by kernel_rfl)) ?_
    go_upto_region 39 with (fail)
    refine gen_w (P := Code.wp _ _ _) (F := fun W2 => Below w.heap.size w W2 ∧ W2.heap[gb103]? = some (.cells (cellsE zeros17 false 0 0 false 0) 40 (0, 0)) ∧ W2.heap[gb104]? = some (.cells (cellsE ((cs.set 16 (wrap64 (cs.getD 16 0 + 1))).set i1.toNat v) false 0 0 false 0) 40 (0, 0))) ⟨by repeat (first | (with_reducible first | exact HB.out | apply pw_below_drewN | apply below_drew1 | refine below_set ?_ GE104.out) | exact HB.out), by (with_reducible repeat (first | refine blk_drewN ?_ _ | refine blk_drew ?_)); refine blk_far ?_ NE103_104.out _; (with_reducible repeat (first | refine blk_drewN ?_ _ | refine blk_drew ?_)); exact BK103.out, by (with_reducible repeat (first | refine blk_drewN ?_ _ | refine blk_drew ?_)); refine blk_put (cs := (cellsE (cs.set 16 (wrap64 (cs.getD 16 0 + 1))) false 0 0 false 0)) ?_ (i1.toNat) _ (cellsE_setReg (by (repeat rw [List.length_set]); exact HC.out) (by omega) _); (with_reducible repeat (first | refine blk_drewN ?_ _ | refine blk_drew ?_)); exact BK104.out⟩ ?_
    clear HB BK103 BK104
    rintro W2 ⟨hb, h3, h4⟩
    obtain ⟨FC, hFC⟩ : ∃ FC, FC = (cellsE ((cs.set 16 (wrap64 (cs.getD 16 0 + 1))).set i1.toNat v) false 0 0 false 0) := ⟨_, rfl⟩
    rw [← hFC] at h4
    have HFC := Aside0.mk hFC
    have HB := Aside0.mk hb
    have BK103 := Aside0.mk h3
    have BK104 := Aside0.mk h4
    clear hb h3 h4 hFC
    go_wp2_with (first | ((with_reducible refine gate_dst (N := 179) rfl ?_); refine load_event (by rfl) 40 _ rfl gb104 _ _ _ (by (with_reducible repeat (first | exact BK104.out | refine blk_drewN ?_ _ | refine blk_drew ?_ | refine blk_alloc ?_ _)); try exact BK104.out) (by rfl) Tryd.underlying40 rfl ((by rw [HFC.out]; exact info40 (by (repeat rw [List.length_set]); exact HC.out))) ?_) | ((with_reducible refine gate_store (t := 40) (p := 6) rfl ?_); refine row_event (by rfl) 40 _ _ rfl gb103 (FC) _ _ (by (with_reducible repeat (first | exact BK103.out | refine blk_drewN ?_ _ | refine blk_drew ?_ | refine blk_alloc ?_ _)); try exact BK103.out) (by rfl) (by rfl) ((by rw [HFC.out]; exact info40 (by (repeat rw [List.length_set]); exact HC.out))) ((by rw [HFC.out]; exact (cellsE_size rfl).trans (cellsE_size (by (repeat rw [List.length_set]); exact HC.out)).symm)) ((by rw [HFC.out]; exact cellsE_one)) ?_; intro w103_ hbox hg; have n0_ := Aside0.mk (pw_below_grown (by repeat (first | (with_reducible first | exact HB.out | apply below_alloc | apply pw_below_drewN | apply below_drew1) | exact HB.out)) (some gb103) (below_size (by repeat (first | (with_reducible first | exact HB.out | apply below_alloc | apply pw_below_drewN | apply below_drew1) | exact HB.out))) hg (by rintro k_ e_; injection e_ with e_; rw [← e_]; exact GE103.out)); have n1_ := Aside0.mk hbox; clear HB BK103; have HB := n0_; have BK103 := n1_; clear n0_ n1_; clear hg hbox))
    refine bodyPost_ret (results_ct rfl _ _ gb103 40 FC (0, 0) _ rfl (by (with_reducible repeat (first | refine blk_drewN ?_ _ | refine blk_drew ?_)); exact BK103.out) Tryd.underlying40 rfl (by rw [HFC.out]; exact info40 (by (repeat rw [List.length_set]); exact HC.out))) rfl ?_
    rw [HFC.out]
    exact ⟨rfl, (by repeat (first | (with_reducible first | exact HB.out | apply below_alloc | apply pw_below_drewN | apply below_drew1) | exact HB.out))⟩
  · have ce2 := Bool.eq_false_iff.mpr ce
    have HE1 := Aside0.mk (HE.out.trans (congrArg some ce2))
    clear HE
    have h := H.out
    clear H
    unfold isa_Execute.f at h
    rw [if_neg c2, if_neg ce] at h
    have h2 : (some (zeros17, false, 0, 0, false, 0, 14) : Option (List Int × Bool × Int × Int × Bool × Int × Int)) = some (r1, r2, r3, r4, r5, r6, r7) := h
    clear h
    simp only [Option.some.injEq, Prod.mk.injEq] at h2
    obtain ⟨rfl, rfl, rfl, rfl, rfl, rfl, rfl⟩ := h2
    go_enter Tryd.func20, Tryd.ntmps20
    go_upto_region 1 with (first | ((with_reducible refine gate_dst (N := 3) rfl ?_); refine box_event ?hg (N := 3) ?hd (cs := cellsI cs) (t := 35) ?hr ?_; (case hd => rfl); (case hg => rfl); (case hr => first | (go_simp; done) | (go_simp; rfl)); intro gb101 hg w101 hbox hb; have n0_ := Aside0.mk (below_step (by repeat (first | (with_reducible first | exact HB.out | apply below_alloc | apply pw_below_drewN | apply below_drew1) | exact HB.out)) hb); have n1_ := Aside0.mk hbox; have n2_ := Aside0.mk ((by rw [hg]; exact (below_size (by repeat (first | (with_reducible first | exact HB.out | apply below_alloc | apply pw_below_drewN | apply below_drew1) | exact HB.out)))) : w.heap.size ≤ gb101); clear HB; have HB := n0_; have BK101 := n1_; have GE101 := n2_; clear n0_ n1_ n2_; clear hb hbox hg) | ((with_reducible refine gate_dst (N := 4) rfl ?_); refine box_event ?hg (N := 4) ?hd (cs := #[.int .i64 i0, .int .i64 i1, .int .i64 i2, .int .i64 i3, .int .i64 i4]) (t := 23) ?hr ?_; (case hd => rfl); (case hg => rfl); (case hr => first | (go_simp; done) | (go_simp; rfl)); intro gb102 hg w102 hbox hb; have n0_ := Aside0.mk (below_step (by repeat (first | (with_reducible first | exact HB.out | apply below_alloc | apply pw_below_drewN | apply below_drew1) | exact HB.out)) hb); have n1_ := Aside0.mk hbox; have n2_ := Aside0.mk ((by rw [hg]; exact (below_size (by repeat (first | (with_reducible first | exact HB.out | apply below_alloc | apply pw_below_drewN | apply below_drew1) | exact HB.out)))) : w.heap.size ≤ gb102); have m101_ := Aside0.mk (blk_below (by (with_reducible repeat (first | exact BK101.out | refine blk_drewN ?_ _ | refine blk_drew ?_ | refine blk_alloc ?_ _)); try exact BK101.out) hb); have k101_ := Aside0.mk (show gb101 ≠ gb102 from by rw [hg]; exact Nat.ne_of_lt (blk_lt (by (with_reducible repeat (first | exact BK101.out | refine blk_drewN ?_ _ | refine blk_drew ?_ | refine blk_alloc ?_ _)); try exact BK101.out))); clear HB; have HB := n0_; have BK102 := n1_; have GE102 := n2_; clear n0_ n1_ n2_; clear BK101; have BK101 := m101_; have NE101_102 := k101_; clear m101_ k101_; clear hb hbox hg) | ((with_reducible refine gate_dst (N := 6) rfl ?_); refine box_event ?hg (N := 6) ?hd (cs := cellsE zeros17 false 0 0 false 0) (t := 40) ?hr ?_; (case hd => rfl); (case hg => rfl); (case hr => first | (go_simp; done) | (go_simp; rfl)); intro gb103 hg w103 hbox hb; have n0_ := Aside0.mk (below_step (by repeat (first | (with_reducible first | exact HB.out | apply below_alloc | apply pw_below_drewN | apply below_drew1) | exact HB.out)) hb); have n1_ := Aside0.mk hbox; have n2_ := Aside0.mk ((by rw [hg]; exact (below_size (by repeat (first | (with_reducible first | exact HB.out | apply below_alloc | apply pw_below_drewN | apply below_drew1) | exact HB.out)))) : w.heap.size ≤ gb103); have m101_ := Aside0.mk (blk_below (by (with_reducible repeat (first | exact BK101.out | refine blk_drewN ?_ _ | refine blk_drew ?_ | refine blk_alloc ?_ _)); try exact BK101.out) hb); have k101_ := Aside0.mk (show gb101 ≠ gb103 from by rw [hg]; exact Nat.ne_of_lt (blk_lt (by (with_reducible repeat (first | exact BK101.out | refine blk_drewN ?_ _ | refine blk_drew ?_ | refine blk_alloc ?_ _)); try exact BK101.out))); have m102_ := Aside0.mk (blk_below (by (with_reducible repeat (first | exact BK102.out | refine blk_drewN ?_ _ | refine blk_drew ?_ | refine blk_alloc ?_ _)); try exact BK102.out) hb); have k102_ := Aside0.mk (show gb102 ≠ gb103 from by rw [hg]; exact Nat.ne_of_lt (blk_lt (by (with_reducible repeat (first | exact BK102.out | refine blk_drewN ?_ _ | refine blk_drew ?_ | refine blk_alloc ?_ _)); try exact BK102.out))); clear HB; have HB := n0_; have BK103 := n1_; have GE103 := n2_; clear n0_ n1_ n2_; clear BK101; have BK101 := m101_; have NE101_103 := k101_; clear m101_ k101_; clear BK102; have BK102 := m102_; have NE102_103 := k102_; clear m102_ k102_; clear hb hbox hg))
    have hca_0 : w103.cell? ⟨gb102, 0, none⟩ = some (.int .i64 i0) := (blk_cell BK102.out 0).trans (rfl)
    have hca_1 : w103.cell? ⟨gb102, 1, none⟩ = some (.int .i64 i1) := (blk_cell BK102.out 1).trans (rfl)
    have hca_2 : w103.cell? ⟨gb102, 2, none⟩ = some (.int .i64 i2) := (blk_cell BK102.out 2).trans (rfl)
    have hca_3 : w103.cell? ⟨gb102, 3, none⟩ = some (.int .i64 i3) := (blk_cell BK102.out 3).trans (rfl)
    have hca_4 : w103.cell? ⟨gb102, 4, none⟩ = some (.int .i64 i4) := (blk_cell BK102.out 4).trans (rfl)
    have hfa_0 := blk_frozen BK102.out 0
    have hfa_1 := blk_frozen BK102.out 1
    have hfa_2 := blk_frozen BK102.out 2
    have hfa_3 := blk_frozen BK102.out 3
    have hfa_4 := blk_frozen BK102.out 4
    go_upto_region 2 with (first | (go_at_call 32; (with_reducible refine (isa_encodable.calls 1 i0 i1 i2 i3 i4 false _ HE1.out).mono ?_); rintro e w' ⟨rfl, hb⟩; have n0_ := Aside0.mk (below_step (by repeat (first | (with_reducible first | exact HB.out | apply below_alloc | apply pw_below_drewN | apply below_drew1) | exact HB.out)) hb); have m101_ := Aside0.mk (blk_below (by (with_reducible repeat (first | exact BK101.out | refine blk_drewN ?_ _ | refine blk_drew ?_ | refine blk_alloc ?_ _)); try exact BK101.out) hb); have m102_ := Aside0.mk (blk_below (by (with_reducible repeat (first | exact BK102.out | refine blk_drewN ?_ _ | refine blk_drew ?_ | refine blk_alloc ?_ _)); try exact BK102.out) hb); have m103_ := Aside0.mk (blk_below (by (with_reducible repeat (first | exact BK103.out | refine blk_drewN ?_ _ | refine blk_drew ?_ | refine blk_alloc ?_ _)); try exact BK103.out) hb); clear HB; have HB := n0_; clear n0_; clear BK101; have BK101 := m101_; clear m101_; clear BK102; have BK102 := m102_; clear m102_; clear BK103; have BK103 := m103_; clear m103_; clear hb))
    go_wp2_with (first | ((with_reducible refine gate_store (t := 40) (p := 6) rfl ?_); refine row_event (by rfl) 40 _ _ rfl gb103 (cellsE zeros17 false 0 0 false 0) _ _ (by (with_reducible repeat (first | exact BK103.out | refine blk_drewN ?_ _ | refine blk_drew ?_ | refine blk_alloc ?_ _)); try exact BK103.out) (by rfl) (by rfl) (info40 rfl) (rfl) (cellsE_one) ?_; intro w103_ hbox hg; have n0_ := Aside0.mk (pw_below_grown (by repeat (first | (with_reducible first | exact HB.out | apply below_alloc | apply pw_below_drewN | apply below_drew1) | exact HB.out)) (some gb103) (below_size (by repeat (first | (with_reducible first | exact HB.out | apply below_alloc | apply pw_below_drewN | apply below_drew1) | exact HB.out))) hg (by rintro k_ e_; injection e_ with e_; rw [← e_]; exact GE103.out)); have n1_ := Aside0.mk hbox; clear HB BK103; have HB := n0_; have BK103 := n1_; clear n0_ n1_; clear hg hbox))
    refine bodyPost_ret (results_ct rfl _ _ gb103 40 (cellsE zeros17 false 0 0 false 0) (0, 0) _ rfl (by (with_reducible repeat (first | refine blk_drewN ?_ _ | refine blk_drew ?_)); exact BK103.out) Tryd.underlying40 rfl (info40 rfl)) rfl ?_
    exact ⟨rfl, (by repeat (first | (with_reducible first | exact HB.out | apply below_alloc | apply pw_below_drewN | apply below_drew1) | exact HB.out))⟩

end Go.Proofs.YtoakfejpmlgbcaaDoor.PIsa
