-- By wip/xprint.py (a driver of this session's over the kit's print), for this claim.
import Derived.Test.YtoakfejpmlgbcaaDoorPIsax0
import Derived.Test.YtoakfejpmlgbcaaDoorPIsax2
import Derived.Test.YtoakfejpmlgbcaaDoorPIsax3
namespace Go.Proofs.YtoakfejpmlgbcaaDoor.PIsa
open Go.RowKit Go.Proofs.YtoakfejpmlgbcaaDoorW.PrintWords Go.Proofs.YtoakfejpmlgbcaaDoorW.PrintLast Go.Proofs.YtoakfejpmlgbcaaDoorW.PrintMore
attribute [local go_sem] max2_int min2_int max_two min_two max_three min_three max_four min_four   -- for this text's walks alone
set_option linter.unusedVariables false
set_option linter.unusedSimpArgs false

/-! ### isa_Decode: function 12, by hand: the fields as letters -/
theorem isa_Decode.reg_ev (x : Int) : isa_register.f x = some (decide (0 ≤ x ∧ x < 16)) := by
  unfold isa_register.f
  by_cases h : x ≥ 0
  · rw [if_pos h]
    congr 1
    by_cases h' : x < 16
    · rw [decide_eq_true h', decide_eq_true ⟨h, h'⟩]
    · rw [decide_eq_false h', decide_eq_false (fun z => h' z.2)]
  · rw [if_neg h, decide_eq_false (fun z => h z.1)]
theorem isa_Decode.known_ev (x : Int) : isa_known.f x = some (decide (1 ≤ x ∧ x < 26)) := by
  unfold isa_known.f
  by_cases h : x ≥ 1
  · rw [if_pos h]
    congr 1
    by_cases h' : x < 26
    · rw [decide_eq_true h', decide_eq_true ⟨h, h'⟩]
    · rw [decide_eq_false h', decide_eq_false (fun z => h' z.2)]
  · rw [if_neg h, decide_eq_false (fun z => h z.1)]
def isa_Decode.f (a0 : Int) : Option (Int × Int × Int × Int × Int × Int) := if (1 ≤ Go.bits .and .i64 a0 255 ∧ Go.bits .and .i64 a0 255 < 26) ∧ (0 ≤ Go.bits .and .i64 (a0 / 256) 255 ∧ Go.bits .and .i64 (a0 / 256) 255 < 16) ∧ (0 ≤ Go.bits .and .i64 (a0 / 65536) 255 ∧ Go.bits .and .i64 (a0 / 65536) 255 < 16) ∧ (0 ≤ Go.bits .and .i64 (a0 / 16777216) 255 ∧ Go.bits .and .i64 (a0 / 16777216) 255 < 16) then some (Go.bits .and .i64 a0 255, Go.bits .and .i64 (a0 / 256) 255, Go.bits .and .i64 (a0 / 65536) 255, Go.bits .and .i64 (a0 / 16777216) 255, a0 / 4294967296, 0) else some (0, 0, 0, 0, 0, 4)
set_option maxHeartbeats 8000000 in
set_option maxRecDepth 100000 in
theorem isa_Decode.calls (a0 : Int) (r1 : Int) (r2 : Int) (r3 : Int) (r4 : Int) (r5 : Int) (r6 : Int) (w : World) (h : isa_Decode.f a0 = some (r1, r2, r3, r4, r5, r6)) :
    Calls Tryd.prog 12 #[.int .i64 a0] w fun e w' => e = .returned (.tuple #[.agg #[.int .i64 r1, .int .i64 r2, .int .i64 r3, .int .i64 r4, .int .i64 r5], .int .i64 r6]) ∧ Below w.heap.size w w' := by
  have HB := Aside0.mk (Below.refl w.heap.size w)
  have hu23 := Tryd.underlying23
  unfold isa_Decode.f at h
  obtain ⟨o, ho⟩ : ∃ x, Go.bits .and .i64 a0 255 = x := ⟨_, rfl⟩
  obtain ⟨a, ha⟩ : ∃ x, Go.bits .and .i64 (a0 / 256) 255 = x := ⟨_, rfl⟩
  obtain ⟨b, hb⟩ : ∃ x, Go.bits .and .i64 (a0 / 65536) 255 = x := ⟨_, rfl⟩
  obtain ⟨c, hc⟩ : ∃ x, Go.bits .and .i64 (a0 / 16777216) 255 = x := ⟨_, rfl⟩
  obtain ⟨d, hd⟩ : ∃ x, a0 / 4294967296 = x := ⟨_, rfl⟩
  rw [ho, ha, hb, hc, hd] at h
  obtain ⟨tk, htk⟩ : ∃ x, decide (1 ≤ o ∧ o < 26) = x := ⟨_, rfl⟩
  obtain ⟨ta, hta⟩ : ∃ x, decide (0 ≤ a ∧ a < 16) = x := ⟨_, rfl⟩
  obtain ⟨tb, htb⟩ : ∃ x, decide (0 ≤ b ∧ b < 16) = x := ⟨_, rfl⟩
  obtain ⟨tc, htc⟩ : ∃ x, decide (0 ≤ c ∧ c < 16) = x := ⟨_, rfl⟩
  have AO := Aside0.mk ((isa_Decode.known_ev o).trans (congrArg some htk))
  have AA := Aside0.mk ((isa_Decode.reg_ev a).trans (congrArg some hta))
  have AB := Aside0.mk ((isa_Decode.reg_ev b).trans (congrArg some htb))
  have AC := Aside0.mk ((isa_Decode.reg_ev c).trans (congrArg some htc))
  have H : Aside0 ((if (tk && ta && tb && tc) = true then some (o, a, b, c, d, 0) else some (0, 0, 0, 0, 0, 4)) = some (r1, r2, r3, r4, r5, r6)) := by
    refine ⟨Eq.trans ?_ h⟩
    rw [← htk, ← hta, ← htb, ← htc]
    by_cases hz : (1 ≤ o ∧ o < 26) ∧ (0 ≤ a ∧ a < 16) ∧ (0 ≤ b ∧ b < 16) ∧ (0 ≤ c ∧ c < 16)
    · rw [if_pos hz, decide_eq_true hz.1, decide_eq_true hz.2.1, decide_eq_true hz.2.2.1, decide_eq_true hz.2.2.2]
      rfl
    · rw [if_neg hz, if_neg]
      intro hy
      simp only [Bool.and_eq_true, decide_eq_true_eq] at hy
      exact hz ⟨hy.1.1.1, hy.1.1.2, hy.1.2, hy.2⟩
  clear h htk hta htb htc
  go_enter Tryd.func12, Tryd.ntmps12
  go_upto_region 2 with (first | ((with_reducible refine gate_dst (N := 2) rfl ?_); refine box_event ?hg (N := 2) ?hd (cs := #[.int .i64 0, .int .i64 0, .int .i64 0, .int .i64 0, .int .i64 0]) (t := 23) ?hr ?_; (case hd => rfl); (case hg => rfl); (case hr => first | (go_simp; done) | (go_simp; rfl)); intro gb201 hg w201 hbox hb; have n0_ := Aside0.mk (below_step (by repeat (first | (with_reducible first | exact HB.out | apply below_alloc | apply pw_below_drewN | apply below_drew1) | exact HB.out)) hb); have n1_ := Aside0.mk hbox; have n2_ := Aside0.mk ((by rw [hg]; exact (below_size (by repeat (first | (with_reducible first | exact HB.out | apply below_alloc | apply pw_below_drewN | apply below_drew1) | exact HB.out)))) : w.heap.size ≤ gb201); clear HB; have HB := n0_; have BK201 := n1_; have GE201 := n2_; clear n0_ n1_ n2_; clear hb hbox hg) | ((with_reducible refine gate_dst (N := 4) rfl ?_); refine box_event ?hg (N := 4) ?hd (cs := #[.int .i64 0, .int .i64 0, .int .i64 0, .int .i64 0, .int .i64 0]) (t := 23) ?hr ?_; (case hd => rfl); (case hg => rfl); (case hr => first | (go_simp; done) | (go_simp; rfl)); intro gb202 hg w202 hbox hb; have n0_ := Aside0.mk (below_step (by repeat (first | (with_reducible first | exact HB.out | apply below_alloc | apply pw_below_drewN | apply below_drew1) | exact HB.out)) hb); have n1_ := Aside0.mk hbox; have n2_ := Aside0.mk ((by rw [hg]; exact (below_size (by repeat (first | (with_reducible first | exact HB.out | apply below_alloc | apply pw_below_drewN | apply below_drew1) | exact HB.out)))) : w.heap.size ≤ gb202); have m201_ := Aside0.mk (blk_below (by (with_reducible repeat (first | exact BK201.out | refine blk_drewN ?_ _ | refine blk_drew ?_ | refine blk_alloc ?_ _)); try exact BK201.out) hb); have k201_ := Aside0.mk (show gb201 ≠ gb202 from by rw [hg]; exact Nat.ne_of_lt (blk_lt (by (with_reducible repeat (first | exact BK201.out | refine blk_drewN ?_ _ | refine blk_drew ?_ | refine blk_alloc ?_ _)); try exact BK201.out))); clear HB; have HB := n0_; have BK202 := n1_; have GE202 := n2_; clear n0_ n1_ n2_; clear BK201; have BK201 := m201_; have NE201_202 := k201_; clear m201_ k201_; clear hb hbox hg) | ((with_reducible refine gate_store (t := 23) (p := 4) rfl ?_); refine row_event (by rfl) 23 _ _ rfl gb202 (#[.int .i64 o, .int .i64 a, .int .i64 b, .int .i64 c, .int .i64 d]) _ _ (by (with_reducible repeat (first | exact BK202.out | refine blk_drewN ?_ _ | refine blk_drew ?_ | refine blk_alloc ?_ _)); try exact BK202.out) (by rfl) (by rfl) (by kernel_rfl) (by rfl) (cellsI_one [o, a, b, c, d]) ?_; intro w202_ hbox hg; have n0_ := Aside0.mk (pw_below_grown (by repeat (first | (with_reducible first | exact HB.out | apply below_alloc | apply pw_below_drewN | apply below_drew1) | exact HB.out)) (some gb202) (below_size (by repeat (first | (with_reducible first | exact HB.out | apply below_alloc | apply pw_below_drewN | apply below_drew1) | exact HB.out))) hg (by rintro k_ e_; injection e_ with e_; rw [← e_]; exact GE202.out)); have n1_ := Aside0.mk hbox; have m201_ := Aside0.mk (blk_grown (by (with_reducible repeat (first | exact BK201.out | refine blk_drewN ?_ _ | refine blk_drew ?_ | refine blk_alloc ?_ _)); try exact BK201.out) hg (fun e_ => by injection e_ with e_; exact NE201_202.out e_)); clear HB BK202; have HB := n0_; have BK202 := n1_; clear n0_ n1_; clear BK201; have BK201 := m201_; clear m201_; clear hg hbox))
  clear ho ha hb hc hd
  have hcz_0 : w202_.cell? ⟨gb202, 0, none⟩ = some (.int .i64 o) := (blk_cell BK202.out 0).trans (rfl)
  have hcz_1 : w202_.cell? ⟨gb202, 1, none⟩ = some (.int .i64 a) := (blk_cell BK202.out 1).trans (rfl)
  have hcz_2 : w202_.cell? ⟨gb202, 2, none⟩ = some (.int .i64 b) := (blk_cell BK202.out 2).trans (rfl)
  have hcz_3 : w202_.cell? ⟨gb202, 3, none⟩ = some (.int .i64 c) := (blk_cell BK202.out 3).trans (rfl)
  have hcz_4 : w202_.cell? ⟨gb202, 4, none⟩ = some (.int .i64 d) := (blk_cell BK202.out 4).trans (rfl)
  have hfz_0 := blk_frozen BK202.out 0
  have hfz_1 := blk_frozen BK202.out 1
  have hfz_2 := blk_frozen BK202.out 2
  have hfz_3 := blk_frozen BK202.out 3
  have hfz_4 := blk_frozen BK202.out 4
  cases tk with
  | false =>
    have h2 : (some (0, 0, 0, 0, 0, 4) : Option (Int × Int × Int × Int × Int × Int)) = some (r1, r2, r3, r4, r5, r6) := H.out
    simp only [Option.some.injEq, Prod.mk.injEq] at h2
    obtain ⟨rfl, rfl, rfl, rfl, rfl, rfl⟩ := h2
    clear H
    go_upto_region 3 with (first | (go_at_call 30; (with_reducible refine (isa_known.calls o false _ AO.out).mono ?_); rintro e w' ⟨rfl, ⟨nd, rfl⟩⟩))
    go_wp2_with (first | ((with_reducible refine gate_store (t := 23) (p := 2) rfl ?_); refine row_event (by rfl) 23 _ _ rfl gb201 (#[.int .i64 0, .int .i64 0, .int .i64 0, .int .i64 0, .int .i64 0]) _ _ (by (with_reducible repeat (first | exact BK201.out | refine blk_drewN ?_ _ | refine blk_drew ?_ | refine blk_alloc ?_ _)); try exact BK201.out) (by rfl) (by rfl) (by kernel_rfl) (by rfl) (cellsI_one [0, 0, 0, 0, 0]) ?_; intro w201_ hbox hg; have n0_ := Aside0.mk (pw_below_grown (by repeat (first | (with_reducible first | exact HB.out | apply below_alloc | apply pw_below_drewN | apply below_drew1) | exact HB.out)) (some gb201) (below_size (by repeat (first | (with_reducible first | exact HB.out | apply below_alloc | apply pw_below_drewN | apply below_drew1) | exact HB.out))) hg (by rintro k_ e_; injection e_ with e_; rw [← e_]; exact GE201.out)); have n1_ := Aside0.mk hbox; clear HB BK201; have HB := n0_; have BK201 := n1_; clear n0_ n1_; clear hg hbox))
    refine bodyPost_ret (results_ct rfl _ _ gb201 23 (#[.int .i64 0, .int .i64 0, .int .i64 0, .int .i64 0, .int .i64 0]) (0, 0) _ rfl (by (with_reducible repeat (first | exact BK201.out | refine blk_drewN ?_ _ | refine blk_drew ?_ | refine blk_alloc ?_ _)); try exact BK201.out) Tryd.underlying23 rfl (by kernel_rfl)) rfl ?_
    exact ⟨rfl, (by repeat (first | (with_reducible first | exact HB.out | apply below_alloc | apply pw_below_drewN | apply below_drew1) | exact HB.out))⟩
  | true =>
    cases ta with
    | false =>
      have h2 : (some (0, 0, 0, 0, 0, 4) : Option (Int × Int × Int × Int × Int × Int)) = some (r1, r2, r3, r4, r5, r6) := H.out
      simp only [Option.some.injEq, Prod.mk.injEq] at h2
      obtain ⟨rfl, rfl, rfl, rfl, rfl, rfl⟩ := h2
      clear H
      go_upto_region 3 with (first | (go_at_call 30; (with_reducible refine (isa_known.calls o true _ AO.out).mono ?_); rintro e w' ⟨rfl, ⟨nd, rfl⟩⟩) | (go_at_call_of 29 (Value.int .i64 a); (with_reducible refine (isa_register.calls a false _ AA.out).mono ?_); rintro e w' ⟨rfl, ⟨nd, rfl⟩⟩))
      go_wp2_with (first | ((with_reducible refine gate_store (t := 23) (p := 2) rfl ?_); refine row_event (by rfl) 23 _ _ rfl gb201 (#[.int .i64 0, .int .i64 0, .int .i64 0, .int .i64 0, .int .i64 0]) _ _ (by (with_reducible repeat (first | exact BK201.out | refine blk_drewN ?_ _ | refine blk_drew ?_ | refine blk_alloc ?_ _)); try exact BK201.out) (by rfl) (by rfl) (by kernel_rfl) (by rfl) (cellsI_one [0, 0, 0, 0, 0]) ?_; intro w201_ hbox hg; have n0_ := Aside0.mk (pw_below_grown (by repeat (first | (with_reducible first | exact HB.out | apply below_alloc | apply pw_below_drewN | apply below_drew1) | exact HB.out)) (some gb201) (below_size (by repeat (first | (with_reducible first | exact HB.out | apply below_alloc | apply pw_below_drewN | apply below_drew1) | exact HB.out))) hg (by rintro k_ e_; injection e_ with e_; rw [← e_]; exact GE201.out)); have n1_ := Aside0.mk hbox; clear HB BK201; have HB := n0_; have BK201 := n1_; clear n0_ n1_; clear hg hbox))
      refine bodyPost_ret (results_ct rfl _ _ gb201 23 (#[.int .i64 0, .int .i64 0, .int .i64 0, .int .i64 0, .int .i64 0]) (0, 0) _ rfl (by (with_reducible repeat (first | exact BK201.out | refine blk_drewN ?_ _ | refine blk_drew ?_ | refine blk_alloc ?_ _)); try exact BK201.out) Tryd.underlying23 rfl (by kernel_rfl)) rfl ?_
      exact ⟨rfl, (by repeat (first | (with_reducible first | exact HB.out | apply below_alloc | apply pw_below_drewN | apply below_drew1) | exact HB.out))⟩
    | true =>
      cases tb with
      | false =>
        have h2 : (some (0, 0, 0, 0, 0, 4) : Option (Int × Int × Int × Int × Int × Int)) = some (r1, r2, r3, r4, r5, r6) := H.out
        simp only [Option.some.injEq, Prod.mk.injEq] at h2
        obtain ⟨rfl, rfl, rfl, rfl, rfl, rfl⟩ := h2
        clear H
        go_upto_region 3 with (first | (go_at_call 30; (with_reducible refine (isa_known.calls o true _ AO.out).mono ?_); rintro e w' ⟨rfl, ⟨nd, rfl⟩⟩) | (go_at_call_of 29 (Value.int .i64 a); (with_reducible refine (isa_register.calls a true _ AA.out).mono ?_); rintro e w' ⟨rfl, ⟨nd, rfl⟩⟩) | (go_at_call_of 29 (Value.int .i64 b); (with_reducible refine (isa_register.calls b false _ AB.out).mono ?_); rintro e w' ⟨rfl, ⟨nd, rfl⟩⟩))
        go_wp2_with (first | ((with_reducible refine gate_store (t := 23) (p := 2) rfl ?_); refine row_event (by rfl) 23 _ _ rfl gb201 (#[.int .i64 0, .int .i64 0, .int .i64 0, .int .i64 0, .int .i64 0]) _ _ (by (with_reducible repeat (first | exact BK201.out | refine blk_drewN ?_ _ | refine blk_drew ?_ | refine blk_alloc ?_ _)); try exact BK201.out) (by rfl) (by rfl) (by kernel_rfl) (by rfl) (cellsI_one [0, 0, 0, 0, 0]) ?_; intro w201_ hbox hg; have n0_ := Aside0.mk (pw_below_grown (by repeat (first | (with_reducible first | exact HB.out | apply below_alloc | apply pw_below_drewN | apply below_drew1) | exact HB.out)) (some gb201) (below_size (by repeat (first | (with_reducible first | exact HB.out | apply below_alloc | apply pw_below_drewN | apply below_drew1) | exact HB.out))) hg (by rintro k_ e_; injection e_ with e_; rw [← e_]; exact GE201.out)); have n1_ := Aside0.mk hbox; clear HB BK201; have HB := n0_; have BK201 := n1_; clear n0_ n1_; clear hg hbox))
        refine bodyPost_ret (results_ct rfl _ _ gb201 23 (#[.int .i64 0, .int .i64 0, .int .i64 0, .int .i64 0, .int .i64 0]) (0, 0) _ rfl (by (with_reducible repeat (first | exact BK201.out | refine blk_drewN ?_ _ | refine blk_drew ?_ | refine blk_alloc ?_ _)); try exact BK201.out) Tryd.underlying23 rfl (by kernel_rfl)) rfl ?_
        exact ⟨rfl, (by repeat (first | (with_reducible first | exact HB.out | apply below_alloc | apply pw_below_drewN | apply below_drew1) | exact HB.out))⟩
      | true =>
        cases tc with
        | false =>
          have h2 : (some (0, 0, 0, 0, 0, 4) : Option (Int × Int × Int × Int × Int × Int)) = some (r1, r2, r3, r4, r5, r6) := H.out
          simp only [Option.some.injEq, Prod.mk.injEq] at h2
          obtain ⟨rfl, rfl, rfl, rfl, rfl, rfl⟩ := h2
          clear H
          go_upto_region 3 with (first | (go_at_call 30; (with_reducible refine (isa_known.calls o true _ AO.out).mono ?_); rintro e w' ⟨rfl, ⟨nd, rfl⟩⟩) | (go_at_call_of 29 (Value.int .i64 a); (with_reducible refine (isa_register.calls a true _ AA.out).mono ?_); rintro e w' ⟨rfl, ⟨nd, rfl⟩⟩) | (go_at_call_of 29 (Value.int .i64 b); (with_reducible refine (isa_register.calls b true _ AB.out).mono ?_); rintro e w' ⟨rfl, ⟨nd, rfl⟩⟩) | (go_at_call_of 29 (Value.int .i64 c); (with_reducible refine (isa_register.calls c false _ AC.out).mono ?_); rintro e w' ⟨rfl, ⟨nd, rfl⟩⟩))
          go_wp2_with (first | ((with_reducible refine gate_store (t := 23) (p := 2) rfl ?_); refine row_event (by rfl) 23 _ _ rfl gb201 (#[.int .i64 0, .int .i64 0, .int .i64 0, .int .i64 0, .int .i64 0]) _ _ (by (with_reducible repeat (first | exact BK201.out | refine blk_drewN ?_ _ | refine blk_drew ?_ | refine blk_alloc ?_ _)); try exact BK201.out) (by rfl) (by rfl) (by kernel_rfl) (by rfl) (cellsI_one [0, 0, 0, 0, 0]) ?_; intro w201_ hbox hg; have n0_ := Aside0.mk (pw_below_grown (by repeat (first | (with_reducible first | exact HB.out | apply below_alloc | apply pw_below_drewN | apply below_drew1) | exact HB.out)) (some gb201) (below_size (by repeat (first | (with_reducible first | exact HB.out | apply below_alloc | apply pw_below_drewN | apply below_drew1) | exact HB.out))) hg (by rintro k_ e_; injection e_ with e_; rw [← e_]; exact GE201.out)); have n1_ := Aside0.mk hbox; clear HB BK201; have HB := n0_; have BK201 := n1_; clear n0_ n1_; clear hg hbox))
          refine bodyPost_ret (results_ct rfl _ _ gb201 23 (#[.int .i64 0, .int .i64 0, .int .i64 0, .int .i64 0, .int .i64 0]) (0, 0) _ rfl (by (with_reducible repeat (first | exact BK201.out | refine blk_drewN ?_ _ | refine blk_drew ?_ | refine blk_alloc ?_ _)); try exact BK201.out) Tryd.underlying23 rfl (by kernel_rfl)) rfl ?_
          exact ⟨rfl, (by repeat (first | (with_reducible first | exact HB.out | apply below_alloc | apply pw_below_drewN | apply below_drew1) | exact HB.out))⟩
        | true =>
          have h2 : (some (o, a, b, c, d, 0) : Option (Int × Int × Int × Int × Int × Int)) = some (r1, r2, r3, r4, r5, r6) := H.out
          simp only [Option.some.injEq, Prod.mk.injEq] at h2
          obtain ⟨rfl, rfl, rfl, rfl, rfl, rfl⟩ := h2
          clear H
          go_upto_region 4 with (first | (go_at_call 30; (with_reducible refine (isa_known.calls o true _ AO.out).mono ?_); rintro e w' ⟨rfl, ⟨nd, rfl⟩⟩) | (go_at_call_of 29 (Value.int .i64 a); (with_reducible refine (isa_register.calls a true _ AA.out).mono ?_); rintro e w' ⟨rfl, ⟨nd, rfl⟩⟩) | (go_at_call_of 29 (Value.int .i64 b); (with_reducible refine (isa_register.calls b true _ AB.out).mono ?_); rintro e w' ⟨rfl, ⟨nd, rfl⟩⟩) | (go_at_call_of 29 (Value.int .i64 c); (with_reducible refine (isa_register.calls c true _ AC.out).mono ?_); rintro e w' ⟨rfl, ⟨nd, rfl⟩⟩))
          go_wp2_with (first | ((with_reducible refine gate_dst (N := 42) rfl ?_); refine load_event (by rfl) 23 _ rfl gb202 _ _ _ (by (with_reducible repeat (first | exact BK202.out | refine blk_drewN ?_ _ | refine blk_drew ?_ | refine blk_alloc ?_ _)); try exact BK202.out) (by rfl) Tryd.underlying23 rfl (by kernel_rfl) ?_) | ((with_reducible refine gate_store (t := 23) (p := 2) rfl ?_); refine row_event (by rfl) 23 _ _ rfl gb201 (#[.int .i64 o, .int .i64 a, .int .i64 b, .int .i64 c, .int .i64 d]) _ _ (by (with_reducible repeat (first | exact BK201.out | refine blk_drewN ?_ _ | refine blk_drew ?_ | refine blk_alloc ?_ _)); try exact BK201.out) (by rfl) (by rfl) (by kernel_rfl) (by rfl) (cellsI_one [o, a, b, c, d]) ?_; intro w201_ hbox hg; have n0_ := Aside0.mk (pw_below_grown (by repeat (first | (with_reducible first | exact HB.out | apply below_alloc | apply pw_below_drewN | apply below_drew1) | exact HB.out)) (some gb201) (below_size (by repeat (first | (with_reducible first | exact HB.out | apply below_alloc | apply pw_below_drewN | apply below_drew1) | exact HB.out))) hg (by rintro k_ e_; injection e_ with e_; rw [← e_]; exact GE201.out)); have n1_ := Aside0.mk hbox; clear HB BK201; have HB := n0_; have BK201 := n1_; clear n0_ n1_; clear hg hbox))
          refine bodyPost_ret (results_ct rfl _ _ gb201 23 (#[.int .i64 o, .int .i64 a, .int .i64 b, .int .i64 c, .int .i64 d]) (0, 0) _ rfl (by (with_reducible repeat (first | exact BK201.out | refine blk_drewN ?_ _ | refine blk_drew ?_ | refine blk_alloc ?_ _)); try exact BK201.out) Tryd.underlying23 rfl (by kernel_rfl)) rfl ?_
          exact ⟨rfl, (by repeat (first | (with_reducible first | exact HB.out | apply below_alloc | apply pw_below_drewN | apply below_drew1) | exact HB.out))⟩

end Go.Proofs.YtoakfejpmlgbcaaDoor.PIsa
