-- By wip/xprint.py (a driver of this session's over the kit's print), for this claim.
import Derived.Test.YtoakfejpmlgbcaaDoorPIsax0
import Derived.Test.YtoakfejpmlgbcaaDoorPIsax37
namespace Go.Proofs.YtoakfejpmlgbcaaDoor.PIsa
open Go.RowKit Go.Proofs.YtoakfejpmlgbcaaDoorW.PrintWords Go.Proofs.YtoakfejpmlgbcaaDoorW.PrintLast Go.Proofs.YtoakfejpmlgbcaaDoorW.PrintMore
attribute [local go_sem] max2_int min2_int max_two min_two max_three min_three max_four min_four   -- for this text's walks alone
set_option linter.unusedVariables false
set_option linter.unusedSimpArgs false

/-! ### isa_compute: function 38 -/
def isa_compute.f (a0 : Int) (a1 : Int) (a2 : Int) : Option (Int) := if a0 = 6 then (some (wrap64 (a1 + a2))) else (if a0 = 7 then (some (wrap64 (a1 - a2))) else (if a0 = 8 then (some (wrap64 (a1 * a2))) else (if a0 = 9 then (if a2 = 0 then (some 0) else (some (wrap64 (Int.tdiv a1 a2)))) else (if a0 = 10 then (if a2 = 0 then (some a1) else (some (Int.tmod a1 a2))) else (if a0 = 11 then (some (Go.bits .and .i64 a1 a2)) else (if a0 = 12 then (some (Go.bits .or .i64 a1 a2)) else (if a0 = 13 then (some (Go.bits .xor .i64 a1 a2)) else (if a0 = 14 then ((isa_truth.f (decide (a1 < a2))).bind fun t160 => (some t160)) else (if a0 = 15 then ((isa_truth.f (decide (a1 ≤ a2))).bind fun t161 => (some t161)) else (if a0 = 16 then ((isa_truth.f (a1 == a2)).bind fun t162 => (some t162)) else ((isa_truth.f (a1 != a2)).bind fun t163 => (some t163))))))))))))
set_option maxHeartbeats 8000000 in
set_option maxRecDepth 100000 in
theorem isa_compute.calls (a0 : Int) (a1 : Int) (a2 : Int) (r : Int) (w : World) (h : isa_compute.f a0 a1 a2 = some r) :
    Calls Tryd.prog 38 #[.int .i64 a0, .int .i64 a1, .int .i64 a2] w fun e w' => e = .returned (.int .i64 r) ∧ Drawn0 w w' := by
  have H : (if a0 = 6 then (some (wrap64 (a1 + a2))) else (if a0 = 7 then (some (wrap64 (a1 - a2))) else (if a0 = 8 then (some (wrap64 (a1 * a2))) else (if a0 = 9 then (if a2 = 0 then (some 0) else (some (wrap64 (Int.tdiv a1 a2)))) else (if a0 = 10 then (if a2 = 0 then (some a1) else (some (Int.tmod a1 a2))) else (if a0 = 11 then (some (Go.bits .and .i64 a1 a2)) else (if a0 = 12 then (some (Go.bits .or .i64 a1 a2)) else (if a0 = 13 then (some (Go.bits .xor .i64 a1 a2)) else (if a0 = 14 then ((isa_truth.f (decide (a1 < a2))).bind fun t160 => (some t160)) else (if a0 = 15 then ((isa_truth.f (decide (a1 ≤ a2))).bind fun t161 => (some t161)) else (if a0 = 16 then ((isa_truth.f (a1 == a2)).bind fun t162 => (some t162)) else ((isa_truth.f (a1 != a2)).bind fun t163 => (some t163))))))))))))) = some r := h
  clear h
  by_cases c4 : a0 = 6
  · rw [if_pos c4] at H
    have c4b0 : (a0 == 6) = true := beq_iff_eq.mpr c4
    have c4b1 : (a0 != 6) = false := bne_eq_false_iff_eq.mpr c4
    clear c4
    obtain rfl := Option.some.inj H
    go_enter Tryd.func38, Tryd.ntmps38
    go_wp2
    go_ret
    exact ⟨by first | rfl | (simp; done) | (simp [*]; done), by repeat (first | exact Drawn0.refl _ | apply Drawn0.step)⟩
  · rw [if_neg c4] at H
    have c4b0 : (a0 == 6) = false := beq_eq_false_iff_ne.mpr c4
    have c4b1 : (a0 != 6) = true := bne_iff_ne.mpr c4
    by_cases c5 : a0 = 7
    · rw [if_pos c5] at H
      have c5b0 : (a0 == 7) = true := beq_iff_eq.mpr c5
      have c5b1 : (a0 != 7) = false := bne_eq_false_iff_eq.mpr c5
      clear c5
      obtain rfl := Option.some.inj H
      go_enter Tryd.func38, Tryd.ntmps38
      go_wp2
      go_ret
      exact ⟨by first | rfl | (simp; done) | (simp [*]; done), by repeat (first | exact Drawn0.refl _ | apply Drawn0.step)⟩
    · rw [if_neg c5] at H
      have c5b0 : (a0 == 7) = false := beq_eq_false_iff_ne.mpr c5
      have c5b1 : (a0 != 7) = true := bne_iff_ne.mpr c5
      by_cases c6 : a0 = 8
      · rw [if_pos c6] at H
        have c6b0 : (a0 == 8) = true := beq_iff_eq.mpr c6
        have c6b1 : (a0 != 8) = false := bne_eq_false_iff_eq.mpr c6
        clear c6
        obtain rfl := Option.some.inj H
        go_enter Tryd.func38, Tryd.ntmps38
        go_wp2
        go_ret
        exact ⟨by first | rfl | (simp; done) | (simp [*]; done), by repeat (first | exact Drawn0.refl _ | apply Drawn0.step)⟩
      · rw [if_neg c6] at H
        have c6b0 : (a0 == 8) = false := beq_eq_false_iff_ne.mpr c6
        have c6b1 : (a0 != 8) = true := bne_iff_ne.mpr c6
        by_cases c7 : a0 = 9
        · rw [if_pos c7] at H
          have c7b0 : (a0 == 9) = true := beq_iff_eq.mpr c7
          have c7b1 : (a0 != 9) = false := bne_eq_false_iff_eq.mpr c7
          clear c7
          by_cases c8 : a2 = 0
          · rw [if_pos c8] at H
            have c8b0 : (a2 == 0) = true := beq_iff_eq.mpr c8
            have c8b1 : (a2 != 0) = false := bne_eq_false_iff_eq.mpr c8
            clear c8
            obtain rfl := Option.some.inj H
            go_enter Tryd.func38, Tryd.ntmps38
            go_wp2
            go_ret
            exact ⟨by first | rfl | (simp; done) | (simp [*]; done), by repeat (first | exact Drawn0.refl _ | apply Drawn0.step)⟩
          · rw [if_neg c8] at H
            have c8b0 : (a2 == 0) = false := beq_eq_false_iff_ne.mpr c8
            have c8b1 : (a2 != 0) = true := bne_iff_ne.mpr c8
            obtain rfl := Option.some.inj H
            go_enter Tryd.func38, Tryd.ntmps38
            go_wp2
            go_ret
            exact ⟨by first | rfl | (simp; done) | (simp [*]; done), by repeat (first | exact Drawn0.refl _ | apply Drawn0.step)⟩
        · rw [if_neg c7] at H
          have c7b0 : (a0 == 9) = false := beq_eq_false_iff_ne.mpr c7
          have c7b1 : (a0 != 9) = true := bne_iff_ne.mpr c7
          by_cases c9 : a0 = 10
          · rw [if_pos c9] at H
            have c9b0 : (a0 == 10) = true := beq_iff_eq.mpr c9
            have c9b1 : (a0 != 10) = false := bne_eq_false_iff_eq.mpr c9
            clear c9
            by_cases c10 : a2 = 0
            · rw [if_pos c10] at H
              have c10b0 : (a2 == 0) = true := beq_iff_eq.mpr c10
              have c10b1 : (a2 != 0) = false := bne_eq_false_iff_eq.mpr c10
              clear c10
              obtain rfl := Option.some.inj H
              go_enter Tryd.func38, Tryd.ntmps38
              go_wp2
              go_ret
              exact ⟨by first | rfl | (simp; done) | (simp [*]; done), by repeat (first | exact Drawn0.refl _ | apply Drawn0.step)⟩
            · rw [if_neg c10] at H
              have c10b0 : (a2 == 0) = false := beq_eq_false_iff_ne.mpr c10
              have c10b1 : (a2 != 0) = true := bne_iff_ne.mpr c10
              obtain rfl := Option.some.inj H
              go_enter Tryd.func38, Tryd.ntmps38
              go_wp2
              go_ret
              exact ⟨by first | rfl | (simp; done) | (simp [*]; done), by repeat (first | exact Drawn0.refl _ | apply Drawn0.step)⟩
          · rw [if_neg c9] at H
            have c9b0 : (a0 == 10) = false := beq_eq_false_iff_ne.mpr c9
            have c9b1 : (a0 != 10) = true := bne_iff_ne.mpr c9
            by_cases c11 : a0 = 11
            · rw [if_pos c11] at H
              have c11b0 : (a0 == 11) = true := beq_iff_eq.mpr c11
              have c11b1 : (a0 != 11) = false := bne_eq_false_iff_eq.mpr c11
              clear c11
              obtain rfl := Option.some.inj H
              go_enter Tryd.func38, Tryd.ntmps38
              go_wp2
              go_ret
              exact ⟨by first | rfl | (simp; done) | (simp [*]; done), by repeat (first | exact Drawn0.refl _ | apply Drawn0.step)⟩
            · rw [if_neg c11] at H
              have c11b0 : (a0 == 11) = false := beq_eq_false_iff_ne.mpr c11
              have c11b1 : (a0 != 11) = true := bne_iff_ne.mpr c11
              by_cases c12 : a0 = 12
              · rw [if_pos c12] at H
                have c12b0 : (a0 == 12) = true := beq_iff_eq.mpr c12
                have c12b1 : (a0 != 12) = false := bne_eq_false_iff_eq.mpr c12
                clear c12
                obtain rfl := Option.some.inj H
                go_enter Tryd.func38, Tryd.ntmps38
                go_wp2
                go_ret
                exact ⟨by first | rfl | (simp; done) | (simp [*]; done), by repeat (first | exact Drawn0.refl _ | apply Drawn0.step)⟩
              · rw [if_neg c12] at H
                have c12b0 : (a0 == 12) = false := beq_eq_false_iff_ne.mpr c12
                have c12b1 : (a0 != 12) = true := bne_iff_ne.mpr c12
                by_cases c13 : a0 = 13
                · rw [if_pos c13] at H
                  have c13b0 : (a0 == 13) = true := beq_iff_eq.mpr c13
                  have c13b1 : (a0 != 13) = false := bne_eq_false_iff_eq.mpr c13
                  clear c13
                  obtain rfl := Option.some.inj H
                  go_enter Tryd.func38, Tryd.ntmps38
                  go_wp2
                  go_ret
                  exact ⟨by first | rfl | (simp; done) | (simp [*]; done), by repeat (first | exact Drawn0.refl _ | apply Drawn0.step)⟩
                · rw [if_neg c13] at H
                  have c13b0 : (a0 == 13) = false := beq_eq_false_iff_ne.mpr c13
                  have c13b1 : (a0 != 13) = true := bne_iff_ne.mpr c13
                  by_cases c14 : a0 = 14
                  · rw [if_pos c14] at H
                    have c14b0 : (a0 == 14) = true := beq_iff_eq.mpr c14
                    have c14b1 : (a0 != 14) = false := bne_eq_false_iff_eq.mpr c14
                    clear c14
                    replace H := Option.bind_eq_some_iff.mp H
                    obtain ⟨t160, A150, H⟩ := H
                    replace H : (some t160) = some r := H
                    have A15 := Aside0.mk A150
                    clear A150
                    obtain rfl := Option.some.inj H
                    go_enter Tryd.func38, Tryd.ntmps38
                    go_wp2_with (first | ((with_reducible refine gate_callee (f := 46) rfl ?_); refine goesL_ (some 58) rfl rfl Tryd.func46 (by kernel_rfl) rfl #[.bool (decide (a1 < a2))] rfl (by (try simp only [List.map_toArray, List.map_cons, List.map_nil]); first | done | rfl | (simp only [List.length_drop, List.length_take]; rfl)) ?_; (with_reducible refine (isa_truth.calls (decide (a1 < a2)) t160 _ A15.out).mono ?_); rintro e w' ⟨rfl, ⟨nd, rfl⟩⟩; refine ⟨_, rfl, ?_⟩))
                    go_ret
                    exact ⟨by first | rfl | (simp; done) | (simp [*]; done), by repeat (first | exact Drawn0.refl _ | apply Drawn0.step)⟩
                  · rw [if_neg c14] at H
                    have c14b0 : (a0 == 14) = false := beq_eq_false_iff_ne.mpr c14
                    have c14b1 : (a0 != 14) = true := bne_iff_ne.mpr c14
                    by_cases c16 : a0 = 15
                    · rw [if_pos c16] at H
                      have c16b0 : (a0 == 15) = true := beq_iff_eq.mpr c16
                      have c16b1 : (a0 != 15) = false := bne_eq_false_iff_eq.mpr c16
                      clear c16
                      replace H := Option.bind_eq_some_iff.mp H
                      obtain ⟨t161, A170, H⟩ := H
                      replace H : (some t161) = some r := H
                      have A17 := Aside0.mk A170
                      clear A170
                      obtain rfl := Option.some.inj H
                      go_enter Tryd.func38, Tryd.ntmps38
                      go_wp2_with (first | ((with_reducible refine gate_callee (f := 46) rfl ?_); refine goesL_ (some 64) rfl rfl Tryd.func46 (by kernel_rfl) rfl #[.bool (decide (a1 ≤ a2))] rfl (by (try simp only [List.map_toArray, List.map_cons, List.map_nil]); first | done | rfl | (simp only [List.length_drop, List.length_take]; rfl)) ?_; (with_reducible refine (isa_truth.calls (decide (a1 ≤ a2)) t161 _ A17.out).mono ?_); rintro e w' ⟨rfl, ⟨nd, rfl⟩⟩; refine ⟨_, rfl, ?_⟩))
                      go_ret
                      exact ⟨by first | rfl | (simp; done) | (simp [*]; done), by repeat (first | exact Drawn0.refl _ | apply Drawn0.step)⟩
                    · rw [if_neg c16] at H
                      have c16b0 : (a0 == 15) = false := beq_eq_false_iff_ne.mpr c16
                      have c16b1 : (a0 != 15) = true := bne_iff_ne.mpr c16
                      by_cases c18 : a0 = 16
                      · rw [if_pos c18] at H
                        have c18b0 : (a0 == 16) = true := beq_iff_eq.mpr c18
                        have c18b1 : (a0 != 16) = false := bne_eq_false_iff_eq.mpr c18
                        clear c18
                        replace H := Option.bind_eq_some_iff.mp H
                        obtain ⟨t162, A190, H⟩ := H
                        replace H : (some t162) = some r := H
                        have A19 := Aside0.mk A190
                        clear A190
                        obtain rfl := Option.some.inj H
                        go_enter Tryd.func38, Tryd.ntmps38
                        go_wp2_with (first | ((with_reducible refine gate_callee (f := 46) rfl ?_); refine goesL_ (some 70) rfl rfl Tryd.func46 (by kernel_rfl) rfl #[.bool (a1 == a2)] rfl (by (try simp only [List.map_toArray, List.map_cons, List.map_nil]); first | done | rfl | (simp only [List.length_drop, List.length_take]; rfl)) ?_; (with_reducible refine (isa_truth.calls (a1 == a2) t162 _ A19.out).mono ?_); rintro e w' ⟨rfl, ⟨nd, rfl⟩⟩; refine ⟨_, rfl, ?_⟩))
                        go_ret
                        exact ⟨by first | rfl | (simp; done) | (simp [*]; done), by repeat (first | exact Drawn0.refl _ | apply Drawn0.step)⟩
                      · rw [if_neg c18] at H
                        have c18b0 : (a0 == 16) = false := beq_eq_false_iff_ne.mpr c18
                        have c18b1 : (a0 != 16) = true := bne_iff_ne.mpr c18
                        replace H := Option.bind_eq_some_iff.mp H
                        obtain ⟨t163, A200, H⟩ := H
                        replace H : (some t163) = some r := H
                        have A20 := Aside0.mk A200
                        clear A200
                        obtain rfl := Option.some.inj H
                        go_enter Tryd.func38, Tryd.ntmps38
                        go_wp2_with (first | ((with_reducible refine gate_callee (f := 46) rfl ?_); refine goesL_ (some 74) rfl rfl Tryd.func46 (by kernel_rfl) rfl #[.bool (a1 != a2)] rfl (by (try simp only [List.map_toArray, List.map_cons, List.map_nil]); first | done | rfl | (simp only [List.length_drop, List.length_take]; rfl)) ?_; (with_reducible refine (isa_truth.calls (a1 != a2) t163 _ A20.out).mono ?_); rintro e w' ⟨rfl, ⟨nd, rfl⟩⟩; refine ⟨_, rfl, ?_⟩))
                        go_ret
                        exact ⟨by first | rfl | (simp; done) | (simp [*]; done), by repeat (first | exact Drawn0.refl _ | apply Drawn0.step)⟩

end Go.Proofs.YtoakfejpmlgbcaaDoor.PIsa
