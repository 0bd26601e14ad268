-- By wip/xprint.py (a driver of this session's over the kit's print), for this claim.
import Derived.Test.YtoflkheiidhblaaDoorPLexx0
import Derived.Test.YtoflkheiidhblaaDoorPLexx5
import Derived.Test.YtoflkheiidhblaaDoorPLexx6
namespace Go.Proofs.YtoflkheiidhblaaDoor.PLex
open Go.RowKit Go.Proofs.YtoflkheiidhblaaDoorW.PrintWords Go.Proofs.YtoflkheiidhblaaDoorW.PrintLast Go.Proofs.YtoflkheiidhblaaDoorW.PrintMore
attribute [local go_sem] max2_int min2_int max_two min_two max_three min_three max_four min_four   -- for this text's walks alone
set_option linter.unusedVariables false
set_option linter.unusedSimpArgs false

/-! ### lexer_scanner_name_1: function 54 -/
def lexer_scanner_name_1.f (a0 : Int) : Option (Bool) := (lexer_letter.f a0).bind fun t104 => (if t104 = true then (some true) else ((lexer_digit.f a0).bind fun t105 => (some t105)))
set_option maxHeartbeats 8000000 in
set_option maxRecDepth 100000 in
theorem lexer_scanner_name_1.calls (a0 : Int) (r : Bool) (w : World) (h : lexer_scanner_name_1.f a0 = some r) :
  Calls Tryd.prog 54 #[.int .u8 a0] w fun e w' => e = .returned (.bool r) ∧ Drawn0 w w' := by
 have H : ((lexer_letter.f a0).bind fun t104 => (if t104 = true then (some true) else ((lexer_digit.f a0).bind fun t105 => (some t105)))) = some r := h
 clear h
 replace H := Option.bind_eq_some_iff.mp H
 obtain ⟨t104, A20, H⟩ := H
 replace H : (if t104 = true then (some true) else ((lexer_digit.f a0).bind fun t105 => (some t105))) = some r := H
 have A2 := Aside0.mk A20
 clear A20
 by_cases c3 : t104 = true
 ·subst c3
  have H1 : (some true) = some r := by rw [if_pos rfl] at H; exact H
  clear H
  have H := H1
  clear H1
  obtain rfl := Option.some.inj H
  go_enter Tryd.func54, Tryd.ntmps54
  go_wp2_with (first | ((with_reducible refine gate_callee (f := 34) rfl ?_); refine goesL_ (some 4) rfl rfl Tryd.func34 (by kernel_rfl) rfl #[.int .u8 a0] rfl Zm ?_; (with_reducible refine (lexer_letter.calls a0 true _ A2.out).mono ?_); rintro e w' ⟨rfl, ⟨nd, rfl⟩⟩; refine ⟨_, rfl, ?_⟩))
  go_ret
  exact ⟨by first | rfl | (simp; done) | (simp [*]; done), by repeat (first | exact Drawn0.refl _ | apply Drawn0.step)⟩
 ·replace c3 := Bool.eq_false_iff.mpr c3
  subst c3
  have H1 : ((lexer_digit.f a0).bind fun t105 => (some t105)) = some r := by rw [if_neg (show ¬ (false = true) by decide)] at H; exact H
  clear H
  have H := H1
  clear H1
  replace H := Option.bind_eq_some_iff.mp H
  obtain ⟨t105, A40, H⟩ := H
  replace H : (some t105) = some r := H
  have A4 := Aside0.mk A40
  clear A40
  obtain rfl := Option.some.inj H
  go_enter Tryd.func54, Tryd.ntmps54
  go_wp2_with (first | ((with_reducible refine gate_callee (f := 34) rfl ?_); refine goesL_ (some 4) rfl rfl Tryd.func34 (by kernel_rfl) rfl #[.int .u8 a0] rfl Zm ?_; (with_reducible refine (lexer_letter.calls a0 false _ A2.out).mono ?_); rintro e w' ⟨rfl, ⟨nd, rfl⟩⟩; refine ⟨_, rfl, ?_⟩) | (go_at_call 32; (with_reducible refine (lexer_digit.calls a0 t105 _ A4.out).mono ?_); rintro e w' ⟨rfl, ⟨nd, rfl⟩⟩))
  go_ret
  exact ⟨by first | rfl | (simp; done) | (simp [*]; done), by repeat (first | exact Drawn0.refl _ | apply Drawn0.step)⟩

end Go.Proofs.YtoflkheiidhblaaDoor.PLex
