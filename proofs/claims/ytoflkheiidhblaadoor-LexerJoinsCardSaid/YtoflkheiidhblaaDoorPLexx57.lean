-- By wip/xprint.py (a driver of this session's over the kit's print), for this claim.
import Derived.Test.YtoflkheiidhblaaDoorPLexx0
import Derived.Test.YtoflkheiidhblaaDoorPLexx1
import Derived.Test.YtoflkheiidhblaaDoorPLexx14
import Derived.Test.YtoflkheiidhblaaDoorPLexx16
import Derived.Test.YtoflkheiidhblaaDoorPLexx52
namespace Go.Proofs.YtoflkheiidhblaaDoor.PLex
open Go.RowKit Go.Proofs.YtoflkheiidhblaaDoorW.PrintWords Go.Proofs.YtoflkheiidhblaaDoorW.PrintLast Go.Proofs.YtoflkheiidhblaaDoorW.PrintMore
attribute [local go_sem] max2_int min2_int max_two min_two max_three min_three max_four min_four   -- for this text's walks alone
set_option linter.unusedVariables false
set_option linter.unusedSimpArgs false

attribute [local go_sem high] eqA36
/-! ### debuggerlaw02_LexerJoins: function 6 -/
mutual
def debuggerlaw02_LexerJoins.j0 : Nat → List (S36) → List (S36) → List (S36) → Int → Bool → Option (Bool)
 | 0, _, _, _, _, _ => none
 | k + 1, x5, x8, x11, x14, x98 => if x98 = true then (some false) else (debuggerlaw02_LexerJoins.l0 k x5 x8 x11 x14 0)
def debuggerlaw02_LexerJoins.l0 : Nat → List (S36) → List (S36) → List (S36) → Int → Int → Option (Bool)
 | 0, _, _, _, _, _ => none
 | k + 1, x5, x8, x11, x14, x18 => if x18 < (x11.length : Int) then (if x18 < (wrap64 ((x5.length : Int) - 1)) then (if 0 ≤ x18 then (if x18 < (x5.length : Int) then (if (!(((rd_T36 x11 x18).f0) == ((rd_T36 x5 x18).f0)) || (!(((rd_T36 x11 x18).f1) == ((rd_T36 x5 x18).f1)) || (!((((rd_T36 x11 x18).f2).toList) == (((rd_T36 x5 x18).f2).toList)) || (!(((rd_T36 x11 x18).f3) == ((rd_T36 x5 x18).f3)))))) = true then (some false) else (debuggerlaw02_LexerJoins.l0 k x5 x8 x11 x14 (wrap64 (x18 + 1)))) else (none)) else (none)) else (if 0 ≤ (wrap64 ((wrap64 (x18 - (x5.length : Int))) + 1)) then (if (wrap64 ((wrap64 (x18 - (x5.length : Int))) + 1)) < (x8.length : Int) then (if 0 ≤ x18 then (if (!(((rd_T36 x11 x18).f0) == ((rd_T36 x8 (wrap64 ((wrap64 (x18 - (x5.length : Int))) + 1))).f0)) || (!(((rd_T36 x11 x18).f1) == (wrap64 (((rd_T36 x8 (wrap64 ((wrap64 (x18 - (x5.length : Int))) + 1))).f1) + x14))) || (!((((rd_T36 x11 x18).f2).toList) == (((rd_T36 x8 (wrap64 ((wrap64 (x18 - (x5.length : Int))) + 1))).f2).toList)) || (!(((rd_T36 x11 x18).f3) == ((rd_T36 x8 (wrap64 ((wrap64 (x18 - (x5.length : Int))) + 1))).f3)))))) = true then (some false) else (debuggerlaw02_LexerJoins.l0 k x5 x8 x11 x14 (wrap64 (x18 + 1)))) else (none)) else (none)) else (none))) else ((debuggerlaw02_known.f k).bind fun t289 => (some t289))
end
def debuggerlaw02_LexerJoins.f (k : Nat) (a0 : ByteArray) (a1 : ByteArray) : Option (Bool) := if (wrap64 ((a0.size : Int) + (a1.size : Int))) > 2000 then ((debuggerlaw02_known.f k).bind fun t265 => (some t265)) else ((lexer_Scan.f k a0).bind fun bt266 => ((lexer_Scan.f k a1).bind fun bt271 => (if a0.size + 1 ≤ 9223372036854775807 then (if (a0 ++ (⟨#[10]⟩ : ByteArray)).size + a1.size ≤ 9223372036854775807 then ((lexer_Scan.f k ((a0 ++ (⟨#[10]⟩ : ByteArray)) ++ a1)).bind fun bt276 => (if bt266.2.2 = 0 then (if (bt266.1.length : Int) = 0 then (some false) else (if 0 ≤ (wrap64 ((bt266.1.length : Int) - 1)) then (if (wrap64 ((bt266.1.length : Int) - 1)) < (bt266.1.length : Int) then (if bt271.2.2 = 0 then (if bt276.2.2 = 0 then (debuggerlaw02_LexerJoins.j0 k bt266.1 bt271.1 bt276.1 ((rd_T36 bt266.1 (wrap64 ((bt266.1.length : Int) - 1))).f1) ((bt276.1.length : Int) != (wrap64 ((wrap64 ((bt266.1.length : Int) + (bt271.1.length : Int))) - 1)))) else (debuggerlaw02_LexerJoins.j0 k bt266.1 bt271.1 bt276.1 ((rd_T36 bt266.1 (wrap64 ((bt266.1.length : Int) - 1))).f1) true)) else ((lexer_Scan.f k a1).bind fun bt283 => (if bt276.2.2 = bt271.2.2 then (if bt276.2.1 = (wrap64 (bt283.2.1 + ((rd_T36 bt266.1 (wrap64 ((bt266.1.length : Int) - 1))).f1))) then ((debuggerlaw02_known.f k).bind fun t288 => (some t288)) else (some false)) else (some false)))) else (none)) else (none))) else (if bt276.2.2 = 0 then (some false) else ((debuggerlaw02_known.f k).bind fun t281 => (some t281))))) else (none)) else (none))))
theorem debuggerlaw02_LexerJoins.mono_l : ∀ k, (∀ y0 y1 y2 y3 y4, LeO (debuggerlaw02_LexerJoins.j0 k y0 y1 y2 y3 y4) (debuggerlaw02_LexerJoins.j0 (k + 1) y0 y1 y2 y3 y4)) ∧ (∀ y0 y1 y2 y3 y4, LeO (debuggerlaw02_LexerJoins.l0 k y0 y1 y2 y3 y4) (debuggerlaw02_LexerJoins.l0 (k + 1) y0 y1 y2 y3 y4))
 | 0 => ⟨fun _ _ _ _ _ r h => by simp [debuggerlaw02_LexerJoins.j0] at h, fun _ _ _ _ _ r h => by simp [debuggerlaw02_LexerJoins.l0] at h⟩
 | k + 1 => by
  obtain ⟨ih0, ih1⟩ := debuggerlaw02_LexerJoins.mono_l k
  refine ⟨?_, ?_⟩
  ·intro y0 y1 y2 y3 y4
   unfold debuggerlaw02_LexerJoins.j0
   repeat' first
   | (with_reducible exact ih0 _ _ _ _ _)
   | (with_reducible exact ih1 _ _ _ _ _)
   | (with_reducible exact debuggerlaw02_known.mono _)
   | (with_reducible exact lexer_Scan.mono _ _)
   | (with_reducible exact LeO.refl _)
   | (with_reducible exact LeO.none _)
   | (with_reducible refine LeO.ite ?_ ?_)
   | (with_reducible refine LeO.bind ?_ (fun _ => ?_))
   | exact ih0 _ _ _ _ _
   | exact ih1 _ _ _ _ _
   | exact debuggerlaw02_known.mono _
   | exact lexer_Scan.mono _ _
   | exact LeO.none _
   | refine LeO.ite ?_ ?_
   | refine LeO.bind ?_ (fun _ => ?_)
  ·intro y0 y1 y2 y3 y4
   unfold debuggerlaw02_LexerJoins.l0
   repeat' first
   | (with_reducible exact ih0 _ _ _ _ _)
   | (with_reducible exact ih1 _ _ _ _ _)
   | (with_reducible exact debuggerlaw02_known.mono _)
   | (with_reducible exact lexer_Scan.mono _ _)
   | (with_reducible exact LeO.refl _)
   | (with_reducible exact LeO.none _)
   | (with_reducible refine LeO.ite ?_ ?_)
   | (with_reducible refine LeO.bind ?_ (fun _ => ?_))
   | exact ih0 _ _ _ _ _
   | exact ih1 _ _ _ _ _
   | exact debuggerlaw02_known.mono _
   | exact lexer_Scan.mono _ _
   | exact LeO.none _
   | refine LeO.ite ?_ ?_
   | refine LeO.bind ?_ (fun _ => ?_)
theorem debuggerlaw02_LexerJoins.mono : ∀ a0 a1 k, LeO (debuggerlaw02_LexerJoins.f k a0 a1) (debuggerlaw02_LexerJoins.f (k + 1) a0 a1) := by
 intro a0 a1 k
 obtain ⟨ih0, ih1⟩ := debuggerlaw02_LexerJoins.mono_l k
 unfold debuggerlaw02_LexerJoins.f
 repeat' first
   | (with_reducible exact ih0 _ _ _ _ _)
   | (with_reducible exact ih1 _ _ _ _ _)
   | (with_reducible exact debuggerlaw02_known.mono _)
   | (with_reducible exact lexer_Scan.mono _ _)
   | (with_reducible exact LeO.refl _)
   | (with_reducible exact LeO.none _)
   | (with_reducible refine LeO.ite ?_ ?_)
   | (with_reducible refine LeO.bind ?_ (fun _ => ?_))
   | exact ih0 _ _ _ _ _
   | exact ih1 _ _ _ _ _
   | exact debuggerlaw02_known.mono _
   | exact lexer_Scan.mono _ _
   | exact LeO.none _
   | refine LeO.ite ?_ ?_
   | refine LeO.bind ?_ (fun _ => ?_)
set_option maxHeartbeats 8000000 in
set_option maxRecDepth 100000 in
theorem debuggerlaw02_LexerJoins.calls (k : Nat) (a0 : ByteArray) (a1 : ByteArray) (r : Bool) (w : World) (hGl : Aside0 (Glob w)) (hT0 : r = true) (h : debuggerlaw02_LexerJoins.f k a0 a1 = some r) :
  Calls Tryd.prog 6 #[.string a0, .string a1] w fun e w' => e = .returned (.bool r) ∧ Below w.heap.size w w' := by
 have hu36 := Tryd.underlying36
 have HT0 := Aside0.mk hT0
 clear hT0
 have HB := Aside0.mk (Below.refl w.heap.size w)
 have H : (if (wrap64 ((a0.size : Int) + (a1.size : Int))) > 2000 then ((debuggerlaw02_known.f k).bind fun t265 => (some t265)) else ((lexer_Scan.f k a0).bind fun bt266 => ((lexer_Scan.f k a1).bind fun bt271 => (if a0.size + 1 ≤ 9223372036854775807 then (if (a0 ++ (⟨#[10]⟩ : ByteArray)).size + a1.size ≤ 9223372036854775807 then ((lexer_Scan.f k ((a0 ++ (⟨#[10]⟩ : ByteArray)) ++ a1)).bind fun bt276 => (if bt266.2.2 = 0 then (if (bt266.1.length : Int) = 0 then (some false) else (if 0 ≤ (wrap64 ((bt266.1.length : Int) - 1)) then (if (wrap64 ((bt266.1.length : Int) - 1)) < (bt266.1.length : Int) then (if bt271.2.2 = 0 then (if bt276.2.2 = 0 then (debuggerlaw02_LexerJoins.j0 k bt266.1 bt271.1 bt276.1 ((rd_T36 bt266.1 (wrap64 ((bt266.1.length : Int) - 1))).f1) ((bt276.1.length : Int) != (wrap64 ((wrap64 ((bt266.1.length : Int) + (bt271.1.length : Int))) - 1)))) else (debuggerlaw02_LexerJoins.j0 k bt266.1 bt271.1 bt276.1 ((rd_T36 bt266.1 (wrap64 ((bt266.1.length : Int) - 1))).f1) true)) else ((lexer_Scan.f k a1).bind fun bt283 => (if bt276.2.2 = bt271.2.2 then (if bt276.2.1 = (wrap64 (bt283.2.1 + ((rd_T36 bt266.1 (wrap64 ((bt266.1.length : Int) - 1))).f1))) then ((debuggerlaw02_known.f k).bind fun t288 => (some t288)) else (some false)) else (some false)))) else (none)) else (none))) else (if bt276.2.2 = 0 then (some false) else ((debuggerlaw02_known.f k).bind fun t281 => (some t281))))) else (none)) else (none))))) = some r := h
 clear h
 by_cases c3 : (wrap64 ((a0.size : Int) + (a1.size : Int))) > 2000
 ·rw [if_pos c3] at H
  have c3b0 : decide (2000 < (wrap64 ((a0.size : Int) + (a1.size : Int)))) = true := decide_eq_true c3
  clear c3
  replace H := Option.bind_eq_some_iff.mp H
  obtain ⟨t265, A40, H⟩ := H
  replace H : (some t265) = some r := H
  have A4 := Aside0.mk A40
  clear A40
  obtain rfl := Option.some.inj H
  go_enter Tryd.func6, Tryd.ntmps6
  go_wp2_with (first | (go_at_call 13; (with_reducible refine (debuggerlaw02_known.calls k  t265 _ ⟨Glob.below hGl.out (Zh HB.out)⟩ A4.out).mono ?_); rintro e w5 ⟨rfl, hb⟩; have n0_ := Aside0.mk (below_step (Zh HB.out) hb); clear HB; have HB := n0_; clear n0_; (try clear hb); (try clear hb2); (try clear hk); (try clear hi)))
  repeat (go_quiet (first | (go_at_call 13; (with_reducible refine (debuggerlaw02_known.calls k  t265 _ ⟨Glob.below hGl.out (Zh HB.out)⟩ A4.out).mono ?_); rintro e w5 ⟨rfl, hb⟩; have n0_ := Aside0.mk (below_step (Zh HB.out) hb); clear HB; have HB := n0_; clear n0_; (try clear hb); (try clear hb2); (try clear hk); (try clear hi))); try go_wp2_with (first | (go_at_call 13; (with_reducible refine (debuggerlaw02_known.calls k  t265 _ ⟨Glob.below hGl.out (Zh HB.out)⟩ A4.out).mono ?_); rintro e w5 ⟨rfl, hb⟩; have n0_ := Aside0.mk (below_step (Zh HB.out) hb); clear HB; have HB := n0_; clear n0_; (try clear hb); (try clear hb2); (try clear hk); (try clear hi))))
  go_ret
  exact ⟨by first | rfl | (simp [errW_none, errW_some] <;> rfl) | (simp [*, errW_none, errW_some] <;> rfl), Zh HB.out⟩
 ·rw [if_neg c3] at H
  have c3b0 : decide (2000 < (wrap64 ((a0.size : Int) + (a1.size : Int)))) = false := decide_eq_false c3
  clear c3
  replace H := Option.bind_eq_some_iff.mp H
  obtain ⟨⟨t266, t267, t268⟩, A60, H⟩ := H
  replace H : ((lexer_Scan.f k a1).bind fun bt271 => (if a0.size + 1 ≤ 9223372036854775807 then (if (a0 ++ (⟨#[10]⟩ : ByteArray)).size + a1.size ≤ 9223372036854775807 then ((lexer_Scan.f k ((a0 ++ (⟨#[10]⟩ : ByteArray)) ++ a1)).bind fun bt276 => (if t268 = 0 then (if (t266.length : Int) = 0 then (some false) else (if 0 ≤ (wrap64 ((t266.length : Int) - 1)) then (if (wrap64 ((t266.length : Int) - 1)) < (t266.length : Int) then (if bt271.2.2 = 0 then (if bt276.2.2 = 0 then (debuggerlaw02_LexerJoins.j0 k t266 bt271.1 bt276.1 ((rd_T36 t266 (wrap64 ((t266.length : Int) - 1))).f1) ((bt276.1.length : Int) != (wrap64 ((wrap64 ((t266.length : Int) + (bt271.1.length : Int))) - 1)))) else (debuggerlaw02_LexerJoins.j0 k t266 bt271.1 bt276.1 ((rd_T36 t266 (wrap64 ((t266.length : Int) - 1))).f1) true)) else ((lexer_Scan.f k a1).bind fun bt283 => (if bt276.2.2 = bt271.2.2 then (if bt276.2.1 = (wrap64 (bt283.2.1 + ((rd_T36 t266 (wrap64 ((t266.length : Int) - 1))).f1))) then ((debuggerlaw02_known.f k).bind fun t288 => (some t288)) else (some false)) else (some false)))) else (none)) else (none))) else (if bt276.2.2 = 0 then (some false) else ((debuggerlaw02_known.f k).bind fun t281 => (some t281))))) else (none)) else (none))) = some r := H
  have A6 := Aside0.mk A60
  clear A60
  replace H := Option.bind_eq_some_iff.mp H
  obtain ⟨⟨t271, t272, t273⟩, A70, H⟩ := H
  replace H : (if a0.size + 1 ≤ 9223372036854775807 then (if (a0 ++ (⟨#[10]⟩ : ByteArray)).size + a1.size ≤ 9223372036854775807 then ((lexer_Scan.f k ((a0 ++ (⟨#[10]⟩ : ByteArray)) ++ a1)).bind fun bt276 => (if t268 = 0 then (if (t266.length : Int) = 0 then (some false) else (if 0 ≤ (wrap64 ((t266.length : Int) - 1)) then (if (wrap64 ((t266.length : Int) - 1)) < (t266.length : Int) then (if t273 = 0 then (if bt276.2.2 = 0 then (debuggerlaw02_LexerJoins.j0 k t266 t271 bt276.1 ((rd_T36 t266 (wrap64 ((t266.length : Int) - 1))).f1) ((bt276.1.length : Int) != (wrap64 ((wrap64 ((t266.length : Int) + (t271.length : Int))) - 1)))) else (debuggerlaw02_LexerJoins.j0 k t266 t271 bt276.1 ((rd_T36 t266 (wrap64 ((t266.length : Int) - 1))).f1) true)) else ((lexer_Scan.f k a1).bind fun bt283 => (if bt276.2.2 = t273 then (if bt276.2.1 = (wrap64 (bt283.2.1 + ((rd_T36 t266 (wrap64 ((t266.length : Int) - 1))).f1))) then ((debuggerlaw02_known.f k).bind fun t288 => (some t288)) else (some false)) else (some false)))) else (none)) else (none))) else (if bt276.2.2 = 0 then (some false) else ((debuggerlaw02_known.f k).bind fun t281 => (some t281))))) else (none)) else (none)) = some r := H
  have A7 := Aside0.mk A70
  clear A70
  by_cases c8 : a0.size + 1 ≤ 9223372036854775807
  ·rw [if_pos c8] at H
   have c8b0 := eq_true c8
   have c8b1 : decide (a0.size + 1 ≤ 9223372036854775807) = true := decide_eq_true c8
   try have c8b2 : (9223372036854775807 < a0.size + 1) = False := eq_false (Nat.not_lt.2 c8)
   by_cases c9 : (a0 ++ (⟨#[10]⟩ : ByteArray)).size + a1.size ≤ 9223372036854775807
   ·rw [if_pos c9] at H
    have c9b0 := eq_true c9
    have c9b1 : decide ((a0 ++ (⟨#[10]⟩ : ByteArray)).size + a1.size ≤ 9223372036854775807) = true := decide_eq_true c9
    try have c9b2 : (9223372036854775807 < (a0 ++ (⟨#[10]⟩ : ByteArray)).size + a1.size) = False := eq_false (Nat.not_lt.2 c9)
    replace H := Option.bind_eq_some_iff.mp H
    obtain ⟨⟨t276, t277, t278⟩, A100, H⟩ := H
    replace H : (if t268 = 0 then (if (t266.length : Int) = 0 then (some false) else (if 0 ≤ (wrap64 ((t266.length : Int) - 1)) then (if (wrap64 ((t266.length : Int) - 1)) < (t266.length : Int) then (if t273 = 0 then (if t278 = 0 then (debuggerlaw02_LexerJoins.j0 k t266 t271 t276 ((rd_T36 t266 (wrap64 ((t266.length : Int) - 1))).f1) ((t276.length : Int) != (wrap64 ((wrap64 ((t266.length : Int) + (t271.length : Int))) - 1)))) else (debuggerlaw02_LexerJoins.j0 k t266 t271 t276 ((rd_T36 t266 (wrap64 ((t266.length : Int) - 1))).f1) true)) else ((lexer_Scan.f k a1).bind fun bt283 => (if t278 = t273 then (if t277 = (wrap64 (bt283.2.1 + ((rd_T36 t266 (wrap64 ((t266.length : Int) - 1))).f1))) then ((debuggerlaw02_known.f k).bind fun t288 => (some t288)) else (some false)) else (some false)))) else (none)) else (none))) else (if t278 = 0 then (some false) else ((debuggerlaw02_known.f k).bind fun t281 => (some t281)))) = some r := H
    have A10 := Aside0.mk A100
    clear A100
    by_cases c11 : t268 = 0
    ·rw [if_pos c11] at H
     have c11b0 : (t268 == 0) = true := beq_iff_eq.mpr c11
     have c11b1 : (t268 != 0) = false := bne_eq_false_iff_eq.mpr c11
     clear c11
     by_cases c12 : (t266.length : Int) = 0
     ·rw [if_pos c12] at H
      have c12b0 : ((t266.length : Int) == 0) = true := beq_iff_eq.mpr c12
      have c12b1 : ((t266.length : Int) != 0) = false := bne_eq_false_iff_eq.mpr c12
      clear c12
      exact absurd (Option.some.inj (H.trans (congrArg some HT0.out))) (by simp)
     ·rw [if_neg c12] at H
      have c12b0 : ((t266.length : Int) == 0) = false := beq_eq_false_iff_ne.mpr c12
      have c12b1 : ((t266.length : Int) != 0) = true := bne_iff_ne.mpr c12
      have c12b2 : ¬ (t266 = []) := fun h_ => c12 (by rw [h_]; rfl)
      obtain ⟨ji13, hji13⟩ : ∃ j_ : Int, (wrap64 ((t266.length : Int) - 1)) = j_ := ⟨_, rfl⟩
      replace H : (if 0 ≤ (ji13) then (if (ji13) < (t266.length : Int) then (if t273 = 0 then (if t278 = 0 then (debuggerlaw02_LexerJoins.j0 k t266 t271 t276 ((rd_T36 t266 (ji13)).f1) ((t276.length : Int) != (wrap64 ((wrap64 ((t266.length : Int) + (t271.length : Int))) - 1)))) else (debuggerlaw02_LexerJoins.j0 k t266 t271 t276 ((rd_T36 t266 (ji13)).f1) true)) else ((lexer_Scan.f k a1).bind fun bt283 => (if t278 = t273 then (if t277 = (wrap64 (bt283.2.1 + ((rd_T36 t266 (ji13)).f1))) then ((debuggerlaw02_known.f k).bind fun t288 => (some t288)) else (some false)) else (some false)))) else (none)) else (none)) = some r := by first | (rw [hji13] at H; exact H) | (simp only [hji13] at H ⊢; exact H)
      (try rw [hji13] at A6)
      (try rw [hji13] at A7)
      (try rw [hji13] at A10)
      have hji13w : (IntKind.i64.wrap ((t266.length : Int) - 1)) = ji13 := (i64_w _).trans hji13
      by_cases c14 : 0 ≤ (ji13)
      ·rw [if_pos c14] at H
       have c14b0 : decide (0 ≤ (ji13)) = true := decide_eq_true c14
       clear c14
       by_cases c15 : (ji13) < (t266.length : Int)
       ·rw [if_pos c15] at H
        have c15b0 : decide ((ji13) < (t266.length : Int)) = true := decide_eq_true c15
        clear c15
        by_cases c16 : t273 = 0
        ·rw [if_pos c16] at H
         have c16b0 : (t273 == 0) = true := beq_iff_eq.mpr c16
         have c16b1 : (t273 != 0) = false := bne_eq_false_iff_eq.mpr c16
         clear c16
         have HC17 := Aside0.mk H
         clear H
         go_enter Tryd.func6, Tryd.ntmps6
         go_upto_region 14 with (first | (go_at_call 15; (with_reducible refine (lexer_Scan.calls k a0 t266 t267 t268 _ ⟨Glob.below hGl.out (Zh HB.out)⟩ A6.out).mono ?_); rintro e w18 ⟨v269, rfl, ho0, hb⟩; have n0_ := Aside0.mk (Kd.R_lower ho0 (below_size (Zh HB.out))); have n1_ := Aside0.mk (below_step (Zh HB.out) hb); clear HB; have HO270 := n0_; have HB := n1_; clear n0_ n1_; (try clear hb); (try clear hb2); (try clear hk); (try clear hi); (try clear ho0)) | (go_at_call 15; (with_reducible refine (lexer_Scan.calls k a1 t271 t272 t273 _ ⟨Glob.below hGl.out (Zh HB.out)⟩ A7.out).mono ?_); rintro e w19 ⟨v274, rfl, ho0, hb⟩; have n0_ := Aside0.mk (Kd.R_elder' (ZR HO270.out) (by first | exact Kd.R_base ho0 | exact Kd.S_base ho0 | exact Kd.R_base ho0 | exact Kd.N_base ho0) hb); have n1_ := Aside0.mk (Kd.R_lower (Kd.R_new' ho0 (Kd.R_lt (ZR HO270.out))) (below_size (Zh HB.out))); have n2_ := Aside0.mk (below_step (Zh HB.out) hb); clear HO270; clear HB; have HO270 := n0_; have HO275 := n1_; have HB := n2_; clear n0_ n1_ n2_; (try clear hb); (try clear hb2); (try clear hk); (try clear hi); (try clear ho0)) | (go_at_call 15; (with_reducible refine (lexer_Scan.calls k ((a0 ++ (⟨#[10]⟩ : ByteArray)) ++ a1) t276 t277 t278 _ ⟨Glob.below hGl.out (Zh HB.out)⟩ A10.out).mono ?_); rintro e w20 ⟨v279, rfl, ho0, hb⟩; have n0_ := Aside0.mk (Kd.R_elder' (ZR HO270.out) (by first | exact Kd.R_base ho0 | exact Kd.S_base ho0 | exact Kd.R_base ho0 | exact Kd.N_base ho0) hb); have n1_ := Aside0.mk (Kd.R_elder' (ZR HO275.out) (by first | exact Kd.R_base ho0 | exact Kd.S_base ho0 | exact Kd.R_base ho0 | exact Kd.N_base ho0) hb); have n2_ := Aside0.mk (Kd.R_lower (Kd.R_new' (Kd.R_new' ho0 (Kd.R_lt (ZR HO270.out))) (Kd.R_lt (ZR HO275.out))) (below_size (Zh HB.out))); have n3_ := Aside0.mk (below_step (Zh HB.out) hb); clear HO270; clear HO275; clear HB; have HO270 := n0_; have HO275 := n1_; have HO280 := n2_; have HB := n3_; clear n0_ n1_ n2_ n3_; (try clear hb); (try clear hb2); (try clear hk); (try clear hi); (try clear ho0); obtain ⟨Ao21, co21, eo21⟩ := Kd.R_slice HO270.out; subst eo21; have p282 : 0 ≤ ((ji13) : Int) := of_decide_eq_true Za; have q282 : (ji13) < (t266.length : Int) := of_decide_eq_true Za; obtain ⟨ad282, e282, hx282_0, hx282_1, hx282_2, hx282_3⟩ := at_T36 (Kd.R_reads' HO270.out).2.2 (ji13) p282 q282; cases e282; replace p282 := eq_true p282; replace q282 := eq_true q282))
         repeat (go_quiet (first | (go_at_call 15; (with_reducible refine (lexer_Scan.calls k a0 t266 t267 t268 _ ⟨Glob.below hGl.out (Zh HB.out)⟩ A6.out).mono ?_); rintro e w18 ⟨v269, rfl, ho0, hb⟩; have n0_ := Aside0.mk (Kd.R_lower ho0 (below_size (Zh HB.out))); have n1_ := Aside0.mk (below_step (Zh HB.out) hb); clear HB; have HO270 := n0_; have HB := n1_; clear n0_ n1_; (try clear hb); (try clear hb2); (try clear hk); (try clear hi); (try clear ho0)) | (go_at_call 15; (with_reducible refine (lexer_Scan.calls k a1 t271 t272 t273 _ ⟨Glob.below hGl.out (Zh HB.out)⟩ A7.out).mono ?_); rintro e w19 ⟨v274, rfl, ho0, hb⟩; have n0_ := Aside0.mk (Kd.R_elder' (ZR HO270.out) (by first | exact Kd.R_base ho0 | exact Kd.S_base ho0 | exact Kd.R_base ho0 | exact Kd.N_base ho0) hb); have n1_ := Aside0.mk (Kd.R_lower (Kd.R_new' ho0 (Kd.R_lt (ZR HO270.out))) (below_size (Zh HB.out))); have n2_ := Aside0.mk (below_step (Zh HB.out) hb); clear HO270; clear HB; have HO270 := n0_; have HO275 := n1_; have HB := n2_; clear n0_ n1_ n2_; (try clear hb); (try clear hb2); (try clear hk); (try clear hi); (try clear ho0)) | (go_at_call 15; (with_reducible refine (lexer_Scan.calls k ((a0 ++ (⟨#[10]⟩ : ByteArray)) ++ a1) t276 t277 t278 _ ⟨Glob.below hGl.out (Zh HB.out)⟩ A10.out).mono ?_); rintro e w20 ⟨v279, rfl, ho0, hb⟩; have n0_ := Aside0.mk (Kd.R_elder' (ZR HO270.out) (by first | exact Kd.R_base ho0 | exact Kd.S_base ho0 | exact Kd.R_base ho0 | exact Kd.N_base ho0) hb); have n1_ := Aside0.mk (Kd.R_elder' (ZR HO275.out) (by first | exact Kd.R_base ho0 | exact Kd.S_base ho0 | exact Kd.R_base ho0 | exact Kd.N_base ho0) hb); have n2_ := Aside0.mk (Kd.R_lower (Kd.R_new' (Kd.R_new' ho0 (Kd.R_lt (ZR HO270.out))) (Kd.R_lt (ZR HO275.out))) (below_size (Zh HB.out))); have n3_ := Aside0.mk (below_step (Zh HB.out) hb); clear HO270; clear HO275; clear HB; have HO270 := n0_; have HO275 := n1_; have HO280 := n2_; have HB := n3_; clear n0_ n1_ n2_ n3_; (try clear hb); (try clear hb2); (try clear hk); (try clear hi); (try clear ho0); obtain ⟨Ao21, co21, eo21⟩ := Kd.R_slice HO270.out; subst eo21; have p282 : 0 ≤ ((ji13) : Int) := of_decide_eq_true Za; have q282 : (ji13) < (t266.length : Int) := of_decide_eq_true Za; obtain ⟨ad282, e282, hx282_0, hx282_1, hx282_2, hx282_3⟩ := at_T36 (Kd.R_reads' HO270.out).2.2 (ji13) p282 q282; cases e282; replace p282 := eq_true p282; replace q282 := eq_true q282)); go_upto_region 14 with (first | (go_at_call 15; (with_reducible refine (lexer_Scan.calls k a0 t266 t267 t268 _ ⟨Glob.below hGl.out (Zh HB.out)⟩ A6.out).mono ?_); rintro e w18 ⟨v269, rfl, ho0, hb⟩; have n0_ := Aside0.mk (Kd.R_lower ho0 (below_size (Zh HB.out))); have n1_ := Aside0.mk (below_step (Zh HB.out) hb); clear HB; have HO270 := n0_; have HB := n1_; clear n0_ n1_; (try clear hb); (try clear hb2); (try clear hk); (try clear hi); (try clear ho0)) | (go_at_call 15; (with_reducible refine (lexer_Scan.calls k a1 t271 t272 t273 _ ⟨Glob.below hGl.out (Zh HB.out)⟩ A7.out).mono ?_); rintro e w19 ⟨v274, rfl, ho0, hb⟩; have n0_ := Aside0.mk (Kd.R_elder' (ZR HO270.out) (by first | exact Kd.R_base ho0 | exact Kd.S_base ho0 | exact Kd.R_base ho0 | exact Kd.N_base ho0) hb); have n1_ := Aside0.mk (Kd.R_lower (Kd.R_new' ho0 (Kd.R_lt (ZR HO270.out))) (below_size (Zh HB.out))); have n2_ := Aside0.mk (below_step (Zh HB.out) hb); clear HO270; clear HB; have HO270 := n0_; have HO275 := n1_; have HB := n2_; clear n0_ n1_ n2_; (try clear hb); (try clear hb2); (try clear hk); (try clear hi); (try clear ho0)) | (go_at_call 15; (with_reducible refine (lexer_Scan.calls k ((a0 ++ (⟨#[10]⟩ : ByteArray)) ++ a1) t276 t277 t278 _ ⟨Glob.below hGl.out (Zh HB.out)⟩ A10.out).mono ?_); rintro e w20 ⟨v279, rfl, ho0, hb⟩; have n0_ := Aside0.mk (Kd.R_elder' (ZR HO270.out) (by first | exact Kd.R_base ho0 | exact Kd.S_base ho0 | exact Kd.R_base ho0 | exact Kd.N_base ho0) hb); have n1_ := Aside0.mk (Kd.R_elder' (ZR HO275.out) (by first | exact Kd.R_base ho0 | exact Kd.S_base ho0 | exact Kd.R_base ho0 | exact Kd.N_base ho0) hb); have n2_ := Aside0.mk (Kd.R_lower (Kd.R_new' (Kd.R_new' ho0 (Kd.R_lt (ZR HO270.out))) (Kd.R_lt (ZR HO275.out))) (below_size (Zh HB.out))); have n3_ := Aside0.mk (below_step (Zh HB.out) hb); clear HO270; clear HO275; clear HB; have HO270 := n0_; have HO275 := n1_; have HO280 := n2_; have HB := n3_; clear n0_ n1_ n2_ n3_; (try clear hb); (try clear hb2); (try clear hk); (try clear hi); (try clear ho0); obtain ⟨Ao21, co21, eo21⟩ := Kd.R_slice HO270.out; subst eo21; have p282 : 0 ≤ ((ji13) : Int) := of_decide_eq_true Za; have q282 : (ji13) < (t266.length : Int) := of_decide_eq_true Za; obtain ⟨ad282, e282, hx282_0, hx282_1, hx282_2, hx282_3⟩ := at_T36 (Kd.R_reads' HO270.out).2.2 (ji13) p282 q282; cases e282; replace p282 := eq_true p282; replace q282 := eq_true q282)))
         (try simp only [Act.put, List.setIfInBounds_toArray, List.set_cons_zero, List.set_cons_succ])
         go_cut [98] (fun v98 wc => ∃ (kq : Nat) (x98_16 : Bool), v98 = .bool x98_16 ∧ Aside0 (debuggerlaw02_LexerJoins.j0 kq t266 t271 t276 ((rd_T36 t266 (ji13)).f1) x98_16 = some r) ∧ Aside0 (kq ≤ k) ∧ Aside0 (Kd.R k36 36 wc w.heap.size (fun k_ => some k_ ≠ (v274 : Value).ownBlock ∧ some k_ ≠ (v279 : Value).ownBlock) (.slice (some ad282) t266.length co21) t266) ∧ Aside0 (Kd.R k36 36 wc w.heap.size (fun k_ => some k_ ≠ ((.slice (some ad282) t266.length co21) : Value).ownBlock ∧ some k_ ≠ (v279 : Value).ownBlock) v274 t271) ∧ Aside0 (Kd.R k36 36 wc w.heap.size (fun k_ => some k_ ≠ ((.slice (some ad282) t266.length co21) : Value).ownBlock ∧ some k_ ≠ (v274 : Value).ownBlock) v279 t276) ∧ Aside0 (Below w.heap.size w wc))
         case first =>
          have H := HC17.out
          clear HC17
          by_cases c22 : t278 = 0
          ·rw [if_pos c22] at H
           have c22b0 : (t278 == 0) = true := beq_iff_eq.mpr c22
           have c22b1 : (t278 != 0) = false := bne_eq_false_iff_eq.mpr c22
           clear c22
           (first | rw [c22b0] | (simp only [i64_w, i32_w]; rw [c22b0]) | skip)
           have H' := Aside0.mk H
           clear H
           obtain ⟨Ao23, co23, eo23⟩ := Kd.R_slice HO280.out
           subst eo23
           obtain ⟨Ao24, co24, eo24⟩ := Kd.R_slice HO275.out
           subst eo24
           go_wp2
           repeat (go_quiet (fail); try go_wp2)
           go_meet
           case rel => exact ⟨_, (((t276.length : Int) != (wrap64 ((wrap64 ((t266.length : Int) + (t271.length : Int))) - 1)))), (by first | rfl | (simp; done) | (simp [*]; done)), H', ⟨by first | omega | exact Nat.le_refl _⟩, ⟨by (with_reducible repeat (first | apply Kd.R_alloc | apply Kd.R_drewN | apply Kd.R_drew)); exact Kd.R_mono HO270.out (fun _ hk => ⟨hk.1.2, hk.2⟩)⟩, ⟨by (with_reducible repeat (first | apply Kd.R_alloc | apply Kd.R_drewN | apply Kd.R_drew)); exact Kd.R_mono HO275.out (fun _ hk => ⟨hk.1.2, hk.2⟩)⟩, ⟨by (with_reducible repeat (first | apply Kd.R_alloc | apply Kd.R_drewN | apply Kd.R_drew)); exact Kd.R_mono HO280.out (fun _ hk => ⟨hk.1.2, hk.2⟩)⟩, ⟨Zh HB.out⟩⟩
          ·rw [if_neg c22] at H
           have c22b0 : (t278 == 0) = false := beq_eq_false_iff_ne.mpr c22
           have c22b1 : (t278 != 0) = true := bne_iff_ne.mpr c22
           (first | rw [c22b0] | (simp only [i64_w, i32_w]; rw [c22b0]) | skip)
           have H' := Aside0.mk H
           clear H
           go_wp2
           repeat (go_quiet (fail); try go_wp2)
           go_meet
           case rel => exact ⟨_, (true), (by first | rfl | (simp; done) | (simp [*]; done)), H', ⟨by first | omega | exact Nat.le_refl _⟩, ⟨by (with_reducible repeat (first | apply Kd.R_alloc | apply Kd.R_drewN | apply Kd.R_drew)); exact Kd.R_mono HO270.out (fun _ hk => ⟨hk.1.2, hk.2⟩)⟩, ⟨by (with_reducible repeat (first | apply Kd.R_alloc | apply Kd.R_drewN | apply Kd.R_drew)); exact Kd.R_mono HO275.out (fun _ hk => ⟨hk.1.2, hk.2⟩)⟩, ⟨by (with_reducible repeat (first | apply Kd.R_alloc | apply Kd.R_drewN | apply Kd.R_drew)); exact Kd.R_mono HO280.out (fun _ hk => ⟨hk.1.2, hk.2⟩)⟩, ⟨Zh HB.out⟩⟩
         case rest =>
          clear HC17
          try clear c1
          try clear c2
          try clear p2
          try clear q2
          try clear hx2
          try clear c3
          try clear c3b0
          try clear c6
          try clear p6
          try clear c8
          try clear c8b0
          try clear c8b1
          try clear c8b2
          try clear c9
          try clear c9b0
          try clear c9b1
          try clear c9b2
          try clear c11
          try clear c11b0
          try clear c11b1
          try clear c12
          try clear c12b0
          try clear c12b1
          try clear c12b2
          try clear c14
          try clear c14b0
          try clear c15
          try clear c15b0
          try clear c16
          try clear c16b0
          try clear c16b1
          try clear c22
          try clear c22b0
          try clear c22b1
          try clear hx282_0
          try clear hx282_1
          try clear hx282_2
          try clear hx282_3
          try clear p282
          try clear q282
          obtain ⟨kq, x98_16, rfl, HA, HJ16, HO_5, HO_8, HO_11, HB⟩ := hcut
          cases kq with
          | zero => exact absurd HA.out (by simp [debuggerlaw02_LexerJoins.j0])
          | succ kj16 =>
           have H := HA.out
           clear HA
           simp only [debuggerlaw02_LexerJoins.j0] at H
           by_cases c25 : x98_16 = true
           ·subst c25
            have H1 : (some false) = some r := by rw [if_pos rfl] at H; exact H
            clear H
            have H := H1
            clear H1
            exact absurd (Option.some.inj (H.trans (congrArg some HT0.out))) (by simp)
           ·replace c25 := Bool.eq_false_iff.mpr c25
            subst c25
            have H1 : (debuggerlaw02_LexerJoins.l0 kj16 t266 t271 t276 ((rd_T36 t266 (ji13)).f1) 0) = some r := by rw [if_neg (show ¬ (false = true) by decide)] at H; exact H
            clear H
            have H := H1
            clear H1
            have H' := Aside0.mk H
            clear H
            go_wp2
            repeat (go_quiet (fail); try go_wp2)
            go_loopg [18] kj16 (fun kq v18 w' => ∃ (x18_2 : Int), v18 = .int .i64 x18_2 ∧ Aside0 (debuggerlaw02_LexerJoins.l0 kq t266 t271 t276 ((rd_T36 t266 (ji13)).f1) x18_2 = some r) ∧ Aside0 (kq ≤ kj16) ∧ Aside0 (Kd.R k36 36 w' w.heap.size (fun k_ => some k_ ≠ (v274 : Value).ownBlock ∧ some k_ ≠ (v279 : Value).ownBlock) (.slice (some ad282) t266.length co21) t266) ∧ Aside0 (Kd.R k36 36 w' w.heap.size (fun k_ => some k_ ≠ ((.slice (some ad282) t266.length co21) : Value).ownBlock ∧ some k_ ≠ (v279 : Value).ownBlock) v274 t271) ∧ Aside0 (Kd.R k36 36 w' w.heap.size (fun k_ => some k_ ≠ ((.slice (some ad282) t266.length co21) : Value).ownBlock ∧ some k_ ≠ (v274 : Value).ownBlock) v279 t276) ∧ Aside0 (Below w.heap.size w w'))
            case atStart => exact ⟨(0), (by first | rfl | (simp; done) | (simp [*]; done)), H', ⟨Nat.le_refl _⟩, ⟨ZR HO_5.out⟩, ⟨ZR HO_8.out⟩, ⟨ZR HO_11.out⟩, ⟨Zh HB.out⟩⟩
            case round =>
             clear H'
             try clear c1
             try clear c2
             try clear p2
             try clear q2
             try clear hx2
             try clear c3
             try clear c3b0
             try clear c6
             try clear p6
             try clear c8
             try clear c8b0
             try clear c8b1
             try clear c8b2
             try clear c9
             try clear c9b0
             try clear c9b1
             try clear c9b2
             try clear c11
             try clear c11b0
             try clear c11b1
             try clear c12
             try clear c12b0
             try clear c12b1
             try clear c12b2
             try clear c14
             try clear c14b0
             try clear c15
             try clear c15b0
             try clear c16
             try clear c16b0
             try clear c16b1
             try clear c22
             try clear c22b0
             try clear c22b1
             try clear c25
             try clear hx282_0
             try clear hx282_1
             try clear hx282_2
             try clear hx282_3
             try clear p2
             try clear p282
             try clear p6
             try clear q2
             try clear q282
             obtain ⟨x18_2, rfl, HA, HK2, HO_5, HO_8, HO_11, HB⟩ := hrel
             cases gk with
             | zero => exact absurd HA.out (by simp [debuggerlaw02_LexerJoins.l0])
             | succ k2 =>
              have H := HA.out
              clear HA
              simp only [debuggerlaw02_LexerJoins.l0] at H
              by_cases c26 : x18_2 < (t276.length : Int)
              ·rw [if_pos c26] at H
               have c26b0 : decide (x18_2 < (t276.length : Int)) = true := decide_eq_true c26
               clear c26
               by_cases c27 : x18_2 < (wrap64 ((t266.length : Int) - 1))
               ·rw [if_pos c27] at H
                have c27b0 : decide (x18_2 < (wrap64 ((t266.length : Int) - 1))) = true := decide_eq_true c27
                clear c27
                by_cases c28 : 0 ≤ x18_2
                ·rw [if_pos c28] at H
                 have c28b0 : decide (0 ≤ x18_2) = true := decide_eq_true c28
                 clear c28
                 by_cases c29 : x18_2 < (t266.length : Int)
                 ·rw [if_pos c29] at H
                  have c29b0 : decide (x18_2 < (t266.length : Int)) = true := decide_eq_true c29
                  clear c29
                  by_cases c30 : (!(((rd_T36 t276 x18_2).f0) == ((rd_T36 t266 x18_2).f0)) || (!(((rd_T36 t276 x18_2).f1) == ((rd_T36 t266 x18_2).f1)) || (!((((rd_T36 t276 x18_2).f2).toList) == (((rd_T36 t266 x18_2).f2).toList)) || (!(((rd_T36 t276 x18_2).f3) == ((rd_T36 t266 x18_2).f3)))))) = true
                  ·rw [if_pos c30] at H
                   have c30b0 : (!(((rd_T36 t276 x18_2).f0) == ((rd_T36 t266 x18_2).f0)) || (!(((rd_T36 t276 x18_2).f1) == ((rd_T36 t266 x18_2).f1)) || (!((((rd_T36 t276 x18_2).f2).toList) == (((rd_T36 t266 x18_2).f2).toList)) || (!(((rd_T36 t276 x18_2).f3) == ((rd_T36 t266 x18_2).f3)))))) = true := c30
                   clear c30
                   exact absurd (Option.some.inj (H.trans (congrArg some HT0.out))) (by simp)
                  ·rw [if_neg c30] at H
                   have c30b0 : (!(((rd_T36 t276 x18_2).f0) == ((rd_T36 t266 x18_2).f0)) || (!(((rd_T36 t276 x18_2).f1) == ((rd_T36 t266 x18_2).f1)) || (!((((rd_T36 t276 x18_2).f2).toList) == (((rd_T36 t266 x18_2).f2).toList)) || (!(((rd_T36 t276 x18_2).f3) == ((rd_T36 t266 x18_2).f3)))))) = false := by simpa using c30
                   clear c30
                   have H' := Aside0.mk H
                   clear H
                   obtain ⟨Ao31, co31, eo31⟩ := Kd.R_slice HO_11.out
                   subst eo31
                   have c27b1 : decide (x18_2 < ji13) = true := by rw [← hji13]; exact c27b0
                   go_upto_region 20 with (first | ((with_reducible refine gate_dst (N := 19) rfl ?_); (try (refine gate_guard (by rfl) ?_; dsimp only)); refine box_event ?hg (N := 19) ?hd (cs := #[.int .i64 0, .int .i64 0, .string (⟨#[]⟩ : ByteArray), .int .i64 0]) (t := 36) ?hr ?_; (case hd => rfl); (case hg => rfl); (case hr => first | (go_simp; done) | (go_simp; rfl)); intro gb290 hg w32 hbox hb; have n0_ := Aside0.mk (Kd.R_below (Kd.R_elderB (ZR HO_5.out) gb290 (Nat.le_of_eq hg.symm)) hb); have n1_ := Aside0.mk (Kd.R_below (Kd.R_elderB (ZR HO_8.out) gb290 (Nat.le_of_eq hg.symm)) hb); have n2_ := Aside0.mk (Kd.R_below (Kd.R_elderB (ZR HO_11.out) gb290 (Nat.le_of_eq hg.symm)) hb); have n3_ := Aside0.mk (below_step (Zh HB.out) hb); have n4_ := Aside0.mk (hbox); have n5_ := Aside0.mk ((by rw [hg]; exact (below_size (Zh HB.out)) : w.heap.size ≤ gb290)); have n6_ := Aside0.mk ((by rw [hg]; exact (below_size (Zh HB.out)) : w.heap.size ≤ gb290)); clear HO_5; clear HO_8; clear HO_11; clear HB; have HO_5 := n0_; have HO_8 := n1_; have HO_11 := n2_; have HB := n3_; have BK290 := n4_; have GW290 := n5_; have GE290 := n6_; clear n0_ n1_ n2_ n3_ n4_ n5_ n6_; clear hb hbox hg; have hcz33_0 : w32.cell? ⟨gb290, 0, none⟩ = some (.int .i64 0) := (blk_cell BK290.out 0).trans rfl; have hcz33_1 : w32.cell? ⟨gb290, 1, none⟩ = some (.int .i64 0) := (blk_cell BK290.out 1).trans rfl; have hcz33_2 : w32.cell? ⟨gb290, 2, none⟩ = some (.string (⟨#[]⟩ : ByteArray)) := (blk_cell BK290.out 2).trans rfl; have hcz33_3 : w32.cell? ⟨gb290, 3, none⟩ = some (.int .i64 0) := (blk_cell BK290.out 3).trans rfl; have hfz33_0 := blk_frozen BK290.out 0; have hfz33_1 := blk_frozen BK290.out 1; have hfz33_2 := blk_frozen BK290.out 2; have hfz33_3 := blk_frozen BK290.out 3))
                   refine gen_w (P := Code.wp _ _ _) (F := fun W => Kd.R k36 36 W w.heap.size (fun k_ => (some k_ ≠ (v274 : Value).ownBlock ∧ some k_ ≠ ((.slice Ao31 t276.length co31) : Value).ownBlock) ∧ k_ ≠ gb290) (.slice (some ad282) t266.length co21) t266 ∧ Kd.R k36 36 W w.heap.size (fun k_ => (some k_ ≠ ((.slice (some ad282) t266.length co21) : Value).ownBlock ∧ some k_ ≠ ((.slice Ao31 t276.length co31) : Value).ownBlock) ∧ k_ ≠ gb290) v274 t271 ∧ Kd.R k36 36 W w.heap.size (fun k_ => (some k_ ≠ ((.slice (some ad282) t266.length co21) : Value).ownBlock ∧ some k_ ≠ (v274 : Value).ownBlock) ∧ k_ ≠ gb290) (.slice Ao31 t276.length co31) t276 ∧ Below w.heap.size w W ∧ W.heap[gb290]? = some (.cells #[.int .i64 0, .int .i64 0, .string (⟨#[]⟩ : ByteArray), .int .i64 0] 36 (0, 0))) ⟨by repeat (first | (with_reducible exact HO_5.out) | (with_reducible refine Kd.R_far ?_ (fun _ hk => hk.2) _)), by repeat (first | (with_reducible exact HO_8.out) | (with_reducible refine Kd.R_far ?_ (fun _ hk => hk.2) _)), by repeat (first | (with_reducible exact HO_11.out) | (with_reducible refine Kd.R_far ?_ (fun _ hk => hk.2) _)), by repeat (first | (with_reducible exact HB.out) | (with_reducible refine below_set ?_ GE290.out)), by refine blk_put (cs := #[.int .i64 0, .int .i64 0, .string (⟨#[]⟩ : ByteArray), .int .i64 0]) ?_ 3 _ rfl; refine blk_put (cs := #[.int .i64 0, .int .i64 0, .string (⟨#[]⟩ : ByteArray), .int .i64 0]) ?_ 2 _ rfl; refine blk_put (cs := #[.int .i64 0, .int .i64 0, .string (⟨#[]⟩ : ByteArray), .int .i64 0]) ?_ 1 _ rfl; refine blk_put (cs := #[.int .i64 0, .int .i64 0, .string (⟨#[]⟩ : ByteArray), .int .i64 0]) ?_ 0 _ rfl; exact BK290.out⟩ ?_
                   clear HO_5 HO_8 HO_11 HB BK290
                   rintro W1 ⟨h5, h8, h11, hb, hk⟩
                   have HO_5 := Aside0.mk h5
                   have HO_8 := Aside0.mk h8
                   have HO_11 := Aside0.mk h11
                   have HB := Aside0.mk hb
                   have BK290 := Aside0.mk hk
                   clear h5 h8 h11 hb hk
                   have tq_0 : W1.cell? ⟨gb290, 0, none⟩ = some (.int .i64 0) := (blk_cell BK290.out 0).trans rfl
                   have tz_0 := blk_frozen BK290.out 0
                   have tq_1 : W1.cell? ⟨gb290, 1, none⟩ = some (.int .i64 0) := (blk_cell BK290.out 1).trans rfl
                   have tz_1 := blk_frozen BK290.out 1
                   have tq_2 : W1.cell? ⟨gb290, 2, none⟩ = some (.string (⟨#[]⟩ : ByteArray)) := (blk_cell BK290.out 2).trans rfl
                   have tz_2 := blk_frozen BK290.out 2
                   have tq_3 : W1.cell? ⟨gb290, 3, none⟩ = some (.int .i64 0) := (blk_cell BK290.out 3).trans rfl
                   have tz_3 := blk_frozen BK290.out 3
                   have p1 : 0 ≤ x18_2 := of_decide_eq_true c28b0
                   have q1 : x18_2 < (t266.length : Int) := of_decide_eq_true c29b0
                   obtain ⟨ad1, e1, hx1_0, hx1_1, hx1_2, hx1_3⟩ := at_T36 (Kd.R_reads' HO_5.out).2.2 x18_2 p1 q1
                   obtain rfl : ad282 = ad1 := (by injection e1)
                   replace p1 := eq_true p1
                   replace q1 := eq_true q1
                   go_upto_region 24 with (fail)
                   refine gen_w (P := Code.wp _ _ _) (F := fun W => Kd.R k36 36 W w.heap.size (fun k_ => (some k_ ≠ (v274 : Value).ownBlock ∧ some k_ ≠ ((.slice Ao31 t276.length co31) : Value).ownBlock) ∧ k_ ≠ gb290) (.slice (some ad282) t266.length co21) t266 ∧ Kd.R k36 36 W w.heap.size (fun k_ => (some k_ ≠ ((.slice (some ad282) t266.length co21) : Value).ownBlock ∧ some k_ ≠ ((.slice Ao31 t276.length co31) : Value).ownBlock) ∧ k_ ≠ gb290) v274 t271 ∧ Kd.R k36 36 W w.heap.size (fun k_ => (some k_ ≠ ((.slice (some ad282) t266.length co21) : Value).ownBlock ∧ some k_ ≠ (v274 : Value).ownBlock) ∧ k_ ≠ gb290) (.slice Ao31 t276.length co31) t276 ∧ Below w.heap.size w W ∧ W.heap[gb290]? = some (.cells #[.int .i64 (rd_T36 t266 x18_2).f0, .int .i64 (rd_T36 t266 x18_2).f1, .string (rd_T36 t266 x18_2).f2, .int .i64 (rd_T36 t266 x18_2).f3] 36 (0, 0))) ⟨by repeat (first | (with_reducible exact HO_5.out) | (with_reducible refine Kd.R_far ?_ (fun _ hk => hk.2) _)), by repeat (first | (with_reducible exact HO_8.out) | (with_reducible refine Kd.R_far ?_ (fun _ hk => hk.2) _)), by repeat (first | (with_reducible exact HO_11.out) | (with_reducible refine Kd.R_far ?_ (fun _ hk => hk.2) _)), by repeat (first | (with_reducible exact HB.out) | (with_reducible refine below_set ?_ GE290.out)), by refine blk_put (cs := #[.int .i64 (rd_T36 t266 x18_2).f0, .int .i64 (rd_T36 t266 x18_2).f1, .string (rd_T36 t266 x18_2).f2, .int .i64 0]) ?_ 3 _ rfl; refine blk_put (cs := #[.int .i64 (rd_T36 t266 x18_2).f0, .int .i64 (rd_T36 t266 x18_2).f1, .string (⟨#[]⟩ : ByteArray), .int .i64 0]) ?_ 2 _ rfl; refine blk_put (cs := #[.int .i64 (rd_T36 t266 x18_2).f0, .int .i64 0, .string (⟨#[]⟩ : ByteArray), .int .i64 0]) ?_ 1 _ rfl; refine blk_put (cs := #[.int .i64 0, .int .i64 0, .string (⟨#[]⟩ : ByteArray), .int .i64 0]) ?_ 0 _ rfl; exact BK290.out⟩ ?_
                   clear HO_5 HO_8 HO_11 HB BK290 tq_0 tq_1 tq_2 tq_3 tz_0 tz_1 tz_2 tz_3 hx1_0 hx1_1 hx1_2 hx1_3
                   rintro W2 ⟨h5, h8, h11, hb, hk⟩
                   have HO_5 := Aside0.mk h5
                   have HO_8 := Aside0.mk h8
                   have HO_11 := Aside0.mk h11
                   have HB := Aside0.mk hb
                   have BK290 := Aside0.mk hk
                   clear h5 h8 h11 hb hk
                   have tq_0 : W2.cell? ⟨gb290, 0, none⟩ = some (.int .i64 (rd_T36 t266 x18_2).f0) := (blk_cell BK290.out 0).trans rfl
                   have tz_0 := blk_frozen BK290.out 0
                   have ty_0 := fun (n_ : Nat) => (X_dcell W2 n_ _).trans tq_0
                   have tq_1 : W2.cell? ⟨gb290, 1, none⟩ = some (.int .i64 (rd_T36 t266 x18_2).f1) := (blk_cell BK290.out 1).trans rfl
                   have tz_1 := blk_frozen BK290.out 1
                   have ty_1 := fun (n_ : Nat) => (X_dcell W2 n_ _).trans tq_1
                   have tq_2 : W2.cell? ⟨gb290, 2, none⟩ = some (.string (rd_T36 t266 x18_2).f2) := (blk_cell BK290.out 2).trans rfl
                   have tz_2 := blk_frozen BK290.out 2
                   have ty_2 := fun (n_ : Nat) => (X_dcell W2 n_ _).trans tq_2
                   have tq_3 : W2.cell? ⟨gb290, 3, none⟩ = some (.int .i64 (rd_T36 t266 x18_2).f3) := (blk_cell BK290.out 3).trans rfl
                   have tz_3 := blk_frozen BK290.out 3
                   have ty_3 := fun (n_ : Nat) => (X_dcell W2 n_ _).trans tq_3
                   have p2 : 0 ≤ x18_2 := of_decide_eq_true c28b0
                   have q2 : x18_2 < (t276.length : Int) := of_decide_eq_true c26b0
                   obtain ⟨ad2, e2, hx2_0, hx2_1, hx2_2, hx2_3⟩ := at_T36 (Kd.R_reads' HO_11.out).2.2 x18_2 p2 q2
                   subst e2
                   have hy2_0 := fun (n_ : Nat) => (X_dcell W2 n_ _).trans hx2_0
                   have hy2_1 := fun (n_ : Nat) => (X_dcell W2 n_ _).trans hx2_1
                   have hy2_2 := fun (n_ : Nat) => (X_dcell W2 n_ _).trans hx2_2
                   have hy2_3 := fun (n_ : Nat) => (X_dcell W2 n_ _).trans hx2_3
                   replace p2 := eq_true p2
                   replace q2 := eq_true q2
                   repeat (go_quiet (fail); try go_wp2)
                   go_roundg k2
                   case measure => have := HJ16.out; have := HK2.out; omega
                   case rel => exact ⟨(wrap64 (x18_2 + 1)), (by first | rfl | (simp; done) | (simp [*]; done)), H', ⟨by have := HJ16.out; have := HK2.out; omega⟩, ⟨by (with_reducible repeat (first | apply Kd.R_alloc | apply Kd.R_drewN | apply Kd.R_drew)); exact Kd.R_mono HO_5.out (fun _ hk => hk.1)⟩, ⟨by (with_reducible repeat (first | apply Kd.R_alloc | apply Kd.R_drewN | apply Kd.R_drew)); exact Kd.R_mono HO_8.out (fun _ hk => hk.1)⟩, ⟨by (with_reducible repeat (first | apply Kd.R_alloc | apply Kd.R_drewN | apply Kd.R_drew)); exact Kd.R_mono HO_11.out (fun _ hk => hk.1)⟩, ⟨by repeat (first | (with_reducible exact HB.out) | (with_reducible refine pw_below_drewN ?_ _) | (with_reducible refine below_drew1 ?_) | (with_reducible refine below_alloc ?_ _))⟩⟩
                 ·rw [if_neg c29] at H
                  exact absurd H (by simp)
                ·rw [if_neg c28] at H
                 exact absurd H (by simp)
               ·rw [if_neg c27] at H
                have c27b0 : decide (x18_2 < (wrap64 ((t266.length : Int) - 1))) = false := decide_eq_false c27
                clear c27
                obtain ⟨ji34, hji34⟩ : ∃ j_ : Int, (wrap64 ((wrap64 (x18_2 - (t266.length : Int))) + 1)) = j_ := ⟨_, rfl⟩
                replace H : (if 0 ≤ (ji34) then (if (ji34) < (t271.length : Int) then (if 0 ≤ x18_2 then (if (!(((rd_T36 t276 x18_2).f0) == ((rd_T36 t271 (ji34)).f0)) || (!(((rd_T36 t276 x18_2).f1) == (wrap64 (((rd_T36 t271 (ji34)).f1) + ((rd_T36 t266 (ji13)).f1)))) || (!((((rd_T36 t276 x18_2).f2).toList) == (((rd_T36 t271 (ji34)).f2).toList)) || (!(((rd_T36 t276 x18_2).f3) == ((rd_T36 t271 (ji34)).f3)))))) = true then (some false) else (debuggerlaw02_LexerJoins.l0 k2 t266 t271 t276 ((rd_T36 t266 (ji13)).f1) (wrap64 (x18_2 + 1)))) else (none)) else (none)) else (none)) = some r := by first | (rw [hji34] at H; exact H) | (simp only [hji34] at H ⊢; exact H)
                have hji34w : (IntKind.i64.wrap ((wrap64 (x18_2 - (t266.length : Int))) + 1)) = ji34 := (i64_w _).trans hji34
                by_cases c35 : 0 ≤ (ji34)
                ·rw [if_pos c35] at H
                 have c35b0 : decide (0 ≤ (ji34)) = true := decide_eq_true c35
                 clear c35
                 by_cases c36 : (ji34) < (t271.length : Int)
                 ·rw [if_pos c36] at H
                  have c36b0 : decide ((ji34) < (t271.length : Int)) = true := decide_eq_true c36
                  clear c36
                  by_cases c37 : 0 ≤ x18_2
                  ·rw [if_pos c37] at H
                   have c37b0 : decide (0 ≤ x18_2) = true := decide_eq_true c37
                   clear c37
                   by_cases c38 : (!(((rd_T36 t276 x18_2).f0) == ((rd_T36 t271 (ji34)).f0)) || (!(((rd_T36 t276 x18_2).f1) == (wrap64 (((rd_T36 t271 (ji34)).f1) + ((rd_T36 t266 (ji13)).f1)))) || (!((((rd_T36 t276 x18_2).f2).toList) == (((rd_T36 t271 (ji34)).f2).toList)) || (!(((rd_T36 t276 x18_2).f3) == ((rd_T36 t271 (ji34)).f3)))))) = true
                   ·rw [if_pos c38] at H
                    have c38b0 : (!(((rd_T36 t276 x18_2).f0) == ((rd_T36 t271 (ji34)).f0)) || (!(((rd_T36 t276 x18_2).f1) == (wrap64 (((rd_T36 t271 (ji34)).f1) + ((rd_T36 t266 (ji13)).f1)))) || (!((((rd_T36 t276 x18_2).f2).toList) == (((rd_T36 t271 (ji34)).f2).toList)) || (!(((rd_T36 t276 x18_2).f3) == ((rd_T36 t271 (ji34)).f3)))))) = true := c38
                    clear c38
                    exact absurd (Option.some.inj (H.trans (congrArg some HT0.out))) (by simp)
                   ·rw [if_neg c38] at H
                    have c38b0 : (!(((rd_T36 t276 x18_2).f0) == ((rd_T36 t271 (ji34)).f0)) || (!(((rd_T36 t276 x18_2).f1) == (wrap64 (((rd_T36 t271 (ji34)).f1) + ((rd_T36 t266 (ji13)).f1)))) || (!((((rd_T36 t276 x18_2).f2).toList) == (((rd_T36 t271 (ji34)).f2).toList)) || (!(((rd_T36 t276 x18_2).f3) == ((rd_T36 t271 (ji34)).f3)))))) = false := by simpa using c38
                    clear c38
                    have H' := Aside0.mk H
                    clear H
                    obtain ⟨Ao39, co39, eo39⟩ := Kd.R_slice HO_11.out
                    subst eo39
                    have c27b1 : decide (x18_2 < ji13) = false := by rw [← hji13]; exact c27b0
                    obtain ⟨Ao42, co42, eo42⟩ := Kd.R_slice HO_8.out
                    subst eo42
                    go_upto_region 20 with (first | ((with_reducible refine gate_dst (N := 19) rfl ?_); (try (refine gate_guard (by rfl) ?_; dsimp only)); refine box_event ?hg (N := 19) ?hd (cs := #[.int .i64 0, .int .i64 0, .string (⟨#[]⟩ : ByteArray), .int .i64 0]) (t := 36) ?hr ?_; (case hd => rfl); (case hg => rfl); (case hr => first | (go_simp; done) | (go_simp; rfl)); intro gb290 hg w40 hbox hb; have n0_ := Aside0.mk (Kd.R_below (Kd.R_elderB (ZR HO_5.out) gb290 (Nat.le_of_eq hg.symm)) hb); have n1_ := Aside0.mk (Kd.R_below (Kd.R_elderB (ZR HO_8.out) gb290 (Nat.le_of_eq hg.symm)) hb); have n2_ := Aside0.mk (Kd.R_below (Kd.R_elderB (ZR HO_11.out) gb290 (Nat.le_of_eq hg.symm)) hb); have n3_ := Aside0.mk (below_step (Zh HB.out) hb); have n4_ := Aside0.mk (hbox); have n5_ := Aside0.mk ((by rw [hg]; exact (below_size (Zh HB.out)) : w.heap.size ≤ gb290)); have n6_ := Aside0.mk ((by rw [hg]; exact (below_size (Zh HB.out)) : w.heap.size ≤ gb290)); clear HO_5; clear HO_8; clear HO_11; clear HB; have HO_5 := n0_; have HO_8 := n1_; have HO_11 := n2_; have HB := n3_; have BK290 := n4_; have GW290 := n5_; have GE290 := n6_; clear n0_ n1_ n2_ n3_ n4_ n5_ n6_; clear hb hbox hg; have hcz41_0 : w40.cell? ⟨gb290, 0, none⟩ = some (.int .i64 0) := (blk_cell BK290.out 0).trans rfl; have hcz41_1 : w40.cell? ⟨gb290, 1, none⟩ = some (.int .i64 0) := (blk_cell BK290.out 1).trans rfl; have hcz41_2 : w40.cell? ⟨gb290, 2, none⟩ = some (.string (⟨#[]⟩ : ByteArray)) := (blk_cell BK290.out 2).trans rfl; have hcz41_3 : w40.cell? ⟨gb290, 3, none⟩ = some (.int .i64 0) := (blk_cell BK290.out 3).trans rfl; have hfz41_0 := blk_frozen BK290.out 0; have hfz41_1 := blk_frozen BK290.out 1; have hfz41_2 := blk_frozen BK290.out 2; have hfz41_3 := blk_frozen BK290.out 3))
                    refine gen_w (P := Code.wp _ _ _) (F := fun W => Kd.R k36 36 W w.heap.size (fun k_ => (some k_ ≠ ((.slice Ao42 t271.length co42) : Value).ownBlock ∧ some k_ ≠ ((.slice Ao39 t276.length co39) : Value).ownBlock) ∧ k_ ≠ gb290) (.slice (some ad282) t266.length co21) t266 ∧ Kd.R k36 36 W w.heap.size (fun k_ => (some k_ ≠ ((.slice (some ad282) t266.length co21) : Value).ownBlock ∧ some k_ ≠ ((.slice Ao39 t276.length co39) : Value).ownBlock) ∧ k_ ≠ gb290) (.slice Ao42 t271.length co42) t271 ∧ Kd.R k36 36 W w.heap.size (fun k_ => (some k_ ≠ ((.slice (some ad282) t266.length co21) : Value).ownBlock ∧ some k_ ≠ ((.slice Ao42 t271.length co42) : Value).ownBlock) ∧ k_ ≠ gb290) (.slice Ao39 t276.length co39) t276 ∧ Below w.heap.size w W ∧ W.heap[gb290]? = some (.cells #[.int .i64 0, .int .i64 0, .string (⟨#[]⟩ : ByteArray), .int .i64 0] 36 (0, 0))) ⟨by repeat (first | (with_reducible exact HO_5.out) | (with_reducible refine Kd.R_far ?_ (fun _ hk => hk.2) _)), by repeat (first | (with_reducible exact HO_8.out) | (with_reducible refine Kd.R_far ?_ (fun _ hk => hk.2) _)), by repeat (first | (with_reducible exact HO_11.out) | (with_reducible refine Kd.R_far ?_ (fun _ hk => hk.2) _)), by repeat (first | (with_reducible exact HB.out) | (with_reducible refine below_set ?_ GE290.out)), by refine blk_put (cs := #[.int .i64 0, .int .i64 0, .string (⟨#[]⟩ : ByteArray), .int .i64 0]) ?_ 3 _ rfl; refine blk_put (cs := #[.int .i64 0, .int .i64 0, .string (⟨#[]⟩ : ByteArray), .int .i64 0]) ?_ 2 _ rfl; refine blk_put (cs := #[.int .i64 0, .int .i64 0, .string (⟨#[]⟩ : ByteArray), .int .i64 0]) ?_ 1 _ rfl; refine blk_put (cs := #[.int .i64 0, .int .i64 0, .string (⟨#[]⟩ : ByteArray), .int .i64 0]) ?_ 0 _ rfl; exact BK290.out⟩ ?_
                    clear HO_5 HO_8 HO_11 HB BK290
                    rintro W1 ⟨h5, h8, h11, hb, hk⟩
                    have HO_5 := Aside0.mk h5
                    have HO_8 := Aside0.mk h8
                    have HO_11 := Aside0.mk h11
                    have HB := Aside0.mk hb
                    have BK290 := Aside0.mk hk
                    clear h5 h8 h11 hb hk
                    have tq_0 : W1.cell? ⟨gb290, 0, none⟩ = some (.int .i64 0) := (blk_cell BK290.out 0).trans rfl
                    have tz_0 := blk_frozen BK290.out 0
                    have tq_1 : W1.cell? ⟨gb290, 1, none⟩ = some (.int .i64 0) := (blk_cell BK290.out 1).trans rfl
                    have tz_1 := blk_frozen BK290.out 1
                    have tq_2 : W1.cell? ⟨gb290, 2, none⟩ = some (.string (⟨#[]⟩ : ByteArray)) := (blk_cell BK290.out 2).trans rfl
                    have tz_2 := blk_frozen BK290.out 2
                    have tq_3 : W1.cell? ⟨gb290, 3, none⟩ = some (.int .i64 0) := (blk_cell BK290.out 3).trans rfl
                    have tz_3 := blk_frozen BK290.out 3
                    have p1 : 0 ≤ ji34 := of_decide_eq_true c35b0
                    have q1 : ji34 < (t271.length : Int) := of_decide_eq_true c36b0
                    obtain ⟨ad1, e1, hx1_0, hx1_1, hx1_2, hx1_3⟩ := at_T36 (Kd.R_reads' HO_8.out).2.2 ji34 p1 q1
                    subst e1
                    replace p1 := eq_true p1
                    replace q1 := eq_true q1
                    go_upto_region 24 with (fail)
                    refine gen_w (P := Code.wp _ _ _) (F := fun W => Kd.R k36 36 W w.heap.size (fun k_ => (some k_ ≠ ((.slice (some ad1) t271.length co42) : Value).ownBlock ∧ some k_ ≠ ((.slice Ao39 t276.length co39) : Value).ownBlock) ∧ k_ ≠ gb290) (.slice (some ad282) t266.length co21) t266 ∧ Kd.R k36 36 W w.heap.size (fun k_ => (some k_ ≠ ((.slice (some ad282) t266.length co21) : Value).ownBlock ∧ some k_ ≠ ((.slice Ao39 t276.length co39) : Value).ownBlock) ∧ k_ ≠ gb290) (.slice (some ad1) t271.length co42) t271 ∧ Kd.R k36 36 W w.heap.size (fun k_ => (some k_ ≠ ((.slice (some ad282) t266.length co21) : Value).ownBlock ∧ some k_ ≠ ((.slice (some ad1) t271.length co42) : Value).ownBlock) ∧ k_ ≠ gb290) (.slice Ao39 t276.length co39) t276 ∧ Below w.heap.size w W ∧ W.heap[gb290]? = some (.cells #[.int .i64 (rd_T36 t271 ji34).f0, .int .i64 (wrap64 ((rd_T36 t271 ji34).f1 + (rd_T36 t266 ji13).f1)), .string (rd_T36 t271 ji34).f2, .int .i64 (rd_T36 t271 ji34).f3] 36 (0, 0))) ⟨by repeat (first | (with_reducible exact HO_5.out) | (with_reducible refine Kd.R_far ?_ (fun _ hk => hk.2) _)), by repeat (first | (with_reducible exact HO_8.out) | (with_reducible refine Kd.R_far ?_ (fun _ hk => hk.2) _)), by repeat (first | (with_reducible exact HO_11.out) | (with_reducible refine Kd.R_far ?_ (fun _ hk => hk.2) _)), by repeat (first | (with_reducible exact HB.out) | (with_reducible refine below_set ?_ GE290.out)), by refine blk_put (cs := #[.int .i64 (rd_T36 t271 ji34).f0, .int .i64 (rd_T36 t271 ji34).f1, .string (rd_T36 t271 ji34).f2, .int .i64 (rd_T36 t271 ji34).f3]) ?_ 1 _ rfl; refine blk_put (cs := #[.int .i64 (rd_T36 t271 ji34).f0, .int .i64 (rd_T36 t271 ji34).f1, .string (rd_T36 t271 ji34).f2, .int .i64 0]) ?_ 3 _ rfl; refine blk_put (cs := #[.int .i64 (rd_T36 t271 ji34).f0, .int .i64 (rd_T36 t271 ji34).f1, .string (⟨#[]⟩ : ByteArray), .int .i64 0]) ?_ 2 _ rfl; refine blk_put (cs := #[.int .i64 (rd_T36 t271 ji34).f0, .int .i64 0, .string (⟨#[]⟩ : ByteArray), .int .i64 0]) ?_ 1 _ rfl; refine blk_put (cs := #[.int .i64 0, .int .i64 0, .string (⟨#[]⟩ : ByteArray), .int .i64 0]) ?_ 0 _ rfl; exact BK290.out⟩ ?_
                    clear HO_5 HO_8 HO_11 HB BK290 tq_0 tq_1 tq_2 tq_3 tz_0 tz_1 tz_2 tz_3 hx1_0 hx1_1 hx1_2 hx1_3
                    rintro W2 ⟨h5, h8, h11, hb, hk⟩
                    have HO_5 := Aside0.mk h5
                    have HO_8 := Aside0.mk h8
                    have HO_11 := Aside0.mk h11
                    have HB := Aside0.mk hb
                    have BK290 := Aside0.mk hk
                    clear h5 h8 h11 hb hk
                    have tq_0 : W2.cell? ⟨gb290, 0, none⟩ = some (.int .i64 (rd_T36 t271 ji34).f0) := (blk_cell BK290.out 0).trans rfl
                    have tz_0 := blk_frozen BK290.out 0
                    have ty_0 := fun (n_ : Nat) => (X_dcell W2 n_ _).trans tq_0
                    have tq_1 : W2.cell? ⟨gb290, 1, none⟩ = some (.int .i64 (wrap64 ((rd_T36 t271 ji34).f1 + (rd_T36 t266 ji13).f1))) := (blk_cell BK290.out 1).trans rfl
                    have tz_1 := blk_frozen BK290.out 1
                    have ty_1 := fun (n_ : Nat) => (X_dcell W2 n_ _).trans tq_1
                    have tq_2 : W2.cell? ⟨gb290, 2, none⟩ = some (.string (rd_T36 t271 ji34).f2) := (blk_cell BK290.out 2).trans rfl
                    have tz_2 := blk_frozen BK290.out 2
                    have ty_2 := fun (n_ : Nat) => (X_dcell W2 n_ _).trans tq_2
                    have tq_3 : W2.cell? ⟨gb290, 3, none⟩ = some (.int .i64 (rd_T36 t271 ji34).f3) := (blk_cell BK290.out 3).trans rfl
                    have tz_3 := blk_frozen BK290.out 3
                    have ty_3 := fun (n_ : Nat) => (X_dcell W2 n_ _).trans tq_3
                    have p2 : 0 ≤ x18_2 := of_decide_eq_true c37b0
                    have q2 : x18_2 < (t276.length : Int) := of_decide_eq_true c26b0
                    obtain ⟨ad2, e2, hx2_0, hx2_1, hx2_2, hx2_3⟩ := at_T36 (Kd.R_reads' HO_11.out).2.2 x18_2 p2 q2
                    subst e2
                    have hy2_0 := fun (n_ : Nat) => (X_dcell W2 n_ _).trans hx2_0
                    have hy2_1 := fun (n_ : Nat) => (X_dcell W2 n_ _).trans hx2_1
                    have hy2_2 := fun (n_ : Nat) => (X_dcell W2 n_ _).trans hx2_2
                    have hy2_3 := fun (n_ : Nat) => (X_dcell W2 n_ _).trans hx2_3
                    replace p2 := eq_true p2
                    replace q2 := eq_true q2
                    repeat (go_quiet (fail); try go_wp2)
                    go_roundg k2
                    case measure => have := HJ16.out; have := HK2.out; omega
                    case rel => exact ⟨(wrap64 (x18_2 + 1)), (by first | rfl | (simp; done) | (simp [*]; done)), H', ⟨by have := HJ16.out; have := HK2.out; omega⟩, ⟨by (with_reducible repeat (first | apply Kd.R_alloc | apply Kd.R_drewN | apply Kd.R_drew)); exact Kd.R_mono HO_5.out (fun _ hk => hk.1)⟩, ⟨by (with_reducible repeat (first | apply Kd.R_alloc | apply Kd.R_drewN | apply Kd.R_drew)); exact Kd.R_mono HO_8.out (fun _ hk => hk.1)⟩, ⟨by (with_reducible repeat (first | apply Kd.R_alloc | apply Kd.R_drewN | apply Kd.R_drew)); exact Kd.R_mono HO_11.out (fun _ hk => hk.1)⟩, ⟨by repeat (first | (with_reducible exact HB.out) | (with_reducible refine pw_below_drewN ?_ _) | (with_reducible refine below_drew1 ?_) | (with_reducible refine below_alloc ?_ _))⟩⟩
                  ·rw [if_neg c37] at H
                   exact absurd H (by simp)
                 ·rw [if_neg c36] at H
                  exact absurd H (by simp)
                ·rw [if_neg c35] at H
                 exact absurd H (by simp)
              ·rw [if_neg c26] at H
               have c26b0 : decide (x18_2 < (t276.length : Int)) = false := decide_eq_false c26
               clear c26
               replace H := Option.bind_eq_some_iff.mp H
               obtain ⟨t289, A430, H⟩ := H
               replace H : (some t289) = some r := H
               have A43 := Aside0.mk A430
               clear A430
               obtain rfl := Option.some.inj H
               obtain ⟨Ao44, co44, eo44⟩ := Kd.R_slice HO_11.out
               subst eo44
               go_wp2_with (first | (go_at_call 13; (with_reducible refine (debuggerlaw02_known.calls k2  t289 _ ⟨Glob.below hGl.out (Zh HB.out)⟩ A43.out).mono ?_); rintro e w45 ⟨rfl, hb⟩; have n0_ := Aside0.mk (Kd.R_below (ZR HO_5.out) hb); have n1_ := Aside0.mk (Kd.R_below (ZR HO_8.out) hb); have n2_ := Aside0.mk (Kd.R_below (ZR HO_11.out) hb); have n3_ := Aside0.mk (below_step (Zh HB.out) hb); clear HO_5; clear HO_8; clear HO_11; clear HB; have HO_5 := n0_; have HO_8 := n1_; have HO_11 := n2_; have HB := n3_; clear n0_ n1_ n2_ n3_; (try clear hb); (try clear hb2); (try clear hk); (try clear hi)))
               repeat (go_quiet (first | (go_at_call 13; (with_reducible refine (debuggerlaw02_known.calls k2  t289 _ ⟨Glob.below hGl.out (Zh HB.out)⟩ A43.out).mono ?_); rintro e w45 ⟨rfl, hb⟩; have n0_ := Aside0.mk (Kd.R_below (ZR HO_5.out) hb); have n1_ := Aside0.mk (Kd.R_below (ZR HO_8.out) hb); have n2_ := Aside0.mk (Kd.R_below (ZR HO_11.out) hb); have n3_ := Aside0.mk (below_step (Zh HB.out) hb); clear HO_5; clear HO_8; clear HO_11; clear HB; have HO_5 := n0_; have HO_8 := n1_; have HO_11 := n2_; have HB := n3_; clear n0_ n1_ n2_ n3_; (try clear hb); (try clear hb2); (try clear hk); (try clear hi))); try go_wp2_with (first | (go_at_call 13; (with_reducible refine (debuggerlaw02_known.calls k2  t289 _ ⟨Glob.below hGl.out (Zh HB.out)⟩ A43.out).mono ?_); rintro e w45 ⟨rfl, hb⟩; have n0_ := Aside0.mk (Kd.R_below (ZR HO_5.out) hb); have n1_ := Aside0.mk (Kd.R_below (ZR HO_8.out) hb); have n2_ := Aside0.mk (Kd.R_below (ZR HO_11.out) hb); have n3_ := Aside0.mk (below_step (Zh HB.out) hb); clear HO_5; clear HO_8; clear HO_11; clear HB; have HO_5 := n0_; have HO_8 := n1_; have HO_11 := n2_; have HB := n3_; clear n0_ n1_ n2_ n3_; (try clear hb); (try clear hb2); (try clear hk); (try clear hi))))
               go_ret
               exact ⟨by first | rfl | (simp [errW_none, errW_some] <;> rfl) | (simp only [← hji13]; first | rfl | (simp [errW_none, errW_some] <;> rfl)) | (simp [*, errW_none, errW_some] <;> rfl), Zh HB.out⟩
        ·rw [if_neg c16] at H
         have c16b0 : (t273 == 0) = false := beq_eq_false_iff_ne.mpr c16
         have c16b1 : (t273 != 0) = true := bne_iff_ne.mpr c16
         replace H := Option.bind_eq_some_iff.mp H
         obtain ⟨⟨t283, t284, t285⟩, A460, H⟩ := H
         replace H : (if t278 = t273 then (if t277 = (wrap64 (t284 + ((rd_T36 t266 (ji13)).f1))) then ((debuggerlaw02_known.f k).bind fun t288 => (some t288)) else (some false)) else (some false)) = some r := H
         have A46 := Aside0.mk A460
         clear A460
         by_cases c47 : t278 = t273
         ·rw [if_pos c47] at H
          have c47b0 : (t278 == t273) = true := beq_iff_eq.mpr c47
          have c47b1 : (t278 != t273) = false := bne_eq_false_iff_eq.mpr c47
          clear c47
          by_cases c48 : t277 = (wrap64 (t284 + ((rd_T36 t266 (ji13)).f1)))
          ·rw [if_pos c48] at H
           have c48b0 : (t277 == (wrap64 (t284 + ((rd_T36 t266 (ji13)).f1)))) = true := beq_iff_eq.mpr c48
           have c48b1 : (t277 != (wrap64 (t284 + ((rd_T36 t266 (ji13)).f1)))) = false := bne_eq_false_iff_eq.mpr c48
           clear c48
           replace H := Option.bind_eq_some_iff.mp H
           obtain ⟨t288, A490, H⟩ := H
           replace H : (some t288) = some r := H
           have A49 := Aside0.mk A490
           clear A490
           obtain rfl := Option.some.inj H
           go_enter Tryd.func6, Tryd.ntmps6
           go_wp2_with (first | (go_at_call 15; (with_reducible refine (lexer_Scan.calls k a0 t266 t267 t268 _ ⟨Glob.below hGl.out (Zh HB.out)⟩ A6.out).mono ?_); rintro e w50 ⟨v269, rfl, ho0, hb⟩; have n0_ := Aside0.mk (Kd.R_lower ho0 (below_size (Zh HB.out))); have n1_ := Aside0.mk (below_step (Zh HB.out) hb); clear HB; have HO270 := n0_; have HB := n1_; clear n0_ n1_; (try clear hb); (try clear hb2); (try clear hk); (try clear hi); (try clear ho0)) | (go_at_call 15; (with_reducible refine (lexer_Scan.calls k a1 t271 t272 t273 _ ⟨Glob.below hGl.out (Zh HB.out)⟩ A7.out).mono ?_); clear A7; rintro e w51 ⟨v274, rfl, ho0, hb⟩; have n0_ := Aside0.mk (Kd.R_elder' (ZR HO270.out) (by first | exact Kd.R_base ho0 | exact Kd.S_base ho0 | exact Kd.R_base ho0 | exact Kd.N_base ho0) hb); have n1_ := Aside0.mk (Kd.R_lower (Kd.R_new' ho0 (Kd.R_lt (ZR HO270.out))) (below_size (Zh HB.out))); have n2_ := Aside0.mk (below_step (Zh HB.out) hb); clear HO270; clear HB; have HO270 := n0_; have HO275 := n1_; have HB := n2_; clear n0_ n1_ n2_; (try clear hb); (try clear hb2); (try clear hk); (try clear hi); (try clear ho0)) | (go_at_call 15; (with_reducible refine (lexer_Scan.calls k ((a0 ++ (⟨#[10]⟩ : ByteArray)) ++ a1) t276 t277 t278 _ ⟨Glob.below hGl.out (Zh HB.out)⟩ A10.out).mono ?_); rintro e w52 ⟨v279, rfl, ho0, hb⟩; have n0_ := Aside0.mk (Kd.R_elder' (ZR HO270.out) (by first | exact Kd.R_base ho0 | exact Kd.S_base ho0 | exact Kd.R_base ho0 | exact Kd.N_base ho0) hb); have n1_ := Aside0.mk (Kd.R_elder' (ZR HO275.out) (by first | exact Kd.R_base ho0 | exact Kd.S_base ho0 | exact Kd.R_base ho0 | exact Kd.N_base ho0) hb); have n2_ := Aside0.mk (Kd.R_lower (Kd.R_new' (Kd.R_new' ho0 (Kd.R_lt (ZR HO270.out))) (Kd.R_lt (ZR HO275.out))) (below_size (Zh HB.out))); have n3_ := Aside0.mk (below_step (Zh HB.out) hb); clear HO270; clear HO275; clear HB; have HO270 := n0_; have HO275 := n1_; have HO280 := n2_; have HB := n3_; clear n0_ n1_ n2_ n3_; (try clear hb); (try clear hb2); (try clear hk); (try clear hi); (try clear ho0); obtain ⟨Ao53, co53, eo53⟩ := Kd.R_slice HO270.out; subst eo53; have p282 : 0 ≤ ((ji13) : Int) := of_decide_eq_true Za; have q282 : (ji13) < (t266.length : Int) := of_decide_eq_true Za; obtain ⟨ad282, e282, hx282_0, hx282_1, hx282_2, hx282_3⟩ := at_T36 (Kd.R_reads' HO270.out).2.2 (ji13) p282 q282; cases e282; replace p282 := eq_true p282; replace q282 := eq_true q282) | (go_at_call 15; (with_reducible refine (lexer_Scan.calls k a1 t283 t284 t285 _ ⟨Glob.below hGl.out (Zh HB.out)⟩ A46.out).mono ?_); rintro e w54 ⟨v286, rfl, ho0, hb⟩; have n0_ := Aside0.mk (Kd.R_elder' (ZR HO270.out) (by first | exact Kd.R_base ho0 | exact Kd.S_base ho0 | exact Kd.R_base ho0 | exact Kd.N_base ho0) hb); have n1_ := Aside0.mk (Kd.R_elder' (ZR HO275.out) (by first | exact Kd.R_base ho0 | exact Kd.S_base ho0 | exact Kd.R_base ho0 | exact Kd.N_base ho0) hb); have n2_ := Aside0.mk (Kd.R_elder' (ZR HO280.out) (by first | exact Kd.R_base ho0 | exact Kd.S_base ho0 | exact Kd.R_base ho0 | exact Kd.N_base ho0) hb); have n3_ := Aside0.mk (Kd.R_lower (Kd.R_new' (Kd.R_new' (Kd.R_new' ho0 (Kd.R_lt (ZR HO270.out))) (Kd.R_lt (ZR HO275.out))) (Kd.R_lt (ZR HO280.out))) (below_size (Zh HB.out))); have n4_ := Aside0.mk (below_step (Zh HB.out) hb); clear HO270; clear HO275; clear HO280; clear HB; have HO270 := n0_; have HO275 := n1_; have HO280 := n2_; have HO287 := n3_; have HB := n4_; clear n0_ n1_ n2_ n3_ n4_; (try clear hb); (try clear hb2); (try clear hk); (try clear hi); (try clear ho0)) | (go_at_call 13; (with_reducible refine (debuggerlaw02_known.calls k  t288 _ ⟨Glob.below hGl.out (Zh HB.out)⟩ A49.out).mono ?_); rintro e w55 ⟨rfl, hb⟩; have n0_ := Aside0.mk (Kd.R_below (ZR HO270.out) hb); have n1_ := Aside0.mk (Kd.R_below (ZR HO275.out) hb); have n2_ := Aside0.mk (Kd.R_below (ZR HO280.out) hb); have n3_ := Aside0.mk (Kd.R_below (ZR HO287.out) hb); have n4_ := Aside0.mk (below_step (Zh HB.out) hb); clear HO270; clear HO275; clear HO280; clear HO287; clear HB; have HO270 := n0_; have HO275 := n1_; have HO280 := n2_; have HO287 := n3_; have HB := n4_; clear n0_ n1_ n2_ n3_ n4_; (try clear hb); (try clear hb2); (try clear hk); (try clear hi)))
           repeat (go_quiet (first | (go_at_call 15; (with_reducible refine (lexer_Scan.calls k a0 t266 t267 t268 _ ⟨Glob.below hGl.out (Zh HB.out)⟩ A6.out).mono ?_); rintro e w50 ⟨v269, rfl, ho0, hb⟩; have n0_ := Aside0.mk (Kd.R_lower ho0 (below_size (Zh HB.out))); have n1_ := Aside0.mk (below_step (Zh HB.out) hb); clear HB; have HO270 := n0_; have HB := n1_; clear n0_ n1_; (try clear hb); (try clear hb2); (try clear hk); (try clear hi); (try clear ho0)) | (go_at_call 15; (with_reducible refine (lexer_Scan.calls k a1 t271 t272 t273 _ ⟨Glob.below hGl.out (Zh HB.out)⟩ A7.out).mono ?_); clear A7; rintro e w51 ⟨v274, rfl, ho0, hb⟩; have n0_ := Aside0.mk (Kd.R_elder' (ZR HO270.out) (by first | exact Kd.R_base ho0 | exact Kd.S_base ho0 | exact Kd.R_base ho0 | exact Kd.N_base ho0) hb); have n1_ := Aside0.mk (Kd.R_lower (Kd.R_new' ho0 (Kd.R_lt (ZR HO270.out))) (below_size (Zh HB.out))); have n2_ := Aside0.mk (below_step (Zh HB.out) hb); clear HO270; clear HB; have HO270 := n0_; have HO275 := n1_; have HB := n2_; clear n0_ n1_ n2_; (try clear hb); (try clear hb2); (try clear hk); (try clear hi); (try clear ho0)) | (go_at_call 15; (with_reducible refine (lexer_Scan.calls k ((a0 ++ (⟨#[10]⟩ : ByteArray)) ++ a1) t276 t277 t278 _ ⟨Glob.below hGl.out (Zh HB.out)⟩ A10.out).mono ?_); rintro e w52 ⟨v279, rfl, ho0, hb⟩; have n0_ := Aside0.mk (Kd.R_elder' (ZR HO270.out) (by first | exact Kd.R_base ho0 | exact Kd.S_base ho0 | exact Kd.R_base ho0 | exact Kd.N_base ho0) hb); have n1_ := Aside0.mk (Kd.R_elder' (ZR HO275.out) (by first | exact Kd.R_base ho0 | exact Kd.S_base ho0 | exact Kd.R_base ho0 | exact Kd.N_base ho0) hb); have n2_ := Aside0.mk (Kd.R_lower (Kd.R_new' (Kd.R_new' ho0 (Kd.R_lt (ZR HO270.out))) (Kd.R_lt (ZR HO275.out))) (below_size (Zh HB.out))); have n3_ := Aside0.mk (below_step (Zh HB.out) hb); clear HO270; clear HO275; clear HB; have HO270 := n0_; have HO275 := n1_; have HO280 := n2_; have HB := n3_; clear n0_ n1_ n2_ n3_; (try clear hb); (try clear hb2); (try clear hk); (try clear hi); (try clear ho0); obtain ⟨Ao53, co53, eo53⟩ := Kd.R_slice HO270.out; subst eo53; have p282 : 0 ≤ ((ji13) : Int) := of_decide_eq_true Za; have q282 : (ji13) < (t266.length : Int) := of_decide_eq_true Za; obtain ⟨ad282, e282, hx282_0, hx282_1, hx282_2, hx282_3⟩ := at_T36 (Kd.R_reads' HO270.out).2.2 (ji13) p282 q282; cases e282; replace p282 := eq_true p282; replace q282 := eq_true q282) | (go_at_call 15; (with_reducible refine (lexer_Scan.calls k a1 t283 t284 t285 _ ⟨Glob.below hGl.out (Zh HB.out)⟩ A46.out).mono ?_); rintro e w54 ⟨v286, rfl, ho0, hb⟩; have n0_ := Aside0.mk (Kd.R_elder' (ZR HO270.out) (by first | exact Kd.R_base ho0 | exact Kd.S_base ho0 | exact Kd.R_base ho0 | exact Kd.N_base ho0) hb); have n1_ := Aside0.mk (Kd.R_elder' (ZR HO275.out) (by first | exact Kd.R_base ho0 | exact Kd.S_base ho0 | exact Kd.R_base ho0 | exact Kd.N_base ho0) hb); have n2_ := Aside0.mk (Kd.R_elder' (ZR HO280.out) (by first | exact Kd.R_base ho0 | exact Kd.S_base ho0 | exact Kd.R_base ho0 | exact Kd.N_base ho0) hb); have n3_ := Aside0.mk (Kd.R_lower (Kd.R_new' (Kd.R_new' (Kd.R_new' ho0 (Kd.R_lt (ZR HO270.out))) (Kd.R_lt (ZR HO275.out))) (Kd.R_lt (ZR HO280.out))) (below_size (Zh HB.out))); have n4_ := Aside0.mk (below_step (Zh HB.out) hb); clear HO270; clear HO275; clear HO280; clear HB; have HO270 := n0_; have HO275 := n1_; have HO280 := n2_; have HO287 := n3_; have HB := n4_; clear n0_ n1_ n2_ n3_ n4_; (try clear hb); (try clear hb2); (try clear hk); (try clear hi); (try clear ho0)) | (go_at_call 13; (with_reducible refine (debuggerlaw02_known.calls k  t288 _ ⟨Glob.below hGl.out (Zh HB.out)⟩ A49.out).mono ?_); rintro e w55 ⟨rfl, hb⟩; have n0_ := Aside0.mk (Kd.R_below (ZR HO270.out) hb); have n1_ := Aside0.mk (Kd.R_below (ZR HO275.out) hb); have n2_ := Aside0.mk (Kd.R_below (ZR HO280.out) hb); have n3_ := Aside0.mk (Kd.R_below (ZR HO287.out) hb); have n4_ := Aside0.mk (below_step (Zh HB.out) hb); clear HO270; clear HO275; clear HO280; clear HO287; clear HB; have HO270 := n0_; have HO275 := n1_; have HO280 := n2_; have HO287 := n3_; have HB := n4_; clear n0_ n1_ n2_ n3_ n4_; (try clear hb); (try clear hb2); (try clear hk); (try clear hi))); try go_wp2_with (first | (go_at_call 15; (with_reducible refine (lexer_Scan.calls k a0 t266 t267 t268 _ ⟨Glob.below hGl.out (Zh HB.out)⟩ A6.out).mono ?_); rintro e w50 ⟨v269, rfl, ho0, hb⟩; have n0_ := Aside0.mk (Kd.R_lower ho0 (below_size (Zh HB.out))); have n1_ := Aside0.mk (below_step (Zh HB.out) hb); clear HB; have HO270 := n0_; have HB := n1_; clear n0_ n1_; (try clear hb); (try clear hb2); (try clear hk); (try clear hi); (try clear ho0)) | (go_at_call 15; (with_reducible refine (lexer_Scan.calls k a1 t271 t272 t273 _ ⟨Glob.below hGl.out (Zh HB.out)⟩ A7.out).mono ?_); clear A7; rintro e w51 ⟨v274, rfl, ho0, hb⟩; have n0_ := Aside0.mk (Kd.R_elder' (ZR HO270.out) (by first | exact Kd.R_base ho0 | exact Kd.S_base ho0 | exact Kd.R_base ho0 | exact Kd.N_base ho0) hb); have n1_ := Aside0.mk (Kd.R_lower (Kd.R_new' ho0 (Kd.R_lt (ZR HO270.out))) (below_size (Zh HB.out))); have n2_ := Aside0.mk (below_step (Zh HB.out) hb); clear HO270; clear HB; have HO270 := n0_; have HO275 := n1_; have HB := n2_; clear n0_ n1_ n2_; (try clear hb); (try clear hb2); (try clear hk); (try clear hi); (try clear ho0)) | (go_at_call 15; (with_reducible refine (lexer_Scan.calls k ((a0 ++ (⟨#[10]⟩ : ByteArray)) ++ a1) t276 t277 t278 _ ⟨Glob.below hGl.out (Zh HB.out)⟩ A10.out).mono ?_); rintro e w52 ⟨v279, rfl, ho0, hb⟩; have n0_ := Aside0.mk (Kd.R_elder' (ZR HO270.out) (by first | exact Kd.R_base ho0 | exact Kd.S_base ho0 | exact Kd.R_base ho0 | exact Kd.N_base ho0) hb); have n1_ := Aside0.mk (Kd.R_elder' (ZR HO275.out) (by first | exact Kd.R_base ho0 | exact Kd.S_base ho0 | exact Kd.R_base ho0 | exact Kd.N_base ho0) hb); have n2_ := Aside0.mk (Kd.R_lower (Kd.R_new' (Kd.R_new' ho0 (Kd.R_lt (ZR HO270.out))) (Kd.R_lt (ZR HO275.out))) (below_size (Zh HB.out))); have n3_ := Aside0.mk (below_step (Zh HB.out) hb); clear HO270; clear HO275; clear HB; have HO270 := n0_; have HO275 := n1_; have HO280 := n2_; have HB := n3_; clear n0_ n1_ n2_ n3_; (try clear hb); (try clear hb2); (try clear hk); (try clear hi); (try clear ho0); obtain ⟨Ao53, co53, eo53⟩ := Kd.R_slice HO270.out; subst eo53; have p282 : 0 ≤ ((ji13) : Int) := of_decide_eq_true Za; have q282 : (ji13) < (t266.length : Int) := of_decide_eq_true Za; obtain ⟨ad282, e282, hx282_0, hx282_1, hx282_2, hx282_3⟩ := at_T36 (Kd.R_reads' HO270.out).2.2 (ji13) p282 q282; cases e282; replace p282 := eq_true p282; replace q282 := eq_true q282) | (go_at_call 15; (with_reducible refine (lexer_Scan.calls k a1 t283 t284 t285 _ ⟨Glob.below hGl.out (Zh HB.out)⟩ A46.out).mono ?_); rintro e w54 ⟨v286, rfl, ho0, hb⟩; have n0_ := Aside0.mk (Kd.R_elder' (ZR HO270.out) (by first | exact Kd.R_base ho0 | exact Kd.S_base ho0 | exact Kd.R_base ho0 | exact Kd.N_base ho0) hb); have n1_ := Aside0.mk (Kd.R_elder' (ZR HO275.out) (by first | exact Kd.R_base ho0 | exact Kd.S_base ho0 | exact Kd.R_base ho0 | exact Kd.N_base ho0) hb); have n2_ := Aside0.mk (Kd.R_elder' (ZR HO280.out) (by first | exact Kd.R_base ho0 | exact Kd.S_base ho0 | exact Kd.R_base ho0 | exact Kd.N_base ho0) hb); have n3_ := Aside0.mk (Kd.R_lower (Kd.R_new' (Kd.R_new' (Kd.R_new' ho0 (Kd.R_lt (ZR HO270.out))) (Kd.R_lt (ZR HO275.out))) (Kd.R_lt (ZR HO280.out))) (below_size (Zh HB.out))); have n4_ := Aside0.mk (below_step (Zh HB.out) hb); clear HO270; clear HO275; clear HO280; clear HB; have HO270 := n0_; have HO275 := n1_; have HO280 := n2_; have HO287 := n3_; have HB := n4_; clear n0_ n1_ n2_ n3_ n4_; (try clear hb); (try clear hb2); (try clear hk); (try clear hi); (try clear ho0)) | (go_at_call 13; (with_reducible refine (debuggerlaw02_known.calls k  t288 _ ⟨Glob.below hGl.out (Zh HB.out)⟩ A49.out).mono ?_); rintro e w55 ⟨rfl, hb⟩; have n0_ := Aside0.mk (Kd.R_below (ZR HO270.out) hb); have n1_ := Aside0.mk (Kd.R_below (ZR HO275.out) hb); have n2_ := Aside0.mk (Kd.R_below (ZR HO280.out) hb); have n3_ := Aside0.mk (Kd.R_below (ZR HO287.out) hb); have n4_ := Aside0.mk (below_step (Zh HB.out) hb); clear HO270; clear HO275; clear HO280; clear HO287; clear HB; have HO270 := n0_; have HO275 := n1_; have HO280 := n2_; have HO287 := n3_; have HB := n4_; clear n0_ n1_ n2_ n3_ n4_; (try clear hb); (try clear hb2); (try clear hk); (try clear hi))))
           go_ret
           exact ⟨by first | rfl | (simp [errW_none, errW_some] <;> rfl) | (simp only [← hji13]; first | rfl | (simp [errW_none, errW_some] <;> rfl)) | (simp [*, errW_none, errW_some] <;> rfl), Zh HB.out⟩
          ·rw [if_neg c48] at H
           have c48b0 : (t277 == (wrap64 (t284 + ((rd_T36 t266 (ji13)).f1)))) = false := beq_eq_false_iff_ne.mpr c48
           have c48b1 : (t277 != (wrap64 (t284 + ((rd_T36 t266 (ji13)).f1)))) = true := bne_iff_ne.mpr c48
           exact absurd (Option.some.inj (H.trans (congrArg some HT0.out))) (by simp)
         ·rw [if_neg c47] at H
          have c47b0 : (t278 == t273) = false := beq_eq_false_iff_ne.mpr c47
          have c47b1 : (t278 != t273) = true := bne_iff_ne.mpr c47
          exact absurd (Option.some.inj (H.trans (congrArg some HT0.out))) (by simp)
       ·rw [if_neg c15] at H
        exact absurd H (by simp)
      ·rw [if_neg c14] at H
       exact absurd H (by simp)
    ·rw [if_neg c11] at H
     have c11b0 : (t268 == 0) = false := beq_eq_false_iff_ne.mpr c11
     have c11b1 : (t268 != 0) = true := bne_iff_ne.mpr c11
     by_cases c56 : t278 = 0
     ·rw [if_pos c56] at H
      have c56b0 : (t278 == 0) = true := beq_iff_eq.mpr c56
      have c56b1 : (t278 != 0) = false := bne_eq_false_iff_eq.mpr c56
      clear c56
      exact absurd (Option.some.inj (H.trans (congrArg some HT0.out))) (by simp)
     ·rw [if_neg c56] at H
      have c56b0 : (t278 == 0) = false := beq_eq_false_iff_ne.mpr c56
      have c56b1 : (t278 != 0) = true := bne_iff_ne.mpr c56
      replace H := Option.bind_eq_some_iff.mp H
      obtain ⟨t281, A570, H⟩ := H
      replace H : (some t281) = some r := H
      have A57 := Aside0.mk A570
      clear A570
      obtain rfl := Option.some.inj H
      go_enter Tryd.func6, Tryd.ntmps6
      go_wp2_with (first | (go_at_call 15; (with_reducible refine (lexer_Scan.calls k a0 t266 t267 t268 _ ⟨Glob.below hGl.out (Zh HB.out)⟩ A6.out).mono ?_); rintro e w58 ⟨v269, rfl, ho0, hb⟩; have n0_ := Aside0.mk (Kd.R_lower ho0 (below_size (Zh HB.out))); have n1_ := Aside0.mk (below_step (Zh HB.out) hb); clear HB; have HO270 := n0_; have HB := n1_; clear n0_ n1_; (try clear hb); (try clear hb2); (try clear hk); (try clear hi); (try clear ho0)) | (go_at_call 15; (with_reducible refine (lexer_Scan.calls k a1 t271 t272 t273 _ ⟨Glob.below hGl.out (Zh HB.out)⟩ A7.out).mono ?_); rintro e w59 ⟨v274, rfl, ho0, hb⟩; have n0_ := Aside0.mk (Kd.R_elder' (ZR HO270.out) (by first | exact Kd.R_base ho0 | exact Kd.S_base ho0 | exact Kd.R_base ho0 | exact Kd.N_base ho0) hb); have n1_ := Aside0.mk (Kd.R_lower (Kd.R_new' ho0 (Kd.R_lt (ZR HO270.out))) (below_size (Zh HB.out))); have n2_ := Aside0.mk (below_step (Zh HB.out) hb); clear HO270; clear HB; have HO270 := n0_; have HO275 := n1_; have HB := n2_; clear n0_ n1_ n2_; (try clear hb); (try clear hb2); (try clear hk); (try clear hi); (try clear ho0)) | (go_at_call 15; (with_reducible refine (lexer_Scan.calls k ((a0 ++ (⟨#[10]⟩ : ByteArray)) ++ a1) t276 t277 t278 _ ⟨Glob.below hGl.out (Zh HB.out)⟩ A10.out).mono ?_); rintro e w60 ⟨v279, rfl, ho0, hb⟩; have n0_ := Aside0.mk (Kd.R_elder' (ZR HO270.out) (by first | exact Kd.R_base ho0 | exact Kd.S_base ho0 | exact Kd.R_base ho0 | exact Kd.N_base ho0) hb); have n1_ := Aside0.mk (Kd.R_elder' (ZR HO275.out) (by first | exact Kd.R_base ho0 | exact Kd.S_base ho0 | exact Kd.R_base ho0 | exact Kd.N_base ho0) hb); have n2_ := Aside0.mk (Kd.R_lower (Kd.R_new' (Kd.R_new' ho0 (Kd.R_lt (ZR HO270.out))) (Kd.R_lt (ZR HO275.out))) (below_size (Zh HB.out))); have n3_ := Aside0.mk (below_step (Zh HB.out) hb); clear HO270; clear HO275; clear HB; have HO270 := n0_; have HO275 := n1_; have HO280 := n2_; have HB := n3_; clear n0_ n1_ n2_ n3_; (try clear hb); (try clear hb2); (try clear hk); (try clear hi); (try clear ho0)) | (go_at_call 13; (with_reducible refine (debuggerlaw02_known.calls k  t281 _ ⟨Glob.below hGl.out (Zh HB.out)⟩ A57.out).mono ?_); rintro e w61 ⟨rfl, hb⟩; have n0_ := Aside0.mk (Kd.R_below (ZR HO270.out) hb); have n1_ := Aside0.mk (Kd.R_below (ZR HO275.out) hb); have n2_ := Aside0.mk (Kd.R_below (ZR HO280.out) hb); have n3_ := Aside0.mk (below_step (Zh HB.out) hb); clear HO270; clear HO275; clear HO280; clear HB; have HO270 := n0_; have HO275 := n1_; have HO280 := n2_; have HB := n3_; clear n0_ n1_ n2_ n3_; (try clear hb); (try clear hb2); (try clear hk); (try clear hi)))
      repeat (go_quiet (first | (go_at_call 15; (with_reducible refine (lexer_Scan.calls k a0 t266 t267 t268 _ ⟨Glob.below hGl.out (Zh HB.out)⟩ A6.out).mono ?_); rintro e w58 ⟨v269, rfl, ho0, hb⟩; have n0_ := Aside0.mk (Kd.R_lower ho0 (below_size (Zh HB.out))); have n1_ := Aside0.mk (below_step (Zh HB.out) hb); clear HB; have HO270 := n0_; have HB := n1_; clear n0_ n1_; (try clear hb); (try clear hb2); (try clear hk); (try clear hi); (try clear ho0)) | (go_at_call 15; (with_reducible refine (lexer_Scan.calls k a1 t271 t272 t273 _ ⟨Glob.below hGl.out (Zh HB.out)⟩ A7.out).mono ?_); rintro e w59 ⟨v274, rfl, ho0, hb⟩; have n0_ := Aside0.mk (Kd.R_elder' (ZR HO270.out) (by first | exact Kd.R_base ho0 | exact Kd.S_base ho0 | exact Kd.R_base ho0 | exact Kd.N_base ho0) hb); have n1_ := Aside0.mk (Kd.R_lower (Kd.R_new' ho0 (Kd.R_lt (ZR HO270.out))) (below_size (Zh HB.out))); have n2_ := Aside0.mk (below_step (Zh HB.out) hb); clear HO270; clear HB; have HO270 := n0_; have HO275 := n1_; have HB := n2_; clear n0_ n1_ n2_; (try clear hb); (try clear hb2); (try clear hk); (try clear hi); (try clear ho0)) | (go_at_call 15; (with_reducible refine (lexer_Scan.calls k ((a0 ++ (⟨#[10]⟩ : ByteArray)) ++ a1) t276 t277 t278 _ ⟨Glob.below hGl.out (Zh HB.out)⟩ A10.out).mono ?_); rintro e w60 ⟨v279, rfl, ho0, hb⟩; have n0_ := Aside0.mk (Kd.R_elder' (ZR HO270.out) (by first | exact Kd.R_base ho0 | exact Kd.S_base ho0 | exact Kd.R_base ho0 | exact Kd.N_base ho0) hb); have n1_ := Aside0.mk (Kd.R_elder' (ZR HO275.out) (by first | exact Kd.R_base ho0 | exact Kd.S_base ho0 | exact Kd.R_base ho0 | exact Kd.N_base ho0) hb); have n2_ := Aside0.mk (Kd.R_lower (Kd.R_new' (Kd.R_new' ho0 (Kd.R_lt (ZR HO270.out))) (Kd.R_lt (ZR HO275.out))) (below_size (Zh HB.out))); have n3_ := Aside0.mk (below_step (Zh HB.out) hb); clear HO270; clear HO275; clear HB; have HO270 := n0_; have HO275 := n1_; have HO280 := n2_; have HB := n3_; clear n0_ n1_ n2_ n3_; (try clear hb); (try clear hb2); (try clear hk); (try clear hi); (try clear ho0)) | (go_at_call 13; (with_reducible refine (debuggerlaw02_known.calls k  t281 _ ⟨Glob.below hGl.out (Zh HB.out)⟩ A57.out).mono ?_); rintro e w61 ⟨rfl, hb⟩; have n0_ := Aside0.mk (Kd.R_below (ZR HO270.out) hb); have n1_ := Aside0.mk (Kd.R_below (ZR HO275.out) hb); have n2_ := Aside0.mk (Kd.R_below (ZR HO280.out) hb); have n3_ := Aside0.mk (below_step (Zh HB.out) hb); clear HO270; clear HO275; clear HO280; clear HB; have HO270 := n0_; have HO275 := n1_; have HO280 := n2_; have HB := n3_; clear n0_ n1_ n2_ n3_; (try clear hb); (try clear hb2); (try clear hk); (try clear hi))); try go_wp2_with (first | (go_at_call 15; (with_reducible refine (lexer_Scan.calls k a0 t266 t267 t268 _ ⟨Glob.below hGl.out (Zh HB.out)⟩ A6.out).mono ?_); rintro e w58 ⟨v269, rfl, ho0, hb⟩; have n0_ := Aside0.mk (Kd.R_lower ho0 (below_size (Zh HB.out))); have n1_ := Aside0.mk (below_step (Zh HB.out) hb); clear HB; have HO270 := n0_; have HB := n1_; clear n0_ n1_; (try clear hb); (try clear hb2); (try clear hk); (try clear hi); (try clear ho0)) | (go_at_call 15; (with_reducible refine (lexer_Scan.calls k a1 t271 t272 t273 _ ⟨Glob.below hGl.out (Zh HB.out)⟩ A7.out).mono ?_); rintro e w59 ⟨v274, rfl, ho0, hb⟩; have n0_ := Aside0.mk (Kd.R_elder' (ZR HO270.out) (by first | exact Kd.R_base ho0 | exact Kd.S_base ho0 | exact Kd.R_base ho0 | exact Kd.N_base ho0) hb); have n1_ := Aside0.mk (Kd.R_lower (Kd.R_new' ho0 (Kd.R_lt (ZR HO270.out))) (below_size (Zh HB.out))); have n2_ := Aside0.mk (below_step (Zh HB.out) hb); clear HO270; clear HB; have HO270 := n0_; have HO275 := n1_; have HB := n2_; clear n0_ n1_ n2_; (try clear hb); (try clear hb2); (try clear hk); (try clear hi); (try clear ho0)) | (go_at_call 15; (with_reducible refine (lexer_Scan.calls k ((a0 ++ (⟨#[10]⟩ : ByteArray)) ++ a1) t276 t277 t278 _ ⟨Glob.below hGl.out (Zh HB.out)⟩ A10.out).mono ?_); rintro e w60 ⟨v279, rfl, ho0, hb⟩; have n0_ := Aside0.mk (Kd.R_elder' (ZR HO270.out) (by first | exact Kd.R_base ho0 | exact Kd.S_base ho0 | exact Kd.R_base ho0 | exact Kd.N_base ho0) hb); have n1_ := Aside0.mk (Kd.R_elder' (ZR HO275.out) (by first | exact Kd.R_base ho0 | exact Kd.S_base ho0 | exact Kd.R_base ho0 | exact Kd.N_base ho0) hb); have n2_ := Aside0.mk (Kd.R_lower (Kd.R_new' (Kd.R_new' ho0 (Kd.R_lt (ZR HO270.out))) (Kd.R_lt (ZR HO275.out))) (below_size (Zh HB.out))); have n3_ := Aside0.mk (below_step (Zh HB.out) hb); clear HO270; clear HO275; clear HB; have HO270 := n0_; have HO275 := n1_; have HO280 := n2_; have HB := n3_; clear n0_ n1_ n2_ n3_; (try clear hb); (try clear hb2); (try clear hk); (try clear hi); (try clear ho0)) | (go_at_call 13; (with_reducible refine (debuggerlaw02_known.calls k  t281 _ ⟨Glob.below hGl.out (Zh HB.out)⟩ A57.out).mono ?_); rintro e w61 ⟨rfl, hb⟩; have n0_ := Aside0.mk (Kd.R_below (ZR HO270.out) hb); have n1_ := Aside0.mk (Kd.R_below (ZR HO275.out) hb); have n2_ := Aside0.mk (Kd.R_below (ZR HO280.out) hb); have n3_ := Aside0.mk (below_step (Zh HB.out) hb); clear HO270; clear HO275; clear HO280; clear HB; have HO270 := n0_; have HO275 := n1_; have HO280 := n2_; have HB := n3_; clear n0_ n1_ n2_ n3_; (try clear hb); (try clear hb2); (try clear hk); (try clear hi))))
      go_ret
      exact ⟨by first | rfl | (simp [errW_none, errW_some] <;> rfl) | (simp [*, errW_none, errW_some] <;> rfl), Zh HB.out⟩
   ·rw [if_neg c9] at H
    exact absurd H (by simp)
  ·rw [if_neg c8] at H
   exact absurd H (by simp)

/-- THE ONE PURE STATEMENT of debuggerlaw02_LexerJoins: yours. -/
def debuggerlaw02_LexerJoins.Pure : Prop := ∀ (a0 : ByteArray) (a1 : ByteArray), a0.size ≤ 140737488351232 → a1.size ≤ 140737488351232 → ∃ k, debuggerlaw02_LexerJoins.f k a0 a1 = some true
theorem debuggerlaw02_LexerJoins.walk (P : debuggerlaw02_LexerJoins.Pure) (a0 : ByteArray) (a1 : ByteArray) (w : World) (hGl : Aside0 (Glob w)) (w0 : a0.size ≤ 140737488351232) (w1 : a1.size ≤ 140737488351232) :
  Calls Tryd.prog 6 #[.string a0, .string a1] w fun e w' => e = .returned (.bool true) ∧ Below w.heap.size w w' := by
 obtain ⟨k, h⟩ := P a0 a1 w0 w1
 refine (debuggerlaw02_LexerJoins.calls k a0 a1 true w hGl rfl h).mono ?_
 rintro e w' ⟨rfl, hd⟩
 exact ⟨rfl, hd⟩

end Go.Proofs.YtoflkheiidhblaaDoor.PLex
