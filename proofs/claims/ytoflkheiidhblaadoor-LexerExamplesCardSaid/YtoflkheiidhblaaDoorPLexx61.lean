-- By wip/xprint.py (a driver of this session's over the kit's print), for this claim.
import Derived.Test.YtoflkheiidhblaaDoorPLexx0
import Derived.Test.YtoflkheiidhblaaDoorPLexx14
import Derived.Test.YtoflkheiidhblaaDoorPLexx16
import Derived.Test.YtoflkheiidhblaaDoorPLexx52
namespace Go.Proofs.YtoflkheiidhblaaDoor.PLex
open Go.RowKit Go.Proofs.YtoflkheiidhblaaDoorW.PrintWords Go.Proofs.YtoflkheiidhblaaDoorW.PrintLast Go.Proofs.YtoflkheiidhblaaDoorW.PrintMore
attribute [local go_sem] max2_int min2_int max_two min_two max_three min_three max_four min_four   -- for this text's walks alone
set_option linter.unusedVariables false
set_option linter.unusedSimpArgs false

/-! ### debuggerlaw02_LexerExamples: function 9 -/
def debuggerlaw02_LexerExamples.f (k : Nat)  : Option (Bool) := (lexer_Scan.f k (⟨#[119, 104, 105, 108, 101, 115, 32, 119, 104, 105, 108, 101, 60, 61, 61, 33, 61, 47, 47, 120, 10, 33, 57, 32]⟩ : ByteArray)).bind fun bt350 => ((lexer_Scan.f k (⟨#[97, 10, 10, 36]⟩ : ByteArray)).bind fun bt355 => ((lexer_Scan.f k (⟨#[49, 10, 50, 120]⟩ : ByteArray)).bind fun bt360 => (if bt350.2.2 = 0 then (if (bt350.1.length : Int) = 8 then (if 0 < (bt350.1.length : Int) then (if ((rd_T36 bt350.1 0).f0) = 1 then (if 1 < (bt350.1.length : Int) then (if ((rd_T36 bt350.1 1).f0) = 3 then (if 2 < (bt350.1.length : Int) then (if ((rd_T36 bt350.1 2).f2).toList = ([60, 61] : List UInt8) then (if 3 < (bt350.1.length : Int) then (if ((rd_T36 bt350.1 3).f2).toList = ([61] : List UInt8) then (if 4 < (bt350.1.length : Int) then (if ((rd_T36 bt350.1 4).f2).toList = ([33, 61] : List UInt8) then (if 5 < (bt350.1.length : Int) then (if ((rd_T36 bt350.1 5).f2).toList = ([33] : List UInt8) then (if 6 < (bt350.1.length : Int) then (if ((rd_T36 bt350.1 6).f3) = 9 then (if bt355.2.2 = 6 then (if bt355.2.1 = 3 then (if bt360.2.2 = 6 then (if bt360.2.1 = 2 then ((debuggerlaw02_known.f k).bind fun t372 => (some t372)) else (some false)) else (some false)) else (some false)) else (some false)) else (some false)) else (none)) else (some false)) else (none)) else (some false)) else (none)) else (some false)) else (none)) else (some false)) else (none)) else (some false)) else (none)) else (some false)) else (none)) else (some false)) else (some false))))
theorem debuggerlaw02_LexerExamples.mono : ∀ k, LeO (debuggerlaw02_LexerExamples.f k ) (debuggerlaw02_LexerExamples.f (k + 1) ) := by
 intro  k
 unfold debuggerlaw02_LexerExamples.f
 repeat' first
   | (with_reducible exact debuggerlaw02_known.mono _)
   | (with_reducible exact lexer_Scan.mono _ _)
   | (with_reducible exact LeO.refl _)
   | (with_reducible exact LeO.none _)
   | (with_reducible refine LeO.ite ?_ ?_)
   | (with_reducible refine LeO.bind ?_ (fun _ => ?_))
   | exact debuggerlaw02_known.mono _
   | exact lexer_Scan.mono _ _
   | exact LeO.none _
   | refine LeO.ite ?_ ?_
   | refine LeO.bind ?_ (fun _ => ?_)
set_option maxHeartbeats 8000000 in
set_option maxRecDepth 100000 in
theorem debuggerlaw02_LexerExamples.calls (k : Nat)  (r : Bool) (w : World) (hGl : Aside0 (Glob w)) (hT0 : r = true) (h : debuggerlaw02_LexerExamples.f k  = some r) :
  Calls Tryd.prog 9 #[] w fun e w' => e = .returned (.bool r) ∧ Below w.heap.size w w' := by
 have HT0 := Aside0.mk hT0
 clear hT0
 have HB := Aside0.mk (Below.refl w.heap.size w)
 have H : ((lexer_Scan.f k (⟨#[119, 104, 105, 108, 101, 115, 32, 119, 104, 105, 108, 101, 60, 61, 61, 33, 61, 47, 47, 120, 10, 33, 57, 32]⟩ : ByteArray)).bind fun bt350 => ((lexer_Scan.f k (⟨#[97, 10, 10, 36]⟩ : ByteArray)).bind fun bt355 => ((lexer_Scan.f k (⟨#[49, 10, 50, 120]⟩ : ByteArray)).bind fun bt360 => (if bt350.2.2 = 0 then (if (bt350.1.length : Int) = 8 then (if 0 < (bt350.1.length : Int) then (if ((rd_T36 bt350.1 0).f0) = 1 then (if 1 < (bt350.1.length : Int) then (if ((rd_T36 bt350.1 1).f0) = 3 then (if 2 < (bt350.1.length : Int) then (if ((rd_T36 bt350.1 2).f2).toList = ([60, 61] : List UInt8) then (if 3 < (bt350.1.length : Int) then (if ((rd_T36 bt350.1 3).f2).toList = ([61] : List UInt8) then (if 4 < (bt350.1.length : Int) then (if ((rd_T36 bt350.1 4).f2).toList = ([33, 61] : List UInt8) then (if 5 < (bt350.1.length : Int) then (if ((rd_T36 bt350.1 5).f2).toList = ([33] : List UInt8) then (if 6 < (bt350.1.length : Int) then (if ((rd_T36 bt350.1 6).f3) = 9 then (if bt355.2.2 = 6 then (if bt355.2.1 = 3 then (if bt360.2.2 = 6 then (if bt360.2.1 = 2 then ((debuggerlaw02_known.f k).bind fun t372 => (some t372)) else (some false)) else (some false)) else (some false)) else (some false)) else (some false)) else (none)) else (some false)) else (none)) else (some false)) else (none)) else (some false)) else (none)) else (some false)) else (none)) else (some false)) else (none)) else (some false)) else (none)) else (some false)) else (some false))))) = some r := h
 clear h
 replace H := Option.bind_eq_some_iff.mp H
 obtain ⟨⟨t350, t351, t352⟩, A10, H⟩ := H
 replace H : ((lexer_Scan.f k (⟨#[97, 10, 10, 36]⟩ : ByteArray)).bind fun bt355 => ((lexer_Scan.f k (⟨#[49, 10, 50, 120]⟩ : ByteArray)).bind fun bt360 => (if t352 = 0 then (if (t350.length : Int) = 8 then (if 0 < (t350.length : Int) then (if ((rd_T36 t350 0).f0) = 1 then (if 1 < (t350.length : Int) then (if ((rd_T36 t350 1).f0) = 3 then (if 2 < (t350.length : Int) then (if ((rd_T36 t350 2).f2).toList = ([60, 61] : List UInt8) then (if 3 < (t350.length : Int) then (if ((rd_T36 t350 3).f2).toList = ([61] : List UInt8) then (if 4 < (t350.length : Int) then (if ((rd_T36 t350 4).f2).toList = ([33, 61] : List UInt8) then (if 5 < (t350.length : Int) then (if ((rd_T36 t350 5).f2).toList = ([33] : List UInt8) then (if 6 < (t350.length : Int) then (if ((rd_T36 t350 6).f3) = 9 then (if bt355.2.2 = 6 then (if bt355.2.1 = 3 then (if bt360.2.2 = 6 then (if bt360.2.1 = 2 then ((debuggerlaw02_known.f k).bind fun t372 => (some t372)) else (some false)) else (some false)) else (some false)) else (some false)) else (some false)) else (none)) else (some false)) else (none)) else (some false)) else (none)) else (some false)) else (none)) else (some false)) else (none)) else (some false)) else (none)) else (some false)) else (none)) else (some false)) else (some false)))) = some r := H
 have A1 := Aside0.mk A10
 clear A10
 replace H := Option.bind_eq_some_iff.mp H
 obtain ⟨⟨t355, t356, t357⟩, A20, H⟩ := H
 replace H : ((lexer_Scan.f k (⟨#[49, 10, 50, 120]⟩ : ByteArray)).bind fun bt360 => (if t352 = 0 then (if (t350.length : Int) = 8 then (if 0 < (t350.length : Int) then (if ((rd_T36 t350 0).f0) = 1 then (if 1 < (t350.length : Int) then (if ((rd_T36 t350 1).f0) = 3 then (if 2 < (t350.length : Int) then (if ((rd_T36 t350 2).f2).toList = ([60, 61] : List UInt8) then (if 3 < (t350.length : Int) then (if ((rd_T36 t350 3).f2).toList = ([61] : List UInt8) then (if 4 < (t350.length : Int) then (if ((rd_T36 t350 4).f2).toList = ([33, 61] : List UInt8) then (if 5 < (t350.length : Int) then (if ((rd_T36 t350 5).f2).toList = ([33] : List UInt8) then (if 6 < (t350.length : Int) then (if ((rd_T36 t350 6).f3) = 9 then (if t357 = 6 then (if t356 = 3 then (if bt360.2.2 = 6 then (if bt360.2.1 = 2 then ((debuggerlaw02_known.f k).bind fun t372 => (some t372)) else (some false)) else (some false)) else (some false)) else (some false)) else (some false)) else (none)) else (some false)) else (none)) else (some false)) else (none)) else (some false)) else (none)) else (some false)) else (none)) else (some false)) else (none)) else (some false)) else (none)) else (some false)) else (some false))) = some r := H
 have A2 := Aside0.mk A20
 clear A20
 replace H := Option.bind_eq_some_iff.mp H
 obtain ⟨⟨t360, t361, t362⟩, A30, H⟩ := H
 replace H : (if t352 = 0 then (if (t350.length : Int) = 8 then (if 0 < (t350.length : Int) then (if ((rd_T36 t350 0).f0) = 1 then (if 1 < (t350.length : Int) then (if ((rd_T36 t350 1).f0) = 3 then (if 2 < (t350.length : Int) then (if ((rd_T36 t350 2).f2).toList = ([60, 61] : List UInt8) then (if 3 < (t350.length : Int) then (if ((rd_T36 t350 3).f2).toList = ([61] : List UInt8) then (if 4 < (t350.length : Int) then (if ((rd_T36 t350 4).f2).toList = ([33, 61] : List UInt8) then (if 5 < (t350.length : Int) then (if ((rd_T36 t350 5).f2).toList = ([33] : List UInt8) then (if 6 < (t350.length : Int) then (if ((rd_T36 t350 6).f3) = 9 then (if t357 = 6 then (if t356 = 3 then (if t362 = 6 then (if t361 = 2 then ((debuggerlaw02_known.f k).bind fun t372 => (some t372)) else (some false)) else (some false)) else (some false)) else (some false)) else (some false)) else (none)) else (some false)) else (none)) else (some false)) else (none)) else (some false)) else (none)) else (some false)) else (none)) else (some false)) else (none)) else (some false)) else (none)) else (some false)) else (some false)) = some r := H
 have A3 := Aside0.mk A30
 clear A30
 by_cases c4 : t352 = 0
 ·rw [if_pos c4] at H
  have c4b0 : (t352 == 0) = true := beq_iff_eq.mpr c4
  have c4b1 : (t352 != 0) = false := bne_eq_false_iff_eq.mpr c4
  clear c4
  by_cases c5 : (t350.length : Int) = 8
  ·rw [if_pos c5] at H
   have c5b0 : ((t350.length : Int) == 8) = true := beq_iff_eq.mpr c5
   have c5b1 : ((t350.length : Int) != 8) = false := bne_eq_false_iff_eq.mpr c5
   clear c5
   by_cases c6 : 0 < (t350.length : Int)
   ·rw [if_pos c6] at H
    have c6b0 : decide (0 < (t350.length : Int)) = true := decide_eq_true c6
    have c6b1 : decide (0 < t350.length) = true := decide_eq_true (by omega)
    clear c6
    by_cases c7 : ((rd_T36 t350 0).f0) = 1
    ·rw [if_pos c7] at H
     have c7b0 : (((rd_T36 t350 0).f0) == 1) = true := beq_iff_eq.mpr c7
     have c7b1 : (((rd_T36 t350 0).f0) != 1) = false := bne_eq_false_iff_eq.mpr c7
     clear c7
     by_cases c8 : 1 < (t350.length : Int)
     ·rw [if_pos c8] at H
      have c8b0 : decide (1 < (t350.length : Int)) = true := decide_eq_true c8
      have c8b1 : decide (1 < t350.length) = true := decide_eq_true (by omega)
      clear c8
      by_cases c9 : ((rd_T36 t350 1).f0) = 3
      ·rw [if_pos c9] at H
       have c9b0 : (((rd_T36 t350 1).f0) == 3) = true := beq_iff_eq.mpr c9
       have c9b1 : (((rd_T36 t350 1).f0) != 3) = false := bne_eq_false_iff_eq.mpr c9
       clear c9
       by_cases c10 : 2 < (t350.length : Int)
       ·rw [if_pos c10] at H
        have c10b0 : decide (2 < (t350.length : Int)) = true := decide_eq_true c10
        have c10b1 : decide (2 < t350.length) = true := decide_eq_true (by omega)
        clear c10
        by_cases c11 : ((rd_T36 t350 2).f2).toList = ([60, 61] : List UInt8)
        ·rw [if_pos c11] at H
         have c11b0 : (((rd_T36 t350 2).f2).toList == ([60, 61] : List UInt8)) = true := beq_iff_eq.mpr c11
         have c11b1 : (((rd_T36 t350 2).f2).toList != ([60, 61] : List UInt8)) = false := bne_eq_false_iff_eq.mpr c11
         clear c11
         by_cases c12 : 3 < (t350.length : Int)
         ·rw [if_pos c12] at H
          have c12b0 : decide (3 < (t350.length : Int)) = true := decide_eq_true c12
          have c12b1 : decide (3 < t350.length) = true := decide_eq_true (by omega)
          clear c12
          by_cases c13 : ((rd_T36 t350 3).f2).toList = ([61] : List UInt8)
          ·rw [if_pos c13] at H
           have c13b0 : (((rd_T36 t350 3).f2).toList == ([61] : List UInt8)) = true := beq_iff_eq.mpr c13
           have c13b1 : (((rd_T36 t350 3).f2).toList != ([61] : List UInt8)) = false := bne_eq_false_iff_eq.mpr c13
           clear c13
           by_cases c14 : 4 < (t350.length : Int)
           ·rw [if_pos c14] at H
            have c14b0 : decide (4 < (t350.length : Int)) = true := decide_eq_true c14
            have c14b1 : decide (4 < t350.length) = true := decide_eq_true (by omega)
            clear c14
            by_cases c15 : ((rd_T36 t350 4).f2).toList = ([33, 61] : List UInt8)
            ·rw [if_pos c15] at H
             have c15b0 : (((rd_T36 t350 4).f2).toList == ([33, 61] : List UInt8)) = true := beq_iff_eq.mpr c15
             have c15b1 : (((rd_T36 t350 4).f2).toList != ([33, 61] : List UInt8)) = false := bne_eq_false_iff_eq.mpr c15
             clear c15
             by_cases c16 : 5 < (t350.length : Int)
             ·rw [if_pos c16] at H
              have c16b0 : decide (5 < (t350.length : Int)) = true := decide_eq_true c16
              have c16b1 : decide (5 < t350.length) = true := decide_eq_true (by omega)
              clear c16
              by_cases c17 : ((rd_T36 t350 5).f2).toList = ([33] : List UInt8)
              ·rw [if_pos c17] at H
               have c17b0 : (((rd_T36 t350 5).f2).toList == ([33] : List UInt8)) = true := beq_iff_eq.mpr c17
               have c17b1 : (((rd_T36 t350 5).f2).toList != ([33] : List UInt8)) = false := bne_eq_false_iff_eq.mpr c17
               clear c17
               by_cases c18 : 6 < (t350.length : Int)
               ·rw [if_pos c18] at H
                have c18b0 : decide (6 < (t350.length : Int)) = true := decide_eq_true c18
                have c18b1 : decide (6 < t350.length) = true := decide_eq_true (by omega)
                clear c18
                by_cases c19 : ((rd_T36 t350 6).f3) = 9
                ·rw [if_pos c19] at H
                 have c19b0 : (((rd_T36 t350 6).f3) == 9) = true := beq_iff_eq.mpr c19
                 have c19b1 : (((rd_T36 t350 6).f3) != 9) = false := bne_eq_false_iff_eq.mpr c19
                 clear c19
                 by_cases c20 : t357 = 6
                 ·rw [if_pos c20] at H
                  have c20b0 : (t357 == 6) = true := beq_iff_eq.mpr c20
                  have c20b1 : (t357 != 6) = false := bne_eq_false_iff_eq.mpr c20
                  clear c20
                  by_cases c21 : t356 = 3
                  ·rw [if_pos c21] at H
                   have c21b0 : (t356 == 3) = true := beq_iff_eq.mpr c21
                   have c21b1 : (t356 != 3) = false := bne_eq_false_iff_eq.mpr c21
                   clear c21
                   by_cases c22 : t362 = 6
                   ·rw [if_pos c22] at H
                    have c22b0 : (t362 == 6) = true := beq_iff_eq.mpr c22
                    have c22b1 : (t362 != 6) = false := bne_eq_false_iff_eq.mpr c22
                    clear c22
                    by_cases c23 : t361 = 2
                    ·rw [if_pos c23] at H
                     have c23b0 : (t361 == 2) = true := beq_iff_eq.mpr c23
                     have c23b1 : (t361 != 2) = false := bne_eq_false_iff_eq.mpr c23
                     clear c23
                     replace H := Option.bind_eq_some_iff.mp H
                     obtain ⟨t372, A240, H⟩ := H
                     replace H : (some t372) = some r := H
                     have A24 := Aside0.mk A240
                     clear A240
                     obtain rfl := Option.some.inj H
                     go_enter Tryd.func9, Tryd.ntmps9
                     go_wp2_with (first | ((with_reducible refine gate_callee (f := 15) rfl ?_); refine goesL_ (some 11) rfl rfl Tryd.func15 (by kernel_rfl) rfl #[.string (⟨#[119, 104, 105, 108, 101, 115, 32, 119, 104, 105, 108, 101, 60, 61, 61, 33, 61, 47, 47, 120, 10, 33, 57, 32]⟩ : ByteArray)] rfl Zm ?_; (with_reducible refine (lexer_Scan.calls k (⟨#[119, 104, 105, 108, 101, 115, 32, 119, 104, 105, 108, 101, 60, 61, 61, 33, 61, 47, 47, 120, 10, 33, 57, 32]⟩ : ByteArray) t350 t351 t352 _ ⟨Glob.below hGl.out (Zh HB.out)⟩ A1.out).mono ?_); rintro e w25 ⟨v353, rfl, ho0, hb⟩; refine ⟨_, rfl, ?_⟩; have n0_ := Aside0.mk (Kd.R_lower ho0 (below_size (Zh HB.out))); have n1_ := Aside0.mk (below_step (Zh HB.out) hb); clear HB; have HO354 := n0_; have HB := n1_; clear n0_ n1_; (try clear hb); (try clear hb2); (try clear hk); (try clear hi); (try clear ho0)) | ((with_reducible refine gate_callee (f := 15) rfl ?_); refine goesL_ (some 16) rfl rfl Tryd.func15 (by kernel_rfl) rfl #[.string (⟨#[97, 10, 10, 36]⟩ : ByteArray)] rfl Zm ?_; (with_reducible refine (lexer_Scan.calls k (⟨#[97, 10, 10, 36]⟩ : ByteArray) t355 t356 t357 _ ⟨Glob.below hGl.out (Zh HB.out)⟩ A2.out).mono ?_); rintro e w26 ⟨v358, rfl, ho0, hb⟩; refine ⟨_, rfl, ?_⟩; have n0_ := Aside0.mk (Kd.R_elder' (ZR HO354.out) (by first | exact Kd.R_base ho0 | exact Kd.S_base ho0 | exact Kd.R_base ho0 | exact Kd.N_base ho0) hb); have n1_ := Aside0.mk (Kd.R_lower (Kd.R_new' ho0 (Kd.R_lt (ZR HO354.out))) (below_size (Zh HB.out))); have n2_ := Aside0.mk (below_step (Zh HB.out) hb); clear HO354; clear HB; have HO354 := n0_; have HO359 := n1_; have HB := n2_; clear n0_ n1_ n2_; (try clear hb); (try clear hb2); (try clear hk); (try clear hi); (try clear ho0)) | ((with_reducible refine gate_callee (f := 15) rfl ?_); refine goesL_ (some 21) rfl rfl Tryd.func15 (by kernel_rfl) rfl #[.string (⟨#[49, 10, 50, 120]⟩ : ByteArray)] rfl Zm ?_; (with_reducible refine (lexer_Scan.calls k (⟨#[49, 10, 50, 120]⟩ : ByteArray) t360 t361 t362 _ ⟨Glob.below hGl.out (Zh HB.out)⟩ A3.out).mono ?_); rintro e w27 ⟨v363, rfl, ho0, hb⟩; refine ⟨_, rfl, ?_⟩; have n0_ := Aside0.mk (Kd.R_elder' (ZR HO354.out) (by first | exact Kd.R_base ho0 | exact Kd.S_base ho0 | exact Kd.R_base ho0 | exact Kd.N_base ho0) hb); have n1_ := Aside0.mk (Kd.R_elder' (ZR HO359.out) (by first | exact Kd.R_base ho0 | exact Kd.S_base ho0 | exact Kd.R_base ho0 | exact Kd.N_base ho0) hb); have n2_ := Aside0.mk (Kd.R_lower (Kd.R_new' (Kd.R_new' ho0 (Kd.R_lt (ZR HO354.out))) (Kd.R_lt (ZR HO359.out))) (below_size (Zh HB.out))); have n3_ := Aside0.mk (below_step (Zh HB.out) hb); clear HO354; clear HO359; clear HB; have HO354 := n0_; have HO359 := n1_; have HO364 := n2_; have HB := n3_; clear n0_ n1_ n2_ n3_; (try clear hb); (try clear hb2); (try clear hk); (try clear hi); (try clear ho0); obtain ⟨Ao28, co28, eo28⟩ := Kd.R_slice HO354.out; subst eo28; have p365 : 0 ≤ (0 : Int) := (by omega); have q365 : 0 < (t350.length : Int) := of_decide_eq_true Za; obtain ⟨ad365, e365, hx365_0, hx365_1, hx365_2, hx365_3⟩ := at_T36 (Kd.R_reads' HO354.out).2.2 0 p365 q365; cases e365; have qi365 : (0 < t350.length) = True := eq_true (by omega); (try rw [show ((0 : Int)).toNat = 0 from rfl] at hx365_0); (try rw [show 0 * 4 = 0 from rfl] at hx365_0); (try rw [Addr.add_zero'] at hx365_0); (try rw [show ((0 : Int)).toNat = 0 from rfl] at hx365_1); (try rw [show 0 * 4 = 0 from rfl] at hx365_1); (try rw [Addr.add_zero'] at hx365_1); (try rw [show ((0 : Int)).toNat = 0 from rfl] at hx365_2); (try rw [show 0 * 4 = 0 from rfl] at hx365_2); (try rw [Addr.add_zero'] at hx365_2); (try rw [show ((0 : Int)).toNat = 0 from rfl] at hx365_3); (try rw [show 0 * 4 = 0 from rfl] at hx365_3); (try rw [Addr.add_zero'] at hx365_3); replace p365 := eq_true p365; replace q365 := eq_true q365; have p366 : 0 ≤ (1 : Int) := (by omega); have q366 : 1 < (t350.length : Int) := of_decide_eq_true Za; obtain ⟨ad366, e366, hx366_0, hx366_1, hx366_2, hx366_3⟩ := at_T36 (Kd.R_reads' HO354.out).2.2 1 p366 q366; obtain rfl : ad365 = ad366 := (by injection e366); (try simp only [show (1 : Int).toNat = 1 from rfl, Nat.reduceMul, Nat.reduceEqDiff, Go.Addr.add, ↓reduceIte] at hx366_0); (try simp only [show (1 : Int).toNat = 1 from rfl, Nat.reduceMul, Nat.reduceEqDiff, Go.Addr.add, ↓reduceIte] at hx366_1); (try simp only [show (1 : Int).toNat = 1 from rfl, Nat.reduceMul, Nat.reduceEqDiff, Go.Addr.add, ↓reduceIte] at hx366_2); (try simp only [show (1 : Int).toNat = 1 from rfl, Nat.reduceMul, Nat.reduceEqDiff, Go.Addr.add, ↓reduceIte] at hx366_3); have qi366 : (1 < t350.length) = True := eq_true (by omega); (try rw [show ((1 : Int)).toNat = 1 from rfl] at hx366_0); (try rw [show 1 * 4 = 4 from rfl] at hx366_0); (try rw [show ((1 : Int)).toNat = 1 from rfl] at hx366_1); (try rw [show 1 * 4 = 4 from rfl] at hx366_1); (try rw [show ((1 : Int)).toNat = 1 from rfl] at hx366_2); (try rw [show 1 * 4 = 4 from rfl] at hx366_2); (try rw [show ((1 : Int)).toNat = 1 from rfl] at hx366_3); (try rw [show 1 * 4 = 4 from rfl] at hx366_3); replace p366 := eq_true p366; replace q366 := eq_true q366; have p367 : 0 ≤ (2 : Int) := (by omega); have q367 : 2 < (t350.length : Int) := of_decide_eq_true Za; obtain ⟨ad367, e367, hx367_0, hx367_1, hx367_2, hx367_3⟩ := at_T36 (Kd.R_reads' HO354.out).2.2 2 p367 q367; obtain rfl : ad365 = ad367 := (by injection e367); (try simp only [show (2 : Int).toNat = 2 from rfl, Nat.reduceMul, Nat.reduceEqDiff, Go.Addr.add, ↓reduceIte] at hx367_0); (try simp only [show (2 : Int).toNat = 2 from rfl, Nat.reduceMul, Nat.reduceEqDiff, Go.Addr.add, ↓reduceIte] at hx367_1); (try simp only [show (2 : Int).toNat = 2 from rfl, Nat.reduceMul, Nat.reduceEqDiff, Go.Addr.add, ↓reduceIte] at hx367_2); (try simp only [show (2 : Int).toNat = 2 from rfl, Nat.reduceMul, Nat.reduceEqDiff, Go.Addr.add, ↓reduceIte] at hx367_3); have qi367 : (2 < t350.length) = True := eq_true (by omega); (try rw [show ((2 : Int)).toNat = 2 from rfl] at hx367_0); (try rw [show 2 * 4 = 8 from rfl] at hx367_0); (try rw [show ((2 : Int)).toNat = 2 from rfl] at hx367_1); (try rw [show 2 * 4 = 8 from rfl] at hx367_1); (try rw [show ((2 : Int)).toNat = 2 from rfl] at hx367_2); (try rw [show 2 * 4 = 8 from rfl] at hx367_2); (try rw [show ((2 : Int)).toNat = 2 from rfl] at hx367_3); (try rw [show 2 * 4 = 8 from rfl] at hx367_3); replace p367 := eq_true p367; replace q367 := eq_true q367; have p368 : 0 ≤ (3 : Int) := (by omega); have q368 : 3 < (t350.length : Int) := of_decide_eq_true Za; obtain ⟨ad368, e368, hx368_0, hx368_1, hx368_2, hx368_3⟩ := at_T36 (Kd.R_reads' HO354.out).2.2 3 p368 q368; obtain rfl : ad365 = ad368 := (by injection e368); (try simp only [show (3 : Int).toNat = 3 from rfl, Nat.reduceMul, Nat.reduceEqDiff, Go.Addr.add, ↓reduceIte] at hx368_0); (try simp only [show (3 : Int).toNat = 3 from rfl, Nat.reduceMul, Nat.reduceEqDiff, Go.Addr.add, ↓reduceIte] at hx368_1); (try simp only [show (3 : Int).toNat = 3 from rfl, Nat.reduceMul, Nat.reduceEqDiff, Go.Addr.add, ↓reduceIte] at hx368_2); (try simp only [show (3 : Int).toNat = 3 from rfl, Nat.reduceMul, Nat.reduceEqDiff, Go.Addr.add, ↓reduceIte] at hx368_3); have qi368 : (3 < t350.length) = True := eq_true (by omega); (try rw [show ((3 : Int)).toNat = 3 from rfl] at hx368_0); (try rw [show 3 * 4 = 12 from rfl] at hx368_0); (try rw [show ((3 : Int)).toNat = 3 from rfl] at hx368_1); (try rw [show 3 * 4 = 12 from rfl] at hx368_1); (try rw [show ((3 : Int)).toNat = 3 from rfl] at hx368_2); (try rw [show 3 * 4 = 12 from rfl] at hx368_2); (try rw [show ((3 : Int)).toNat = 3 from rfl] at hx368_3); (try rw [show 3 * 4 = 12 from rfl] at hx368_3); replace p368 := eq_true p368; replace q368 := eq_true q368; have p369 : 0 ≤ (4 : Int) := (by omega); have q369 : 4 < (t350.length : Int) := of_decide_eq_true Za; obtain ⟨ad369, e369, hx369_0, hx369_1, hx369_2, hx369_3⟩ := at_T36 (Kd.R_reads' HO354.out).2.2 4 p369 q369; obtain rfl : ad365 = ad369 := (by injection e369); (try simp only [show (4 : Int).toNat = 4 from rfl, Nat.reduceMul, Nat.reduceEqDiff, Go.Addr.add, ↓reduceIte] at hx369_0); (try simp only [show (4 : Int).toNat = 4 from rfl, Nat.reduceMul, Nat.reduceEqDiff, Go.Addr.add, ↓reduceIte] at hx369_1); (try simp only [show (4 : Int).toNat = 4 from rfl, Nat.reduceMul, Nat.reduceEqDiff, Go.Addr.add, ↓reduceIte] at hx369_2); (try simp only [show (4 : Int).toNat = 4 from rfl, Nat.reduceMul, Nat.reduceEqDiff, Go.Addr.add, ↓reduceIte] at hx369_3); have qi369 : (4 < t350.length) = True := eq_true (by omega); (try rw [show ((4 : Int)).toNat = 4 from rfl] at hx369_0); (try rw [show 4 * 4 = 16 from rfl] at hx369_0); (try rw [show ((4 : Int)).toNat = 4 from rfl] at hx369_1); (try rw [show 4 * 4 = 16 from rfl] at hx369_1); (try rw [show ((4 : Int)).toNat = 4 from rfl] at hx369_2); (try rw [show 4 * 4 = 16 from rfl] at hx369_2); (try rw [show ((4 : Int)).toNat = 4 from rfl] at hx369_3); (try rw [show 4 * 4 = 16 from rfl] at hx369_3); replace p369 := eq_true p369; replace q369 := eq_true q369; have p370 : 0 ≤ (5 : Int) := (by omega); have q370 : 5 < (t350.length : Int) := of_decide_eq_true Za; obtain ⟨ad370, e370, hx370_0, hx370_1, hx370_2, hx370_3⟩ := at_T36 (Kd.R_reads' HO354.out).2.2 5 p370 q370; obtain rfl : ad365 = ad370 := (by injection e370); (try simp only [show (5 : Int).toNat = 5 from rfl, Nat.reduceMul, Nat.reduceEqDiff, Go.Addr.add, ↓reduceIte] at hx370_0); (try simp only [show (5 : Int).toNat = 5 from rfl, Nat.reduceMul, Nat.reduceEqDiff, Go.Addr.add, ↓reduceIte] at hx370_1); (try simp only [show (5 : Int).toNat = 5 from rfl, Nat.reduceMul, Nat.reduceEqDiff, Go.Addr.add, ↓reduceIte] at hx370_2); (try simp only [show (5 : Int).toNat = 5 from rfl, Nat.reduceMul, Nat.reduceEqDiff, Go.Addr.add, ↓reduceIte] at hx370_3); have qi370 : (5 < t350.length) = True := eq_true (by omega); (try rw [show ((5 : Int)).toNat = 5 from rfl] at hx370_0); (try rw [show 5 * 4 = 20 from rfl] at hx370_0); (try rw [show ((5 : Int)).toNat = 5 from rfl] at hx370_1); (try rw [show 5 * 4 = 20 from rfl] at hx370_1); (try rw [show ((5 : Int)).toNat = 5 from rfl] at hx370_2); (try rw [show 5 * 4 = 20 from rfl] at hx370_2); (try rw [show ((5 : Int)).toNat = 5 from rfl] at hx370_3); (try rw [show 5 * 4 = 20 from rfl] at hx370_3); replace p370 := eq_true p370; replace q370 := eq_true q370; have p371 : 0 ≤ (6 : Int) := (by omega); have q371 : 6 < (t350.length : Int) := of_decide_eq_true Za; obtain ⟨ad371, e371, hx371_0, hx371_1, hx371_2, hx371_3⟩ := at_T36 (Kd.R_reads' HO354.out).2.2 6 p371 q371; obtain rfl : ad365 = ad371 := (by injection e371); (try simp only [show (6 : Int).toNat = 6 from rfl, Nat.reduceMul, Nat.reduceEqDiff, Go.Addr.add, ↓reduceIte] at hx371_0); (try simp only [show (6 : Int).toNat = 6 from rfl, Nat.reduceMul, Nat.reduceEqDiff, Go.Addr.add, ↓reduceIte] at hx371_1); (try simp only [show (6 : Int).toNat = 6 from rfl, Nat.reduceMul, Nat.reduceEqDiff, Go.Addr.add, ↓reduceIte] at hx371_2); (try simp only [show (6 : Int).toNat = 6 from rfl, Nat.reduceMul, Nat.reduceEqDiff, Go.Addr.add, ↓reduceIte] at hx371_3); have qi371 : (6 < t350.length) = True := eq_true (by omega); (try rw [show ((6 : Int)).toNat = 6 from rfl] at hx371_0); (try rw [show 6 * 4 = 24 from rfl] at hx371_0); (try rw [show ((6 : Int)).toNat = 6 from rfl] at hx371_1); (try rw [show 6 * 4 = 24 from rfl] at hx371_1); (try rw [show ((6 : Int)).toNat = 6 from rfl] at hx371_2); (try rw [show 6 * 4 = 24 from rfl] at hx371_2); (try rw [show ((6 : Int)).toNat = 6 from rfl] at hx371_3); (try rw [show 6 * 4 = 24 from rfl] at hx371_3); replace p371 := eq_true p371; replace q371 := eq_true q371) | (go_at_call 13; (with_reducible refine (debuggerlaw02_known.calls k  t372 _ ⟨Glob.below hGl.out (Zh HB.out)⟩ A24.out).mono ?_); rintro e w29 ⟨rfl, hb⟩; have n0_ := Aside0.mk (Kd.R_below (ZR HO354.out) hb); have n1_ := Aside0.mk (Kd.R_below (ZR HO359.out) hb); have n2_ := Aside0.mk (Kd.R_below (ZR HO364.out) hb); have n3_ := Aside0.mk (below_step (Zh HB.out) hb); clear HO354; clear HO359; clear HO364; clear HB; have HO354 := n0_; have HO359 := n1_; have HO364 := n2_; have HB := n3_; clear n0_ n1_ n2_ n3_; (try clear hb); (try clear hb2); (try clear hk); (try clear hi)))
                     go_ret
                     exact ⟨by first | rfl | (simp [errW_none, errW_some] <;> rfl) | (simp [*, errW_none, errW_some] <;> rfl), Zh HB.out⟩
                    ·rw [if_neg c23] at H
                     have c23b0 : (t361 == 2) = false := beq_eq_false_iff_ne.mpr c23
                     have c23b1 : (t361 != 2) = true := bne_iff_ne.mpr c23
                     exact absurd (Option.some.inj (H.trans (congrArg some HT0.out))) (by simp)
                   ·rw [if_neg c22] at H
                    have c22b0 : (t362 == 6) = false := beq_eq_false_iff_ne.mpr c22
                    have c22b1 : (t362 != 6) = true := bne_iff_ne.mpr c22
                    exact absurd (Option.some.inj (H.trans (congrArg some HT0.out))) (by simp)
                  ·rw [if_neg c21] at H
                   have c21b0 : (t356 == 3) = false := beq_eq_false_iff_ne.mpr c21
                   have c21b1 : (t356 != 3) = true := bne_iff_ne.mpr c21
                   exact absurd (Option.some.inj (H.trans (congrArg some HT0.out))) (by simp)
                 ·rw [if_neg c20] at H
                  have c20b0 : (t357 == 6) = false := beq_eq_false_iff_ne.mpr c20
                  have c20b1 : (t357 != 6) = true := bne_iff_ne.mpr c20
                  exact absurd (Option.some.inj (H.trans (congrArg some HT0.out))) (by simp)
                ·rw [if_neg c19] at H
                 have c19b0 : (((rd_T36 t350 6).f3) == 9) = false := beq_eq_false_iff_ne.mpr c19
                 have c19b1 : (((rd_T36 t350 6).f3) != 9) = true := bne_iff_ne.mpr c19
                 exact absurd (Option.some.inj (H.trans (congrArg some HT0.out))) (by simp)
               ·rw [if_neg c18] at H
                exact absurd H (by simp)
              ·rw [if_neg c17] at H
               have c17b0 : (((rd_T36 t350 5).f2).toList == ([33] : List UInt8)) = false := beq_eq_false_iff_ne.mpr c17
               have c17b1 : (((rd_T36 t350 5).f2).toList != ([33] : List UInt8)) = true := bne_iff_ne.mpr c17
               exact absurd (Option.some.inj (H.trans (congrArg some HT0.out))) (by simp)
             ·rw [if_neg c16] at H
              exact absurd H (by simp)
            ·rw [if_neg c15] at H
             have c15b0 : (((rd_T36 t350 4).f2).toList == ([33, 61] : List UInt8)) = false := beq_eq_false_iff_ne.mpr c15
             have c15b1 : (((rd_T36 t350 4).f2).toList != ([33, 61] : List UInt8)) = true := bne_iff_ne.mpr c15
             exact absurd (Option.some.inj (H.trans (congrArg some HT0.out))) (by simp)
           ·rw [if_neg c14] at H
            exact absurd H (by simp)
          ·rw [if_neg c13] at H
           have c13b0 : (((rd_T36 t350 3).f2).toList == ([61] : List UInt8)) = false := beq_eq_false_iff_ne.mpr c13
           have c13b1 : (((rd_T36 t350 3).f2).toList != ([61] : List UInt8)) = true := bne_iff_ne.mpr c13
           exact absurd (Option.some.inj (H.trans (congrArg some HT0.out))) (by simp)
         ·rw [if_neg c12] at H
          exact absurd H (by simp)
        ·rw [if_neg c11] at H
         have c11b0 : (((rd_T36 t350 2).f2).toList == ([60, 61] : List UInt8)) = false := beq_eq_false_iff_ne.mpr c11
         have c11b1 : (((rd_T36 t350 2).f2).toList != ([60, 61] : List UInt8)) = true := bne_iff_ne.mpr c11
         exact absurd (Option.some.inj (H.trans (congrArg some HT0.out))) (by simp)
       ·rw [if_neg c10] at H
        exact absurd H (by simp)
      ·rw [if_neg c9] at H
       have c9b0 : (((rd_T36 t350 1).f0) == 3) = false := beq_eq_false_iff_ne.mpr c9
       have c9b1 : (((rd_T36 t350 1).f0) != 3) = true := bne_iff_ne.mpr c9
       exact absurd (Option.some.inj (H.trans (congrArg some HT0.out))) (by simp)
     ·rw [if_neg c8] at H
      exact absurd H (by simp)
    ·rw [if_neg c7] at H
     have c7b0 : (((rd_T36 t350 0).f0) == 1) = false := beq_eq_false_iff_ne.mpr c7
     have c7b1 : (((rd_T36 t350 0).f0) != 1) = true := bne_iff_ne.mpr c7
     exact absurd (Option.some.inj (H.trans (congrArg some HT0.out))) (by simp)
   ·rw [if_neg c6] at H
    exact absurd H (by simp)
  ·rw [if_neg c5] at H
   have c5b0 : ((t350.length : Int) == 8) = false := beq_eq_false_iff_ne.mpr c5
   have c5b1 : ((t350.length : Int) != 8) = true := bne_iff_ne.mpr c5
   exact absurd (Option.some.inj (H.trans (congrArg some HT0.out))) (by simp)
 ·rw [if_neg c4] at H
  have c4b0 : (t352 == 0) = false := beq_eq_false_iff_ne.mpr c4
  have c4b1 : (t352 != 0) = true := bne_iff_ne.mpr c4
  exact absurd (Option.some.inj (H.trans (congrArg some HT0.out))) (by simp)

/-- THE ONE PURE STATEMENT of debuggerlaw02_LexerExamples: yours. -/
def debuggerlaw02_LexerExamples.Pure : Prop := ∃ k, debuggerlaw02_LexerExamples.f k  = some true
theorem debuggerlaw02_LexerExamples.walk (P : debuggerlaw02_LexerExamples.Pure)  (w : World) (hGl : Aside0 (Glob w))  :
  Calls Tryd.prog 9 #[] w fun e w' => e = .returned (.bool true) ∧ Below w.heap.size w w' := by
 obtain ⟨k, h⟩ := P  
 refine (debuggerlaw02_LexerExamples.calls k  true w hGl rfl h).mono ?_
 rintro e w' ⟨rfl, hd⟩
 exact ⟨rfl, hd⟩

end Go.Proofs.YtoflkheiidhblaaDoor.PLex
