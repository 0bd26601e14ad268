-- By wip/xprint.py (a driver of this session's over the kit's print), for this claim.
import Derived.Test.YtoflkheiidhblaaDoorPLexx0
import Derived.Test.YtoflkheiidhblaaDoorPLexx1
import Derived.Test.YtoflkheiidhblaaDoorPLexx14
import Derived.Test.YtoflkheiidhblaaDoorPLexx16
namespace Go.Proofs.YtoflkheiidhblaaDoor.PLex
open Go.RowKit Go.Proofs.YtoflkheiidhblaaDoorW.PrintWords Go.Proofs.YtoflkheiidhblaaDoorW.PrintLast Go.Proofs.YtoflkheiidhblaaDoorW.PrintMore
attribute [local go_sem] max2_int min2_int max_two min_two max_three min_three max_four min_four   -- for this text's walks alone
set_option linter.unusedVariables false
set_option linter.unusedSimpArgs false

attribute [local go_sem high] eqA36
/-! ### debuggerlaw02_known: function 13 -/
def debuggerlaw02_known.f (k : Nat)  : Option (Bool) := (lexer_Scan.f k (⟨#[120, 49, 32, 60, 61, 32, 48, 55]⟩ : ByteArray)).bind fun bt248 => (if bt248.2.2 = 0 then (if bt248.2.1 = 0 then (if (bt248.1.length : Int) = 4 then (if 0 < (bt248.1.length : Int) then (if (((rd_T36 bt248.1 0).f0) == 1 && (((rd_T36 bt248.1 0).f1) == 1 && ((((rd_T36 bt248.1 0).f2).toList) == ([120, 49] : List UInt8) && (((rd_T36 bt248.1 0).f3) == 0)))) = true then (if 1 < (bt248.1.length : Int) then (if ((rd_T36 bt248.1 1).f2).toList = ([60, 61] : List UInt8) then (if 2 < (bt248.1.length : Int) then (if ((rd_T36 bt248.1 2).f3) = 7 then (if 3 < (bt248.1.length : Int) then (some (((rd_T36 bt248.1 3).f0) == 0)) else (none)) else (some false)) else (none)) else (some false)) else (none)) else (some false)) else (none)) else (some false)) else (some false)) else (some false))
theorem debuggerlaw02_known.mono : ∀ k, LeO (debuggerlaw02_known.f k ) (debuggerlaw02_known.f (k + 1) ) := by
 intro  k
 unfold debuggerlaw02_known.f
 repeat' first
   | (with_reducible exact lexer_Scan.mono _ _)
   | (with_reducible exact LeO.refl _)
   | (with_reducible exact LeO.none _)
   | (with_reducible refine LeO.ite ?_ ?_)
   | (with_reducible refine LeO.bind ?_ (fun _ => ?_))
   | exact lexer_Scan.mono _ _
   | exact LeO.none _
   | refine LeO.ite ?_ ?_
   | refine LeO.bind ?_ (fun _ => ?_)
theorem debuggerlaw02_known.only (k : Nat) (r : Bool) (h : debuggerlaw02_known.f k = some r) : r = true := by
 have h1 : debuggerlaw02_known.f 200 = some true := by decide +kernel
 have h2 := at_rounds (fun k => debuggerlaw02_known.mono k) (Nat.le_max_left k 200) h
 have h3 := at_rounds (fun k => debuggerlaw02_known.mono k) (Nat.le_max_right k 200) h1
 rw [h3] at h2
 exact (Option.some.inj h2).symm
set_option maxHeartbeats 8000000 in
set_option maxRecDepth 100000 in
theorem debuggerlaw02_known.calls (k : Nat)  (r : Bool) (w : World) (hGl : Aside0 (Glob w)) (h : debuggerlaw02_known.f k  = some r) :
  Calls Tryd.prog 13 #[] w fun e w' => e = .returned (.bool r) ∧ Below w.heap.size w w' := by
 have hu36 := Tryd.underlying36
 have HT0 := Aside0.mk (debuggerlaw02_known.only k r h)
 have HB := Aside0.mk (Below.refl w.heap.size w)
 have H : ((lexer_Scan.f k (⟨#[120, 49, 32, 60, 61, 32, 48, 55]⟩ : ByteArray)).bind fun bt248 => (if bt248.2.2 = 0 then (if bt248.2.1 = 0 then (if (bt248.1.length : Int) = 4 then (if 0 < (bt248.1.length : Int) then (if (((rd_T36 bt248.1 0).f0) == 1 && (((rd_T36 bt248.1 0).f1) == 1 && ((((rd_T36 bt248.1 0).f2).toList) == ([120, 49] : List UInt8) && (((rd_T36 bt248.1 0).f3) == 0)))) = true then (if 1 < (bt248.1.length : Int) then (if ((rd_T36 bt248.1 1).f2).toList = ([60, 61] : List UInt8) then (if 2 < (bt248.1.length : Int) then (if ((rd_T36 bt248.1 2).f3) = 7 then (if 3 < (bt248.1.length : Int) then (some (((rd_T36 bt248.1 3).f0) == 0)) else (none)) else (some false)) else (none)) else (some false)) else (none)) else (some false)) else (none)) else (some false)) else (some false)) else (some false))) = some r := h
 clear h
 replace H := Option.bind_eq_some_iff.mp H
 obtain ⟨⟨t248, t249, t250⟩, A10, H⟩ := H
 replace H : (if t250 = 0 then (if t249 = 0 then (if (t248.length : Int) = 4 then (if 0 < (t248.length : Int) then (if (((rd_T36 t248 0).f0) == 1 && (((rd_T36 t248 0).f1) == 1 && ((((rd_T36 t248 0).f2).toList) == ([120, 49] : List UInt8) && (((rd_T36 t248 0).f3) == 0)))) = true then (if 1 < (t248.length : Int) then (if ((rd_T36 t248 1).f2).toList = ([60, 61] : List UInt8) then (if 2 < (t248.length : Int) then (if ((rd_T36 t248 2).f3) = 7 then (if 3 < (t248.length : Int) then (some (((rd_T36 t248 3).f0) == 0)) else (none)) else (some false)) else (none)) else (some false)) else (none)) else (some false)) else (none)) else (some false)) else (some false)) else (some false)) = some r := H
 have A1 := Aside0.mk A10
 clear A10
 by_cases c2 : t250 = 0
 ·rw [if_pos c2] at H
  have c2b0 : (t250 == 0) = true := beq_iff_eq.mpr c2
  have c2b1 : (t250 != 0) = false := bne_eq_false_iff_eq.mpr c2
  clear c2
  by_cases c3 : t249 = 0
  ·rw [if_pos c3] at H
   have c3b0 : (t249 == 0) = true := beq_iff_eq.mpr c3
   have c3b1 : (t249 != 0) = false := bne_eq_false_iff_eq.mpr c3
   clear c3
   by_cases c4 : (t248.length : Int) = 4
   ·rw [if_pos c4] at H
    have c4b0 : ((t248.length : Int) == 4) = true := beq_iff_eq.mpr c4
    have c4b1 : ((t248.length : Int) != 4) = false := bne_eq_false_iff_eq.mpr c4
    clear c4
    by_cases c5 : 0 < (t248.length : Int)
    ·rw [if_pos c5] at H
     have c5b0 : decide (0 < (t248.length : Int)) = true := decide_eq_true c5
     have c5b1 : decide (0 < t248.length) = true := decide_eq_true (by omega)
     clear c5
     by_cases c6 : (((rd_T36 t248 0).f0) == 1 && (((rd_T36 t248 0).f1) == 1 && ((((rd_T36 t248 0).f2).toList) == ([120, 49] : List UInt8) && (((rd_T36 t248 0).f3) == 0)))) = true
     ·rw [if_pos c6] at H
      have c6b0 : (((rd_T36 t248 0).f0) == 1 && (((rd_T36 t248 0).f1) == 1 && ((((rd_T36 t248 0).f2).toList) == ([120, 49] : List UInt8) && (((rd_T36 t248 0).f3) == 0)))) = true := c6
      (try (have c6b1 : decide (((rd_T36 t248 0).f0) = 1 && (((rd_T36 t248 0).f1) == 1 && ((((rd_T36 t248 0).f2).toList) == ([120, 49] : List UInt8) && (((rd_T36 t248 0).f3) == 0)))) = true := by simpa using c6))
      (try (have c6b2 : (((rd_T36 t248 0).f0) == 1 && (((rd_T36 t248 0).f1) == 1 && ((((rd_T36 t248 0).f2).toList) == ([120, 49] : List UInt8) && (((rd_T36 t248 0).f3) == 0)))) = true := by simpa using c6))
      clear c6
      by_cases c7 : 1 < (t248.length : Int)
      ·rw [if_pos c7] at H
       have c7b0 : decide (1 < (t248.length : Int)) = true := decide_eq_true c7
       have c7b1 : decide (1 < t248.length) = true := decide_eq_true (by omega)
       clear c7
       by_cases c8 : ((rd_T36 t248 1).f2).toList = ([60, 61] : List UInt8)
       ·rw [if_pos c8] at H
        have c8b0 : (((rd_T36 t248 1).f2).toList == ([60, 61] : List UInt8)) = true := beq_iff_eq.mpr c8
        have c8b1 : (((rd_T36 t248 1).f2).toList != ([60, 61] : List UInt8)) = false := bne_eq_false_iff_eq.mpr c8
        clear c8
        by_cases c9 : 2 < (t248.length : Int)
        ·rw [if_pos c9] at H
         have c9b0 : decide (2 < (t248.length : Int)) = true := decide_eq_true c9
         have c9b1 : decide (2 < t248.length) = true := decide_eq_true (by omega)
         clear c9
         by_cases c10 : ((rd_T36 t248 2).f3) = 7
         ·rw [if_pos c10] at H
          have c10b0 : (((rd_T36 t248 2).f3) == 7) = true := beq_iff_eq.mpr c10
          have c10b1 : (((rd_T36 t248 2).f3) != 7) = false := bne_eq_false_iff_eq.mpr c10
          clear c10
          by_cases c11 : 3 < (t248.length : Int)
          ·rw [if_pos c11] at H
           have c11b0 : decide (3 < (t248.length : Int)) = true := decide_eq_true c11
           have c11b1 : decide (3 < t248.length) = true := decide_eq_true (by omega)
           clear c11
           obtain rfl := Option.some.inj H
           go_enter Tryd.func13, Tryd.ntmps13
           go_wp2_with (first | ((with_reducible refine gate_callee (f := 15) rfl ?_); refine goesL_ (some 5) rfl rfl Tryd.func15 (by kernel_rfl) rfl #[.string (⟨#[120, 49, 32, 60, 61, 32, 48, 55]⟩ : ByteArray)] rfl Zm ?_; (with_reducible refine (lexer_Scan.calls k (⟨#[120, 49, 32, 60, 61, 32, 48, 55]⟩ : ByteArray) t248 t249 t250 _ ⟨Glob.below hGl.out (Zh HB.out)⟩ A1.out).mono ?_); rintro e w12 ⟨v251, rfl, ho0, hb⟩; refine ⟨_, rfl, ?_⟩; have n0_ := Aside0.mk (Kd.R_lower ho0 (below_size (Zh HB.out))); have n1_ := Aside0.mk (below_step (Zh HB.out) hb); clear HB; have HO252 := n0_; have HB := n1_; clear n0_ n1_; (try clear hb); (try clear hb2); (try clear hk); (try clear hi); (try clear ho0); obtain ⟨Ao13, co13, eo13⟩ := Kd.R_slice HO252.out; subst eo13; have p253 : 0 ≤ (0 : Int) := (by omega); have q253 : 0 < (t248.length : Int) := of_decide_eq_true Za; obtain ⟨ad253, e253, hx253_0, hx253_1, hx253_2, hx253_3⟩ := at_T36 (Kd.R_reads' HO252.out).2.2 0 p253 q253; cases e253; have qi253 : (0 < t248.length) = True := eq_true (by omega); (try rw [show ((0 : Int)).toNat = 0 from rfl] at hx253_0); (try rw [show 0 * 4 = 0 from rfl] at hx253_0); (try rw [Addr.add_zero'] at hx253_0); (try rw [show ((0 : Int)).toNat = 0 from rfl] at hx253_1); (try rw [show 0 * 4 = 0 from rfl] at hx253_1); (try rw [Addr.add_zero'] at hx253_1); (try rw [show ((0 : Int)).toNat = 0 from rfl] at hx253_2); (try rw [show 0 * 4 = 0 from rfl] at hx253_2); (try rw [Addr.add_zero'] at hx253_2); (try rw [show ((0 : Int)).toNat = 0 from rfl] at hx253_3); (try rw [show 0 * 4 = 0 from rfl] at hx253_3); (try rw [Addr.add_zero'] at hx253_3); replace p253 := eq_true p253; replace q253 := eq_true q253; have p254 : 0 ≤ (1 : Int) := (by omega); have q254 : 1 < (t248.length : Int) := of_decide_eq_true Za; obtain ⟨ad254, e254, hx254_0, hx254_1, hx254_2, hx254_3⟩ := at_T36 (Kd.R_reads' HO252.out).2.2 1 p254 q254; obtain rfl : ad253 = ad254 := (by injection e254); (try simp only [show (1 : Int).toNat = 1 from rfl, Nat.reduceMul, Nat.reduceEqDiff, Go.Addr.add, ↓reduceIte] at hx254_0); (try simp only [show (1 : Int).toNat = 1 from rfl, Nat.reduceMul, Nat.reduceEqDiff, Go.Addr.add, ↓reduceIte] at hx254_1); (try simp only [show (1 : Int).toNat = 1 from rfl, Nat.reduceMul, Nat.reduceEqDiff, Go.Addr.add, ↓reduceIte] at hx254_2); (try simp only [show (1 : Int).toNat = 1 from rfl, Nat.reduceMul, Nat.reduceEqDiff, Go.Addr.add, ↓reduceIte] at hx254_3); have qi254 : (1 < t248.length) = True := eq_true (by omega); (try rw [show ((1 : Int)).toNat = 1 from rfl] at hx254_0); (try rw [show 1 * 4 = 4 from rfl] at hx254_0); (try rw [show ((1 : Int)).toNat = 1 from rfl] at hx254_1); (try rw [show 1 * 4 = 4 from rfl] at hx254_1); (try rw [show ((1 : Int)).toNat = 1 from rfl] at hx254_2); (try rw [show 1 * 4 = 4 from rfl] at hx254_2); (try rw [show ((1 : Int)).toNat = 1 from rfl] at hx254_3); (try rw [show 1 * 4 = 4 from rfl] at hx254_3); replace p254 := eq_true p254; replace q254 := eq_true q254; have p255 : 0 ≤ (2 : Int) := (by omega); have q255 : 2 < (t248.length : Int) := of_decide_eq_true Za; obtain ⟨ad255, e255, hx255_0, hx255_1, hx255_2, hx255_3⟩ := at_T36 (Kd.R_reads' HO252.out).2.2 2 p255 q255; obtain rfl : ad253 = ad255 := (by injection e255); (try simp only [show (2 : Int).toNat = 2 from rfl, Nat.reduceMul, Nat.reduceEqDiff, Go.Addr.add, ↓reduceIte] at hx255_0); (try simp only [show (2 : Int).toNat = 2 from rfl, Nat.reduceMul, Nat.reduceEqDiff, Go.Addr.add, ↓reduceIte] at hx255_1); (try simp only [show (2 : Int).toNat = 2 from rfl, Nat.reduceMul, Nat.reduceEqDiff, Go.Addr.add, ↓reduceIte] at hx255_2); (try simp only [show (2 : Int).toNat = 2 from rfl, Nat.reduceMul, Nat.reduceEqDiff, Go.Addr.add, ↓reduceIte] at hx255_3); have qi255 : (2 < t248.length) = True := eq_true (by omega); (try rw [show ((2 : Int)).toNat = 2 from rfl] at hx255_0); (try rw [show 2 * 4 = 8 from rfl] at hx255_0); (try rw [show ((2 : Int)).toNat = 2 from rfl] at hx255_1); (try rw [show 2 * 4 = 8 from rfl] at hx255_1); (try rw [show ((2 : Int)).toNat = 2 from rfl] at hx255_2); (try rw [show 2 * 4 = 8 from rfl] at hx255_2); (try rw [show ((2 : Int)).toNat = 2 from rfl] at hx255_3); (try rw [show 2 * 4 = 8 from rfl] at hx255_3); replace p255 := eq_true p255; replace q255 := eq_true q255; have p256 : 0 ≤ (3 : Int) := (by omega); have q256 : 3 < (t248.length : Int) := of_decide_eq_true Za; obtain ⟨ad256, e256, hx256_0, hx256_1, hx256_2, hx256_3⟩ := at_T36 (Kd.R_reads' HO252.out).2.2 3 p256 q256; obtain rfl : ad253 = ad256 := (by injection e256); (try simp only [show (3 : Int).toNat = 3 from rfl, Nat.reduceMul, Nat.reduceEqDiff, Go.Addr.add, ↓reduceIte] at hx256_0); (try simp only [show (3 : Int).toNat = 3 from rfl, Nat.reduceMul, Nat.reduceEqDiff, Go.Addr.add, ↓reduceIte] at hx256_1); (try simp only [show (3 : Int).toNat = 3 from rfl, Nat.reduceMul, Nat.reduceEqDiff, Go.Addr.add, ↓reduceIte] at hx256_2); (try simp only [show (3 : Int).toNat = 3 from rfl, Nat.reduceMul, Nat.reduceEqDiff, Go.Addr.add, ↓reduceIte] at hx256_3); have qi256 : (3 < t248.length) = True := eq_true (by omega); (try rw [show ((3 : Int)).toNat = 3 from rfl] at hx256_0); (try rw [show 3 * 4 = 12 from rfl] at hx256_0); (try rw [show ((3 : Int)).toNat = 3 from rfl] at hx256_1); (try rw [show 3 * 4 = 12 from rfl] at hx256_1); (try rw [show ((3 : Int)).toNat = 3 from rfl] at hx256_2); (try rw [show 3 * 4 = 12 from rfl] at hx256_2); (try rw [show ((3 : Int)).toNat = 3 from rfl] at hx256_3); (try rw [show 3 * 4 = 12 from rfl] at hx256_3); replace p256 := eq_true p256; replace q256 := eq_true q256))
           go_ret
           exact ⟨by first | rfl | (simp [errW_none, errW_some] <;> rfl) | (simp [*, errW_none, errW_some] <;> rfl), Zh HB.out⟩
          ·rw [if_neg c11] at H
           exact absurd H (by simp)
         ·rw [if_neg c10] at H
          have c10b0 : (((rd_T36 t248 2).f3) == 7) = false := beq_eq_false_iff_ne.mpr c10
          have c10b1 : (((rd_T36 t248 2).f3) != 7) = true := bne_iff_ne.mpr c10
          exact absurd (Option.some.inj (H.trans (congrArg some HT0.out))) (by simp)
        ·rw [if_neg c9] at H
         exact absurd H (by simp)
       ·rw [if_neg c8] at H
        have c8b0 : (((rd_T36 t248 1).f2).toList == ([60, 61] : List UInt8)) = false := beq_eq_false_iff_ne.mpr c8
        have c8b1 : (((rd_T36 t248 1).f2).toList != ([60, 61] : List UInt8)) = true := bne_iff_ne.mpr c8
        exact absurd (Option.some.inj (H.trans (congrArg some HT0.out))) (by simp)
      ·rw [if_neg c7] at H
       exact absurd H (by simp)
     ·rw [if_neg c6] at H
      have c6b0 : (((rd_T36 t248 0).f0) == 1 && (((rd_T36 t248 0).f1) == 1 && ((((rd_T36 t248 0).f2).toList) == ([120, 49] : List UInt8) && (((rd_T36 t248 0).f3) == 0)))) = false := by simpa using c6
      (try (have c6b1 : decide (((rd_T36 t248 0).f0) = 1 && (((rd_T36 t248 0).f1) == 1 && ((((rd_T36 t248 0).f2).toList) == ([120, 49] : List UInt8) && (((rd_T36 t248 0).f3) == 0)))) = false := by simpa using c6))
      (try (have c6b2 : (((rd_T36 t248 0).f0) == 1 && (((rd_T36 t248 0).f1) == 1 && ((((rd_T36 t248 0).f2).toList) == ([120, 49] : List UInt8) && (((rd_T36 t248 0).f3) == 0)))) = false := by simpa using c6))
      (try (have c6b3 : ¬ (((rd_T36 t248 0).f0) = 1 && (((rd_T36 t248 0).f1) == 1 && ((((rd_T36 t248 0).f2).toList) == ([120, 49] : List UInt8) && (((rd_T36 t248 0).f3) == 0)))) := by simpa using c6))
      clear c6
      exact absurd (Option.some.inj (H.trans (congrArg some HT0.out))) (by simp)
    ·rw [if_neg c5] at H
     exact absurd H (by simp)
   ·rw [if_neg c4] at H
    have c4b0 : ((t248.length : Int) == 4) = false := beq_eq_false_iff_ne.mpr c4
    have c4b1 : ((t248.length : Int) != 4) = true := bne_iff_ne.mpr c4
    exact absurd (Option.some.inj (H.trans (congrArg some HT0.out))) (by simp)
  ·rw [if_neg c3] at H
   have c3b0 : (t249 == 0) = false := beq_eq_false_iff_ne.mpr c3
   have c3b1 : (t249 != 0) = true := bne_iff_ne.mpr c3
   exact absurd (Option.some.inj (H.trans (congrArg some HT0.out))) (by simp)
 ·rw [if_neg c2] at H
  have c2b0 : (t250 == 0) = false := beq_eq_false_iff_ne.mpr c2
  have c2b1 : (t250 != 0) = true := bne_iff_ne.mpr c2
  exact absurd (Option.some.inj (H.trans (congrArg some HT0.out))) (by simp)

end Go.Proofs.YtoflkheiidhblaaDoor.PLex
