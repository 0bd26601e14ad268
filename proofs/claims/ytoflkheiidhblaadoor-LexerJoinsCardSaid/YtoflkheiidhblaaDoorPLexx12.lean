-- By wip/xprint.py (a driver of this session's over the kit's print), for this claim.
import Derived.Test.YtoflkheiidhblaaDoorPLexx0
import Derived.Test.YtoflkheiidhblaaDoorPLexx4
import Derived.Test.YtoflkheiidhblaaDoorPLexx11
namespace Go.Proofs.YtoflkheiidhblaaDoor.PLex
open Go.RowKit Go.Proofs.YtoflkheiidhblaaDoorW.PrintWords Go.Proofs.YtoflkheiidhblaaDoorW.PrintLast Go.Proofs.YtoflkheiidhblaaDoorW.PrintMore
attribute [local go_sem] max2_int min2_int max_two min_two max_three min_three max_four min_four   -- for this text's walks alone
set_option linter.unusedVariables false
set_option linter.unusedSimpArgs false

/-! ### lexer_scanner_span_at_name_1: function 82 -/
def lexer_scanner_span_at_name_1.l0 : Nat → Int → ByteArray → Int → Int → Value → Option (ByteArray × ByteArray × Int × Int)
 | 0, _, _, _, _, _ => none
 | k + 1, x5, x1000, x1001, x1002, x1003 => if x1001 < (x1000.size : Int) then (if 0 ≤ x1001 then ((lexer_scanner_name_1.f (bt x1000 x1001)).bind fun t106 => (if t106 = true then (lexer_scanner_span_at_name_1.l0 k x5 x1000 (wrap64 (x1001 + 1)) x1002 x1003) else (if 0 ≤ x5 then (if x5 ≤ x1001 then (if x1001 ≤ (x1000.size : Int) then (some (x1000.extract (x5 : Int).toNat (x1001 : Int).toNat, x1000, x1001, x1002)) else (none)) else (none)) else (none)))) else (none)) else (if 0 ≤ x5 then (if x5 ≤ x1001 then (if x1001 ≤ (x1000.size : Int) then (some (x1000.extract (x5 : Int).toNat (x1001 : Int).toNat, x1000, x1001, x1002)) else (none)) else (none)) else (none))
def lexer_scanner_span_at_name_1.f (k : Nat) (s0_0 : ByteArray) (s0_1 : Int) (s0_2 : Int) (s0_3 : Value) : Option (ByteArray × ByteArray × Int × Int) := lexer_scanner_span_at_name_1.l0 k s0_1 s0_0 s0_1 s0_2 s0_3
theorem lexer_scanner_span_at_name_1.mono_l : ∀ k, (∀ y0 y1 y2 y3 y4, LeO (lexer_scanner_span_at_name_1.l0 k y0 y1 y2 y3 y4) (lexer_scanner_span_at_name_1.l0 (k + 1) y0 y1 y2 y3 y4))
 | 0 => fun _ _ _ _ _ r h => by simp [lexer_scanner_span_at_name_1.l0] at h
 | k + 1 => by
  have ih0 := lexer_scanner_span_at_name_1.mono_l k
  ·intro y0 y1 y2 y3 y4
   unfold lexer_scanner_span_at_name_1.l0
   repeat' first
   | (with_reducible exact ih0 _ _ _ _ _)
   | (with_reducible exact LeO.refl _)
   | (with_reducible exact LeO.none _)
   | (with_reducible refine LeO.ite ?_ ?_)
   | (with_reducible refine LeO.bind ?_ (fun _ => ?_))
   | exact ih0 _ _ _ _ _
   | exact LeO.none _
   | refine LeO.ite ?_ ?_
   | refine LeO.bind ?_ (fun _ => ?_)
theorem lexer_scanner_span_at_name_1.mono : ∀ a0 a1 a2 a3 k, LeO (lexer_scanner_span_at_name_1.f k a0 a1 a2 a3) (lexer_scanner_span_at_name_1.f (k + 1) a0 a1 a2 a3) := by
 intro a0 a1 a2 a3 k
 have ih0 := lexer_scanner_span_at_name_1.mono_l k
 unfold lexer_scanner_span_at_name_1.f
 repeat' first
   | (with_reducible exact ih0 _ _ _ _ _)
   | (with_reducible exact LeO.refl _)
   | (with_reducible exact LeO.none _)
   | (with_reducible refine LeO.ite ?_ ?_)
   | (with_reducible refine LeO.bind ?_ (fun _ => ?_))
   | exact ih0 _ _ _ _ _
   | exact LeO.none _
   | refine LeO.ite ?_ ?_
   | refine LeO.bind ?_ (fun _ => ?_)
set_option maxHeartbeats 8000000 in
set_option maxRecDepth 100000 in
theorem lexer_scanner_span_at_name_1.calls (k : Nat) (g : Nat) (s0_0 : ByteArray) (s0_1 : Int) (s0_2 : Int) (s0_3 : Value) (r1 : ByteArray) (r2 : ByteArray) (r3 : Int) (r4 : Int) (w0 w : World) (hI : IsS51 w0 w g s0_0 s0_1 s0_2 s0_3) (hB : Below w0.heap.size w0 w) (h : lexer_scanner_span_at_name_1.f k s0_0 s0_1 s0_2 s0_3 = some (r1, r2, r3, r4)) :
  Calls Tryd.prog 53 #[.pointer (some ⟨g, 0, none⟩), .func (.func 54) #[] #[]] w fun e w' => e = .returned (.string r1) ∧ IsS51 w0 w' g r2 r3 r4 s0_3 ∧ Below w0.heap.size w0 w' ∧ KeepBut w w' g none := by
 have HI0 := Aside0.mk hI
 have HK := Aside0.mk (KeepBut.refl w g none)
 have HL := Aside0.mk hB.size
 clear hI
 have HW0 := Aside0.mk hB.size
 have HB := Aside0.mk hB
 clear hB
 have H : (lexer_scanner_span_at_name_1.l0 k s0_1 s0_0 s0_1 s0_2 s0_3) = some (r1, r2, r3, r4) := h
 clear h
 have H' := Aside0.mk H
 clear H
 obtain ⟨ASz2_3, cSz2_3, HGz2, hgz2, HSz2_3⟩ := HI0.out
 have hcz2_0 := cellS51_0 HGz2
 have hcz2_1 := cellS51_1 HGz2
 have hcz2_2 := cellS51_2 HGz2
 have hcz2_3 := cellS51_3 HGz2
 have hfz2_0 := blk_frozen HGz2 0
 have hfz2_1 := blk_frozen HGz2 1
 have hfz2_2 := blk_frozen HGz2 2
 clear HGz2 hgz2
 go_enter Tryd.func53, Tryd.ntmps53
 go_wp2
 repeat (go_quiet (fail); try go_wp2)
 go_loopg [] k (fun kq w' => ∃ (x1001_1 : Int), Aside0 (lexer_scanner_span_at_name_1.l0 kq s0_1 s0_0 x1001_1 s0_2 s0_3 = some (r1, r2, r3, r4)) ∧ Aside0 (kq ≤ k) ∧ Aside0 (IsS51 w0 w' g s0_0 x1001_1 s0_2 s0_3) ∧ Aside0 (KeepBut w w' g none) ∧ Aside0 (Below w0.heap.size w0 w'))
 case atStart => exact ⟨(s0_1), H', ⟨Nat.le_refl _⟩, ⟨by repeat (first | (with_reducible first | exact HI0.out | apply IsS51.alloc | apply IsS51.drewN | apply IsS51.drew | apply IsS51.set_0 | apply IsS51.set_1 | apply IsS51.set_2) | exact HI0.out)⟩, ⟨by repeat (first | (with_reducible first | exact HK.out | apply KeepBut.set_ | apply keep_drewN | apply keep_drew | apply keep_alloc) | exact HK.out)⟩, ⟨by repeat (first | (with_reducible first | exact HB.out | apply below_alloc | apply pw_below_drewN | apply below_drew1 | refine below_set ?_ (IsS51.ge HI0.out)) | exact HB.out)⟩⟩
 case round =>
  clear H'
  try clear p2
  try clear hcz2_0
  try clear hcz2_1
  try clear hcz2_2
  try clear hcz2_3
  try clear hfz2_0
  try clear hfz2_1
  try clear hfz2_2
  obtain ⟨x1001_1, HA, HK1, HI0, HK, HB⟩ := hrel
  cases gk with
  | zero => exact absurd HA.out (by simp [lexer_scanner_span_at_name_1.l0])
  | succ k1 =>
   have H := HA.out
   clear HA
   simp only [lexer_scanner_span_at_name_1.l0] at H
   by_cases c3 : x1001_1 < (s0_0.size : Int)
   ·rw [if_pos c3] at H
    have c3b0 : decide (x1001_1 < (s0_0.size : Int)) = true := decide_eq_true c3
    clear c3
    by_cases c4 : 0 ≤ x1001_1
    ·rw [if_pos c4] at H
     have c4b0 : decide (0 ≤ x1001_1) = true := decide_eq_true c4
     clear c4
     replace H := Option.bind_eq_some_iff.mp H
     obtain ⟨t106, A60, H⟩ := H
     replace H : (if t106 = true then (lexer_scanner_span_at_name_1.l0 k1 s0_1 s0_0 (wrap64 (x1001_1 + 1)) s0_2 s0_3) else (if 0 ≤ s0_1 then (if s0_1 ≤ x1001_1 then (if x1001_1 ≤ (s0_0.size : Int) then (some (s0_0.extract (s0_1 : Int).toNat (x1001_1 : Int).toNat, s0_0, x1001_1, s0_2)) else (none)) else (none)) else (none))) = some (r1, r2, r3, r4) := H
     have A6 := Aside0.mk A60
     clear A60
     by_cases c7 : t106 = true
     ·subst c7
      have H1 : (lexer_scanner_span_at_name_1.l0 k1 s0_1 s0_0 (wrap64 (x1001_1 + 1)) s0_2 s0_3) = some (r1, r2, r3, r4) := by rw [if_pos rfl] at H; exact H
      clear H
      have H := H1
      clear H1
      have H' := Aside0.mk H
      clear H
      obtain ⟨ASz8_3, cSz8_3, HGz8, hgz8, HSz8_3⟩ := HI0.out
      have hcz8_0 := cellS51_0 HGz8
      have hcz8_1 := cellS51_1 HGz8
      have hcz8_2 := cellS51_2 HGz8
      have hcz8_3 := cellS51_3 HGz8
      have hfz8_0 := blk_frozen HGz8 0
      have hfz8_1 := blk_frozen HGz8 1
      have hfz8_2 := blk_frozen HGz8 2
      clear HGz8 hgz8
      have p5 : 0 ≤ (x1001_1 : Int) := of_decide_eq_true Za
      have q5 : x1001_1 < (s0_0.size : Int) := of_decide_eq_true Za
      have hx5 := bt_at s0_0 x1001_1
      replace p5 := eq_true p5
      replace q5 := eq_true q5
      go_wp2_with (first | (go_at_call 54; (with_reducible refine (lexer_scanner_name_1.calls (bt s0_0 x1001_1) true _ A6.out).mono ?_); rintro e w' ⟨rfl, ⟨nd, rfl⟩⟩; (try first | exact ⟨rfl, _, World.drewN_drewN _ _ _⟩ | exact ⟨rfl, _, Eq.trans (World.drewN_drewN _ _ _) (congrArg (World.drewN _) (Nat.add_assoc _ _ _))⟩)))
      repeat (go_quiet (first | (go_at_call 54; (with_reducible refine (lexer_scanner_name_1.calls (bt s0_0 x1001_1) true _ A6.out).mono ?_); rintro e w' ⟨rfl, ⟨nd, rfl⟩⟩; (try first | exact ⟨rfl, _, World.drewN_drewN _ _ _⟩ | exact ⟨rfl, _, Eq.trans (World.drewN_drewN _ _ _) (congrArg (World.drewN _) (Nat.add_assoc _ _ _))⟩))); try go_wp2_with (first | (go_at_call 54; (with_reducible refine (lexer_scanner_name_1.calls (bt s0_0 x1001_1) true _ A6.out).mono ?_); rintro e w' ⟨rfl, ⟨nd, rfl⟩⟩; (try first | exact ⟨rfl, _, World.drewN_drewN _ _ _⟩ | exact ⟨rfl, _, Eq.trans (World.drewN_drewN _ _ _) (congrArg (World.drewN _) (Nat.add_assoc _ _ _))⟩))))
      go_roundg k1
      case measure => have := HK1.out; omega
      case rel => exact ⟨(wrap64 (x1001_1 + 1)), H', ⟨by have := HK1.out; omega⟩, ⟨by repeat (first | (with_reducible first | exact HI0.out | apply IsS51.alloc | apply IsS51.drewN | apply IsS51.drew | apply IsS51.set_0 | apply IsS51.set_1 | apply IsS51.set_2) | exact HI0.out)⟩, ⟨by repeat (first | (with_reducible first | exact HK.out | apply KeepBut.set_ | apply keep_drewN | apply keep_drew | apply keep_alloc) | exact HK.out)⟩, ⟨by repeat (first | (with_reducible first | exact HB.out | apply below_alloc | apply pw_below_drewN | apply below_drew1 | refine below_set ?_ (IsS51.ge HI0.out)) | exact HB.out)⟩⟩
     ·replace c7 := Bool.eq_false_iff.mpr c7
      subst c7
      have H1 : (if 0 ≤ s0_1 then (if s0_1 ≤ x1001_1 then (if x1001_1 ≤ (s0_0.size : Int) then (some (s0_0.extract (s0_1 : Int).toNat (x1001_1 : Int).toNat, s0_0, x1001_1, s0_2)) else (none)) else (none)) else (none)) = some (r1, r2, r3, r4) := by rw [if_neg (show ¬ (false = true) by decide)] at H; exact H
      clear H
      have H := H1
      clear H1
      by_cases c9 : 0 ≤ s0_1
      ·rw [if_pos c9] at H
       have c9b0 := eq_true c9
       have c9b1 : decide (0 ≤ s0_1) = true := decide_eq_true c9
       clear c9
       by_cases c10 : s0_1 ≤ x1001_1
       ·rw [if_pos c10] at H
        have c10b0 := eq_true c10
        have c10b1 : decide (s0_1 ≤ x1001_1) = true := decide_eq_true c10
        clear c10
        by_cases c11 : x1001_1 ≤ (s0_0.size : Int)
        ·rw [if_pos c11] at H
         have c11b0 := eq_true c11
         have c11b1 : decide (x1001_1 ≤ (s0_0.size : Int)) = true := decide_eq_true c11
         clear c11
         simp only [Option.some.injEq, Prod.mk.injEq] at H
         obtain ⟨rfl, rfl, rfl, rfl⟩ := H
         obtain ⟨ASz12_3, cSz12_3, HGz12, hgz12, HSz12_3⟩ := HI0.out
         have hcz12_0 := cellS51_0 HGz12
         have hcz12_1 := cellS51_1 HGz12
         have hcz12_2 := cellS51_2 HGz12
         have hcz12_3 := cellS51_3 HGz12
         have hfz12_0 := blk_frozen HGz12 0
         have hfz12_1 := blk_frozen HGz12 1
         have hfz12_2 := blk_frozen HGz12 2
         clear HGz12 hgz12
         have p5 : 0 ≤ (x1001_1 : Int) := of_decide_eq_true Za
         have q5 : x1001_1 < (s0_0.size : Int) := of_decide_eq_true Za
         have hx5 := bt_at s0_0 x1001_1
         replace p5 := eq_true p5
         replace q5 := eq_true q5
         go_wp2_with (first | (go_at_call 54; (with_reducible refine (lexer_scanner_name_1.calls (bt s0_0 x1001_1) false _ A6.out).mono ?_); rintro e w' ⟨rfl, ⟨nd, rfl⟩⟩; (try first | exact ⟨rfl, _, World.drewN_drewN _ _ _⟩ | exact ⟨rfl, _, Eq.trans (World.drewN_drewN _ _ _) (congrArg (World.drewN _) (Nat.add_assoc _ _ _))⟩)))
         repeat (go_quiet (first | (go_at_call 54; (with_reducible refine (lexer_scanner_name_1.calls (bt s0_0 x1001_1) false _ A6.out).mono ?_); rintro e w' ⟨rfl, ⟨nd, rfl⟩⟩; (try first | exact ⟨rfl, _, World.drewN_drewN _ _ _⟩ | exact ⟨rfl, _, Eq.trans (World.drewN_drewN _ _ _) (congrArg (World.drewN _) (Nat.add_assoc _ _ _))⟩))); try go_wp2_with (first | (go_at_call 54; (with_reducible refine (lexer_scanner_name_1.calls (bt s0_0 x1001_1) false _ A6.out).mono ?_); rintro e w' ⟨rfl, ⟨nd, rfl⟩⟩; (try first | exact ⟨rfl, _, World.drewN_drewN _ _ _⟩ | exact ⟨rfl, _, Eq.trans (World.drewN_drewN _ _ _) (congrArg (World.drewN _) (Nat.add_assoc _ _ _))⟩))))
         go_ret
         exact ⟨by first | rfl | (simp [errW_none, errW_some] <;> rfl) | (simp [*, errW_none, errW_some] <;> rfl), by repeat (first | (with_reducible first | exact HI0.out | apply IsS51.alloc | apply IsS51.drewN | apply IsS51.drew | apply IsS51.set_0 | apply IsS51.set_1 | apply IsS51.set_2) | exact HI0.out), by repeat (first | (with_reducible first | exact HB.out | apply below_alloc | apply pw_below_drewN | apply below_drew1 | refine below_set ?_ (IsS51.ge HI0.out)) | exact HB.out), by repeat (first | (with_reducible first | exact HK.out | apply KeepBut.set_ | apply keep_drewN | apply keep_drew | apply keep_alloc) | exact HK.out)⟩
        ·rw [if_neg c11] at H
         exact absurd H (by simp)
       ·rw [if_neg c10] at H
        exact absurd H (by simp)
      ·rw [if_neg c9] at H
       exact absurd H (by simp)
    ·rw [if_neg c4] at H
     exact absurd H (by simp)
   ·rw [if_neg c3] at H
    have c3b0 : decide (x1001_1 < (s0_0.size : Int)) = false := decide_eq_false c3
    clear c3
    by_cases c13 : 0 ≤ s0_1
    ·rw [if_pos c13] at H
     have c13b0 := eq_true c13
     have c13b1 : decide (0 ≤ s0_1) = true := decide_eq_true c13
     clear c13
     by_cases c14 : s0_1 ≤ x1001_1
     ·rw [if_pos c14] at H
      have c14b0 := eq_true c14
      have c14b1 : decide (s0_1 ≤ x1001_1) = true := decide_eq_true c14
      clear c14
      by_cases c15 : x1001_1 ≤ (s0_0.size : Int)
      ·rw [if_pos c15] at H
       have c15b0 := eq_true c15
       have c15b1 : decide (x1001_1 ≤ (s0_0.size : Int)) = true := decide_eq_true c15
       clear c15
       simp only [Option.some.injEq, Prod.mk.injEq] at H
       obtain ⟨rfl, rfl, rfl, rfl⟩ := H
       obtain ⟨ASz16_3, cSz16_3, HGz16, hgz16, HSz16_3⟩ := HI0.out
       have hcz16_0 := cellS51_0 HGz16
       have hcz16_1 := cellS51_1 HGz16
       have hcz16_2 := cellS51_2 HGz16
       have hcz16_3 := cellS51_3 HGz16
       have hfz16_0 := blk_frozen HGz16 0
       have hfz16_1 := blk_frozen HGz16 1
       have hfz16_2 := blk_frozen HGz16 2
       clear HGz16 hgz16
       go_wp2
       repeat (go_quiet (fail); try go_wp2)
       go_ret
       exact ⟨by first | rfl | (simp [errW_none, errW_some] <;> rfl) | (simp [*, errW_none, errW_some] <;> rfl), by repeat (first | (with_reducible first | exact HI0.out | apply IsS51.alloc | apply IsS51.drewN | apply IsS51.drew | apply IsS51.set_0 | apply IsS51.set_1 | apply IsS51.set_2) | exact HI0.out), by repeat (first | (with_reducible first | exact HB.out | apply below_alloc | apply pw_below_drewN | apply below_drew1 | refine below_set ?_ (IsS51.ge HI0.out)) | exact HB.out), by repeat (first | (with_reducible first | exact HK.out | apply KeepBut.set_ | apply keep_drewN | apply keep_drew | apply keep_alloc) | exact HK.out)⟩
      ·rw [if_neg c15] at H
       exact absurd H (by simp)
     ·rw [if_neg c14] at H
      exact absurd H (by simp)
    ·rw [if_neg c13] at H
     exact absurd H (by simp)

end Go.Proofs.YtoflkheiidhblaaDoor.PLex
