-- By wip/xprint.py (a driver of this session's over the kit's print), for this claim.
import Derived.Test.YtoflkheiidhblaaDoorPLexx0
import Derived.Test.YtoflkheiidhblaaDoorPLexx4
import Derived.Test.YtoflkheiidhblaaDoorPLexx6
import Derived.Test.YtoflkheiidhblaaDoorPLexx8
namespace Go.Proofs.YtoflkheiidhblaaDoor.PLex
open Go.RowKit Go.Proofs.YtoflkheiidhblaaDoorW.PrintWords Go.Proofs.YtoflkheiidhblaaDoorW.PrintLast Go.Proofs.YtoflkheiidhblaaDoorW.PrintMore
attribute [local go_sem] max2_int min2_int max_two min_two max_three min_three max_four min_four   -- for this text's walks alone
set_option linter.unusedVariables false
set_option linter.unusedSimpArgs false

/-! ### lexer_scanner_number: function 33, by hand: a range over a string of digits -/
theorem span_digit_line : ∀ (k : Nat) (x5 : Int) (t : ByteArray) (a l : Int) (v : Value) (r1 r2 : ByteArray) (r3 r4 : Int), lexer_scanner_span_at_lexer_digit.l0 k x5 t a l v = some (r1, r2, r3, r4) → r2 = t ∧ r4 = l := by
 intro k
 induction k with
 | zero => intro x5 t a l v r1 r2 r3 r4 h; simp [lexer_scanner_span_at_lexer_digit.l0] at h
 | succ k ih =>
  intro x5 t a l v r1 r2 r3 r4 h
  unfold lexer_scanner_span_at_lexer_digit.l0 at h
  have fin : ∀ (P1 P2 P3 : Prop) [Decidable P1] [Decidable P2] [Decidable P3] (z : ByteArray), (if P1 then (if P2 then (if P3 then (some (z, t, a, l) : Option (ByteArray × ByteArray × Int × Int)) else none) else none) else none) = some (r1, r2, r3, r4) → r2 = t ∧ r4 = l := by
   intro P1 P2 P3 _ _ _ z hz
   split at hz
   ·split at hz
    ·split at hz
     ·simp only [Option.some.injEq, Prod.mk.injEq] at hz
      exact ⟨hz.2.1.symm, hz.2.2.2.symm⟩
     ·cases hz
    ·cases hz
   ·cases hz
  split at h
  ·split at h
   ·obtain ⟨c, hc, h⟩ := Option.bind_eq_some_iff.mp h
    replace h : (if c = true then _ else _) = _ := h
    split at h
    ·exact ih _ _ _ _ _ _ _ _ _ h
    ·exact fin _ _ _ _ h
   ·cases h
  ·exact fin _ _ _ _ h
def lexer_scanner_number.n : List UInt8 → Int → Option Int
 | [], n => some n
 | c :: cs, n => if c.toNat < 128 then lexer_scanner_number.n cs (wrap64 (wrap64 (10 * n) + wrap64 (wrap32 ((c.toNat : Int) - 48)))) else none
def lexer_scanner_number.f (k : Nat) (s0_0 : ByteArray) (s0_1 : Int) (s0_2 : Int) (s0_3 : Value) : Option (Int × Int × ByteArray × Int × Int × ByteArray × Int × Int) :=
 (lexer_scanner_span_at_lexer_digit.f k s0_0 s0_1 s0_2 s0_3).bind fun b => if (b.1.size : Int) > 18 then some (0, 0, (⟨#[]⟩ : ByteArray), 0, 5, b.2.1, b.2.2.1, b.2.2.2) else (if b.2.2.1 < (b.2.1.size : Int) then (if 0 ≤ b.2.2.1 then lexer_letter.f (bt b.2.1 b.2.2.1) else none) else some false).bind fun t => if t = true then some (0, 0, (⟨#[]⟩ : ByteArray), 0, 6, b.2.1, b.2.2.1, b.2.2.2) else (lexer_scanner_number.n b.1.data.toList 0).bind fun n => some (2, b.2.2.2, (⟨#[]⟩ : ByteArray), n, 0, b.2.1, b.2.2.1, b.2.2.2)
theorem lexer_scanner_number.mono : ∀ a0 a1 a2 a3 k, LeO (lexer_scanner_number.f k a0 a1 a2 a3) (lexer_scanner_number.f (k + 1) a0 a1 a2 a3) := by
 intro a0 a1 a2 a3 k
 unfold lexer_scanner_number.f
 exact LeO.bind (lexer_scanner_span_at_lexer_digit.mono _ _ _ _ _) (fun _ => LeO.refl _)
set_option maxHeartbeats 8000000 in
set_option maxRecDepth 100000 in
theorem lexer_scanner_number.calls (k : Nat) (g : Nat) (s0_0 : ByteArray) (s0_1 : Int) (s0_2 : Int) (s0_3 : Value) (r1 : Int) (r2 : Int) (r3 : ByteArray) (r4 : Int) (r5 : Int) (r6 : ByteArray) (r7 : Int) (r8 : Int) (w0 w : World) (hI : IsS51 w0 w g s0_0 s0_1 s0_2 s0_3) (hB : Below w0.heap.size w0 w) (h : lexer_scanner_number.f k s0_0 s0_1 s0_2 s0_3 = some (r1, r2, r3, r4, r5, r6, r7, r8)) :
  Calls Tryd.prog 33 #[.pointer (some ⟨g, 0, none⟩)] w fun e w' => e = .returned (.tuple #[.agg #[.int .i64 r1, .int .i64 r2, .string r3, .int .i64 r4], .int .i64 r5]) ∧ IsS51 w0 w' g r6 r7 r8 s0_3 ∧ Below w0.heap.size w0 w' ∧ KeepBut w w' g none := by
 have hu := Tryd.underlying36
 unfold lexer_scanner_number.f at h
 obtain ⟨⟨b1, b2, b3, b4⟩, hs, h⟩ := Option.bind_eq_some_iff.mp h
 replace h : (if (b1.size : Int) > 18 then some ((0 : Int), (0 : Int), (⟨#[]⟩ : ByteArray), (0 : Int), (5 : Int), b2, b3, b4) else (if b3 < (b2.size : Int) then (if 0 ≤ b3 then lexer_letter.f (bt b2 b3) else none) else some false).bind fun t => if t = true then some ((0 : Int), (0 : Int), (⟨#[]⟩ : ByteArray), (0 : Int), (6 : Int), b2, b3, b4) else (lexer_scanner_number.n b1.data.toList 0).bind fun n => some ((2 : Int), b4, (⟨#[]⟩ : ByteArray), n, (0 : Int), b2, b3, b4)) = some (r1, r2, r3, r4, r5, r6, r7, r8) := h
 have AS := Aside0.mk hs
 have hgw : g < w.heap.size := IsS51.lt hI
 have hwr0 : w0.heap.size ≤ w.heap.size := hB.size
 have HI1 := Aside0.mk (IsS51.alloc hI (.cells #[.int .i64 0, .int .i64 0, .string (⟨#[]⟩ : ByteArray), .int .i64 0] 36))
 have HB1 := Aside0.mk (below_alloc hB (.cells #[.int .i64 0, .int .i64 0, .string (⟨#[]⟩ : ByteArray), .int .i64 0] 36))
 have HK1 := Aside0.mk (keep_alloc (KeepBut.refl w g none) (.cells #[.int .i64 0, .int .i64 0, .string (⟨#[]⟩ : ByteArray), .int .i64 0] 36))
 have HR := Aside0.mk (show (w.alloc (.cells #[.int .i64 0, .int .i64 0, .string (⟨#[]⟩ : ByteArray), .int .i64 0] 36)).heap[w.heap.size]? = some (.cells #[.int .i64 0, .int .i64 0, .string (⟨#[]⟩ : ByteArray), .int .i64 0] 36 (0, 0)) from heap_alloc_new w _)
 clear hs hI hB
 have hgr := Aside0.mk (show g ≠ w.heap.size from Nat.ne_of_lt hgw)
 generalize hW1 : w.alloc (.cells #[.int .i64 0, .int .i64 0, .string (⟨#[]⟩ : ByteArray), .int .i64 0] 36) = w1 at *
 have hal : w.alloc (.cells #[.int .i64 0, .int .i64 0, .string (⟨#[]⟩ : ByteArray), .int .i64 0] 36) = w1 := hW1
 clear hW1
 have hfar := Aside0.mk (show g ≠ (⟨w.heap.size, 0, none⟩ : Addr).block from hgr.out)
 have hwr : Aside0 (w0.heap.size ≤ w.heap.size) := ⟨hwr0⟩
 have hfr := Aside0.mk (show w.heap.size ≠ (⟨g, 1, none⟩ : Addr).block from Ne.symm hgr.out)
 have hkr := Aside0.mk (show w.heap.size ≤ (⟨w.heap.size, 0, none⟩ : Addr).block from Nat.le_refl _)
 have hnb := hgr.out
 have hnc := Ne.symm hgr.out
 clear hwr0 hgw
 by_cases c : (b1.size : Int) > 18
 ·rw [if_pos c] at h
  simp only [Option.some.injEq, Prod.mk.injEq] at h
  obtain ⟨rfl, rfl, rfl, rfl, rfl, rfl, rfl, rfl⟩ := h
  have c0 : decide ((18 : Int) < (b1.size : Int)) = true := decide_eq_true c
  go_enter Tryd.func33, Tryd.ntmps33
  go_wp2_with (first | (go_at_call 53; (with_reducible refine (lexer_scanner_span_at_lexer_digit.calls k g s0_0 s0_1 s0_2 s0_3 b1 b2 b3 b4 w0 _ ?side1 ?side2 AS.out).mono ?_); (case side1 => exact HI1.out); (case side2 => exact HB1.out); rintro e w9 ⟨rfl, hi, hb, hk⟩; have HR9 := Aside0.mk (KeepBut.blk hk (g' := w.heap.size) HR.out (Ne.symm hgr.out) (by simp)); have HI9 := Aside0.mk hi; have HB9 := Aside0.mk hb; have HK9 := Aside0.mk (KeepBut.trans HK1.out hk (.inl rfl)); clear hi hb hk HI1 HB1 HK1 HR; have hb0 : w9.cell? ⟨w.heap.size, 0, none⟩ = some (.int .i64 0) := (blk_cell HR9.out 0).trans rfl; have hy0 := blk_frozen HR9.out 0; have hb1 : w9.cell? ⟨w.heap.size, 1, none⟩ = some (.int .i64 0) := (blk_cell HR9.out 1).trans rfl; have hy1 := blk_frozen HR9.out 1; have hb2 : w9.cell? ⟨w.heap.size, 2, none⟩ = some (.string (⟨#[]⟩ : ByteArray)) := (blk_cell HR9.out 2).trans rfl; have hy2 := blk_frozen HR9.out 2; have hb3 : w9.cell? ⟨w.heap.size, 3, none⟩ = some (.int .i64 0) := (blk_cell HR9.out 3).trans rfl; have hy3 := blk_frozen HR9.out 3; obtain ⟨_, _, hGz, _, _⟩ := HI9.out; have hcz0 := cellS51_0 hGz; have hcz1 := cellS51_1 hGz; have hcz2 := cellS51_2 hGz; clear hGz))
  refine bodyPost_ret (results_ct rfl _ _ w.heap.size 36 #[.int .i64 0, .int .i64 0, .string (⟨#[]⟩ : ByteArray), .int .i64 0] (0, 0) _ rfl (by refine blk_put (cs := #[.int .i64 0, .int .i64 0, .string (⟨#[]⟩ : ByteArray), .int .i64 0]) ?_ 3 _ rfl; refine blk_put (cs := #[.int .i64 0, .int .i64 0, .string (⟨#[]⟩ : ByteArray), .int .i64 0]) ?_ 2 _ rfl; refine blk_put (cs := #[.int .i64 0, .int .i64 0, .string (⟨#[]⟩ : ByteArray), .int .i64 0]) ?_ 1 _ rfl; refine blk_put (cs := #[.int .i64 0, .int .i64 0, .string (⟨#[]⟩ : ByteArray), .int .i64 0]) ?_ 0 _ rfl; repeat (first | (with_reducible exact HR9.out) | (with_reducible refine blk_far ?_ hfr.out _) | (with_reducible refine blk_drewN ?_ _) | (with_reducible refine blk_drew ?_) | (with_reducible refine blk_alloc ?_ _))) hu rfl (by kernel_rfl)) rfl ?_
  exact ⟨rfl, by repeat (first | (with_reducible exact HI9.out) | (with_reducible refine IsS51.far ?_ hfar.out _) | (with_reducible apply IsS51.drewN) | (with_reducible apply IsS51.drew) | (with_reducible apply IsS51.alloc)), by repeat (first | (with_reducible exact HB9.out) | (with_reducible refine below_set ?_ hwr.out) | (with_reducible refine pw_below_drewN ?_ _) | (with_reducible refine below_drew1 ?_) | (with_reducible refine below_alloc ?_ _)), by repeat (first | (with_reducible exact HK9.out) | (with_reducible refine keep_far ?_ hkr.out _) | (with_reducible refine keep_drewN ?_ _) | (with_reducible refine keep_drew ?_) | (with_reducible refine keep_alloc ?_ _))⟩
 ·rw [if_neg c] at h
  obtain ⟨t, ht, h⟩ := Option.bind_eq_some_iff.mp h
  have c0 : decide ((18 : Int) < (b1.size : Int)) = false := decide_eq_false c
  clear c
  by_cases p1 : b3 < (b2.size : Int)
  ·rw [if_pos p1] at ht
   by_cases p2 : 0 ≤ b3
   case neg => rw [if_neg p2] at ht; cases ht
   rw [if_pos p2] at ht
   have AT := Aside0.mk ht
   clear ht
   have c1 : decide (b3 < (b2.size : Int)) = true := decide_eq_true p1
   have hx5 := bt_at b2 b3
   replace p1 := eq_true p1
   replace p2 := eq_true p2
   cases t with
   | true =>
    rw [if_pos rfl] at h
    simp only [Option.some.injEq, Prod.mk.injEq] at h
    obtain ⟨rfl, rfl, rfl, rfl, rfl, rfl, rfl, rfl⟩ := h
    go_enter Tryd.func33, Tryd.ntmps33
    go_wp2_with (first | (go_at_call 53; (with_reducible refine (lexer_scanner_span_at_lexer_digit.calls k g s0_0 s0_1 s0_2 s0_3 b1 b2 b3 b4 w0 _ ?side1 ?side2 AS.out).mono ?_); (case side1 => exact HI1.out); (case side2 => exact HB1.out); rintro e w9 ⟨rfl, hi, hb, hk⟩; have HR9 := Aside0.mk (KeepBut.blk hk (g' := w.heap.size) HR.out (Ne.symm hgr.out) (by simp)); have HI9 := Aside0.mk hi; have HB9 := Aside0.mk hb; have HK9 := Aside0.mk (KeepBut.trans HK1.out hk (.inl rfl)); clear hi hb hk HI1 HB1 HK1 HR; have hb0 : w9.cell? ⟨w.heap.size, 0, none⟩ = some (.int .i64 0) := (blk_cell HR9.out 0).trans rfl; have hy0 := blk_frozen HR9.out 0; have hb1 : w9.cell? ⟨w.heap.size, 1, none⟩ = some (.int .i64 0) := (blk_cell HR9.out 1).trans rfl; have hy1 := blk_frozen HR9.out 1; have hb2 : w9.cell? ⟨w.heap.size, 2, none⟩ = some (.string (⟨#[]⟩ : ByteArray)) := (blk_cell HR9.out 2).trans rfl; have hy2 := blk_frozen HR9.out 2; have hb3 : w9.cell? ⟨w.heap.size, 3, none⟩ = some (.int .i64 0) := (blk_cell HR9.out 3).trans rfl; have hy3 := blk_frozen HR9.out 3; obtain ⟨_, _, hGz, _, _⟩ := HI9.out; have hcz0 := cellS51_0 hGz; have hcz1 := cellS51_1 hGz; have hcz2 := cellS51_2 hGz; clear hGz) | (go_at_call 34; (with_reducible refine (lexer_letter.calls (bt b2 b3) true _ AT.out).mono ?_); rintro e w' ⟨rfl, ⟨nd, rfl⟩⟩; (try first | exact ⟨rfl, _, World.drewN_drewN _ _ _⟩ | exact ⟨rfl, _, Eq.trans (World.drewN_drewN _ _ _) (congrArg (World.drewN _) (Nat.add_assoc _ _ _))⟩)))
    repeat (go_quiet (first | (go_at_call 34; (with_reducible refine (lexer_letter.calls (bt b2 b3) true _ AT.out).mono ?_); rintro e w' ⟨rfl, ⟨nd, rfl⟩⟩; (try first | exact ⟨rfl, _, World.drewN_drewN _ _ _⟩ | exact ⟨rfl, _, Eq.trans (World.drewN_drewN _ _ _) (congrArg (World.drewN _) (Nat.add_assoc _ _ _))⟩))); try go_wp2_with (first | (go_at_call 34; (with_reducible refine (lexer_letter.calls (bt b2 b3) true _ AT.out).mono ?_); rintro e w' ⟨rfl, ⟨nd, rfl⟩⟩; (try first | exact ⟨rfl, _, World.drewN_drewN _ _ _⟩ | exact ⟨rfl, _, Eq.trans (World.drewN_drewN _ _ _) (congrArg (World.drewN _) (Nat.add_assoc _ _ _))⟩))))
    refine bodyPost_ret (results_ct rfl _ _ w.heap.size 36 #[.int .i64 0, .int .i64 0, .string (⟨#[]⟩ : ByteArray), .int .i64 0] (0, 0) _ rfl (by refine blk_put (cs := #[.int .i64 0, .int .i64 0, .string (⟨#[]⟩ : ByteArray), .int .i64 0]) ?_ 3 _ rfl; refine blk_put (cs := #[.int .i64 0, .int .i64 0, .string (⟨#[]⟩ : ByteArray), .int .i64 0]) ?_ 2 _ rfl; refine blk_put (cs := #[.int .i64 0, .int .i64 0, .string (⟨#[]⟩ : ByteArray), .int .i64 0]) ?_ 1 _ rfl; refine blk_put (cs := #[.int .i64 0, .int .i64 0, .string (⟨#[]⟩ : ByteArray), .int .i64 0]) ?_ 0 _ rfl; repeat (first | (with_reducible exact HR9.out) | (with_reducible refine blk_far ?_ hfr.out _) | (with_reducible refine blk_drewN ?_ _) | (with_reducible refine blk_drew ?_) | (with_reducible refine blk_alloc ?_ _))) hu rfl (by kernel_rfl)) rfl ?_
    exact ⟨rfl, by repeat (first | (with_reducible exact HI9.out) | (with_reducible refine IsS51.far ?_ hfar.out _) | (with_reducible apply IsS51.drewN) | (with_reducible apply IsS51.drew) | (with_reducible apply IsS51.alloc)), by repeat (first | (with_reducible exact HB9.out) | (with_reducible refine below_set ?_ hwr.out) | (with_reducible refine pw_below_drewN ?_ _) | (with_reducible refine below_drew1 ?_) | (with_reducible refine below_alloc ?_ _)), by repeat (first | (with_reducible exact HK9.out) | (with_reducible refine keep_far ?_ hkr.out _) | (with_reducible refine keep_drewN ?_ _) | (with_reducible refine keep_drew ?_) | (with_reducible refine keep_alloc ?_ _))⟩
   | false =>
    rw [if_neg (by decide)] at h
    obtain ⟨n, hn, h⟩ := Option.bind_eq_some_iff.mp h
    simp only [Option.some.injEq, Prod.mk.injEq] at h
    obtain ⟨rfl, rfl, rfl, rfl, rfl, rfl, rfl, rfl⟩ := h
    have HN := Aside0.mk hn
    clear hn
    go_enter Tryd.func33, Tryd.ntmps33
    go_wp2_with (first | (go_at_call 53; (with_reducible refine (lexer_scanner_span_at_lexer_digit.calls k g s0_0 s0_1 s0_2 s0_3 b1 b2 b3 b4 w0 _ ?side1 ?side2 AS.out).mono ?_); (case side1 => exact HI1.out); (case side2 => exact HB1.out); rintro e w9 ⟨rfl, hi, hb, hk⟩; have HR9 := Aside0.mk (KeepBut.blk hk (g' := w.heap.size) HR.out (Ne.symm hgr.out) (by simp)); have HI9 := Aside0.mk hi; have HB9 := Aside0.mk hb; have HK9 := Aside0.mk (KeepBut.trans HK1.out hk (.inl rfl)); clear hi hb hk HI1 HB1 HK1 HR; have hb0 : w9.cell? ⟨w.heap.size, 0, none⟩ = some (.int .i64 0) := (blk_cell HR9.out 0).trans rfl; have hy0 := blk_frozen HR9.out 0; have hb1 : w9.cell? ⟨w.heap.size, 1, none⟩ = some (.int .i64 0) := (blk_cell HR9.out 1).trans rfl; have hy1 := blk_frozen HR9.out 1; have hb2 : w9.cell? ⟨w.heap.size, 2, none⟩ = some (.string (⟨#[]⟩ : ByteArray)) := (blk_cell HR9.out 2).trans rfl; have hy2 := blk_frozen HR9.out 2; have hb3 : w9.cell? ⟨w.heap.size, 3, none⟩ = some (.int .i64 0) := (blk_cell HR9.out 3).trans rfl; have hy3 := blk_frozen HR9.out 3; obtain ⟨_, _, hGz, _, _⟩ := HI9.out; have hcz0 := cellS51_0 hGz; have hcz1 := cellS51_1 hGz; have hcz2 := cellS51_2 hGz; clear hGz) | (go_at_call 34; (with_reducible refine (lexer_letter.calls (bt b2 b3) false _ AT.out).mono ?_); rintro e w' ⟨rfl, ⟨nd, rfl⟩⟩; (try first | exact ⟨rfl, _, World.drewN_drewN _ _ _⟩ | exact ⟨rfl, _, Eq.trans (World.drewN_drewN _ _ _) (congrArg (World.drewN _) (Nat.add_assoc _ _ _))⟩)))
    repeat (go_quiet (first | (go_at_call 34; (with_reducible refine (lexer_letter.calls (bt b2 b3) false _ AT.out).mono ?_); rintro e w' ⟨rfl, ⟨nd, rfl⟩⟩; (try first | exact ⟨rfl, _, World.drewN_drewN _ _ _⟩ | exact ⟨rfl, _, Eq.trans (World.drewN_drewN _ _ _) (congrArg (World.drewN _) (Nat.add_assoc _ _ _))⟩))); try go_wp2_with (first | (go_at_call 34; (with_reducible refine (lexer_letter.calls (bt b2 b3) false _ AT.out).mono ?_); rintro e w' ⟨rfl, ⟨nd, rfl⟩⟩; (try first | exact ⟨rfl, _, World.drewN_drewN _ _ _⟩ | exact ⟨rfl, _, Eq.trans (World.drewN_drewN _ _ _) (congrArg (World.drewN _) (Nat.add_assoc _ _ _))⟩))))
    go_loopg [5] b1.size (fun kq v5 wr => ∃ (pos : Nat) (acc : Int), v5 = .int .i64 acc ∧ wr = (w9.drewN nq).iter b1 pos ∧ b1.size - pos ≤ kq ∧ Aside0 (lexer_scanner_number.n (b1.data.toList.drop pos) acc = some n))
    case atStart => exact ⟨0, 0, rfl, rfl, Nat.sub_le _ _, HN⟩
    case round =>
     clear HN
     obtain ⟨pos, acc, rfl, rfl, hkq, H⟩ := hrel
     have H1 := H.out
     by_cases hp : pos < b1.size
     ·have hl : pos < b1.data.toList.length := by simpa using hp
      rw [List.drop_eq_getElem_cons hl] at H1
      unfold lexer_scanner_number.n at H1
      by_cases ha : (b1.data.toList[pos]'hl).toNat < 128
      case neg => rw [if_neg ha] at H1; cases H1
      rw [if_pos ha] at H1
      have HN := Aside0.mk H1
      have hnx : ∀ ty, (Instr.next (.pointer (some ⟨w9.heap.size, 0, none⟩)) true ty).run Tryd.prog ((w9.drewN nq).iter b1 pos) = .ok (.tuple #[.bool true, .int .i64 pos, .int .i32 ((b1.data.toList[pos]'hl).toNat : Int)]) ((w9.drewN nq).iter b1 (pos + 1)) := fun ty => run_next_ascii (w9.drewN nq) b1 pos ty hp ha
      generalize (b1.data.toList[pos]'hl) = cc at hnx HN
      clear H1 ha H
      go_wp2
      go_roundg (b1.size - (pos + 1))
      case measure => omega
      case rel => exact ⟨pos + 1, _, by first | rfl | (simp [wrap32]; done), rfl, Nat.le_refl _, HN⟩
     ·have hnx : ∀ ty, (Instr.next (.pointer (some ⟨w9.heap.size, 0, none⟩)) true ty).run Tryd.prog ((w9.drewN nq).iter b1 pos) = .ok (.tuple #[.bool false]) ((w9.drewN nq).iter b1 pos) := fun ty => run_next_end (w9.drewN nq) b1 pos ty hp
      rw [List.drop_eq_nil_of_le (by simpa using Nat.le_of_not_lt hp)] at H1
      unfold lexer_scanner_number.n at H1
      obtain rfl := Option.some.inj H1
      have HI10 := Aside0.mk (show IsS51 w0 ((w9.drewN nq).iter b1 pos) g b2 b3 b4 s0_3 from IsS51.alloc (IsS51.drewN HI9.out nq) _)
      have HB10 := Aside0.mk (show Below w0.heap.size w0 ((w9.drewN nq).iter b1 pos) from below_alloc (pw_below_drewN HB9.out nq) _)
      have HK10 := Aside0.mk (show KeepBut w ((w9.drewN nq).iter b1 pos) g none from keep_alloc (keep_drewN HK9.out nq) _)
      have HR10 := Aside0.mk (show ((w9.drewN nq).iter b1 pos).heap[w.heap.size]? = some (.cells #[.int .i64 0, .int .i64 0, .string (⟨#[]⟩ : ByteArray), .int .i64 0] 36 (0, 0)) from blk_alloc (blk_drewN HR9.out nq) _)
      clear H H1 HI9 HB9 HK9 HR9 hcz0 hcz1 hcz2 hb0 hb1 hb2 hb3 hy0 hy1 hy2 hy3
      generalize hWI : (w9.drewN nq).iter b1 pos = WI at *
      clear hWI
      have hb0 : WI.cell? ⟨w.heap.size, 0, none⟩ = some (.int .i64 0) := (blk_cell HR10.out 0).trans rfl
      have hy0 := blk_frozen HR10.out 0
      have hb1 : WI.cell? ⟨w.heap.size, 1, none⟩ = some (.int .i64 0) := (blk_cell HR10.out 1).trans rfl
      have hy1 := blk_frozen HR10.out 1
      have hb2 : WI.cell? ⟨w.heap.size, 2, none⟩ = some (.string (⟨#[]⟩ : ByteArray)) := (blk_cell HR10.out 2).trans rfl
      have hy2 := blk_frozen HR10.out 2
      have hb3 : WI.cell? ⟨w.heap.size, 3, none⟩ = some (.int .i64 0) := (blk_cell HR10.out 3).trans rfl
      have hy3 := blk_frozen HR10.out 3
      obtain ⟨_, _, hGz, _, _⟩ := HI10.out
      have hcz2 := cellS51_2 hGz
      clear hGz
      go_wp2
      refine bodyPost_ret (results_ct rfl _ _ w.heap.size 36 #[.int .i64 2, .int .i64 b4, .string (⟨#[]⟩ : ByteArray), .int .i64 acc] (0, 0) _ rfl (by refine blk_put (cs := #[.int .i64 2, .int .i64 b4, .string (⟨#[]⟩ : ByteArray), .int .i64 0]) ?_ 3 _ rfl; refine blk_put (cs := #[.int .i64 2, .int .i64 b4, .string (⟨#[]⟩ : ByteArray), .int .i64 0]) ?_ 2 _ rfl; refine blk_put (cs := #[.int .i64 2, .int .i64 0, .string (⟨#[]⟩ : ByteArray), .int .i64 0]) ?_ 1 _ rfl; refine blk_put (cs := #[.int .i64 0, .int .i64 0, .string (⟨#[]⟩ : ByteArray), .int .i64 0]) ?_ 0 _ rfl; exact HR10.out) hu rfl (by kernel_rfl)) rfl ?_
      exact ⟨rfl, by repeat (first | (with_reducible exact HI10.out) | (with_reducible refine IsS51.far ?_ hfar.out _) | (with_reducible apply IsS51.drewN) | (with_reducible apply IsS51.drew) | (with_reducible apply IsS51.alloc)), by repeat (first | (with_reducible exact HB10.out) | (with_reducible refine below_set ?_ hwr.out) | (with_reducible refine pw_below_drewN ?_ _) | (with_reducible refine below_drew1 ?_) | (with_reducible refine below_alloc ?_ _)), by repeat (first | (with_reducible exact HK10.out) | (with_reducible refine keep_far ?_ hkr.out _) | (with_reducible refine keep_drewN ?_ _) | (with_reducible refine keep_drew ?_) | (with_reducible refine keep_alloc ?_ _))⟩
  ·rw [if_neg p1] at ht
   obtain rfl := Option.some.inj ht
   clear ht
   have c1 : decide (b3 < (b2.size : Int)) = false := decide_eq_false p1
   clear p1
   rw [if_neg (by decide)] at h
   obtain ⟨n, hn, h⟩ := Option.bind_eq_some_iff.mp h
   simp only [Option.some.injEq, Prod.mk.injEq] at h
   obtain ⟨rfl, rfl, rfl, rfl, rfl, rfl, rfl, rfl⟩ := h
   have HN := Aside0.mk hn
   clear hn
   go_enter Tryd.func33, Tryd.ntmps33
   go_wp2_with (first | (go_at_call 53; (with_reducible refine (lexer_scanner_span_at_lexer_digit.calls k g s0_0 s0_1 s0_2 s0_3 b1 b2 b3 b4 w0 _ ?side1 ?side2 AS.out).mono ?_); (case side1 => exact HI1.out); (case side2 => exact HB1.out); rintro e w9 ⟨rfl, hi, hb, hk⟩; have HR9 := Aside0.mk (KeepBut.blk hk (g' := w.heap.size) HR.out (Ne.symm hgr.out) (by simp)); have HI9 := Aside0.mk hi; have HB9 := Aside0.mk hb; have HK9 := Aside0.mk (KeepBut.trans HK1.out hk (.inl rfl)); clear hi hb hk HI1 HB1 HK1 HR; have hb0 : w9.cell? ⟨w.heap.size, 0, none⟩ = some (.int .i64 0) := (blk_cell HR9.out 0).trans rfl; have hy0 := blk_frozen HR9.out 0; have hb1 : w9.cell? ⟨w.heap.size, 1, none⟩ = some (.int .i64 0) := (blk_cell HR9.out 1).trans rfl; have hy1 := blk_frozen HR9.out 1; have hb2 : w9.cell? ⟨w.heap.size, 2, none⟩ = some (.string (⟨#[]⟩ : ByteArray)) := (blk_cell HR9.out 2).trans rfl; have hy2 := blk_frozen HR9.out 2; have hb3 : w9.cell? ⟨w.heap.size, 3, none⟩ = some (.int .i64 0) := (blk_cell HR9.out 3).trans rfl; have hy3 := blk_frozen HR9.out 3; obtain ⟨_, _, hGz, _, _⟩ := HI9.out; have hcz0 := cellS51_0 hGz; have hcz1 := cellS51_1 hGz; have hcz2 := cellS51_2 hGz; clear hGz))
   repeat (go_quiet (fail); try go_wp2)
   go_loopg [5] b1.size (fun kq v5 wr => ∃ (pos : Nat) (acc : Int), v5 = .int .i64 acc ∧ wr = (w9.drewN nq).iter b1 pos ∧ b1.size - pos ≤ kq ∧ Aside0 (lexer_scanner_number.n (b1.data.toList.drop pos) acc = some n))
   case atStart => exact ⟨0, 0, rfl, rfl, Nat.sub_le _ _, HN⟩
   case round =>
    clear HN
    obtain ⟨pos, acc, rfl, rfl, hkq, H⟩ := hrel
    have H1 := H.out
    by_cases hp : pos < b1.size
    ·have hl : pos < b1.data.toList.length := by simpa using hp
     rw [List.drop_eq_getElem_cons hl] at H1
     unfold lexer_scanner_number.n at H1
     by_cases ha : (b1.data.toList[pos]'hl).toNat < 128
     case neg => rw [if_neg ha] at H1; cases H1
     rw [if_pos ha] at H1
     have HN := Aside0.mk H1
     have hnx : ∀ ty, (Instr.next (.pointer (some ⟨w9.heap.size, 0, none⟩)) true ty).run Tryd.prog ((w9.drewN nq).iter b1 pos) = .ok (.tuple #[.bool true, .int .i64 pos, .int .i32 ((b1.data.toList[pos]'hl).toNat : Int)]) ((w9.drewN nq).iter b1 (pos + 1)) := fun ty => run_next_ascii (w9.drewN nq) b1 pos ty hp ha
     generalize (b1.data.toList[pos]'hl) = cc at hnx HN
     clear H1 ha H
     go_wp2
     go_roundg (b1.size - (pos + 1))
     case measure => omega
     case rel => exact ⟨pos + 1, _, by first | rfl | (simp [wrap32]; done), rfl, Nat.le_refl _, HN⟩
    ·have hnx : ∀ ty, (Instr.next (.pointer (some ⟨w9.heap.size, 0, none⟩)) true ty).run Tryd.prog ((w9.drewN nq).iter b1 pos) = .ok (.tuple #[.bool false]) ((w9.drewN nq).iter b1 pos) := fun ty => run_next_end (w9.drewN nq) b1 pos ty hp
     rw [List.drop_eq_nil_of_le (by simpa using Nat.le_of_not_lt hp)] at H1
     unfold lexer_scanner_number.n at H1
     obtain rfl := Option.some.inj H1
     have HI10 := Aside0.mk (show IsS51 w0 ((w9.drewN nq).iter b1 pos) g b2 b3 b4 s0_3 from IsS51.alloc (IsS51.drewN HI9.out nq) _)
     have HB10 := Aside0.mk (show Below w0.heap.size w0 ((w9.drewN nq).iter b1 pos) from below_alloc (pw_below_drewN HB9.out nq) _)
     have HK10 := Aside0.mk (show KeepBut w ((w9.drewN nq).iter b1 pos) g none from keep_alloc (keep_drewN HK9.out nq) _)
     have HR10 := Aside0.mk (show ((w9.drewN nq).iter b1 pos).heap[w.heap.size]? = some (.cells #[.int .i64 0, .int .i64 0, .string (⟨#[]⟩ : ByteArray), .int .i64 0] 36 (0, 0)) from blk_alloc (blk_drewN HR9.out nq) _)
     clear H H1 HI9 HB9 HK9 HR9 hcz0 hcz1 hcz2 hb0 hb1 hb2 hb3 hy0 hy1 hy2 hy3
     generalize hWI : (w9.drewN nq).iter b1 pos = WI at *
     clear hWI
     have hb0 : WI.cell? ⟨w.heap.size, 0, none⟩ = some (.int .i64 0) := (blk_cell HR10.out 0).trans rfl
     have hy0 := blk_frozen HR10.out 0
     have hb1 : WI.cell? ⟨w.heap.size, 1, none⟩ = some (.int .i64 0) := (blk_cell HR10.out 1).trans rfl
     have hy1 := blk_frozen HR10.out 1
     have hb2 : WI.cell? ⟨w.heap.size, 2, none⟩ = some (.string (⟨#[]⟩ : ByteArray)) := (blk_cell HR10.out 2).trans rfl
     have hy2 := blk_frozen HR10.out 2
     have hb3 : WI.cell? ⟨w.heap.size, 3, none⟩ = some (.int .i64 0) := (blk_cell HR10.out 3).trans rfl
     have hy3 := blk_frozen HR10.out 3
     obtain ⟨_, _, hGz, _, _⟩ := HI10.out
     have hcz2 := cellS51_2 hGz
     clear hGz
     go_wp2
     refine bodyPost_ret (results_ct rfl _ _ w.heap.size 36 #[.int .i64 2, .int .i64 b4, .string (⟨#[]⟩ : ByteArray), .int .i64 acc] (0, 0) _ rfl (by refine blk_put (cs := #[.int .i64 2, .int .i64 b4, .string (⟨#[]⟩ : ByteArray), .int .i64 0]) ?_ 3 _ rfl; refine blk_put (cs := #[.int .i64 2, .int .i64 b4, .string (⟨#[]⟩ : ByteArray), .int .i64 0]) ?_ 2 _ rfl; refine blk_put (cs := #[.int .i64 2, .int .i64 0, .string (⟨#[]⟩ : ByteArray), .int .i64 0]) ?_ 1 _ rfl; refine blk_put (cs := #[.int .i64 0, .int .i64 0, .string (⟨#[]⟩ : ByteArray), .int .i64 0]) ?_ 0 _ rfl; exact HR10.out) hu rfl (by kernel_rfl)) rfl ?_
     exact ⟨rfl, by repeat (first | (with_reducible exact HI10.out) | (with_reducible refine IsS51.far ?_ hfar.out _) | (with_reducible apply IsS51.drewN) | (with_reducible apply IsS51.drew) | (with_reducible apply IsS51.alloc)), by repeat (first | (with_reducible exact HB10.out) | (with_reducible refine below_set ?_ hwr.out) | (with_reducible refine pw_below_drewN ?_ _) | (with_reducible refine below_drew1 ?_) | (with_reducible refine below_alloc ?_ _)), by repeat (first | (with_reducible exact HK10.out) | (with_reducible refine keep_far ?_ hkr.out _) | (with_reducible refine keep_drewN ?_ _) | (with_reducible refine keep_drew ?_) | (with_reducible refine keep_alloc ?_ _))⟩

end Go.Proofs.YtoflkheiidhblaaDoor.PLex
