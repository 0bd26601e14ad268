-- By wip/xprint.py (a driver of this session's over the kit's print), for this claim.
import Derived.Test.YtoflkheiidhblaaDoorPLexx0
import Derived.Test.YtoflkheiidhblaaDoorPLexx4
import Derived.Test.YtoflkheiidhblaaDoorPLexx8
import Derived.Test.YtoflkheiidhblaaDoorPLexx9
import Derived.Test.YtoflkheiidhblaaDoorPLexx12
import Derived.Test.YtoflkheiidhblaaDoorPLexx13
import Derived.Test.YtoflkheiidhblaaDoorPLexx14
import Derived.Test.YtoflkheiidhblaaDoorPLexx15
namespace Go.Proofs.YtoflkheiidhblaaDoor.PLex
open Go.RowKit Go.Proofs.YtoflkheiidhblaaDoorW.PrintWords Go.Proofs.YtoflkheiidhblaaDoorW.PrintLast Go.Proofs.YtoflkheiidhblaaDoorW.PrintMore
attribute [local go_sem] max2_int min2_int max_two min_two max_three min_three max_four min_four   -- for this text's walks alone
set_option linter.unusedVariables false
set_option linter.unusedSimpArgs false

/-! ### lexer_Scan: function 15, by hand: the scanner is a local variable whose address goes to its methods -/
theorem lexer_scanner_skip.same_l : ∀ (k : Nat) (u v : Value), (∀ a b c, lexer_scanner_skip.l0 k a b c u = lexer_scanner_skip.l0 k a b c v) ∧ (∀ x a b c, lexer_scanner_skip.j1 k x a b c u = lexer_scanner_skip.j1 k x a b c v) ∧ (∀ a b c, lexer_scanner_skip.l1 k a b c u = lexer_scanner_skip.l1 k a b c v) := by
 intro k u v
 induction k with
 | zero => exact ⟨fun _ _ _ => rfl, fun _ _ _ _ => rfl, fun _ _ _ => rfl⟩
 | succ k ih =>
  obtain ⟨i0, i1, i2⟩ := ih
  refine ⟨fun a b c => ?_, fun x a b c => ?_, fun a b c => ?_⟩
  ·simp only [lexer_scanner_skip.l0, i0, i1]
  ·simp only [lexer_scanner_skip.j1, i0, i2]
  ·simp only [lexer_scanner_skip.l1, i0, i2]
theorem lexer_scanner_skip.same (k : Nat) (a : ByteArray) (b c : Int) (u v : Value) : lexer_scanner_skip.f k a b c u = lexer_scanner_skip.f k a b c v := (lexer_scanner_skip.same_l k u v).1 a b c
theorem span_name_same (k : Nat) (u v : Value) : ∀ x a b c, lexer_scanner_span_at_name_1.l0 k x a b c u = lexer_scanner_span_at_name_1.l0 k x a b c v := by
 induction k with
 | zero => exact fun _ _ _ _ => rfl
 | succ k ih => intro x a b c; simp only [lexer_scanner_span_at_name_1.l0, ih]
theorem span_digit_same (k : Nat) (u v : Value) : ∀ x a b c, lexer_scanner_span_at_lexer_digit.l0 k x a b c u = lexer_scanner_span_at_lexer_digit.l0 k x a b c v := by
 induction k with
 | zero => exact fun _ _ _ _ => rfl
 | succ k ih => intro x a b c; simp only [lexer_scanner_span_at_lexer_digit.l0, ih]
theorem lexer_scanner_name.same (k : Nat) (a : ByteArray) (b c : Int) (u v : Value) : lexer_scanner_name.f k a b c u = lexer_scanner_name.f k a b c v := by
 unfold lexer_scanner_name.f lexer_scanner_span_at_name_1.f
 rw [span_name_same k u v]
theorem lexer_scanner_number.same (k : Nat) (a : ByteArray) (b c : Int) (u v : Value) : lexer_scanner_number.f k a b c u = lexer_scanner_number.f k a b c v := by
 unfold lexer_scanner_number.f lexer_scanner_span_at_lexer_digit.f
 rw [span_digit_same k u v]
theorem lexer_scanner_next.same (k : Nat) (a : ByteArray) (b c : Int) (u v : Value) : lexer_scanner_next.f k a b c u = lexer_scanner_next.f k a b c v := by
 unfold lexer_scanner_next.f
 rw [lexer_scanner_number.same k a b c u v, lexer_scanner_name.same k a b c u v]
 rfl
def lexer_Scan.v : Value := .slice none 0 0
def lexer_Scan.l0 : Nat → ByteArray → ByteArray → Int → Int → List S36 → Option (List S36 × Int × Int)
 | 0, _, _, _, _, _ => none
 | k + 1, a0, t, p, l, x => if p < (a0.size : Int) then (lexer_scanner_next.f k t p l lexer_Scan.v).bind fun b => (if b.2.2.2.2.1 = 0 then (if (x.length : Int) ≥ 2000 then some ([], b.2.2.2.2.2.2.2, 5) else (lexer_scanner_skip.f k b.2.2.2.2.2.1 b.2.2.2.2.2.2.1 b.2.2.2.2.2.2.2 lexer_Scan.v).bind fun c => lexer_Scan.l0 k a0 c.1 c.2.1 c.2.2 (x ++ [⟨b.1, b.2.1, b.2.2.1, b.2.2.2.1⟩])) else some ([], b.2.2.2.2.2.2.2, b.2.2.2.2.1)) else some (x ++ [⟨0, l, (⟨#[]⟩ : ByteArray), 0⟩], 0, 0)
def lexer_Scan.f (k : Nat) (a0 : ByteArray) : Option (List S36 × Int × Int) := if (a0.size : Int) > 4000 then some ([], 0, 5) else (lexer_scanner_skip.f k a0 0 1 lexer_Scan.v).bind fun b => lexer_Scan.l0 k a0 b.1 b.2.1 b.2.2 []
theorem lexer_Scan.mono_l : ∀ k a t p l x, LeO (lexer_Scan.l0 k a t p l x) (lexer_Scan.l0 (k + 1) a t p l x) := by
 intro k
 induction k with
 | zero => intro a t p l x r h; simp [lexer_Scan.l0] at h
 | succ k ih =>
  intro a t p l x
  unfold lexer_Scan.l0
  refine LeO.ite (LeO.bind (lexer_scanner_next.mono _ _ _ _ _) fun b => LeO.ite (LeO.ite (LeO.refl _) (LeO.bind (lexer_scanner_skip.mono _ _ _ _ _) fun c => ih _ _ _ _ _)) (LeO.refl _)) (LeO.refl _)
theorem lexer_Scan.mono : ∀ a0 k, LeO (lexer_Scan.f k a0) (lexer_Scan.f (k + 1) a0) := by
 intro a0 k
 unfold lexer_Scan.f
 exact LeO.ite (LeO.refl _) (LeO.bind (lexer_scanner_skip.mono _ _ _ _ _) fun b => lexer_Scan.mono_l _ _ _ _ _ _)
set_option maxHeartbeats 8000000 in
set_option maxRecDepth 100000 in
theorem lexer_Scan.calls (k : Nat) (a0 : ByteArray) (r1 : List (S36)) (r2 : Int) (r3 : Int) (w : World) (hGl : Aside0 (Glob w)) (h : lexer_Scan.f k a0 = some (r1, r2, r3)) :
  Calls Tryd.prog 15 #[.string a0] w fun e w' => ∃ v0_ : Value, e = .returned (.tuple #[v0_, .int .i64 r2, .int .i64 r3]) ∧ Kd.R k36 36 w' w.heap.size (fun _ => True) v0_ r1 ∧ Below w.heap.size w w' := by
 have hu36 := Tryd.underlying36
 have hu51 := Tryd.underlying51
 have HB := Aside0.mk (Below.refl w.heap.size w)
 unfold lexer_Scan.f at h
 by_cases c2 : (a0.size : Int) > 4000
 ·rw [if_pos c2] at h
  have c2b0 : decide (4000 < (a0.size : Int)) = true := decide_eq_true c2
  have c2b1 : decide (4000 < a0.size) = true := decide_eq_true (by omega)
  simp only [Option.some.injEq, Prod.mk.injEq] at h
  obtain ⟨rfl, rfl, rfl⟩ := h
  go_enter Tryd.func15, Tryd.ntmps15
  go_wp2
  go_ret3
  exact ⟨_, rfl, Kd.R_nil _ _ _ _ _, HB.out⟩
 ·rw [if_neg c2] at h
  have c2b0 : decide (4000 < (a0.size : Int)) = false := decide_eq_false c2
  have c2b1 : decide (4000 < a0.size) = false := decide_eq_false (by omega)
  clear c2
  obtain ⟨⟨t1, t2, t3⟩, hs, h⟩ := Option.bind_eq_some_iff.mp h
  replace h : lexer_Scan.l0 k a0 t1 t2 t3 [] = some (r1, r2, r3) := h
  have AS : Aside0 (lexer_scanner_skip.f k a0 0 1 (.slice none 0 0) = some (t1, t2, t3)) := Aside0.mk hs
  have H' := Aside0.mk h
  clear hs h
  go_enter Tryd.func15, Tryd.ntmps15
  go_wp2_with (first | ((with_reducible refine gate_dst (N := 5) rfl ?_); (try (refine gate_guard (by rfl) ?_; dsimp only)); refine box_event ?hg (N := 5) ?hd (cs := #[.string (⟨#[]⟩ : ByteArray), .int .i64 0, .int .i64 0, .slice none 0 0]) (t := 51) ?hr ?_; (case hd => rfl); (case hg => rfl); (case hr => first | (go_simp; done) | (go_simp; rfl)); intro g hg w8 hbox hb; have HB1 := Aside0.mk (below_step HB.out hb); have BK := Aside0.mk hbox; have GE := Aside0.mk (show w.heap.size ≤ g from Nat.le_of_eq hg.symm); clear HB hb hbox hg; have hqa0 : w8.cell? ⟨g, 0, none⟩ = some (.string (⟨#[]⟩ : ByteArray)) := (blk_cell BK.out 0).trans rfl; have hza0 := blk_frozen BK.out 0; have hqa1 : w8.cell? ⟨g, 1, none⟩ = some (.int .i64 0) := (blk_cell BK.out 1).trans rfl; have hza1 := blk_frozen BK.out 1; have hqa2 : w8.cell? ⟨g, 2, none⟩ = some (.int .i64 0) := (blk_cell BK.out 2).trans rfl; have hza2 := blk_frozen BK.out 2; have hqa3 : w8.cell? ⟨g, 3, none⟩ = some (.slice none 0 0) := (blk_cell BK.out 3).trans rfl; have hza3 := blk_frozen BK.out 3; skip) | (go_at_call 22; (with_reducible refine (lexer_scanner_skip.calls k g a0 0 1 (.slice none 0 0) t1 t2 t3 w _ ?side1 ?side2 AS.out).mono ?_); (case side1 => exact ⟨(), (), (by refine blk_put (cs := #[.string a0, .int .i64 0, .int .i64 1, .slice none 0 0]) ?_ 3 _ rfl; refine blk_put (cs := #[.string a0, .int .i64 0, .int .i64 0, .slice none 0 0]) ?_ 2 _ rfl; refine blk_put (cs := #[.string a0, .int .i64 0, .int .i64 0, .slice none 0 0]) ?_ 1 _ rfl; refine blk_put (cs := #[.string (⟨#[]⟩ : ByteArray), .int .i64 0, .int .i64 0, .slice none 0 0]) ?_ 0 _ rfl; exact BK.out), GE.out, trivial⟩); (case side2 => refine below_set (below_set (below_set (below_set HB1.out GE.out) GE.out) GE.out) GE.out); rintro e w9 ⟨rfl, hi, hb, hk⟩; have HI := Aside0.mk hi; have HB := Aside0.mk hb; have HR : Aside0 (Kd.R k36 36 w9 w.heap.size (fun k_ => k_ ≠ g) (.slice none 0 0) []) := Aside0.mk (Kd.R_nil _ _ _ _ _); clear BK HB1 hqa0 hqa1 hqa2 hqa3 hza0 hza1 hza2 hza3 hi hb hk))
  go_loopg [] k (fun kq w' => ∃ (t : ByteArray) (p l : Int) (x : List S36) (u : Value), Aside0 (lexer_Scan.l0 kq a0 t p l x = some (r1, r2, r3)) ∧ Aside0 (kq ≤ k) ∧ Aside0 (IsS51 w w' g t p l u) ∧ Aside0 (Below w.heap.size w w') ∧ Aside0 (Kd.R k36 36 w' w.heap.size (fun k_ => k_ ≠ g) u x) ∧ Aside0 (x.length ≤ 2000))
  case atStart => exact ⟨t1, t2, t3, [], .slice none 0 0, H', ⟨Nat.le_refl _⟩, HI, HB, HR, ⟨Nat.zero_le _⟩⟩
  case round =>
   clear H' HI HB HR
   obtain ⟨t, p, l, x, u, HA, HK1, HI, HB, HR, HN⟩ := hrel
   cases gk with
   | zero => exact absurd HA.out (by simp [lexer_Scan.l0])
   | succ k1 =>
    have H := HA.out
    clear HA
    unfold lexer_Scan.l0 at H
    obtain ⟨Ao, co, eo⟩ := Kd.R_slice HR.out
    subst eo
    have gew : Aside0 (w.heap.size ≤ g) := ⟨IsS51.ge HI.out⟩
    obtain ⟨_, _, HG, _, _⟩ := HI.out
    have hcz_0 := cellS51_0 HG
    have hcz_1 := cellS51_1 HG
    have hcz_2 := cellS51_2 HG
    have hcz_3 := cellS51_3 HG
    have hfz_0 := blk_frozen HG 0
    have hfz_1 := blk_frozen HG 1
    have hfz_2 := blk_frozen HG 2
    have hfz_3 := blk_frozen HG 3
    clear HG
    by_cases c4 : p < (a0.size : Int)
    ·rw [if_pos c4] at H
     have c4b0 : decide (p < (a0.size : Int)) = true := decide_eq_true c4
     clear c4
     obtain ⟨⟨n1, n2, n3, n4, n5, t5, p5, l5⟩, hn, H⟩ := Option.bind_eq_some_iff.mp H
     replace H : (if n5 = 0 then (if (x.length : Int) ≥ 2000 then some ([], l5, 5) else (lexer_scanner_skip.f k1 t5 p5 l5 lexer_Scan.v).bind fun c => lexer_Scan.l0 k1 a0 c.1 c.2.1 c.2.2 (x ++ [⟨n1, n2, n3, n4⟩])) else some ([], l5, n5)) = some (r1, r2, r3) := H
     have AN := Aside0.mk hn
     clear hn
     by_cases c5 : n5 = 0
     ·rw [if_pos c5] at H
      have c5b0 : (n5 == 0) = true := beq_iff_eq.mpr c5
      have c5b1 : (n5 != 0) = false := bne_eq_false_iff_eq.mpr c5
      clear c5
      by_cases c6 : (x.length : Int) ≥ 2000
      ·rw [if_pos c6] at H
       have c6b0 : decide ((2000 : Int) ≤ (x.length : Int)) = true := decide_eq_true c6
       have c6b1 : decide (2000 ≤ x.length) = true := decide_eq_true (by omega)
       clear c6
       simp only [Option.some.injEq, Prod.mk.injEq] at H
       obtain ⟨rfl, rfl, rfl⟩ := H
       go_wp2_with (first | (go_at_call 23; (with_reducible refine (lexer_scanner_next.calls k1 g t p l (.slice Ao x.length co) n1 n2 n3 n4 n5 t5 p5 l5 w _ hGl ?side1 ?side2 ((lexer_scanner_next.same k1 t p l _ _).trans AN.out)).mono ?_); (case side1 => exact HI.out); (case side2 => exact HB.out); rintro e w9 ⟨rfl, hi, hb, hk⟩; have HR2 := Aside0.mk (Kd.R_keep HR.out hk (fun _ h => h)); have HI2 := Aside0.mk hi; have HB2 := Aside0.mk hb; clear HI HB HR hk hcz_0 hcz_1 hcz_2 hcz_3 hfz_0 hfz_1 hfz_2 hfz_3; clear hi hb) | ((with_reducible refine gate_dst (N := 6) rfl ?_); (try (refine gate_guard (by rfl) ?_; dsimp only)); refine box_event ?hg (N := 6) ?hd (cs := #[.int .i64 0, .int .i64 0, .string (⟨#[]⟩ : ByteArray), .int .i64 0]) (t := 36) ?hr ?_; (case hd => rfl); (case hg => rfl); (case hr => first | (go_simp; done) | (go_simp; rfl)); intro gt hg w8 hbox hb; have hgn := Aside0.mk (show g ≠ gt by rw [hg]; exact Nat.ne_of_lt (IsS51.lt HI2.out)); have gne : g ≠ gt := hgn.out; have gne' : gt ≠ g := fun e => gne e.symm; have HI3 := Aside0.mk (IsS51.below HI2.out hb); have HB3 := Aside0.mk (below_step HB2.out hb); have HR3 := Aside0.mk (Kd.R_below (Kd.R_elderB HR2.out gt (Nat.le_of_eq hg.symm)) hb); have BT := Aside0.mk hbox; have GT := Aside0.mk (show w.heap.size ≤ gt by rw [hg]; exact below_size HB2.out); clear HI2 HB2 HR2; clear hb hbox hg; have hqt0 : w8.cell? ⟨gt, 0, none⟩ = some (.int .i64 0) := (blk_cell BT.out 0).trans rfl; have hzt0 := blk_frozen BT.out 0; have hqt1 : w8.cell? ⟨gt, 1, none⟩ = some (.int .i64 0) := (blk_cell BT.out 1).trans rfl; have hzt1 := blk_frozen BT.out 1; have hqt2 : w8.cell? ⟨gt, 2, none⟩ = some (.string (⟨#[]⟩ : ByteArray)) := (blk_cell BT.out 2).trans rfl; have hzt2 := blk_frozen BT.out 2; have hqt3 : w8.cell? ⟨gt, 3, none⟩ = some (.int .i64 0) := (blk_cell BT.out 3).trans rfl; have hzt3 := blk_frozen BT.out 3; have HG3 := Aside0.mk (show w8.heap[g]? = some (.cells #[.string t5, .int .i64 p5, .int .i64 l5, .slice Ao x.length co] 51 (0, 0)) by obtain ⟨_, _, h, _, _⟩ := HI3.out; exact h); have hqs0 : w8.cell? ⟨g, 0, none⟩ = some (.string t5) := (blk_cell HG3.out 0).trans rfl; have hzs0 := blk_frozen HG3.out 0; have hqs1 : w8.cell? ⟨g, 1, none⟩ = some (.int .i64 p5) := (blk_cell HG3.out 1).trans rfl; have hzs1 := blk_frozen HG3.out 1; have hqs2 : w8.cell? ⟨g, 2, none⟩ = some (.int .i64 l5) := (blk_cell HG3.out 2).trans rfl; have hzs2 := blk_frozen HG3.out 2; have hqs3 : w8.cell? ⟨g, 3, none⟩ = some (.slice Ao x.length co) := (blk_cell HG3.out 3).trans rfl; have hzs3 := blk_frozen HG3.out 3; skip))
       repeat (go_quiet (fail); try go_wp2)
       go_ret3
       exact ⟨_, rfl, Kd.R_nil _ _ _ _ _, by repeat (first | (with_reducible exact HB3.out) | (with_reducible refine below_set ?_ GT.out) | (with_reducible refine below_set ?_ gew.out) | (with_reducible refine pw_below_drewN ?_ _) | (with_reducible refine below_drew1 ?_) | (with_reducible refine below_alloc ?_ _))⟩
      ·rw [if_neg c6] at H
       have c6b0 : decide ((2000 : Int) ≤ (x.length : Int)) = false := decide_eq_false c6
       have c6b1 : decide (2000 ≤ x.length) = false := decide_eq_false (by omega)
       have LM := Aside0.mk (show x.length < 2000 by omega)
       clear c6
       obtain ⟨⟨m1, m2, m3⟩, hm, H⟩ := Option.bind_eq_some_iff.mp H
       replace H : lexer_Scan.l0 k1 a0 m1 m2 m3 (x ++ [⟨n1, n2, n3, n4⟩]) = some (r1, r2, r3) := H
       have AM := Aside0.mk hm
       have H' := Aside0.mk H
       clear hm H
       go_wp2_with (first | (go_at_call 23; (with_reducible refine (lexer_scanner_next.calls k1 g t p l (.slice Ao x.length co) n1 n2 n3 n4 n5 t5 p5 l5 w _ hGl ?side1 ?side2 ((lexer_scanner_next.same k1 t p l _ _).trans AN.out)).mono ?_); (case side1 => exact HI.out); (case side2 => exact HB.out); rintro e w9 ⟨rfl, hi, hb, hk⟩; have HR2 := Aside0.mk (Kd.R_keep HR.out hk (fun _ h => h)); have HI2 := Aside0.mk hi; have HB2 := Aside0.mk hb; clear HI HB HR hk hcz_0 hcz_1 hcz_2 hcz_3 hfz_0 hfz_1 hfz_2 hfz_3; clear hi hb) | ((with_reducible refine gate_dst (N := 6) rfl ?_); (try (refine gate_guard (by rfl) ?_; dsimp only)); refine box_event ?hg (N := 6) ?hd (cs := #[.int .i64 0, .int .i64 0, .string (⟨#[]⟩ : ByteArray), .int .i64 0]) (t := 36) ?hr ?_; (case hd => rfl); (case hg => rfl); (case hr => first | (go_simp; done) | (go_simp; rfl)); intro gt hg w8 hbox hb; have hgn := Aside0.mk (show g ≠ gt by rw [hg]; exact Nat.ne_of_lt (IsS51.lt HI2.out)); have gne : g ≠ gt := hgn.out; have gne' : gt ≠ g := fun e => gne e.symm; have HI3 := Aside0.mk (IsS51.below HI2.out hb); have HB3 := Aside0.mk (below_step HB2.out hb); have HR3 := Aside0.mk (Kd.R_below (Kd.R_elderB HR2.out gt (Nat.le_of_eq hg.symm)) hb); have BT := Aside0.mk hbox; have GT := Aside0.mk (show w.heap.size ≤ gt by rw [hg]; exact below_size HB2.out); clear HI2 HB2 HR2; clear hb hbox hg; have hqt0 : w8.cell? ⟨gt, 0, none⟩ = some (.int .i64 0) := (blk_cell BT.out 0).trans rfl; have hzt0 := blk_frozen BT.out 0; have hqt1 : w8.cell? ⟨gt, 1, none⟩ = some (.int .i64 0) := (blk_cell BT.out 1).trans rfl; have hzt1 := blk_frozen BT.out 1; have hqt2 : w8.cell? ⟨gt, 2, none⟩ = some (.string (⟨#[]⟩ : ByteArray)) := (blk_cell BT.out 2).trans rfl; have hzt2 := blk_frozen BT.out 2; have hqt3 : w8.cell? ⟨gt, 3, none⟩ = some (.int .i64 0) := (blk_cell BT.out 3).trans rfl; have hzt3 := blk_frozen BT.out 3; have HG3 := Aside0.mk (show w8.heap[g]? = some (.cells #[.string t5, .int .i64 p5, .int .i64 l5, .slice Ao x.length co] 51 (0, 0)) by obtain ⟨_, _, h, _, _⟩ := HI3.out; exact h); have hqs0 : w8.cell? ⟨g, 0, none⟩ = some (.string t5) := (blk_cell HG3.out 0).trans rfl; have hzs0 := blk_frozen HG3.out 0; have hqs1 : w8.cell? ⟨g, 1, none⟩ = some (.int .i64 p5) := (blk_cell HG3.out 1).trans rfl; have hzs1 := blk_frozen HG3.out 1; have hqs2 : w8.cell? ⟨g, 2, none⟩ = some (.int .i64 l5) := (blk_cell HG3.out 2).trans rfl; have hzs2 := blk_frozen HG3.out 2; have hqs3 : w8.cell? ⟨g, 3, none⟩ = some (.slice Ao x.length co) := (blk_cell HG3.out 3).trans rfl; have hzs3 := blk_frozen HG3.out 3; skip) | ((with_reducible refine gate_builtin (b := .append) (xs := #[(.tmp 38), .tmp 40]) rfl ?_); (try (refine gate_guard (by rfl) ?_; dsimp only)); at_builtin; refine Kd.R_append k36 (w0 := w) w.heap.size rfl (.tmp 38) (.tmp 40) 31 36 (.agg #[(.int .i64 0), (.int .i64 0), (.string ⟨#[]⟩), (.int .i64 0)]) 40 rfl Tryd.underlying31 info36 rfl (by decide) (by omega) (.slice Ao x.length co) x (⟨n1, n2, n3, n4⟩ : S36) [.int .i64 n1, .int .i64 n2, .string n3, .int .i64 n4] (fun k_ => k_ ≠ g ∧ k_ ≠ gt) (fun _ => False) rfl (by first | rfl | (show Value.slice (some ⟨w8.heap.size, 0, none⟩) 1 1 = _; simp [World.setCell])) ?aP (fun _ hk => hk.elim) ?aF ?aO ?aB ?aS ?aL ?_; (case aP => exact k36_mkM _ _ _ (⟨n1, n2, n3, n4⟩ : S36)); (case aB => repeat (first | (with_reducible exact HB3.out) | (with_reducible refine below_set ?_ GT.out) | (with_reducible refine pw_below_drewN ?_ _) | (with_reducible refine below_drew1 ?_) | (with_reducible refine below_alloc ?_ _))); (case aF => exact fun k_ hk => ⟨Kd.freshB (g := g) (o := .cells #[.string t5, .int .i64 p5, .int .i64 l5, .slice Ao x.length co] 51 (0, 0)) (by repeat (first | (with_reducible exact HG3.out) | (with_reducible refine blk_far ?_ gne _) | (with_reducible refine blk_drewN ?_ _) | (with_reducible refine blk_drew ?_) | (with_reducible refine blk_alloc ?_ _))) k_ hk, Kd.freshB (g := gt) (o := .cells #[.int .i64 n1, .int .i64 n2, .string n3, .int .i64 n4] 36 (0, 0)) (by refine blk_put (cs := #[.int .i64 n1, .int .i64 n2, .string n3, .int .i64 0]) ?_ 3 _ rfl; refine blk_put (cs := #[.int .i64 n1, .int .i64 n2, .string (⟨#[]⟩ : ByteArray), .int .i64 0]) ?_ 2 _ rfl; refine blk_put (cs := #[.int .i64 n1, .int .i64 0, .string (⟨#[]⟩ : ByteArray), .int .i64 0]) ?_ 1 _ rfl; refine blk_put (cs := #[.int .i64 0, .int .i64 0, .string (⟨#[]⟩ : ByteArray), .int .i64 0]) ?_ 0 _ rfl; exact BT.out) k_ hk⟩); (case aO => repeat (first | (with_reducible exact HR3.out) | (with_reducible refine Kd.R_far ?_ (fun _ hk => hk.2) _) | (with_reducible apply Kd.R_alloc) | (with_reducible apply Kd.R_drewN) | (with_reducible apply Kd.R_drew))); (case aS => exact below_size (show Below w.heap.size w _ by repeat (first | (with_reducible exact HB3.out) | (with_reducible refine below_set ?_ GT.out) | (with_reducible refine pw_below_drewN ?_ _) | (with_reducible refine below_drew1 ?_) | (with_reducible refine below_alloc ?_ _)))); (case aL => have := LM.out; omega); intro v40 w40 ho hb hg hat; obtain ⟨Ap, cp, ep⟩ := Kd.R_slice ho; subst ep; rw [show (x ++ [(⟨n1, n2, n3, n4⟩ : S36)]).length = x.length + 1 from by simp] at ho; have HG5 := Aside0.mk (blk_grown (g := g) (o := .cells #[.string t5, .int .i64 p5, .int .i64 l5, .slice Ao x.length co] 51 (0, 0)) (by repeat (first | (with_reducible exact HG3.out) | (with_reducible refine blk_far ?_ gne _) | (with_reducible refine blk_drewN ?_ _) | (with_reducible refine blk_drew ?_) | (with_reducible refine blk_alloc ?_ _))) hg (Kd.R_away HR3.out (fun _ hk => hk.1))); have HB5 := Aside0.mk hb; have HR5 := Aside0.mk (Kd.R_mono ho (fun _ hk => hk.1) : Kd.R k36 36 w40 w.heap.size (fun k_ => k_ ≠ g) (.slice Ap (x.length + 1) cp) (x ++ [(⟨n1, n2, n3, n4⟩ : S36)])); have hv3 : w40.cell? ⟨g, 3, none⟩ = some (.slice Ao x.length co) := (blk_cell HG5.out 3).trans rfl; have hv4 := blk_frozen HG5.out 3; clear hb ho hg hat HB3 HR3 HG3 BT) | (go_at_call 22; (with_reducible refine (lexer_scanner_skip.calls k1 g t5 p5 l5 (.slice Ap (x.length + 1) cp) m1 m2 m3 w _ ?side1 ?side2 ((lexer_scanner_skip.same k1 t5 p5 l5 _ _).trans AM.out)).mono ?_); (case side1 => exact ⟨(), (), (by refine blk_put (cs := #[.string t5, .int .i64 p5, .int .i64 l5, .slice Ao x.length co]) ?_ 3 _ rfl; exact HG5.out), gew.out, trivial⟩); (case side2 => refine below_set ?_ gew.out; exact HB5.out); rintro e w9 ⟨rfl, hi, hb, hk⟩; have HI6 := Aside0.mk hi; have HB6 := Aside0.mk hb; have HR6 := Aside0.mk (Kd.R_keep (Kd.R_far HR5.out (p := ⟨g, 3, none⟩) (fun _ h => h) _) hk (fun _ h => h)); clear HG5 HB5 HR5 hi hb hk))
       repeat (go_quiet (fail); try go_wp2)
       go_roundg k1
       case measure => have := HK1.out; omega
       case rel => exact ⟨m1, m2, m3, x ++ [⟨n1, n2, n3, n4⟩], .slice Ap (x.length + 1) cp, H', ⟨by have := HK1.out; omega⟩, HI6, HB6, HR6, ⟨by have := LM.out; simp; omega⟩⟩
     ·rw [if_neg c5] at H
      have c5b0 : (n5 == 0) = false := beq_eq_false_iff_ne.mpr c5
      have c5b1 : (n5 != 0) = true := bne_iff_ne.mpr c5
      clear c5
      simp only [Option.some.injEq, Prod.mk.injEq] at H
      obtain ⟨rfl, rfl, rfl⟩ := H
      go_wp2_with (first | (go_at_call 23; (with_reducible refine (lexer_scanner_next.calls k1 g t p l (.slice Ao x.length co) n1 n2 n3 n4 n5 t5 p5 l5 w _ hGl ?side1 ?side2 ((lexer_scanner_next.same k1 t p l _ _).trans AN.out)).mono ?_); (case side1 => exact HI.out); (case side2 => exact HB.out); rintro e w9 ⟨rfl, hi, hb, hk⟩; have HR2 := Aside0.mk (Kd.R_keep HR.out hk (fun _ h => h)); have HI2 := Aside0.mk hi; have HB2 := Aside0.mk hb; clear HI HB HR hk hcz_0 hcz_1 hcz_2 hcz_3 hfz_0 hfz_1 hfz_2 hfz_3; clear hi hb) | ((with_reducible refine gate_dst (N := 6) rfl ?_); (try (refine gate_guard (by rfl) ?_; dsimp only)); refine box_event ?hg (N := 6) ?hd (cs := #[.int .i64 0, .int .i64 0, .string (⟨#[]⟩ : ByteArray), .int .i64 0]) (t := 36) ?hr ?_; (case hd => rfl); (case hg => rfl); (case hr => first | (go_simp; done) | (go_simp; rfl)); intro gt hg w8 hbox hb; have hgn := Aside0.mk (show g ≠ gt by rw [hg]; exact Nat.ne_of_lt (IsS51.lt HI2.out)); have gne : g ≠ gt := hgn.out; have gne' : gt ≠ g := fun e => gne e.symm; have HI3 := Aside0.mk (IsS51.below HI2.out hb); have HB3 := Aside0.mk (below_step HB2.out hb); have HR3 := Aside0.mk (Kd.R_below (Kd.R_elderB HR2.out gt (Nat.le_of_eq hg.symm)) hb); have BT := Aside0.mk hbox; have GT := Aside0.mk (show w.heap.size ≤ gt by rw [hg]; exact below_size HB2.out); clear HI2 HB2 HR2; clear hb hbox hg; have hqt0 : w8.cell? ⟨gt, 0, none⟩ = some (.int .i64 0) := (blk_cell BT.out 0).trans rfl; have hzt0 := blk_frozen BT.out 0; have hqt1 : w8.cell? ⟨gt, 1, none⟩ = some (.int .i64 0) := (blk_cell BT.out 1).trans rfl; have hzt1 := blk_frozen BT.out 1; have hqt2 : w8.cell? ⟨gt, 2, none⟩ = some (.string (⟨#[]⟩ : ByteArray)) := (blk_cell BT.out 2).trans rfl; have hzt2 := blk_frozen BT.out 2; have hqt3 : w8.cell? ⟨gt, 3, none⟩ = some (.int .i64 0) := (blk_cell BT.out 3).trans rfl; have hzt3 := blk_frozen BT.out 3; have HG3 := Aside0.mk (show w8.heap[g]? = some (.cells #[.string t5, .int .i64 p5, .int .i64 l5, .slice Ao x.length co] 51 (0, 0)) by obtain ⟨_, _, h, _, _⟩ := HI3.out; exact h); have hqs0 : w8.cell? ⟨g, 0, none⟩ = some (.string t5) := (blk_cell HG3.out 0).trans rfl; have hzs0 := blk_frozen HG3.out 0; have hqs1 : w8.cell? ⟨g, 1, none⟩ = some (.int .i64 p5) := (blk_cell HG3.out 1).trans rfl; have hzs1 := blk_frozen HG3.out 1; have hqs2 : w8.cell? ⟨g, 2, none⟩ = some (.int .i64 l5) := (blk_cell HG3.out 2).trans rfl; have hzs2 := blk_frozen HG3.out 2; have hqs3 : w8.cell? ⟨g, 3, none⟩ = some (.slice Ao x.length co) := (blk_cell HG3.out 3).trans rfl; have hzs3 := blk_frozen HG3.out 3; skip))
      repeat (go_quiet (fail); try go_wp2)
      go_ret3
      exact ⟨_, rfl, Kd.R_nil _ _ _ _ _, by repeat (first | (with_reducible exact HB3.out) | (with_reducible refine below_set ?_ GT.out) | (with_reducible refine below_set ?_ gew.out) | (with_reducible refine pw_below_drewN ?_ _) | (with_reducible refine below_drew1 ?_) | (with_reducible refine below_alloc ?_ _))⟩
    ·rw [if_neg c4] at H
     have c4b0 : decide (p < (a0.size : Int)) = false := decide_eq_false c4
     clear c4
     simp only [Option.some.injEq, Prod.mk.injEq] at H
     obtain ⟨rfl, rfl, rfl⟩ := H
     go_wp2_with (first | ((with_reducible refine gate_builtin (b := .append) (xs := #[(.tmp 44), .tmp 48]) rfl ?_); (try (refine gate_guard (by rfl) ?_; dsimp only)); at_builtin; refine Kd.R_append k36 (w0 := w) w.heap.size rfl (.tmp 44) (.tmp 48) 31 36 (.agg #[(.int .i64 0), (.int .i64 0), (.string ⟨#[]⟩), (.int .i64 0)]) 40 rfl Tryd.underlying31 info36 rfl (by decide) (by omega) (.slice Ao x.length co) x (⟨0, l, (⟨#[]⟩ : ByteArray), 0⟩ : S36) [.int .i64 0, .int .i64 l, .string (⟨#[]⟩ : ByteArray), .int .i64 0] (fun _ => True) (fun _ => False) rfl (by first | rfl | (show Value.slice (some ⟨w8.heap.size, 0, none⟩) 1 1 = _; simp [World.setCell])) ?aP (fun _ hk => hk.elim) ?aF ?aO ?aB ?aS ?aL ?_; (case aP => exact k36_mkM _ _ _ (⟨0, l, (⟨#[]⟩ : ByteArray), 0⟩ : S36)); (case aB => exact HB.out); (case aF => exact fun _ _ => trivial); (case aO => exact Kd.R_mono HR.out (fun _ _ => trivial)); (case aS => exact below_size (show Below w.heap.size w _ by exact HB.out)); (case aL => have := HN.out; omega); intro v40 w40 ho hb hg hat; have HB5 := Aside0.mk hb; have HO := Aside0.mk ho; clear hb ho hg hat))
     go_ret3
     exact ⟨_, rfl, by (with_reducible repeat (first | apply Kd.R_alloc | apply Kd.R_drewN | apply Kd.R_drew)); exact HO.out, by repeat (first | (with_reducible exact HB5.out) | (with_reducible refine pw_below_drewN ?_ _) | (with_reducible refine below_drew1 ?_) | (with_reducible refine below_alloc ?_ _))⟩

end Go.Proofs.YtoflkheiidhblaaDoor.PLex
