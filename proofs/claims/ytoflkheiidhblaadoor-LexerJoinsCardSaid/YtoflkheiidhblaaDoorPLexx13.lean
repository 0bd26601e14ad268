-- By wip/xprint.py (a driver of this session's over the kit's print), for this claim.
import Derived.Test.YtoflkheiidhblaaDoorPLexx0
import Derived.Test.YtoflkheiidhblaaDoorPLexx4
import Derived.Test.YtoflkheiidhblaaDoorPLexx10
import Derived.Test.YtoflkheiidhblaaDoorPLexx12
namespace Go.Proofs.YtoflkheiidhblaaDoor.PLex
open Go.RowKit Go.Proofs.YtoflkheiidhblaaDoorW.PrintWords Go.Proofs.YtoflkheiidhblaaDoorW.PrintLast Go.Proofs.YtoflkheiidhblaaDoorW.PrintMore
attribute [local go_sem] max2_int min2_int max_two min_two max_three min_three max_four min_four   -- for this text's walks alone
set_option linter.unusedVariables false
set_option linter.unusedSimpArgs false

/-! ### lexer_scanner_name: function 35, by hand: a region that loads a field, calls what turns the state, and makes a variable -/
theorem span_name_line : ∀ (k : Nat) (x5 : Int) (t : ByteArray) (a l : Int) (v : Value) (r1 r2 : ByteArray) (r3 r4 : Int), lexer_scanner_span_at_name_1.l0 k x5 t a l v = some (r1, r2, r3, r4) → r2 = t ∧ r4 = l := by
 intro k
 induction k with
 | zero => intro x5 t a l v r1 r2 r3 r4 h; simp [lexer_scanner_span_at_name_1.l0] at h
 | succ k ih =>
  intro x5 t a l v r1 r2 r3 r4 h
  unfold lexer_scanner_span_at_name_1.l0 at h
  have fin : ∀ (P1 P2 P3 : Prop) [Decidable P1] [Decidable P2] [Decidable P3] (z : ByteArray), (if P1 then (if P2 then (if P3 then (some (z, t, a, l) : Option (ByteArray × ByteArray × Int × Int)) else none) else none) else none) = some (r1, r2, r3, r4) → r2 = t ∧ r4 = l := by
   intro P1 P2 P3 _ _ _ z hz
   split at hz
   ·split at hz
    ·split at hz
     ·simp only [Option.some.injEq, Prod.mk.injEq] at hz
      exact ⟨hz.2.1.symm, hz.2.2.2.symm⟩
     ·cases hz
    ·cases hz
   ·cases hz
  split at h
  ·split at h
   ·obtain ⟨c, hc, h⟩ := Option.bind_eq_some_iff.mp h
    replace h : (if c = true then _ else _) = _ := h
    split at h
    ·exact ih _ _ _ _ _ _ _ _ _ h
    ·exact fin _ _ _ _ h
   ·cases h
  ·exact fin _ _ _ _ h
def lexer_scanner_name.f (k : Nat) (s0_0 : ByteArray) (s0_1 : Int) (s0_2 : Int) (s0_3 : Value) : Option (Int × Int × ByteArray × Int × Int × ByteArray × Int × Int) :=
 (lexer_scanner_span_at_name_1.f k s0_0 s0_1 s0_2 s0_3).bind fun b => if (b.1.size : Int) > 12 then some (0, 0, (⟨#[]⟩ : ByteArray), 0, 5, b.2.1, b.2.2.1, b.2.2.2) else (lexer_reserved.f b.1).bind fun t => some (if t = true then 3 else 1, s0_2, b.1, 0, 0, b.2.1, b.2.2.1, b.2.2.2)
theorem lexer_scanner_name.mono : ∀ a0 a1 a2 a3 k, LeO (lexer_scanner_name.f k a0 a1 a2 a3) (lexer_scanner_name.f (k + 1) a0 a1 a2 a3) := by
 intro a0 a1 a2 a3 k
 unfold lexer_scanner_name.f
 exact LeO.bind (lexer_scanner_span_at_name_1.mono _ _ _ _ _) (fun _ => LeO.refl _)
theorem gen_w {P : Act → World → Prop} {a : Act} {W : World} (F : World → Prop) (hF : F W) (h : ∀ W', F W' → P a W') : P a W := h W hF
set_option maxHeartbeats 8000000 in
set_option maxRecDepth 100000 in
theorem lexer_scanner_name.calls (k : Nat) (g : Nat) (s0_0 : ByteArray) (s0_1 : Int) (s0_2 : Int) (s0_3 : Value) (r1 : Int) (r2 : Int) (r3 : ByteArray) (r4 : Int) (r5 : Int) (r6 : ByteArray) (r7 : Int) (r8 : Int) (w0 w : World) (hI : IsS51 w0 w g s0_0 s0_1 s0_2 s0_3) (hB : Below w0.heap.size w0 w) (h : lexer_scanner_name.f k s0_0 s0_1 s0_2 s0_3 = some (r1, r2, r3, r4, r5, r6, r7, r8)) :
  Calls Tryd.prog 35 #[.pointer (some ⟨g, 0, none⟩)] w fun e w' => e = .returned (.tuple #[.agg #[.int .i64 r1, .int .i64 r2, .string r3, .int .i64 r4], .int .i64 r5]) ∧ IsS51 w0 w' g r6 r7 r8 s0_3 ∧ Below w0.heap.size w0 w' ∧ KeepBut w w' g none := by
 have hu := Tryd.underlying36
 unfold lexer_scanner_name.f at h
 obtain ⟨⟨b1, b2, b3, b4⟩, hs, h⟩ := Option.bind_eq_some_iff.mp h
 obtain ⟨rfl, rfl⟩ := span_name_line _ _ _ _ _ _ _ _ _ _ hs
 have AS := Aside0.mk hs
 have HI0 := Aside0.mk hI
 have HB := Aside0.mk hB
 clear hs hI hB
 have hcl : w.cell? ⟨g, 2, none⟩ = some (.int .i64 b4) := by
  obtain ⟨_, _, hG, _, _⟩ := HI0.out
  exact cellS51_2 hG
 have hne := World.new_ne w _ hcl
 go_enter Tryd.func35, Tryd.ntmps35
 go_wp2
 go_region_held3 (fun w' => w'.cell? ⟨g, 2, none⟩ = some (.int .i64 b4)) (go_keep)
  (first | (go_at_call 53; (with_reducible refine (lexer_scanner_span_at_name_1.calls k g b2 s0_1 b4 s0_3 b1 b2 b3 b4 w0 _ ?side1 ?side2 AS.out).mono ?_); (case side1 => repeat (first | (with_reducible first | exact HI0.out | apply IsS51.alloc | apply IsS51.drewN | apply IsS51.drew) | exact HI0.out)); (case side2 => repeat (first | (with_reducible first | exact HB.out | apply below_alloc | apply pw_below_drewN | apply below_drew1) | exact HB.out)); rintro e w9 ⟨rfl, hi, hb, hk⟩; have hc9 : w9.cell? ⟨g, 2, none⟩ = some (.int .i64 b4) := (by obtain ⟨_, _, hG, _, _⟩ := hi; exact cellS51_2 hG); have hn9 := World.new_ne w9 _ hc9; have hgw : g < w.heap.size := IsS51.lt HI0.out; have hgn : ¬ w.heap.size + 1 = g := (by omega); have hgn' : ¬ g = w.heap.size + 1 := (by omega); have hgm : ¬ w.heap.size = g := (by omega); have hgm' : ¬ g = w.heap.size := (by omega); have HBR := Aside0.mk (show w9.heap[w.heap.size]? = some (.cells #[.int .i64 0, .int .i64 0, .string (⟨#[]⟩ : ByteArray), .int .i64 0] 36 (0, 0)) from KeepBut.blk hk (g' := w.heap.size) (by (first | refine blk_drew ?_ | skip); repeat (first | exact heap_alloc_new w _ | refine blk_alloc ?_ _)) (by omega) (by simp)); (try (have hbt : w9.heap[w.heap.size + 1]? = some (.cells #[.int .i64 0, .int .i64 0, .string (⟨#[]⟩ : ByteArray), .int .i64 0] 36 (0, 0)) := (KeepBut.blk hk (g' := w.heap.size + 1) (o := .cells #[.int .i64 0, .int .i64 0, .string (⟨#[]⟩ : ByteArray), .int .i64 0] 36 (0, 0)) (by (first | refine blk_drew ?_ | skip); simpa using heap_alloc_new (w.alloc _) (.cells #[.int .i64 0, .int .i64 0, .string (⟨#[]⟩ : ByteArray), .int .i64 0] 36)) (by omega) (by simp)); have hq0 : w9.cell? ⟨w.heap.size + 1, 0, none⟩ = some (.int .i64 0) := (blk_cell hbt 0).trans rfl; have hq1 : w9.cell? ⟨w.heap.size + 1, 1, none⟩ = some (.int .i64 0) := (blk_cell hbt 1).trans rfl; have hq2 : w9.cell? ⟨w.heap.size + 1, 2, none⟩ = some (.string (⟨#[]⟩ : ByteArray)) := (blk_cell hbt 2).trans rfl; have hq3 : w9.cell? ⟨w.heap.size + 1, 3, none⟩ = some (.int .i64 0) := (blk_cell hbt 3).trans rfl; have hz0 := blk_frozen hbt 0; have hz1 := blk_frozen hbt 1; have hz2 := blk_frozen hbt 2; have hz3 := blk_frozen hbt 3; have hbt' := Aside0.mk hbt; clear hbt)); have HI9 := Aside0.mk hi; have HB9 := Aside0.mk hb; have HK9 := Aside0.mk (KeepBut.trans (show KeepBut w _ g none from (by repeat (first | exact KeepBut.refl w g none | apply keep_alloc | apply keep_drewN | apply keep_drew))) hk (.inl rfl)); clear hi hb hk hgw))
 all_goals
  have hw0 : w0.heap.size ≤ w.heap.size := HB.out.size
  have hgw : g < w.heap.size := IsS51.lt HI0.out
  have hw9 : w.heap.size < w9.heap.size := blk_lt HBR.out
  first
  | (have hb_ := hbt'.out; refine gen_w (P := Exit.then _ _ _) (F := fun W => (w.heap.size + 1) ≠ w.heap.size ∧ (w.heap.size + 1) ≠ g ∧ w.heap.size ≤ (w.heap.size + 1) ∧ g ≠ w.heap.size ∧ W.heap[(w.heap.size + 1)]? = some (.cells #[.int .i64 1, .int .i64 b4, .string b1, .int .i64 0] 36 (0, 0)) ∧ W.heap[w.heap.size]? = some (.cells #[.int .i64 0, .int .i64 0, .string (⟨#[]⟩ : ByteArray), .int .i64 0] 36 (0, 0)) ∧ IsS51 w0 W g b2 b3 b4 s0_3 ∧ Below w0.heap.size w0 W ∧ KeepBut w W g none) ⟨Nat.succ_ne_self _, hgn, Nat.le_succ _, hgm', by refine blk_put (cs := #[.int .i64 1, .int .i64 b4, .string b1, .int .i64 0]) ?_ 3 _ rfl; refine blk_put (cs := #[.int .i64 1, .int .i64 b4, .string (⟨#[]⟩ : ByteArray), .int .i64 0]) ?_ 2 _ rfl; refine blk_put (cs := #[.int .i64 1, .int .i64 0, .string (⟨#[]⟩ : ByteArray), .int .i64 0]) ?_ 1 _ rfl; refine blk_put (cs := #[.int .i64 0, .int .i64 0, .string (⟨#[]⟩ : ByteArray), .int .i64 0]) ?_ 0 _ rfl; exact hbt'.out,
    by (with_reducible refine blk_far (blk_far (blk_far (blk_far HBR.out ?_ _) ?_ _) ?_ _) ?_ _) <;> exact (Nat.ne_of_lt (Nat.lt_succ_self _)), by repeat (first | exact HI9.out | refine IsS51.far ?_ (by simp; omega) _), by repeat (first | exact HB9.out | refine below_set ?_ (Nat.le_trans hw0 (Nat.le_succ _))), by (with_reducible refine keep_far (keep_far (keep_far (keep_far HK9.out ?_ _) ?_ _) ?_ _) ?_ _) <;> (show w.heap.size ≤ w.heap.size + 1; exact Nat.le_succ _)⟩ ?_; clear hbt'; generalize w.heap.size + 1 = gt at *)
  | (refine gen_w (P := Exit.then _ _ _) (F := fun W => (w9.heap.size) ≠ w.heap.size ∧ (w9.heap.size) ≠ g ∧ w.heap.size ≤ (w9.heap.size) ∧ g ≠ w.heap.size ∧ W.heap[(w9.heap.size)]? = some (.cells #[.int .i64 1, .int .i64 b4, .string b1, .int .i64 0] 36 (0, 0)) ∧ W.heap[w.heap.size]? = some (.cells #[.int .i64 0, .int .i64 0, .string (⟨#[]⟩ : ByteArray), .int .i64 0] 36 (0, 0)) ∧ IsS51 w0 W g b2 b3 b4 s0_3 ∧ Below w0.heap.size w0 W ∧ KeepBut w W g none) ⟨Nat.ne_of_gt hw9, Nat.ne_of_gt (Nat.lt_trans hgw hw9), Nat.le_of_lt hw9, hgm', by repeat (first | exact heap_alloc_new w9 _ | refine blk_drew ?_ | refine blk_drewN ?_ _), by repeat (first | exact HBR.out | refine blk_drew ?_ | refine blk_alloc ?_ _), by repeat (first | exact HI9.out | refine IsS51.drew ?_ | refine IsS51.alloc ?_ _), by repeat (first | exact HB9.out | refine below_drew1 ?_ | refine below_alloc ?_ _), by repeat (first | exact HK9.out | refine keep_drew ?_ | refine keep_alloc ?_ _)⟩ ?_; generalize w9.heap.size = gt at *)
  rintro W ⟨n1, n2, n3, n4, hbt, hbr, hi, hb, hk⟩
  replace hw0 := Aside0.mk hw0
  have hfar := Aside0.mk (show g ≠ (⟨w.heap.size, 0, none⟩ : Addr).block from n4)
  have hfarT := Aside0.mk (show g ≠ (⟨gt, 0, none⟩ : Addr).block from fun e => n2 e.symm)
  have HI2 := Aside0.mk hi
  have HB2 := Aside0.mk hb
  have HK2 := Aside0.mk hk
  have HT := Aside0.mk hbt
  have HR := Aside0.mk hbr
  clear hi hb hk HI9 HB9 HK9 HBR
  have tq0 : W.cell? ⟨gt, 0, none⟩ = some (.int .i64 1) := (blk_cell HT.out 0).trans rfl
  have tz0 := blk_frozen HT.out 0
  have tq1 : W.cell? ⟨gt, 1, none⟩ = some (.int .i64 b4) := (blk_cell HT.out 1).trans rfl
  have tz1 := blk_frozen HT.out 1
  have tq2 : W.cell? ⟨gt, 2, none⟩ = some (.string b1) := (blk_cell HT.out 2).trans rfl
  have tz2 := blk_frozen HT.out 2
  have tq3 : W.cell? ⟨gt, 3, none⟩ = some (.int .i64 0) := (blk_cell HT.out 3).trans rfl
  have tz3 := blk_frozen HT.out 3
  have rq0 : W.cell? ⟨w.heap.size, 0, none⟩ = some (.int .i64 0) := (blk_cell HR.out 0).trans rfl
  have rz0 := blk_frozen HR.out 0
  have rq1 : W.cell? ⟨w.heap.size, 1, none⟩ = some (.int .i64 0) := (blk_cell HR.out 1).trans rfl
  have rz1 := blk_frozen HR.out 1
  have rq2 : W.cell? ⟨w.heap.size, 2, none⟩ = some (.string (⟨#[]⟩ : ByteArray)) := (blk_cell HR.out 2).trans rfl
  have rz2 := blk_frozen HR.out 2
  have rq3 : W.cell? ⟨w.heap.size, 3, none⟩ = some (.int .i64 0) := (blk_cell HR.out 3).trans rfl
  have rz3 := blk_frozen HR.out 3
  clear hbt hbr
  generalize hG : w.heap.size = gr at *
  have hwr : Aside0 (w0.heap.size ≤ gr) := hw0
  have hwT := Aside0.mk (show w0.heap.size ≤ gt from Nat.le_trans hwr.out n3)
  have hkr := Aside0.mk (show w.heap.size ≤ (⟨gr, 0, none⟩ : Addr).block from Nat.le_of_eq hG)
  have hkT := Aside0.mk (show w.heap.size ≤ (⟨gt, 0, none⟩ : Addr).block from Nat.le_trans (Nat.le_of_eq hG) n3)
  clear hw0
  by_cases c : (b1.size : Int) > 12
  ·replace h : (if (b1.size : Int) > 12 then _ else _) = some _ := h
   rw [if_pos c] at h
   simp only [Option.some.injEq, Prod.mk.injEq] at h
   obtain ⟨rfl, rfl, rfl, rfl, rfl, rfl, rfl, rfl⟩ := h
   have c0 : decide ((12 : Int) < (b1.size : Int)) = true := decide_eq_true c
   go_wp2
   refine bodyPost_ret (results_ct rfl _ _ gr 36 #[.int .i64 0, .int .i64 0, .string (⟨#[]⟩ : ByteArray), .int .i64 0] (0, 0) _ rfl (by refine blk_put (cs := #[.int .i64 0, .int .i64 0, .string (⟨#[]⟩ : ByteArray), .int .i64 0]) ?_ 3 _ rfl; refine blk_put (cs := #[.int .i64 0, .int .i64 0, .string (⟨#[]⟩ : ByteArray), .int .i64 0]) ?_ 2 _ rfl; refine blk_put (cs := #[.int .i64 0, .int .i64 0, .string (⟨#[]⟩ : ByteArray), .int .i64 0]) ?_ 1 _ rfl; refine blk_put (cs := #[.int .i64 0, .int .i64 0, .string (⟨#[]⟩ : ByteArray), .int .i64 0]) ?_ 0 _ rfl; exact HR.out) hu rfl (by kernel_rfl)) rfl ?_
   exact ⟨rfl, by repeat (first | (with_reducible exact HI2.out) | (with_reducible refine IsS51.far ?_ hfar.out _) | (with_reducible refine IsS51.far ?_ hfarT.out _)), by repeat (first | (with_reducible exact HB2.out) | (with_reducible refine below_set ?_ hwr.out) | (with_reducible refine below_set ?_ hwT.out)), by repeat (first | (with_reducible exact HK2.out) | (with_reducible refine keep_far ?_ hkr.out _) | (with_reducible refine keep_far ?_ hkT.out _))⟩
  ·replace h : (if (b1.size : Int) > 12 then _ else _) = some _ := h
   rw [if_neg c] at h
   obtain ⟨t, hrs, h⟩ := Option.bind_eq_some_iff.mp h
   have HRS := Aside0.mk hrs
   clear hrs
   simp only [Option.some.injEq, Prod.mk.injEq] at h
   have c0 : decide ((12 : Int) < (b1.size : Int)) = false := decide_eq_false c
   cases t with
   | true =>
    rw [if_pos rfl] at h
    obtain ⟨rfl, rfl, rfl, rfl, rfl, rfl, rfl, rfl⟩ := h
    go_wp2_with (first | (go_at_call 55; (with_reducible refine (lexer_reserved.calls b1 true W HRS.out).mono ?_); rintro e w2 ⟨rfl, hb2⟩; have HI3 := Aside0.mk (IsS51.below HI2.out hb2); have HB3 := Aside0.mk (below_step HB2.out hb2); have HK3 := Aside0.mk (KeepBut.trans HK2.out (KeepBut.of_below hb2 g none) (.inl rfl)); have HT3 := Aside0.mk (blk_below HT.out hb2); have HR3 := Aside0.mk (blk_below HR.out hb2); clear HI2 HB2 HK2 HT HR; clear hb2; have uq0 : w2.cell? ⟨gt, 0, none⟩ = some (.int .i64 1) := (blk_cell HT3.out 0).trans rfl; have uz0 := blk_frozen HT3.out 0; have uq1 : w2.cell? ⟨gt, 1, none⟩ = some (.int .i64 b4) := (blk_cell HT3.out 1).trans rfl; have uz1 := blk_frozen HT3.out 1; have uq2 : w2.cell? ⟨gt, 2, none⟩ = some (.string b1) := (blk_cell HT3.out 2).trans rfl; have uz2 := blk_frozen HT3.out 2; have uq3 : w2.cell? ⟨gt, 3, none⟩ = some (.int .i64 0) := (blk_cell HT3.out 3).trans rfl; have uz3 := blk_frozen HT3.out 3; have vq0 : w2.cell? ⟨gr, 0, none⟩ = some (.int .i64 0) := (blk_cell HR3.out 0).trans rfl; have vz0 := blk_frozen HR3.out 0; have vq1 : w2.cell? ⟨gr, 1, none⟩ = some (.int .i64 0) := (blk_cell HR3.out 1).trans rfl; have vz1 := blk_frozen HR3.out 1; have vq2 : w2.cell? ⟨gr, 2, none⟩ = some (.string (⟨#[]⟩ : ByteArray)) := (blk_cell HR3.out 2).trans rfl; have vz2 := blk_frozen HR3.out 2; have vq3 : w2.cell? ⟨gr, 3, none⟩ = some (.int .i64 0) := (blk_cell HR3.out 3).trans rfl; have vz3 := blk_frozen HR3.out 3))
    refine bodyPost_ret (results_ct rfl _ _ gr 36 #[.int .i64 3, .int .i64 b4, .string b1, .int .i64 0] (0, 0) _ rfl (by refine blk_put (cs := #[.int .i64 3, .int .i64 b4, .string b1, .int .i64 0]) ?_ 3 _ rfl; refine blk_put (cs := #[.int .i64 3, .int .i64 b4, .string (⟨#[]⟩ : ByteArray), .int .i64 0]) ?_ 2 _ rfl; refine blk_put (cs := #[.int .i64 3, .int .i64 0, .string (⟨#[]⟩ : ByteArray), .int .i64 0]) ?_ 1 _ rfl; refine blk_put (cs := #[.int .i64 0, .int .i64 0, .string (⟨#[]⟩ : ByteArray), .int .i64 0]) ?_ 0 _ rfl; refine blk_far ?_ (fun e => n1 e.symm) _; exact HR3.out) hu rfl (by kernel_rfl)) rfl ?_
    exact ⟨rfl, by repeat (first | (with_reducible exact HI3.out) | (with_reducible refine IsS51.far ?_ hfar.out _) | (with_reducible refine IsS51.far ?_ hfarT.out _)), by repeat (first | (with_reducible exact HB3.out) | (with_reducible refine below_set ?_ hwr.out) | (with_reducible refine below_set ?_ hwT.out)), by repeat (first | (with_reducible exact HK3.out) | (with_reducible refine keep_far ?_ hkr.out _) | (with_reducible refine keep_far ?_ hkT.out _))⟩
   | false =>
    rw [if_neg (by decide)] at h
    obtain ⟨rfl, rfl, rfl, rfl, rfl, rfl, rfl, rfl⟩ := h
    go_wp2_with (first | (go_at_call 55; (with_reducible refine (lexer_reserved.calls b1 false W HRS.out).mono ?_); rintro e w2 ⟨rfl, hb2⟩; have HI3 := Aside0.mk (IsS51.below HI2.out hb2); have HB3 := Aside0.mk (below_step HB2.out hb2); have HK3 := Aside0.mk (KeepBut.trans HK2.out (KeepBut.of_below hb2 g none) (.inl rfl)); have HT3 := Aside0.mk (blk_below HT.out hb2); have HR3 := Aside0.mk (blk_below HR.out hb2); clear HI2 HB2 HK2 HT HR; clear hb2; have uq0 : w2.cell? ⟨gt, 0, none⟩ = some (.int .i64 1) := (blk_cell HT3.out 0).trans rfl; have uz0 := blk_frozen HT3.out 0; have uq1 : w2.cell? ⟨gt, 1, none⟩ = some (.int .i64 b4) := (blk_cell HT3.out 1).trans rfl; have uz1 := blk_frozen HT3.out 1; have uq2 : w2.cell? ⟨gt, 2, none⟩ = some (.string b1) := (blk_cell HT3.out 2).trans rfl; have uz2 := blk_frozen HT3.out 2; have uq3 : w2.cell? ⟨gt, 3, none⟩ = some (.int .i64 0) := (blk_cell HT3.out 3).trans rfl; have uz3 := blk_frozen HT3.out 3; have vq0 : w2.cell? ⟨gr, 0, none⟩ = some (.int .i64 0) := (blk_cell HR3.out 0).trans rfl; have vz0 := blk_frozen HR3.out 0; have vq1 : w2.cell? ⟨gr, 1, none⟩ = some (.int .i64 0) := (blk_cell HR3.out 1).trans rfl; have vz1 := blk_frozen HR3.out 1; have vq2 : w2.cell? ⟨gr, 2, none⟩ = some (.string (⟨#[]⟩ : ByteArray)) := (blk_cell HR3.out 2).trans rfl; have vz2 := blk_frozen HR3.out 2; have vq3 : w2.cell? ⟨gr, 3, none⟩ = some (.int .i64 0) := (blk_cell HR3.out 3).trans rfl; have vz3 := blk_frozen HR3.out 3))
    refine bodyPost_ret (results_ct rfl _ _ gr 36 #[.int .i64 1, .int .i64 b4, .string b1, .int .i64 0] (0, 0) _ rfl (by refine blk_put (cs := #[.int .i64 1, .int .i64 b4, .string b1, .int .i64 0]) ?_ 3 _ rfl; refine blk_put (cs := #[.int .i64 1, .int .i64 b4, .string (⟨#[]⟩ : ByteArray), .int .i64 0]) ?_ 2 _ rfl; refine blk_put (cs := #[.int .i64 1, .int .i64 0, .string (⟨#[]⟩ : ByteArray), .int .i64 0]) ?_ 1 _ rfl; refine blk_put (cs := #[.int .i64 0, .int .i64 0, .string (⟨#[]⟩ : ByteArray), .int .i64 0]) ?_ 0 _ rfl; exact HR3.out) hu rfl (by kernel_rfl)) rfl ?_
    exact ⟨rfl, by repeat (first | (with_reducible exact HI3.out) | (with_reducible refine IsS51.far ?_ hfar.out _) | (with_reducible refine IsS51.far ?_ hfarT.out _)), by repeat (first | (with_reducible exact HB3.out) | (with_reducible refine below_set ?_ hwr.out) | (with_reducible refine below_set ?_ hwT.out)), by repeat (first | (with_reducible exact HK3.out) | (with_reducible refine keep_far ?_ hkr.out _) | (with_reducible refine keep_far ?_ hkT.out _))⟩

end Go.Proofs.YtoflkheiidhblaaDoor.PLex
