-- By wip/xprint.py (a driver of this session's over the kit's print), for this claim.
import Derived.Test.YtoflkheiidhblaaDoorPLexx0
import Derived.Test.YtoflkheiidhblaaDoorPLexx3
namespace Go.Proofs.YtoflkheiidhblaaDoor.PLex
open Go.RowKit Go.Proofs.YtoflkheiidhblaaDoorW.PrintWords Go.Proofs.YtoflkheiidhblaaDoorW.PrintLast Go.Proofs.YtoflkheiidhblaaDoorW.PrintMore
attribute [local go_sem] max2_int min2_int max_two min_two max_three min_three max_four min_four   -- for this text's walks alone
set_option linter.unusedVariables false
set_option linter.unusedSimpArgs false

/-- A state of type 51 at block g of W; what its slices lead to came in by w0. -/
def IsS51 (w0 W : World) (g : Nat) (f0 : ByteArray) (f1 : Int) (f2 : Int) (f3 : Value) : Prop := ∃ (A3 c3 : Unit), W.heap[g]? = some (.cells #[.string f0, .int .i64 f1, .int .i64 f2, f3] 51 (0, 0)) ∧ w0.heap.size ≤ g ∧ True
theorem IsS51.grown {w0 W : World} {g : Nat} {f0 : ByteArray} {f1 : Int} {f2 : Int} {f3 : Value} {W1 : World} {row : Option Nat} (h : IsS51 w0 W g f0 f1 f2 f3) (hw : W.grownBy W1 row) (hne : some g ≠ row) : IsS51 w0 W1 g f0 f1 f2 f3 := by
 obtain ⟨A3, c3, hb, hg, hr3⟩ := h
 exact ⟨A3, c3, blk_grown hb hw hne, hg, hr3⟩
theorem IsS51.own_neN {w0 W : World} {g : Nat} {f0 : ByteArray} {f1 : Int} {f2 : Int} {f3 : Value} {α : Type} {d : Kd α} {e : Nat} {base : Nat} {ok : Nat → Prop} {v : Value} {xs : List α} (h : IsS51 w0 W g f0 f1 f2 f3) (ho : Kd.N d e W base ok v xs) (ht : e ≠ 51) : some g ≠ v.ownBlock := by
 obtain ⟨A3, c3, hb, hg, hr3⟩ := h
 exact Kd.N_ne ho hb ht
theorem IsS51.fresh {w0 W : World} {g : Nat} {f0 : ByteArray} {f1 : Int} {f2 : Int} {f3 : Value} (h : IsS51 w0 W g f0 f1 f2 f3) : ∀ k, W.heap.size ≤ k → k ≠ g := by
 obtain ⟨A3, c3, hb, hg, hr3⟩ := h
 exact Kd.freshB hb
theorem IsS51.kept {w0 W : World} {g : Nat} {f0 : ByteArray} {f1 : Int} {f2 : Int} {f3 : Value} {W1 : World} {S : Nat → Prop} (h : IsS51 w0 W g f0 f1 f2 f3) (hk : Kept W W1 S) (hne : ¬ S g) : IsS51 w0 W1 g f0 f1 f2 f3 := by
 obtain ⟨A3, c3, hb, hg, hr3⟩ := h
 exact ⟨A3, c3, blk_kept hb hk hne, hg, hr3⟩
theorem IsS51.below {w0 W : World} {g : Nat} {f0 : ByteArray} {f1 : Int} {f2 : Int} {f3 : Value} {W1 : World} (h : IsS51 w0 W g f0 f1 f2 f3) (hw : Below W.heap.size W W1) : IsS51 w0 W1 g f0 f1 f2 f3 := h.grown (grown_of_below hw none) (by simp)
theorem IsS51.alloc {w0 W : World} {g : Nat} {f0 : ByteArray} {f1 : Int} {f2 : Int} {f3 : Value} (h : IsS51 w0 W g f0 f1 f2 f3) (o : Obj) : IsS51 w0 (W.alloc o) g f0 f1 f2 f3 := h.below (below_alloc (Below.refl _ _) o)
theorem IsS51.drewN {w0 W : World} {g : Nat} {f0 : ByteArray} {f1 : Int} {f2 : Int} {f3 : Value} (h : IsS51 w0 W g f0 f1 f2 f3) (m : Nat) : IsS51 w0 (W.drewN m) g f0 f1 f2 f3 := h
theorem IsS51.drew {w0 W : World} {g : Nat} {f0 : ByteArray} {f1 : Int} {f2 : Int} {f3 : Value} (h : IsS51 w0 W g f0 f1 f2 f3) : IsS51 w0 W.drew g f0 f1 f2 f3 := h
theorem IsS51.at_ {w0 W : World} {g : Nat} {f0 : ByteArray} {f1 : Int} {f2 : Int} {f3 : Value} {w' : World} {m : Nat} (hq : W.drewN m = w') (h : IsS51 w0 W g f0 f1 f2 f3) : IsS51 w0 w' g f0 f1 f2 f3 := by subst hq; exact IsS51.drewN h m
theorem IsS51.apart {w0 W : World} {g : Nat} {f0 : ByteArray} {f1 : Int} {f2 : Int} {f3 : Value} {α : Type} {d : Kd α} {e : Nat} {base : Nat} {ok : Nat → Prop} {v : Value} {xs : List α} (h : IsS51 w0 W g f0 f1 f2 f3) (ho : d.R e W base ok v xs) (ht : ∀ q, q ∈ e :: d.E → q ≠ 51) : d.R e W base (fun k => ok k ∧ k ≠ g) v xs := by
 obtain ⟨A3, c3, hb, hg, hr3⟩ := h
 exact Kd.R_types ho hb ht
theorem IsS51.own_ne {w0 W : World} {g : Nat} {f0 : ByteArray} {f1 : Int} {f2 : Int} {f3 : Value} {α : Type} {d : Kd α} {e : Nat} {base : Nat} {ok : Nat → Prop} {v : Value} {xs : List α} (h : IsS51 w0 W g f0 f1 f2 f3) (ho : d.R e W base ok v xs) (ht : e ≠ 51) : some g ≠ v.ownBlock := by
 obtain ⟨A3, c3, hb, hg, hr3⟩ := h
 exact Kd.R_ne ho hb ht
theorem IsS51.apartQ {w0 W : World} {g : Nat} {f0 : ByteArray} {f1 : Int} {f2 : Int} {f3 : Value} {α : Type} {d : Kd α} {e : Nat} {base : Nat} {ok : Nat → Prop} {v : Value} {xs : List α} (h : IsS51 w0 W g f0 f1 f2 f3) (ho : d.Q e W base ok v xs) (ht : ∀ q, q ∈ e :: d.E → q ≠ 51) : d.Q e W base (fun k => ok k ∧ k ≠ g) v xs := by
 obtain ⟨A3, c3, hb, hg, hr3⟩ := h
 exact Kd.Q_types ho hb ht
theorem IsS51.own_neQ {w0 W : World} {g : Nat} {f0 : ByteArray} {f1 : Int} {f2 : Int} {f3 : Value} {α : Type} {d : Kd α} {e : Nat} {base : Nat} {ok : Nat → Prop} {v : Value} {xs : List α} (h : IsS51 w0 W g f0 f1 f2 f3) (ho : d.Q e W base ok v xs) (ht : e ≠ 51) : some g ≠ v.ownBlock := by
 obtain ⟨A3, c3, hb, hg, hr3⟩ := h
 exact Kd.Q_ne ho hb ht
theorem IsS51.apartS {w0 W : World} {g : Nat} {f0 : ByteArray} {f1 : Int} {f2 : Int} {f3 : Value} {α : Type} {d : Kd α} {e : Nat} {base : Nat} {ok : Nat → Prop} {v : Value} {xs : List α} (h : IsS51 w0 W g f0 f1 f2 f3) (ho : d.S e W base ok v xs) (ht : ∀ q, q ∈ e :: d.E → q ≠ 51) : d.S e W base (fun k => ok k ∧ k ≠ g) v xs := by
 obtain ⟨A3, c3, hb, hg, hr3⟩ := h
 exact Kd.S_types ho hb ht
theorem IsS51.own_neS {w0 W : World} {g : Nat} {f0 : ByteArray} {f1 : Int} {f2 : Int} {f3 : Value} {α : Type} {d : Kd α} {e : Nat} {base : Nat} {ok : Nat → Prop} {v : Value} {xs : List α} (h : IsS51 w0 W g f0 f1 f2 f3) (ho : d.S e W base ok v xs) (ht : e ≠ 51) : some g ≠ v.ownBlock := by
 obtain ⟨A3, c3, hb, hg, hr3⟩ := h
 exact Kd.S_ne ho hb ht
theorem IsS51.lt {w0 W : World} {g : Nat} {f0 : ByteArray} {f1 : Int} {f2 : Int} {f3 : Value} (h : IsS51 w0 W g f0 f1 f2 f3) : g < W.heap.size := by
 obtain ⟨A3, c3, hb, hg, hr3⟩ := h
 exact blk_lt hb
theorem IsS51.ge {w0 W : World} {g : Nat} {f0 : ByteArray} {f1 : Int} {f2 : Int} {f3 : Value} (h : IsS51 w0 W g f0 f1 f2 f3) : w0.heap.size ≤ g := by
 obtain ⟨A3, c3, hb, hg, hr3⟩ := h
 exact hg
theorem IsS51.ne_blk {w0 W : World} {g : Nat} {f0 : ByteArray} {f1 : Int} {f2 : Int} {f3 : Value} {a : Nat} {cs : Array Value} {t : TypeId} {fr : Nat × Nat} (h : IsS51 w0 W g f0 f1 f2 f3) (hb2 : W.heap[a]? = some (.cells cs t fr)) (ht : t ≠ 51) : g ≠ a := by
 obtain ⟨A3, c3, hb, hg, hr3⟩ := h
 rintro rfl
 rw [hb] at hb2
 injection hb2 with hb2
 injection hb2 with _ ht2
 exact ht ht2.symm
theorem IsS51.far {w0 W : World} {g : Nat} {f0 : ByteArray} {f1 : Int} {f2 : Int} {f3 : Value} {p : Addr} (h : IsS51 w0 W g f0 f1 f2 f3) (hne : g ≠ p.block) (u : Value) : IsS51 w0 (W.setCell p u) g f0 f1 f2 f3 := by
 obtain ⟨A3, c3, hb, hg, hr3⟩ := h
 exact ⟨A3, c3, blk_far hb hne u, hg, hr3⟩
theorem cellS51_0 {W : World} {g : Nat} {f0 : ByteArray} {f1 : Int} {f2 : Int} {f3 : Value} (h : W.heap[g]? = some (.cells #[.string f0, .int .i64 f1, .int .i64 f2, f3] 51 (0, 0))) : W.cell? ⟨g, 0, none⟩ = some (.string f0) := (blk_cell h 0).trans rfl
theorem IsS51.set_0 {w0 W : World} {g : Nat} {f0 : ByteArray} {f1 : Int} {f2 : Int} {f3 : Value} (h : IsS51 w0 W g f0 f1 f2 f3) (x : ByteArray) : IsS51 w0 (W.setCell ⟨g, 0, none⟩ (.string x)) g x f1 f2 f3 := by
 obtain ⟨A3, c3, hb, hg, hr3⟩ := h
 exact ⟨A3, c3, by simpa using blk_set hb 0 (.string x), hg, hr3⟩
theorem cellS51_1 {W : World} {g : Nat} {f0 : ByteArray} {f1 : Int} {f2 : Int} {f3 : Value} (h : W.heap[g]? = some (.cells #[.string f0, .int .i64 f1, .int .i64 f2, f3] 51 (0, 0))) : W.cell? ⟨g, 1, none⟩ = some (.int .i64 f1) := (blk_cell h 1).trans rfl
theorem IsS51.set_1 {w0 W : World} {g : Nat} {f0 : ByteArray} {f1 : Int} {f2 : Int} {f3 : Value} (h : IsS51 w0 W g f0 f1 f2 f3) (x : Int) : IsS51 w0 (W.setCell ⟨g, 1, none⟩ (.int .i64 x)) g f0 x f2 f3 := by
 obtain ⟨A3, c3, hb, hg, hr3⟩ := h
 exact ⟨A3, c3, by simpa using blk_set hb 1 (.int .i64 x), hg, hr3⟩
theorem cellS51_2 {W : World} {g : Nat} {f0 : ByteArray} {f1 : Int} {f2 : Int} {f3 : Value} (h : W.heap[g]? = some (.cells #[.string f0, .int .i64 f1, .int .i64 f2, f3] 51 (0, 0))) : W.cell? ⟨g, 2, none⟩ = some (.int .i64 f2) := (blk_cell h 2).trans rfl
theorem IsS51.set_2 {w0 W : World} {g : Nat} {f0 : ByteArray} {f1 : Int} {f2 : Int} {f3 : Value} (h : IsS51 w0 W g f0 f1 f2 f3) (x : Int) : IsS51 w0 (W.setCell ⟨g, 2, none⟩ (.int .i64 x)) g f0 f1 x f3 := by
 obtain ⟨A3, c3, hb, hg, hr3⟩ := h
 exact ⟨A3, c3, by simpa using blk_set hb 2 (.int .i64 x), hg, hr3⟩
theorem cellS51_3 {W : World} {g : Nat} {f0 : ByteArray} {f1 : Int} {f2 : Int} {f3 : Value} (h : W.heap[g]? = some (.cells #[.string f0, .int .i64 f1, .int .i64 f2, f3] 51 (0, 0))) : W.cell? ⟨g, 3, none⟩ = some (f3) := (blk_cell h 3).trans rfl
theorem IsS51.new (w0 W : World) (f0 : ByteArray) (f1 : Int) (f2 : Int) (f3 : Value) (hB : Below w0.heap.size w0 W) : IsS51 w0 (W.alloc (.cells #[.string f0, .int .i64 f1, .int .i64 f2, f3] 51)) W.heap.size f0 f1 f2 f3 := ⟨(), (), by simpa using heap_alloc_new W _, hB.size, trivial⟩

/-! ### lexer_scanner_skip: function 22 -/
mutual
def lexer_scanner_skip.l0 : Nat → ByteArray → Int → Int → Value → Option (ByteArray × Int × Int)
 | 0, _, _, _, _ => none
 | k + 1, x1000, x1001, x1002, x1003 => if x1001 < (x1000.size : Int) then (if 0 ≤ x1001 then (if (bt x1000 x1001) = 10 then (lexer_scanner_skip.l0 k x1000 (wrap64 (x1001 + 1)) (wrap64 (x1002 + 1)) x1003) else (if (bt x1000 x1001) = 32 then (lexer_scanner_skip.j1 k true x1000 x1001 x1002 x1003) else (if (bt x1000 x1001) = 9 then (lexer_scanner_skip.j1 k true x1000 x1001 x1002 x1003) else (lexer_scanner_skip.j1 k ((bt x1000 x1001) == 13) x1000 x1001 x1002 x1003)))) else (none)) else (some (x1000, x1001, x1002))
def lexer_scanner_skip.j1 : Nat → Bool → ByteArray → Int → Int → Value → Option (ByteArray × Int × Int)
 | 0, _, _, _, _, _ => none
 | k + 1, x39, x1000, x1001, x1002, x1003 => if x39 = true then (lexer_scanner_skip.l0 k x1000 (wrap64 (x1001 + 1)) x1002 x1003) else (if 0 ≤ x1001 then (if x1001 ≤ (x1000.size : Int) then ((strings_HasPrefix.f (x1000.extract (x1001 : Int).toNat x1000.size) (⟨#[47, 47]⟩ : ByteArray)).bind fun t102 => (if t102 = true then (lexer_scanner_skip.l1 k x1000 x1001 x1002 x1003) else (some (x1000, x1001, x1002)))) else (none)) else (none))
def lexer_scanner_skip.l1 : Nat → ByteArray → Int → Int → Value → Option (ByteArray × Int × Int)
 | 0, _, _, _, _ => none
 | k + 1, x1000, x1001, x1002, x1003 => if x1001 < (x1000.size : Int) then (if 0 ≤ x1001 then (if (bt x1000 x1001) = 10 then (lexer_scanner_skip.l0 k x1000 x1001 x1002 x1003) else (lexer_scanner_skip.l1 k x1000 (wrap64 (x1001 + 1)) x1002 x1003)) else (none)) else (lexer_scanner_skip.l0 k x1000 x1001 x1002 x1003)
end
def lexer_scanner_skip.f (k : Nat) (s0_0 : ByteArray) (s0_1 : Int) (s0_2 : Int) (s0_3 : Value) : Option (ByteArray × Int × Int) := lexer_scanner_skip.l0 k s0_0 s0_1 s0_2 s0_3
theorem lexer_scanner_skip.mono_l : ∀ k, (∀ y0 y1 y2 y3, LeO (lexer_scanner_skip.l0 k y0 y1 y2 y3) (lexer_scanner_skip.l0 (k + 1) y0 y1 y2 y3)) ∧ (∀ y0 y1 y2 y3 y4, LeO (lexer_scanner_skip.j1 k y0 y1 y2 y3 y4) (lexer_scanner_skip.j1 (k + 1) y0 y1 y2 y3 y4)) ∧ (∀ y0 y1 y2 y3, LeO (lexer_scanner_skip.l1 k y0 y1 y2 y3) (lexer_scanner_skip.l1 (k + 1) y0 y1 y2 y3))
 | 0 => ⟨fun _ _ _ _ r h => by simp [lexer_scanner_skip.l0] at h, fun _ _ _ _ _ r h => by simp [lexer_scanner_skip.j1] at h, fun _ _ _ _ r h => by simp [lexer_scanner_skip.l1] at h⟩
 | k + 1 => by
  obtain ⟨ih0, ih1, ih2⟩ := lexer_scanner_skip.mono_l k
  refine ⟨?_, ?_, ?_⟩
  ·intro y0 y1 y2 y3
   unfold lexer_scanner_skip.l0
   repeat' first
   | (with_reducible exact ih0 _ _ _ _)
   | (with_reducible exact ih1 _ _ _ _ _)
   | (with_reducible exact ih2 _ _ _ _)
   | (with_reducible exact LeO.refl _)
   | (with_reducible exact LeO.none _)
   | (with_reducible refine LeO.ite ?_ ?_)
   | (with_reducible refine LeO.bind ?_ (fun _ => ?_))
   | exact ih0 _ _ _ _
   | exact ih1 _ _ _ _ _
   | exact ih2 _ _ _ _
   | exact LeO.none _
   | refine LeO.ite ?_ ?_
   | refine LeO.bind ?_ (fun _ => ?_)
  ·intro y0 y1 y2 y3 y4
   unfold lexer_scanner_skip.j1
   repeat' first
   | (with_reducible exact ih0 _ _ _ _)
   | (with_reducible exact ih1 _ _ _ _ _)
   | (with_reducible exact ih2 _ _ _ _)
   | (with_reducible exact LeO.refl _)
   | (with_reducible exact LeO.none _)
   | (with_reducible refine LeO.ite ?_ ?_)
   | (with_reducible refine LeO.bind ?_ (fun _ => ?_))
   | exact ih0 _ _ _ _
   | exact ih1 _ _ _ _ _
   | exact ih2 _ _ _ _
   | exact LeO.none _
   | refine LeO.ite ?_ ?_
   | refine LeO.bind ?_ (fun _ => ?_)
  ·intro y0 y1 y2 y3
   unfold lexer_scanner_skip.l1
   repeat' first
   | (with_reducible exact ih0 _ _ _ _)
   | (with_reducible exact ih1 _ _ _ _ _)
   | (with_reducible exact ih2 _ _ _ _)
   | (with_reducible exact LeO.refl _)
   | (with_reducible exact LeO.none _)
   | (with_reducible refine LeO.ite ?_ ?_)
   | (with_reducible refine LeO.bind ?_ (fun _ => ?_))
   | exact ih0 _ _ _ _
   | exact ih1 _ _ _ _ _
   | exact ih2 _ _ _ _
   | exact LeO.none _
   | refine LeO.ite ?_ ?_
   | refine LeO.bind ?_ (fun _ => ?_)
theorem lexer_scanner_skip.mono : ∀ a0 a1 a2 a3 k, LeO (lexer_scanner_skip.f k a0 a1 a2 a3) (lexer_scanner_skip.f (k + 1) a0 a1 a2 a3) := by
 intro a0 a1 a2 a3 k
 obtain ⟨ih0, ih1, ih2⟩ := lexer_scanner_skip.mono_l k
 unfold lexer_scanner_skip.f
 repeat' first
   | (with_reducible exact ih0 _ _ _ _)
   | (with_reducible exact ih1 _ _ _ _ _)
   | (with_reducible exact ih2 _ _ _ _)
   | (with_reducible exact LeO.refl _)
   | (with_reducible exact LeO.none _)
   | (with_reducible refine LeO.ite ?_ ?_)
   | (with_reducible refine LeO.bind ?_ (fun _ => ?_))
   | exact ih0 _ _ _ _
   | exact ih1 _ _ _ _ _
   | exact ih2 _ _ _ _
   | exact LeO.none _
   | refine LeO.ite ?_ ?_
   | refine LeO.bind ?_ (fun _ => ?_)
set_option maxHeartbeats 8000000 in
set_option maxRecDepth 100000 in
theorem lexer_scanner_skip.calls (k : Nat) (g : Nat) (s0_0 : ByteArray) (s0_1 : Int) (s0_2 : Int) (s0_3 : Value) (r1 : ByteArray) (r2 : Int) (r3 : Int) (w0 w : World) (hI : IsS51 w0 w g s0_0 s0_1 s0_2 s0_3) (hB : Below w0.heap.size w0 w) (h : lexer_scanner_skip.f k s0_0 s0_1 s0_2 s0_3 = some (r1, r2, r3)) :
  Calls Tryd.prog 22 #[.pointer (some ⟨g, 0, none⟩)] w fun e w' => e = .returned (.tuple #[]) ∧ IsS51 w0 w' g r1 r2 r3 s0_3 ∧ Below w0.heap.size w0 w' ∧ KeepBut w w' g none := by
 have HI0 := Aside0.mk hI
 have HK := Aside0.mk (KeepBut.refl w g none)
 have HL := Aside0.mk hB.size
 clear hI
 have HW0 := Aside0.mk hB.size
 have HB := Aside0.mk hB
 clear hB
 have H : (lexer_scanner_skip.l0 k s0_0 s0_1 s0_2 s0_3) = some (r1, r2, r3) := h
 clear h
 have H' := Aside0.mk H
 clear H
 go_enter Tryd.func22, Tryd.ntmps22
 go_wp2
 repeat (go_quiet (fail); try go_wp2)
 go_loopg [] k (fun kq w' => ∃ (x1001_1 : Int) (x1002_1 : Int), Aside0 (lexer_scanner_skip.l0 kq s0_0 x1001_1 x1002_1 s0_3 = some (r1, r2, r3)) ∧ Aside0 (kq ≤ k) ∧ Aside0 (IsS51 w0 w' g s0_0 x1001_1 x1002_1 s0_3) ∧ Aside0 (KeepBut w w' g none) ∧ Aside0 (Below w0.heap.size w0 w'))
 case atStart => exact ⟨(s0_1), (s0_2), H', ⟨Nat.le_refl _⟩, ⟨by repeat (first | (with_reducible first | exact HI0.out | apply IsS51.alloc | apply IsS51.drewN | apply IsS51.drew | apply IsS51.set_0 | apply IsS51.set_1 | apply IsS51.set_2) | exact HI0.out)⟩, ⟨by repeat (first | (with_reducible first | exact HK.out | apply KeepBut.set_ | apply keep_drewN | apply keep_drew | apply keep_alloc) | exact HK.out)⟩, ⟨by repeat (first | (with_reducible first | exact HB.out | apply below_alloc | apply pw_below_drewN | apply below_drew1 | refine below_set ?_ (IsS51.ge HI0.out)) | exact HB.out)⟩⟩
 case round =>
  clear H'
  obtain ⟨x1001_1, x1002_1, HA, HK1, HI0, HK, HB⟩ := hrel
  cases gk with
  | zero => exact absurd HA.out (by simp [lexer_scanner_skip.l0])
  | succ k1 =>
   have H := HA.out
   clear HA
   simp only [lexer_scanner_skip.l0] at H
   by_cases c2 : x1001_1 < (s0_0.size : Int)
   ·rw [if_pos c2] at H
    have c2b0 : decide (x1001_1 < (s0_0.size : Int)) = true := decide_eq_true c2
    clear c2
    by_cases c3 : 0 ≤ x1001_1
    ·rw [if_pos c3] at H
     have c3b0 : decide (0 ≤ x1001_1) = true := decide_eq_true c3
     clear c3
     by_cases c5 : (bt s0_0 x1001_1) = 10
     ·rw [if_pos c5] at H
      have c5b0 : ((bt s0_0 x1001_1) == 10) = true := beq_iff_eq.mpr c5
      have c5b1 : ((bt s0_0 x1001_1) != 10) = false := bne_eq_false_iff_eq.mpr c5
      clear c5
      have H' := Aside0.mk H
      clear H
      obtain ⟨ASz6_3, cSz6_3, HGz6, hgz6, HSz6_3⟩ := HI0.out
      have hcz6_0 := cellS51_0 HGz6
      have hcz6_1 := cellS51_1 HGz6
      have hcz6_2 := cellS51_2 HGz6
      have hcz6_3 := cellS51_3 HGz6
      have hfz6_0 := blk_frozen HGz6 0
      have hfz6_1 := blk_frozen HGz6 1
      have hfz6_2 := blk_frozen HGz6 2
      clear HGz6 hgz6
      have p4 : 0 ≤ (x1001_1 : Int) := of_decide_eq_true Za
      have q4 : x1001_1 < (s0_0.size : Int) := of_decide_eq_true Za
      have hx4 := bt_at s0_0 x1001_1
      replace p4 := eq_true p4
      replace q4 := eq_true q4
      go_wp2
      repeat (go_quiet (fail); try go_wp2)
      go_roundg k1
      case measure => have := HK1.out; omega
      case rel => exact ⟨(wrap64 (x1001_1 + 1)), (wrap64 (x1002_1 + 1)), H', ⟨by have := HK1.out; omega⟩, ⟨by repeat (first | (with_reducible first | exact HI0.out | apply IsS51.alloc | apply IsS51.drewN | apply IsS51.drew | apply IsS51.set_0 | apply IsS51.set_1 | apply IsS51.set_2) | exact HI0.out)⟩, ⟨by repeat (first | (with_reducible first | exact HK.out | apply KeepBut.set_ | apply keep_drewN | apply keep_drew | apply keep_alloc) | exact HK.out)⟩, ⟨by repeat (first | (with_reducible first | exact HB.out | apply below_alloc | apply pw_below_drewN | apply below_drew1 | refine below_set ?_ (IsS51.ge HI0.out)) | exact HB.out)⟩⟩
     ·rw [if_neg c5] at H
      have c5b0 : ((bt s0_0 x1001_1) == 10) = false := beq_eq_false_iff_ne.mpr c5
      have c5b1 : ((bt s0_0 x1001_1) != 10) = true := bne_iff_ne.mpr c5
      have HC7 := Aside0.mk H
      clear H
      obtain ⟨ASz8_3, cSz8_3, HGz8, hgz8, HSz8_3⟩ := HI0.out
      have hcz8_0 := cellS51_0 HGz8
      have hcz8_1 := cellS51_1 HGz8
      have hcz8_2 := cellS51_2 HGz8
      have hcz8_3 := cellS51_3 HGz8
      have hfz8_0 := blk_frozen HGz8 0
      have hfz8_1 := blk_frozen HGz8 1
      have hfz8_2 := blk_frozen HGz8 2
      clear HGz8 hgz8
      have p4 : 0 ≤ (x1001_1 : Int) := of_decide_eq_true Za
      have q4 : x1001_1 < (s0_0.size : Int) := of_decide_eq_true Za
      have hx4 := bt_at s0_0 x1001_1
      replace p4 := eq_true p4
      replace q4 := eq_true q4
      go_upto_region 5 with (fail)
      repeat (go_quiet (fail); go_upto_region 5 with (fail))
      go_cut [39] (fun v39 wc => ∃ (kq : Nat) (x39_6 : Bool), v39 = .bool x39_6 ∧ Aside0 (lexer_scanner_skip.j1 kq x39_6 s0_0 x1001_1 x1002_1 s0_3 = some (r1, r2, r3)) ∧ Aside0 (kq ≤ k1) ∧ Aside0 (IsS51 w0 wc g s0_0 x1001_1 x1002_1 s0_3) ∧ Aside0 (KeepBut w wc g none) ∧ Aside0 (Below w0.heap.size w0 wc))
      case first =>
       have H := HC7.out
       clear HC7
       by_cases c9 : (bt s0_0 x1001_1) = 32
       ·rw [if_pos c9] at H
        have c9b0 : ((bt s0_0 x1001_1) == 32) = true := beq_iff_eq.mpr c9
        have c9b1 : ((bt s0_0 x1001_1) != 32) = false := bne_eq_false_iff_eq.mpr c9
        clear c9
        (first | rw [c9b0] | (simp only [i64_w, i32_w]; rw [c9b0]) | skip)
        have H' := Aside0.mk H
        clear H
        go_wp2
        repeat (go_quiet (fail); try go_wp2)
        go_meet
        case rel => exact ⟨_, (true), (by first | rfl | (simp; done) | (simp [*]; done)), H', ⟨by have := HK1.out; first | omega | exact Nat.le_refl _⟩, ⟨by repeat (first | (with_reducible first | exact HI0.out | apply IsS51.alloc | apply IsS51.drewN | apply IsS51.drew | apply IsS51.set_0 | apply IsS51.set_1 | apply IsS51.set_2) | exact HI0.out)⟩, ⟨by repeat (first | (with_reducible first | exact HK.out | apply KeepBut.set_ | apply keep_drewN | apply keep_drew | apply keep_alloc) | exact HK.out)⟩, ⟨by repeat (first | (with_reducible first | exact HB.out | apply below_alloc | apply pw_below_drewN | apply below_drew1 | refine below_set ?_ (IsS51.ge HI0.out)) | exact HB.out)⟩⟩
       ·rw [if_neg c9] at H
        have c9b0 : ((bt s0_0 x1001_1) == 32) = false := beq_eq_false_iff_ne.mpr c9
        have c9b1 : ((bt s0_0 x1001_1) != 32) = true := bne_iff_ne.mpr c9
        (first | rw [c9b0] | (simp only [i64_w, i32_w]; rw [c9b0]) | skip)
        by_cases c10 : (bt s0_0 x1001_1) = 9
        ·rw [if_pos c10] at H
         have c10b0 : ((bt s0_0 x1001_1) == 9) = true := beq_iff_eq.mpr c10
         have c10b1 : ((bt s0_0 x1001_1) != 9) = false := bne_eq_false_iff_eq.mpr c10
         clear c10
         have H' := Aside0.mk H
         clear H
         go_wp2
         repeat (go_quiet (fail); try go_wp2)
         go_meet
         case rel => exact ⟨_, (true), (by first | rfl | (simp; done) | (simp [*]; done)), H', ⟨by have := HK1.out; first | omega | exact Nat.le_refl _⟩, ⟨by repeat (first | (with_reducible first | exact HI0.out | apply IsS51.alloc | apply IsS51.drewN | apply IsS51.drew | apply IsS51.set_0 | apply IsS51.set_1 | apply IsS51.set_2) | exact HI0.out)⟩, ⟨by repeat (first | (with_reducible first | exact HK.out | apply KeepBut.set_ | apply keep_drewN | apply keep_drew | apply keep_alloc) | exact HK.out)⟩, ⟨by repeat (first | (with_reducible first | exact HB.out | apply below_alloc | apply pw_below_drewN | apply below_drew1 | refine below_set ?_ (IsS51.ge HI0.out)) | exact HB.out)⟩⟩
        ·rw [if_neg c10] at H
         have c10b0 : ((bt s0_0 x1001_1) == 9) = false := beq_eq_false_iff_ne.mpr c10
         have c10b1 : ((bt s0_0 x1001_1) != 9) = true := bne_iff_ne.mpr c10
         have H' := Aside0.mk H
         clear H
         go_wp2
         repeat (go_quiet (fail); try go_wp2)
         go_meet
         case rel => exact ⟨_, (((bt s0_0 x1001_1) == 13)), (by first | rfl | (simp; done) | (simp [*]; done)), H', ⟨by have := HK1.out; first | omega | exact Nat.le_refl _⟩, ⟨by repeat (first | (with_reducible first | exact HI0.out | apply IsS51.alloc | apply IsS51.drewN | apply IsS51.drew | apply IsS51.set_0 | apply IsS51.set_1 | apply IsS51.set_2) | exact HI0.out)⟩, ⟨by repeat (first | (with_reducible first | exact HK.out | apply KeepBut.set_ | apply keep_drewN | apply keep_drew | apply keep_alloc) | exact HK.out)⟩, ⟨by repeat (first | (with_reducible first | exact HB.out | apply below_alloc | apply pw_below_drewN | apply below_drew1 | refine below_set ?_ (IsS51.ge HI0.out)) | exact HB.out)⟩⟩
      case rest =>
       clear HC7
       try clear c1
       try clear c2
       try clear c2b0
       try clear p2
       try clear c3
       try clear c3b0
       try clear p4
       try clear q4
       try clear hx4
       try clear c5
       try clear c5b0
       try clear c5b1
       try clear p6
       try clear c9
       try clear c9b0
       try clear c9b1
       try clear c10
       try clear c10b0
       try clear c10b1
       try clear hcz6_0
       try clear hcz6_1
       try clear hcz6_2
       try clear hcz6_3
       try clear hcz8_0
       try clear hcz8_1
       try clear hcz8_2
       try clear hcz8_3
       try clear hfz6_0
       try clear hfz6_1
       try clear hfz6_2
       try clear hfz8_0
       try clear hfz8_1
       try clear hfz8_2
       try clear p4
       try clear q4
       obtain ⟨kq, x39_6, rfl, HA, HJ6, HI0, HK, HB⟩ := hcut
       cases kq with
       | zero => exact absurd HA.out (by simp [lexer_scanner_skip.j1])
       | succ kj6 =>
        have H := HA.out
        clear HA
        simp only [lexer_scanner_skip.j1] at H
        by_cases c11 : x39_6 = true
        ·subst c11
         have H1 : (lexer_scanner_skip.l0 kj6 s0_0 (wrap64 (x1001_1 + 1)) x1002_1 s0_3) = some (r1, r2, r3) := by rw [if_pos rfl] at H; exact H
         clear H
         have H := H1
         clear H1
         have H' := Aside0.mk H
         clear H
         obtain ⟨ASz12_3, cSz12_3, HGz12, hgz12, HSz12_3⟩ := HI0.out
         have hcz12_0 := cellS51_0 HGz12
         have hcz12_1 := cellS51_1 HGz12
         have hcz12_2 := cellS51_2 HGz12
         have hcz12_3 := cellS51_3 HGz12
         have hfz12_0 := blk_frozen HGz12 0
         have hfz12_1 := blk_frozen HGz12 1
         have hfz12_2 := blk_frozen HGz12 2
         clear HGz12 hgz12
         go_wp2
         repeat (go_quiet (fail); try go_wp2)
         go_roundg kj6
         case measure => have := HK1.out; have := HJ6.out; omega
         case rel => exact ⟨(wrap64 (x1001_1 + 1)), (x1002_1), H', ⟨by have := HK1.out; have := HJ6.out; omega⟩, ⟨by repeat (first | (with_reducible first | exact HI0.out | apply IsS51.alloc | apply IsS51.drewN | apply IsS51.drew | apply IsS51.set_0 | apply IsS51.set_1 | apply IsS51.set_2) | exact HI0.out)⟩, ⟨by repeat (first | (with_reducible first | exact HK.out | apply KeepBut.set_ | apply keep_drewN | apply keep_drew | apply keep_alloc) | exact HK.out)⟩, ⟨by repeat (first | (with_reducible first | exact HB.out | apply below_alloc | apply pw_below_drewN | apply below_drew1 | refine below_set ?_ (IsS51.ge HI0.out)) | exact HB.out)⟩⟩
        ·replace c11 := Bool.eq_false_iff.mpr c11
         subst c11
         have H1 : (if 0 ≤ x1001_1 then (if x1001_1 ≤ (s0_0.size : Int) then ((strings_HasPrefix.f (s0_0.extract (x1001_1 : Int).toNat s0_0.size) (⟨#[47, 47]⟩ : ByteArray)).bind fun t102 => (if t102 = true then (lexer_scanner_skip.l1 kj6 s0_0 x1001_1 x1002_1 s0_3) else (some (s0_0, x1001_1, x1002_1)))) else (none)) else (none)) = some (r1, r2, r3) := by rw [if_neg (show ¬ (false = true) by decide)] at H; exact H
         clear H
         have H := H1
         clear H1
         by_cases c13 : 0 ≤ x1001_1
         ·rw [if_pos c13] at H
          have c13b0 := eq_true c13
          have c13b1 : decide (0 ≤ x1001_1) = true := decide_eq_true c13
          clear c13
          by_cases c14 : x1001_1 ≤ (s0_0.size : Int)
          ·rw [if_pos c14] at H
           have c14b0 := eq_true c14
           have c14b1 : decide (x1001_1 ≤ (s0_0.size : Int)) = true := decide_eq_true c14
           clear c14
           replace H := Option.bind_eq_some_iff.mp H
           obtain ⟨t102, A150, H⟩ := H
           replace H : (if t102 = true then (lexer_scanner_skip.l1 kj6 s0_0 x1001_1 x1002_1 s0_3) else (some (s0_0, x1001_1, x1002_1))) = some (r1, r2, r3) := H
           have A15 := Aside0.mk A150
           clear A150
           by_cases c16 : t102 = true
           ·subst c16
            have H1 : (lexer_scanner_skip.l1 kj6 s0_0 x1001_1 x1002_1 s0_3) = some (r1, r2, r3) := by rw [if_pos rfl] at H; exact H
            clear H
            have H := H1
            clear H1
            have H' := Aside0.mk H
            clear H
            obtain ⟨ASz17_3, cSz17_3, HGz17, hgz17, HSz17_3⟩ := HI0.out
            have hcz17_0 := cellS51_0 HGz17
            have hcz17_1 := cellS51_1 HGz17
            have hcz17_2 := cellS51_2 HGz17
            have hcz17_3 := cellS51_3 HGz17
            have hfz17_0 := blk_frozen HGz17 0
            have hfz17_1 := blk_frozen HGz17 1
            have hfz17_2 := blk_frozen HGz17 2
            clear HGz17 hgz17
            go_wp2_with (first | (go_at_call 31; (with_reducible refine (strings_HasPrefix.calls (s0_0.extract (x1001_1 : Int).toNat s0_0.size) (⟨#[47, 47]⟩ : ByteArray) true _ A15.out).mono ?_); rintro e w' ⟨rfl, ⟨nd, rfl⟩⟩; (try first | exact ⟨rfl, _, World.drewN_drewN _ _ _⟩ | exact ⟨rfl, _, Eq.trans (World.drewN_drewN _ _ _) (congrArg (World.drewN _) (Nat.add_assoc _ _ _))⟩)))
            repeat (go_quiet (first | (go_at_call 31; (with_reducible refine (strings_HasPrefix.calls (s0_0.extract (x1001_1 : Int).toNat s0_0.size) (⟨#[47, 47]⟩ : ByteArray) true _ A15.out).mono ?_); rintro e w' ⟨rfl, ⟨nd, rfl⟩⟩; (try first | exact ⟨rfl, _, World.drewN_drewN _ _ _⟩ | exact ⟨rfl, _, Eq.trans (World.drewN_drewN _ _ _) (congrArg (World.drewN _) (Nat.add_assoc _ _ _))⟩))); try go_wp2_with (first | (go_at_call 31; (with_reducible refine (strings_HasPrefix.calls (s0_0.extract (x1001_1 : Int).toNat s0_0.size) (⟨#[47, 47]⟩ : ByteArray) true _ A15.out).mono ?_); rintro e w' ⟨rfl, ⟨nd, rfl⟩⟩; (try first | exact ⟨rfl, _, World.drewN_drewN _ _ _⟩ | exact ⟨rfl, _, Eq.trans (World.drewN_drewN _ _ _) (congrArg (World.drewN _) (Nat.add_assoc _ _ _))⟩))))
            go_loopg [] kj6 (fun kq w' => ∃ (x1001_3 : Int), Aside0 (lexer_scanner_skip.l1 kq s0_0 x1001_3 x1002_1 s0_3 = some (r1, r2, r3)) ∧ Aside0 (kq ≤ kj6) ∧ Aside0 (IsS51 w0 w' g s0_0 x1001_3 x1002_1 s0_3) ∧ Aside0 (KeepBut w w' g none) ∧ Aside0 (Below w0.heap.size w0 w'))
            case atStart => exact ⟨(x1001_1), H', ⟨Nat.le_refl _⟩, ⟨by repeat (first | (with_reducible first | exact HI0.out | apply IsS51.alloc | apply IsS51.drewN | apply IsS51.drew | apply IsS51.set_0 | apply IsS51.set_1 | apply IsS51.set_2) | exact HI0.out)⟩, ⟨by repeat (first | (with_reducible first | exact HK.out | apply KeepBut.set_ | apply keep_drewN | apply keep_drew | apply keep_alloc) | exact HK.out)⟩, ⟨by repeat (first | (with_reducible first | exact HB.out | apply below_alloc | apply pw_below_drewN | apply below_drew1 | refine below_set ?_ (IsS51.ge HI0.out)) | exact HB.out)⟩⟩
            case round =>
             clear H'
             try clear c1
             try clear c2
             try clear c2b0
             try clear p2
             try clear c3
             try clear c3b0
             try clear p4
             try clear q4
             try clear hx4
             try clear c5
             try clear c5b0
             try clear c5b1
             try clear p6
             try clear c9
             try clear c9b0
             try clear c9b1
             try clear c10
             try clear c10b0
             try clear c10b1
             try clear c11
             try clear c13
             try clear c13b0
             try clear c13b1
             try clear c14
             try clear c14b0
             try clear c14b1
             try clear c16
             try clear hcz12_0
             try clear hcz12_1
             try clear hcz12_2
             try clear hcz12_3
             try clear hcz17_0
             try clear hcz17_1
             try clear hcz17_2
             try clear hcz17_3
             try clear hcz6_0
             try clear hcz6_1
             try clear hcz6_2
             try clear hcz6_3
             try clear hcz8_0
             try clear hcz8_1
             try clear hcz8_2
             try clear hcz8_3
             try clear hfz12_0
             try clear hfz12_1
             try clear hfz12_2
             try clear hfz17_0
             try clear hfz17_1
             try clear hfz17_2
             try clear hfz6_0
             try clear hfz6_1
             try clear hfz6_2
             try clear hfz8_0
             try clear hfz8_1
             try clear hfz8_2
             try clear p2
             try clear p4
             try clear p6
             try clear q4
             obtain ⟨x1001_3, HA, HK3, HI0, HK, HB⟩ := hrel
             cases gk with
             | zero => exact absurd HA.out (by simp [lexer_scanner_skip.l1])
             | succ k3 =>
              have H := HA.out
              clear HA
              simp only [lexer_scanner_skip.l1] at H
              by_cases c18 : x1001_3 < (s0_0.size : Int)
              ·rw [if_pos c18] at H
               have c18b0 : decide (x1001_3 < (s0_0.size : Int)) = true := decide_eq_true c18
               clear c18
               by_cases c19 : 0 ≤ x1001_3
               ·rw [if_pos c19] at H
                have c19b0 : decide (0 ≤ x1001_3) = true := decide_eq_true c19
                clear c19
                by_cases c21 : (bt s0_0 x1001_3) = 10
                ·rw [if_pos c21] at H
                 have c21b0 : ((bt s0_0 x1001_3) == 10) = true := beq_iff_eq.mpr c21
                 have c21b1 : ((bt s0_0 x1001_3) != 10) = false := bne_eq_false_iff_eq.mpr c21
                 clear c21
                 have H' := Aside0.mk H
                 clear H
                 obtain ⟨ASz22_3, cSz22_3, HGz22, hgz22, HSz22_3⟩ := HI0.out
                 have hcz22_0 := cellS51_0 HGz22
                 have hcz22_1 := cellS51_1 HGz22
                 have hcz22_2 := cellS51_2 HGz22
                 have hcz22_3 := cellS51_3 HGz22
                 have hfz22_0 := blk_frozen HGz22 0
                 have hfz22_1 := blk_frozen HGz22 1
                 have hfz22_2 := blk_frozen HGz22 2
                 clear HGz22 hgz22
                 have p20 : 0 ≤ (x1001_3 : Int) := of_decide_eq_true Za
                 have q20 : x1001_3 < (s0_0.size : Int) := of_decide_eq_true Za
                 have hx20 := bt_at s0_0 x1001_3
                 replace p20 := eq_true p20
                 replace q20 := eq_true q20
                 go_wp2
                 repeat (go_quiet (fail); try go_wp2)
                 go_roundg k3
                 case measure => have := HK1.out; have := HJ6.out; have := HK3.out; omega
                 case rel => exact ⟨(x1001_3), (x1002_1), H', ⟨by have := HK1.out; have := HJ6.out; have := HK3.out; omega⟩, ⟨by repeat (first | (with_reducible first | exact HI0.out | apply IsS51.alloc | apply IsS51.drewN | apply IsS51.drew | apply IsS51.set_0 | apply IsS51.set_1 | apply IsS51.set_2) | exact HI0.out)⟩, ⟨by repeat (first | (with_reducible first | exact HK.out | apply KeepBut.set_ | apply keep_drewN | apply keep_drew | apply keep_alloc) | exact HK.out)⟩, ⟨by repeat (first | (with_reducible first | exact HB.out | apply below_alloc | apply pw_below_drewN | apply below_drew1 | refine below_set ?_ (IsS51.ge HI0.out)) | exact HB.out)⟩⟩
                ·rw [if_neg c21] at H
                 have c21b0 : ((bt s0_0 x1001_3) == 10) = false := beq_eq_false_iff_ne.mpr c21
                 have c21b1 : ((bt s0_0 x1001_3) != 10) = true := bne_iff_ne.mpr c21
                 have H' := Aside0.mk H
                 clear H
                 obtain ⟨ASz23_3, cSz23_3, HGz23, hgz23, HSz23_3⟩ := HI0.out
                 have hcz23_0 := cellS51_0 HGz23
                 have hcz23_1 := cellS51_1 HGz23
                 have hcz23_2 := cellS51_2 HGz23
                 have hcz23_3 := cellS51_3 HGz23
                 have hfz23_0 := blk_frozen HGz23 0
                 have hfz23_1 := blk_frozen HGz23 1
                 have hfz23_2 := blk_frozen HGz23 2
                 clear HGz23 hgz23
                 have p20 : 0 ≤ (x1001_3 : Int) := of_decide_eq_true Za
                 have q20 : x1001_3 < (s0_0.size : Int) := of_decide_eq_true Za
                 have hx20 := bt_at s0_0 x1001_3
                 replace p20 := eq_true p20
                 replace q20 := eq_true q20
                 go_wp2
                 repeat (go_quiet (fail); try go_wp2)
                 go_roundg k3
                 case measure => have := HK1.out; have := HJ6.out; have := HK3.out; omega
                 case rel => exact ⟨(wrap64 (x1001_3 + 1)), H', ⟨by have := HK1.out; have := HJ6.out; have := HK3.out; omega⟩, ⟨by repeat (first | (with_reducible first | exact HI0.out | apply IsS51.alloc | apply IsS51.drewN | apply IsS51.drew | apply IsS51.set_0 | apply IsS51.set_1 | apply IsS51.set_2) | exact HI0.out)⟩, ⟨by repeat (first | (with_reducible first | exact HK.out | apply KeepBut.set_ | apply keep_drewN | apply keep_drew | apply keep_alloc) | exact HK.out)⟩, ⟨by repeat (first | (with_reducible first | exact HB.out | apply below_alloc | apply pw_below_drewN | apply below_drew1 | refine below_set ?_ (IsS51.ge HI0.out)) | exact HB.out)⟩⟩
               ·rw [if_neg c19] at H
                exact absurd H (by simp)
              ·rw [if_neg c18] at H
               have c18b0 : decide (x1001_3 < (s0_0.size : Int)) = false := decide_eq_false c18
               clear c18
               have H' := Aside0.mk H
               clear H
               obtain ⟨ASz24_3, cSz24_3, HGz24, hgz24, HSz24_3⟩ := HI0.out
               have hcz24_0 := cellS51_0 HGz24
               have hcz24_1 := cellS51_1 HGz24
               have hcz24_2 := cellS51_2 HGz24
               have hcz24_3 := cellS51_3 HGz24
               have hfz24_0 := blk_frozen HGz24 0
               have hfz24_1 := blk_frozen HGz24 1
               have hfz24_2 := blk_frozen HGz24 2
               clear HGz24 hgz24
               go_wp2
               repeat (go_quiet (fail); try go_wp2)
               go_roundg k3
               case measure => have := HK1.out; have := HJ6.out; have := HK3.out; omega
               case rel => exact ⟨(x1001_3), (x1002_1), H', ⟨by have := HK1.out; have := HJ6.out; have := HK3.out; omega⟩, ⟨by repeat (first | (with_reducible first | exact HI0.out | apply IsS51.alloc | apply IsS51.drewN | apply IsS51.drew | apply IsS51.set_0 | apply IsS51.set_1 | apply IsS51.set_2) | exact HI0.out)⟩, ⟨by repeat (first | (with_reducible first | exact HK.out | apply KeepBut.set_ | apply keep_drewN | apply keep_drew | apply keep_alloc) | exact HK.out)⟩, ⟨by repeat (first | (with_reducible first | exact HB.out | apply below_alloc | apply pw_below_drewN | apply below_drew1 | refine below_set ?_ (IsS51.ge HI0.out)) | exact HB.out)⟩⟩
           ·replace c16 := Bool.eq_false_iff.mpr c16
            subst c16
            have H1 : (some (s0_0, x1001_1, x1002_1)) = some (r1, r2, r3) := by rw [if_neg (show ¬ (false = true) by decide)] at H; exact H
            clear H
            have H := H1
            clear H1
            simp only [Option.some.injEq, Prod.mk.injEq] at H
            obtain ⟨rfl, rfl, rfl⟩ := H
            obtain ⟨ASz25_3, cSz25_3, HGz25, hgz25, HSz25_3⟩ := HI0.out
            have hcz25_0 := cellS51_0 HGz25
            have hcz25_1 := cellS51_1 HGz25
            have hcz25_2 := cellS51_2 HGz25
            have hcz25_3 := cellS51_3 HGz25
            have hfz25_0 := blk_frozen HGz25 0
            have hfz25_1 := blk_frozen HGz25 1
            have hfz25_2 := blk_frozen HGz25 2
            clear HGz25 hgz25
            go_wp2_with (first | (go_at_call 31; (with_reducible refine (strings_HasPrefix.calls (s0_0.extract (x1001_1 : Int).toNat s0_0.size) (⟨#[47, 47]⟩ : ByteArray) false _ A15.out).mono ?_); rintro e w' ⟨rfl, ⟨nd, rfl⟩⟩; (try first | exact ⟨rfl, _, World.drewN_drewN _ _ _⟩ | exact ⟨rfl, _, Eq.trans (World.drewN_drewN _ _ _) (congrArg (World.drewN _) (Nat.add_assoc _ _ _))⟩)))
            repeat (go_quiet (first | (go_at_call 31; (with_reducible refine (strings_HasPrefix.calls (s0_0.extract (x1001_1 : Int).toNat s0_0.size) (⟨#[47, 47]⟩ : ByteArray) false _ A15.out).mono ?_); rintro e w' ⟨rfl, ⟨nd, rfl⟩⟩; (try first | exact ⟨rfl, _, World.drewN_drewN _ _ _⟩ | exact ⟨rfl, _, Eq.trans (World.drewN_drewN _ _ _) (congrArg (World.drewN _) (Nat.add_assoc _ _ _))⟩))); try go_wp2_with (first | (go_at_call 31; (with_reducible refine (strings_HasPrefix.calls (s0_0.extract (x1001_1 : Int).toNat s0_0.size) (⟨#[47, 47]⟩ : ByteArray) false _ A15.out).mono ?_); rintro e w' ⟨rfl, ⟨nd, rfl⟩⟩; (try first | exact ⟨rfl, _, World.drewN_drewN _ _ _⟩ | exact ⟨rfl, _, Eq.trans (World.drewN_drewN _ _ _) (congrArg (World.drewN _) (Nat.add_assoc _ _ _))⟩))))
            first | go_end0 | ((try simp only [Exit.inBlock, Exit.then]); refine bodyPost_ret (results_none rfl _ _ _) rfl ?_)
            exact ⟨by first | rfl | (simp [errW_none, errW_some] <;> rfl) | (simp [*, errW_none, errW_some] <;> rfl), by repeat (first | (with_reducible first | exact HI0.out | apply IsS51.alloc | apply IsS51.drewN | apply IsS51.drew | apply IsS51.set_0 | apply IsS51.set_1 | apply IsS51.set_2) | exact HI0.out), by repeat (first | (with_reducible first | exact HB.out | apply below_alloc | apply pw_below_drewN | apply below_drew1 | refine below_set ?_ (IsS51.ge HI0.out)) | exact HB.out), by repeat (first | (with_reducible first | exact HK.out | apply KeepBut.set_ | apply keep_drewN | apply keep_drew | apply keep_alloc) | exact HK.out)⟩
          ·rw [if_neg c14] at H
           exact absurd H (by simp)
         ·rw [if_neg c13] at H
          exact absurd H (by simp)
    ·rw [if_neg c3] at H
     exact absurd H (by simp)
   ·rw [if_neg c2] at H
    have c2b0 : decide (x1001_1 < (s0_0.size : Int)) = false := decide_eq_false c2
    clear c2
    simp only [Option.some.injEq, Prod.mk.injEq] at H
    obtain ⟨rfl, rfl, rfl⟩ := H
    obtain ⟨ASz26_3, cSz26_3, HGz26, hgz26, HSz26_3⟩ := HI0.out
    have hcz26_0 := cellS51_0 HGz26
    have hcz26_1 := cellS51_1 HGz26
    have hcz26_2 := cellS51_2 HGz26
    have hcz26_3 := cellS51_3 HGz26
    have hfz26_0 := blk_frozen HGz26 0
    have hfz26_1 := blk_frozen HGz26 1
    have hfz26_2 := blk_frozen HGz26 2
    clear HGz26 hgz26
    go_wp2
    repeat (go_quiet (fail); try go_wp2)
    first | go_end0 | ((try simp only [Exit.inBlock, Exit.then]); refine bodyPost_ret (results_none rfl _ _ _) rfl ?_)
    exact ⟨by first | rfl | (simp [errW_none, errW_some] <;> rfl) | (simp [*, errW_none, errW_some] <;> rfl), by repeat (first | (with_reducible first | exact HI0.out | apply IsS51.alloc | apply IsS51.drewN | apply IsS51.drew | apply IsS51.set_0 | apply IsS51.set_1 | apply IsS51.set_2) | exact HI0.out), by repeat (first | (with_reducible first | exact HB.out | apply below_alloc | apply pw_below_drewN | apply below_drew1 | refine below_set ?_ (IsS51.ge HI0.out)) | exact HB.out), by repeat (first | (with_reducible first | exact HK.out | apply KeepBut.set_ | apply keep_drewN | apply keep_drew | apply keep_alloc) | exact HK.out)⟩

end Go.Proofs.YtoflkheiidhblaaDoor.PLex
