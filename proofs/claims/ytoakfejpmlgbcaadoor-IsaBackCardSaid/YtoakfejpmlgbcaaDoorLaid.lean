/- From the premise on the listed variables (the instructions' shapes, the powers of ten) to the walks' hypothesis Glob; and a world that meets the premise. -/
import Derived.Test.YtoakfejpmlgbcaaDoorIsw
import Derived.Test.YtoakfejpmlgbcaaDoorRows
import Derived.Test.YtoakfejpmlgbcaaDoorChecked
import Derived.ProofKit
import Derived.LaidMore
import Derived.OpenShut
import Derived.MakeChecks
import Derived.Stop.Joined
import Derived.Stop.LaidErr
namespace Go.Proofs.YtoakfejpmlgbcaaDoor.PIsa
open Go.ChangeShapes Go.WideShapes Go.ChangeAt Go.RowKit
def laidL : List (String × DataW Unit) := [("math/bits.deBruijn32tab", Rows.laid_math_bits_deBruijn32tab), ("math/bits.deBruijn64tab", Rows.laid_math_bits_deBruijn64tab), ("internal/strconv.uint64pow10", Rows.laid_internal_strconv_uint64pow10), ("debugger/isa.shapes", Rows.laid_debugger_isa_shapes)]
theorem gShapes : Tryd.prog.globalNamed "debugger/isa.shapes" = some 0 := by kernel_rfl
theorem tShapes : (Tryd.prog.globals[0]?).map (·.type) = some 61 := by kernel_rfl
theorem gPow : Tryd.prog.globalNamed "internal/strconv.uint64pow10" = some 1 := by kernel_rfl
theorem tPow : (Tryd.prog.globals[1]?).map (·.type) = some 101 := by kernel_rfl
theorem door_met (os : Os) (args : Array Value) : laidMetH Tryd.prog laidL ((World.doorLaid Tryd.prog 400 os).forCall (fun _ _ => 0) ⟨#[], args, []⟩).memory :=
  laidMetH_of_parts3 (fuel := 8) (laidMet_of_run' 8 (by kernel_rfl) (by kernel_rfl)) (by kernel_rfl) (by kernel_rfl)
section
variable {H : Type} {enc : TypeId × Value → H} {W : World} {base : Nat} {sp : Nat → Bool} {held : Bool} {fuel : Nat}
theorem one_cell {t : TypeId} {k : Nat} {cs : List Value} {y : DataW H × List MemPlace} (hc : Tryd.prog.cellsOf t = 1) (h : DataW.trod enc Tryd.prog W base sp held fuel t ((cs.drop k).take (Tryd.prog.cellsOf t)) = some y) : DataW.trod enc Tryd.prog W base sp held fuel t ((cs.drop k).take 1) = some y := by
  rw [hc] at h
  exact h
theorem str_cell {k : Nat} {cs : List Value} {y : DataW H × List MemPlace} (h : DataW.trod enc Tryd.prog W base sp held fuel 9 ((cs.drop k).take (Tryd.prog.cellsOf 9)) = some y) : ∃ s : ByteArray, cs[k]? = some (.string s) ∧ y.1 = .lit (.string s.data.toList) := by
  obtain ⟨s, e, rfl, _⟩ := DataW.trod_string Tryd.underlying9 (one_cell (by kernel_rfl) h)
  refine ⟨s, ?_, rfl⟩
  have := congrArg (fun l => l[0]?) e
  simpa [List.getElem?_take, List.getElem?_drop] using this
theorem bool_cell {k : Nat} {cs : List Value} {y : DataW H × List MemPlace} (h : DataW.trod enc Tryd.prog W base sp held fuel 4 ((cs.drop k).take (Tryd.prog.cellsOf 4)) = some y) : ∃ b : Bool, cs[k]? = some (.bool b) ∧ y.1 = .lit (.bool b) := by
  obtain ⟨s, e, rfl⟩ := DataW.trod_bool Tryd.underlying4 (one_cell (by kernel_rfl) h)
  refine ⟨s, ?_, rfl⟩
  have := congrArg (fun l => l[0]?) e
  simpa [List.getElem?_take, List.getElem?_drop] using this
set_option maxRecDepth 1000000 in
theorem shape_cells {cs : List Value} {x : DataW H × List MemPlace} (h : DataW.trod enc Tryd.prog W base sp held fuel 60 cs = some x) :
    ∃ (nm : ByteArray) (b1 b2 b3 b4 b5 b6 : Bool), cs = shapeC (nm, b1, b2, b3, b4, b5, b6) ∧ x.1 = .agg [.lit (.string nm.data.toList), .lit (.bool b1), .lit (.bool b2), .lit (.bool b3), .lit (.bool b4), .lit (.bool b5), .lit (.bool b6)] := by
  obtain ⟨xs, n, _, rfl, hl, hlen, hf⟩ := DataW.trod_struct Tryd.underlying60 h
  have h7 : cs.length = 7 := hl.trans (by kernel_rfl)
  match xs, hlen with
  | [y0, y1, y2, y3, y4, y5, y6], _ =>
    obtain ⟨nm, e0, d0⟩ := str_cell (hf 0 _ rfl)
    obtain ⟨b1, e1, d1⟩ := bool_cell (hf 1 _ rfl)
    obtain ⟨b2, e2, d2⟩ := bool_cell (hf 2 _ rfl)
    obtain ⟨b3, e3, d3⟩ := bool_cell (hf 3 _ rfl)
    obtain ⟨b4, e4, d4⟩ := bool_cell (hf 4 _ rfl)
    obtain ⟨b5, e5, d5⟩ := bool_cell (hf 5 _ rfl)
    obtain ⟨b6, e6, d6⟩ := bool_cell (hf 6 _ rfl)
    refine ⟨nm, b1, b2, b3, b4, b5, b6, ?_, by simp only [List.map_cons, List.map_nil, d0, d1, d2, d3, d4, d5, d6]⟩
    match cs, h7 with
    | [s0, s1, s2, s3, s4, s5, s6], _ =>
      have e0 := Option.some.inj e0
      have e1 := Option.some.inj e1
      have e2 := Option.some.inj e2
      have e3 := Option.some.inj e3
      have e4 := Option.some.inj e4
      have e5 := Option.some.inj e5
      have e6 := Option.some.inj e6
      rw [e0, e1, e2, e3, e4, e5, e6]
      rfl
end
def shapeD (x : ByteArray × Bool × Bool × Bool × Bool × Bool × Bool) : DataW Unit := .agg [.lit (.string x.1.data.toList), .lit (.bool x.2.1), .lit (.bool x.2.2.1), .lit (.bool x.2.2.2.1), .lit (.bool x.2.2.2.2.1), .lit (.bool x.2.2.2.2.2.1), .lit (.bool x.2.2.2.2.2.2)]
theorem shapeD_inj {x y : ByteArray × Bool × Bool × Bool × Bool × Bool × Bool} (h : shapeD x = shapeD y) : x = y := by
  obtain ⟨n, a1, a2, a3, a4, a5, a6⟩ := x
  obtain ⟨m, c1, c2, c3, c4, c5, c6⟩ := y
  simp only [shapeD, DataW.agg.injEq, List.cons.injEq, DataW.lit.injEq, Lit.string.injEq, Lit.bool.injEq, and_true] at h
  obtain ⟨h0, rfl, rfl, rfl, rfl, rfl, rfl⟩ := h
  have : n = m := by
    obtain ⟨n⟩ := n
    obtain ⟨m⟩ := m
    congr 1
    exact Array.toList_inj.mp h0
  rw [this]
theorem laid_shapes : Rows.laid_debugger_isa_shapes = (DataW.agg (shapes.map shapeD) : DataW Unit) := by rfl
theorem flat_of_parts (f : ByteArray × Bool × Bool × Bool × Bool × Bool × Bool → List Value) (hf : ∀ x, (f x).length = 7) : ∀ (xs : List (ByteArray × Bool × Bool × Bool × Bool × Bool × Bool)) (cs : List Value), cs.length = xs.length * 7 → (∀ i x, xs[i]? = some x → (cs.drop (i * 7)).take 7 = f x) → cs = xs.flatMap f
  | [], cs, hl, _ => by
    simp only [List.length_nil, Nat.zero_mul, List.length_eq_zero_iff] at hl
    rw [hl]
    rfl
  | x :: xs, cs, hl, h => by
    have h0 := h 0 x rfl
    simp only [Nat.zero_mul, List.drop_zero] at h0
    have hr := flat_of_parts f hf xs (cs.drop 7) (by rw [List.length_drop, hl, List.length_cons]; omega) (fun i y hy => by
      have := h (i + 1) y (by simpa using hy)
      rw [List.drop_drop, show 7 + i * 7 = (i + 1) * 7 from by omega]
      exact this)
    rw [List.flatMap_cons, ← h0, ← hr, List.take_append_drop]
theorem pow_data : (Rows.laid_internal_strconv_uint64pow10 : DataW Unit) = Lib.tabData .u64 Lib.pow10Tab := by rfl
set_option maxRecDepth 100000 in
theorem place0 : MemPlace.cell 0 0 ∈ MemPlace.row ⟨0, 0, none⟩ 182 := by decide
set_option maxRecDepth 1000000 in
theorem glob_of_laid {W : World} (h : laidMetH Tryd.prog laidL W) : Glob W := by
  rw [MakeChecks.laidMetH_plain _ _ _ (by kernel_rfl)] at h
  have h2 := h.tail.tail
  have hpow : Lib.TabIs Tryd.prog W "internal/strconv.uint64pow10" .u64 Lib.pow10Tab := by
    have h3 : laidMet Tryd.prog (("internal/strconv.uint64pow10", Lib.tabData .u64 Lib.pow10Tab) :: [("debugger/isa.shapes", Rows.laid_debugger_isa_shapes)]) W := by
      rw [← pow_data]
      exact h2
    exact Lib.tabIs_of_head gPow tPow Tryd.underlying101 Tryd.underlying92 (by kernel_rfl) (by kernel_rfl) h3
  have hp : ∃ t, W.heap[1]? = some (.cells (Lib.pow10Tab.map fun z => Value.int .u64 z).toArray t (0, 0)) := by
    obtain ⟨ps, ⟨g0, t0, cs0, f0, p0, q0, hg0, ht0, hv0, hd0, _, hps⟩, _, hb⟩ := h2
    obtain rfl := Option.some.inj (gPow.symm.trans hg0)
    have hcs : cs0 = (Lib.pow10Tab.map fun z => Value.int .u64 z).toArray := Option.some.inj (hv0.symm.trans hpow)
    obtain ⟨⟨c, t, hh⟩, _⟩ := hb 1 0 (by
      rw [hps]
      refine List.mem_append_left _ (List.mem_append_left _ ?_)
      rw [show cs0.size = 20 from by rw [hcs]; simp [Lib.pow10Tab]]
      decide)
    refine ⟨t, ?_⟩
    rw [hh]
    have hvv := hv0
    simp only [World.var?, gPow, Option.bind_some, hh, Option.some.injEq] at hvv
    rw [hvv, hcs]
  refine ⟨?_, hp⟩
  obtain ⟨ps, ⟨g0, t0, cs0, f0, p0, q0, hg0, ht0, hv0, hd0, _, hps⟩, _, hb⟩ := h.tail.tail.tail
  obtain rfl := Option.some.inj (gShapes.symm.trans hg0)
  obtain rfl := Option.some.inj (tShapes.symm.trans ht0)
  obtain ⟨xs, m1, rfl, hx1, hlen, hn3, hel⟩ := DataW.trod_array Tryd.underlying61 hd0
  have c1 : Tryd.prog.cellsOf 60 = 7 := by kernel_rfl
  have c2 : Tryd.prog.cellsOf 61 = 182 := by kernel_rfl
  rw [c2] at hlen
  have hsz : cs0.size = 182 := by simpa using hlen
  have hx : xs.map (·.1) = shapes.map shapeD := by
    have e := congrArg Prod.fst hx1
    rw [laid_shapes] at e
    simp only at e
    injection e with e
    exact e.symm
  have hl : cs0.toList = shapes.flatMap shapeC := by
    refine flat_of_parts shapeC (fun _ => rfl) shapes cs0.toList (by rw [show shapes.length = 26 from rfl]; simpa using hsz) ?_
    intro i x hi
    have hi26 : i < 26 := (List.getElem?_eq_some_iff.1 hi).1
    have h0 := hel i hi26
    rw [c1] at h0
    obtain ⟨y, hy⟩ : ∃ y, xs[i]? = some y := ⟨xs[i]'(by omega), List.getElem?_eq_getElem _⟩
    rw [hy] at h0
    obtain ⟨nm, b1, b2, b3, b4, b5, b6, e1, e2⟩ := shape_cells h0
    have e3 : (xs.map (·.1))[i]? = some (shapeD (nm, b1, b2, b3, b4, b5, b6)) := by rw [List.getElem?_map, hy, Option.map_some, e2]; rfl
    rw [hx, List.getElem?_map, hi, Option.map_some] at e3
    have e4 := shapeD_inj (Option.some.inj e3)
    rw [e1, e4]
  have hcs : cs0 = shapesC := by
    apply Array.ext'
    rw [hl]
    rfl
  obtain ⟨⟨c, t, hh⟩, _⟩ := hb 0 0 (by
    rw [hps]
    refine List.mem_append_left _ (List.mem_append_left _ ?_)
    rw [hsz]
    exact place0)
  refine ⟨t, ?_⟩
  rw [hh]
  have hvv := hv0
  simp only [World.var?, gShapes, Option.bind_some, hh, Option.some.injEq] at hvv
  rw [hvv, hcs]
end Go.Proofs.YtoakfejpmlgbcaaDoor.PIsa
