/- Words of this claim: a processor's registers lie in an array: rows of 17 whole numbers in a block of their own or ahead of other fields. -/
import Derived.Test.YtoakfejpmlgbcaaDoorProg
import Derived.Below
import Derived.KernelRfl
import Derived.Laws.Rows
import Derived.Laws.Tables
import Derived.Deep.MidRow
import Derived.Lib.LaidTab
import Derived.Lib.ItoaNum
import Derived.Test.YtoakfejpmlgbcaaDoorWWords
import Derived.Test.YtoakfejpmlgbcaaDoorWLast
namespace Go.Proofs.YtoakfejpmlgbcaaDoor.PIsa
open Go.RowKit Go.Proofs.YtoakfejpmlgbcaaDoorW.PrintWords Go.Proofs.YtoakfejpmlgbcaaDoorW.PrintLast
/-- The cells of a row of whole numbers. -/
def cellsI (cs : List Int) : Array Value := (cs.map (Value.int .i64)).toArray
theorem cellsI_size (cs : List Int) : (cellsI cs).size = cs.length := by simp [cellsI]
theorem cellsI_get {cs : List Int} {n : Nat} (h : n < cs.length) : (cellsI cs)[n]? = some (.int .i64 (cs.getD n 0)) := by
  simp [cellsI, List.getElem?_eq_getElem h]
theorem cellsI_one (cs : List Int) : (cellsI cs).all (·.oneCell') = true := by
  apply Array.all_eq_true_iff_forall_mem.2
  intro v hv
  simp only [cellsI, List.mem_toArray, List.mem_map] at hv
  obtain ⟨x, _, rfl⟩ := hv
  rfl
theorem len17 {cs : List Int} (h : cs.length = 17) : ∃ c0 c1 c2 c3 c4 c5 c6 c7 c8 c9 c10 c11 c12 c13 c14 c15 c16 : Int, cs = [c0, c1, c2, c3, c4, c5, c6, c7, c8, c9, c10, c11, c12, c13, c14, c15, c16] := by
  match cs, h with
  | [c0, c1, c2, c3, c4, c5, c6, c7, c8, c9, c10, c11, c12, c13, c14, c15, c16], _ => exact ⟨c0, c1, c2, c3, c4, c5, c6, c7, c8, c9, c10, c11, c12, c13, c14, c15, c16, rfl⟩
/-- The cells of an effect: the processor ahead of the five other fields. -/
def cellsE (cs : List Int) (st : Bool) (ad wd : Int) (pr : Bool) (p : Int) : Array Value := cellsI cs ++ #[.bool st, .int .i64 ad, .int .i64 wd, .bool pr, .int .i64 p]
section
variable {cs : List Int} {st : Bool} {ad wd : Int} {pr : Bool} {p : Int}
theorem cellsE_size (h : cs.length = 17) : (cellsE cs st ad wd pr p).size = 22 := by simp [cellsE, cellsI_size, h]
theorem cellsE_one : (cellsE cs st ad wd pr p).all (·.oneCell') = true := by
  unfold cellsE
  rw [Array.all_append, cellsI_one, Bool.true_and]
  apply Array.all_eq_true_iff_forall_mem.2
  intro v hv
  simp only [List.mem_toArray, List.mem_cons, List.not_mem_nil, or_false] at hv
  rcases hv with rfl | rfl | rfl | rfl | rfl <;> rfl
theorem cellsE_reg (h : cs.length = 17) {n : Nat} (hn : n < 17) : (cellsE cs st ad wd pr p)[n]? = some (.int .i64 (cs.getD n 0)) := by
  unfold cellsE
  rw [Array.getElem?_append_left (by rw [cellsI_size]; omega), cellsI_get (by omega)]
theorem cellsE_setReg (h : cs.length = 17) {n : Nat} (hn : n < 17) (v : Int) : (cellsE cs st ad wd pr p).setIfInBounds n (.int .i64 v) = cellsE (cs.set n v) st ad wd pr p := by
  unfold cellsE cellsI
  apply Array.ext'
  simp only [Array.toList_setIfInBounds, Array.toList_append]
  rw [List.set_append_left _ _ (by simp; omega), List.map_set]
theorem cellsE_set17 (h : cs.length = 17) (x : Bool) : (cellsE cs st ad wd pr p).setIfInBounds 17 (.bool x) = cellsE cs x ad wd pr p := by
  obtain ⟨c0, c1, c2, c3, c4, c5, c6, c7, c8, c9, c10, c11, c12, c13, c14, c15, c16, rfl⟩ := len17 h
  rfl
theorem cellsE_set18 (h : cs.length = 17) (x : Int) : (cellsE cs st ad wd pr p).setIfInBounds 18 (.int .i64 x) = cellsE cs st x wd pr p := by
  obtain ⟨c0, c1, c2, c3, c4, c5, c6, c7, c8, c9, c10, c11, c12, c13, c14, c15, c16, rfl⟩ := len17 h
  rfl
theorem cellsE_set19 (h : cs.length = 17) (x : Int) : (cellsE cs st ad wd pr p).setIfInBounds 19 (.int .i64 x) = cellsE cs st ad x pr p := by
  obtain ⟨c0, c1, c2, c3, c4, c5, c6, c7, c8, c9, c10, c11, c12, c13, c14, c15, c16, rfl⟩ := len17 h
  rfl
theorem cellsE_set20 (h : cs.length = 17) (x : Bool) : (cellsE cs st ad wd pr p).setIfInBounds 20 (.bool x) = cellsE cs st ad wd x p := by
  obtain ⟨c0, c1, c2, c3, c4, c5, c6, c7, c8, c9, c10, c11, c12, c13, c14, c15, c16, rfl⟩ := len17 h
  rfl
theorem cellsE_set21 (h : cs.length = 17) (x : Int) : (cellsE cs st ad wd pr p).setIfInBounds 21 (.int .i64 x) = cellsE cs st ad wd pr x := by
  obtain ⟨c0, c1, c2, c3, c4, c5, c6, c7, c8, c9, c10, c11, c12, c13, c14, c15, c16, rfl⟩ := len17 h
  rfl
theorem cellsE_at17 (h : cs.length = 17) : (cellsE cs st ad wd pr p)[17]? = some (.bool st) := by
  obtain ⟨c0, c1, c2, c3, c4, c5, c6, c7, c8, c9, c10, c11, c12, c13, c14, c15, c16, rfl⟩ := len17 h
  rfl
theorem cellsE_at18 (h : cs.length = 17) : (cellsE cs st ad wd pr p)[18]? = some (.int .i64 ad) := by
  obtain ⟨c0, c1, c2, c3, c4, c5, c6, c7, c8, c9, c10, c11, c12, c13, c14, c15, c16, rfl⟩ := len17 h
  rfl
theorem cellsE_at19 (h : cs.length = 17) : (cellsE cs st ad wd pr p)[19]? = some (.int .i64 wd) := by
  obtain ⟨c0, c1, c2, c3, c4, c5, c6, c7, c8, c9, c10, c11, c12, c13, c14, c15, c16, rfl⟩ := len17 h
  rfl
theorem cellsE_at20 (h : cs.length = 17) : (cellsE cs st ad wd pr p)[20]? = some (.bool pr) := by
  obtain ⟨c0, c1, c2, c3, c4, c5, c6, c7, c8, c9, c10, c11, c12, c13, c14, c15, c16, rfl⟩ := len17 h
  rfl
theorem cellsE_at21 (h : cs.length = 17) : (cellsE cs st ad wd pr p)[21]? = some (.int .i64 p) := by
  obtain ⟨c0, c1, c2, c3, c4, c5, c6, c7, c8, c9, c10, c11, c12, c13, c14, c15, c16, rfl⟩ := len17 h
  rfl
end
theorem built_eff {cs : List Int} (h : cs.length = 17) : Tryd.prog.built 40 [(0, .agg (cellsI cs))] = some (cellsE cs false 0 0 false 0) := by
  obtain ⟨c0, c1, c2, c3, c4, c5, c6, c7, c8, c9, c10, c11, c12, c13, c14, c15, c16, rfl⟩ := len17 h
  kernel_rfl
theorem built_eff0 : Tryd.prog.built 40 [] = some (cellsE [0, 0, 0, 0, 0, 0, 0, 0, 0, 0, 0, 0, 0, 0, 0, 0, 0] false 0 0 false 0) := by kernel_rfl
section
variable {P : Program} {ops : Array Oper} {rest : List Oper} {o : Oper} {a : Act} {W : World} {Q : Exit → Act → World → Prop}
theorem get14 (cs : List Int) (v : Int) : (cs.set 16 v).getD 14 0 = cs.getD 14 0 := by simp [List.getD_eq_getElem?_getD]
/-- A whole row is written: the world behind it is told by what it holds. -/
theorem row_event (hgd : o.guard = none) (ty : TypeId) (x y : Operand) (ho : o.op = .store ty x y) (g : Nat) (cells old : Array Value) (t : TypeId) (hg : W.heap[g]? = some (.cells old t (0, 0)))
    (hx : a.eval x = .pointer (some ⟨g, 0, none⟩)) (hy : a.eval y = .agg cells) (hi : (P.info? ty).map (·.size) = some cells.size) (hold : old.size = cells.size) (h1 : cells.all (·.oneCell') = true)
    (h : ∀ w1, w1.heap[g]? = some (.cells cells t (0, 0)) → W.grownBy w1 (some g) → wpList P ops Q rest (a.put o.dst undef) w1) : wpList P ops Q (o :: rest) a W := by
  refine wpList_store_row hgd ty x y ho g cells hx hy t old hg hi hold h1 (h _ ?_ ⟨rfl, rfl, rfl, ?_, ?_⟩)
  · unfold World.setRow
    simp only
    rw [Array.getElem?_modify, if_pos rfl, hg]
    rfl
  · simp [World.setRow]
  · intro k _ hk
    unfold World.setRow
    simp only
    rw [Array.getElem?_modify, if_neg (fun e => hk (by rw [e]))]
/-- A whole row is read. -/
theorem load_event (hgd : o.guard = none) (ty : TypeId) (x : Operand) (ho : o.op = .load ty x) (g : Nat) (cells : Array Value) (t : TypeId) (d : TypeDesc) (hg : W.heap[g]? = some (.cells cells t (0, 0)))
    (hx : a.eval x = .pointer (some ⟨g, 0, none⟩)) (hu : P.underlying ty = some d) (hd : (match d with | .struct _ | .array _ _ => true | _ => false) = true) (hi : (P.info? ty).map (·.size) = some cells.size)
    (h : wpList P ops Q rest (a.put o.dst (.agg cells)) W) : wpList P ops Q (o :: rest) a W := wpList_load_row hgd ty x ho g hx t cells (0, 0) d hg hu hd hi h
/-- A value is built. -/
theorem build_event (hgd : o.guard = none) (t : TypeId) (l : List (Nat × Operand)) (ho : o.op = .build t l.toArray) (cells : Array Value) (hb : P.built t (l.map fun p => (p.1, a.eval p.2)) = some cells)
    (h : wpList P ops Q rest (a.put o.dst (.agg cells)) W) : wpList P ops Q (o :: rest) a W := by
  have e : (l.toArray.map fun (i, x) => (i, a.eval x)).toList = l.map fun p => (p.1, a.eval p.2) := by simp
  exact wpList_build hgd t l.toArray ho (by rw [e, hb]; rfl) (by rw [e, hb]; exact h)
end
theorem info35 {cs : List Int} (h : cs.length = 17) : (Tryd.prog.info? 35).map (·.size) = some (cellsI cs).size := by rw [cellsI_size, h]; kernel_rfl
theorem info40 {cs : List Int} {st : Bool} {ad wd : Int} {pr : Bool} {p : Int} (h : cs.length = 17) : (Tryd.prog.info? 40).map (·.size) = some (cellsE cs st ad wd pr p).size := by rw [cellsE_size h]; kernel_rfl
def zeros17 : List Int := [0, 0, 0, 0, 0, 0, 0, 0, 0, 0, 0, 0, 0, 0, 0, 0, 0]
/-- What an instruction does: the processor, whether it stores, the address, the word, whether it prints, the number. -/
def exec1 (comp : Int → Int → Int → Int) (cs : List Int) (i0 i1 i2 i3 i4 ld : Int) : List Int × Bool × Int × Int × Bool × Int :=
  if i0 = 3 then ((cs.set 16 (wrap64 (cs.getD 16 0 + 1))).set i1.toNat i4, false, 0, 0, false, 0)
  else if i0 = 4 then ((cs.set 16 (wrap64 (cs.getD 16 0 + 1))).set i1.toNat ld, false, 0, 0, false, 0)
  else if i0 = 19 then ((cs.set 16 (wrap64 (cs.getD 16 0 + 1))).set i1.toNat ld, false, 0, 0, false, 0)
  else if i0 = 5 then ((cs.set 16 (wrap64 (cs.getD 16 0 + 1))).set i1.toNat (cs.getD i2.toNat 0), false, 0, 0, false, 0)
  else if i0 = 18 then ((cs.set 16 (wrap64 (cs.getD 16 0 + 1))).set i1.toNat (wrap64 (cs.getD i2.toNat 0 + i4)), false, 0, 0, false, 0)
  else if i0 = 20 then (cs.set 16 (wrap64 (cs.getD 16 0 + 1)), true, wrap64 (cs.getD i2.toNat 0 + i4), cs.getD i1.toNat 0, false, 0)
  else if i0 = 21 then ((cs.set 16 (wrap64 (cs.getD 16 0 + 1))).set 16 i4, false, 0, 0, false, 0)
  else if i0 = 22 then (if cs.getD i1.toNat 0 = 0 then (cs.set 16 (wrap64 (cs.getD 16 0 + 1))).set 16 i4 else cs.set 16 (wrap64 (cs.getD 16 0 + 1)), false, 0, 0, false, 0)
  else if i0 = 23 then (((cs.set 16 (wrap64 (cs.getD 16 0 + 1))).set 14 (wrap64 (cs.getD 14 0 - 1))).set 16 i4, true, wrap64 (cs.getD 14 0 - 1), wrap64 (cs.getD 16 0 + 1), false, 0)
  else if i0 = 24 then (((cs.set 16 (wrap64 (cs.getD 16 0 + 1))).set 16 ld).set 14 (wrap64 (cs.getD 14 0 + 1)), false, 0, 0, false, 0)
  else if i0 = 25 then (cs.set 16 (wrap64 (cs.getD 16 0 + 1)), false, 0, 0, true, cs.getD i1.toNat 0)
  else if i0 = 1 then (cs.set 16 (wrap64 (cs.getD 16 0 + 1)), false, 0, 0, false, 0)
  else ((cs.set 16 (wrap64 (cs.getD 16 0 + 1))).set i1.toNat (comp i0 (cs.getD i2.toNat 0) (cs.getD i3.toNat 0)), false, 0, 0, false, 0)
theorem exec1_ar (comp : Int → Int → Int → Int) (cs : List Int) (i0 i1 i2 i3 i4 ld : Int) (h0 : 6 ≤ i0) (h1 : i0 < 18) : exec1 comp cs i0 i1 i2 i3 i4 ld = ((cs.set 16 (wrap64 (cs.getD 16 0 + 1))).set i1.toNat (comp i0 (cs.getD i2.toNat 0) (cs.getD i3.toNat 0)), false, 0, 0, false, 0) := by
  unfold exec1
  rw [if_neg (by omega), if_neg (by omega), if_neg (by omega), if_neg (by omega), if_neg (by omega), if_neg (by omega), if_neg (by omega), if_neg (by omega), if_neg (by omega), if_neg (by omega), if_neg (by omega), if_neg (by omega)]
theorem exec1_zero (comp : Int → Int → Int → Int) (cs : List Int) (i1 i2 i3 i4 ld : Int) : exec1 comp cs 22 i1 i2 i3 i4 ld = (if cs.getD i1.toNat 0 = 0 then (cs.set 16 (wrap64 (cs.getD 16 0 + 1))).set 16 i4 else cs.set 16 (wrap64 (cs.getD 16 0 + 1)), false, 0, 0, false, 0) := rfl
/-- Whether an instruction has a word. -/
def enc1 (i0 i1 i2 i3 i4 : Int) : Bool := decide (-2147483648 ≤ i4 ∧ i4 < 2147483648 ∧ 0 ≤ i1 ∧ i1 < 16 ∧ 0 ≤ i2 ∧ i2 < 16 ∧ 0 ≤ i3 ∧ i3 < 16 ∧ 1 ≤ i0 ∧ i0 < 26)
/-- The instructions' shapes: name, a, b, c, imm, arithmetic, load. -/
def shapes : List (ByteArray × Bool × Bool × Bool × Bool × Bool × Bool) := [(⟨#[]⟩, false, false, false, false, false, false), (⟨#[110, 111, 112]⟩, false, false, false, false, false, false), (⟨#[98, 114, 101, 97, 107]⟩, false, false, false, false, false, false), (⟨#[99, 111, 110, 115, 116]⟩, true, false, false, true, false, false), (⟨#[112, 111, 111, 108]⟩, true, false, false, true, false, true), (⟨#[109, 111, 118, 101]⟩, true, true, false, false, false, false), (⟨#[97, 100, 100]⟩, true, true, true, false, true, false), (⟨#[115, 117, 98]⟩, true, true, true, false, true, false), (⟨#[109, 117, 108]⟩, true, true, true, false, true, false), (⟨#[100, 105, 118]⟩, true, true, true, false, true, false), (⟨#[109, 111, 100]⟩, true, true, true, false, true, false), (⟨#[97, 110, 100]⟩, true, true, true, false, true, false), (⟨#[111, 114]⟩, true, true, true, false, true, false), (⟨#[120, 111, 114]⟩, true, true, true, false, true, false), (⟨#[108, 101, 115, 115]⟩, true, true, true, false, true, false), (⟨#[108, 101, 115, 115, 101, 113]⟩, true, true, true, false, true, false), (⟨#[101, 113, 117, 97, 108]⟩, true, true, true, false, true, false), (⟨#[110, 111, 116, 101, 113, 117, 97, 108]⟩, true, true, true, false, true, false), (⟨#[97, 100, 100, 105, 109, 109]⟩, true, true, false, true, false, false), (⟨#[108, 111, 97, 100]⟩, true, true, false, true, false, true), (⟨#[115, 116, 111, 114, 101]⟩, true, true, false, true, false, false), (⟨#[106, 117, 109, 112]⟩, false, false, false, true, false, false), (⟨#[122, 101, 114, 111]⟩, true, false, false, true, false, false), (⟨#[99, 97, 108, 108]⟩, false, false, false, true, false, false), (⟨#[114, 101, 116, 117, 114, 110]⟩, false, false, false, false, false, true), (⟨#[112, 114, 105, 110, 116]⟩, true, false, false, false, false, false)]
def shapeC (x : ByteArray × Bool × Bool × Bool × Bool × Bool × Bool) : List Value := [.string x.1, .bool x.2.1, .bool x.2.2.1, .bool x.2.2.2.1, .bool x.2.2.2.2.1, .bool x.2.2.2.2.2.1, .bool x.2.2.2.2.2.2]
def shapesC : Array Value := (shapes.flatMap shapeC).toArray
/-- The listed variables that the walks read: the shapes, and the powers of ten. -/
def Glob (w : World) : Prop := (∃ t, w.heap[0]? = some (.cells shapesC t (0, 0))) ∧ ∃ t, w.heap[1]? = some (.cells (Lib.pow10Tab.map fun z => Value.int .u64 z).toArray t (0, 0))
theorem Glob.below {w0 w : World} (h : Glob w0) (hb : Below w0.heap.size w0 w) : Glob w := by
  obtain ⟨⟨t, h⟩, ⟨t', h'⟩⟩ := h
  exact ⟨⟨t, blk_below h hb⟩, ⟨t', blk_below h' hb⟩⟩
theorem Glob.tab {w : World} (h : Glob w) : Lib.TabIs Tryd.prog w "internal/strconv.uint64pow10" .u64 Lib.pow10Tab := by
  obtain ⟨_, ⟨t', h'⟩⟩ := h
  unfold Lib.TabIs World.var?
  rw [show Tryd.prog.globalNamed "internal/strconv.uint64pow10" = some 1 by kernel_rfl]
  simp only [Option.bind_some, h']
set_option maxRecDepth 100000 in
theorem shapes_ar {i : Int} (h0 : 6 ≤ i) (h1 : i < 18) : shapesC[i.toNat * 7 + 5]? = some (.bool true) := by
  obtain ⟨n, rfl⟩ : ∃ n : Nat, i = n := ⟨i.toNat, by omega⟩
  have : n = 6 ∨ n = 7 ∨ n = 8 ∨ n = 9 ∨ n = 10 ∨ n = 11 ∨ n = 12 ∨ n = 13 ∨ n = 14 ∨ n = 15 ∨ n = 16 ∨ n = 17 := by omega
  rcases this with rfl | rfl | rfl | rfl | rfl | rfl | rfl | rfl | rfl | rfl | rfl | rfl <;> rfl
set_option maxRecDepth 100000 in
theorem shapes_nop : shapesC[12]? = some (.bool false) := rfl
theorem gen_w {P : Act → World → Prop} {a : Act} {W : World} (F : World → Prop) (hF : F W) (h : ∀ W', F W' → P a W') : P a W := h W hF
end Go.Proofs.YtoakfejpmlgbcaaDoor.PIsa
