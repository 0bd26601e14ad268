-- By wip/xprint.py (a driver of this session's over the kit's print), for this claim.
import Derived.Test.YtoakfejpmlgbcaaDoorPIsax0
namespace Go.Proofs.YtoakfejpmlgbcaaDoor.PIsa
open Go.RowKit Go.Proofs.YtoakfejpmlgbcaaDoorW.PrintWords Go.Proofs.YtoakfejpmlgbcaaDoorW.PrintLast Go.Proofs.YtoakfejpmlgbcaaDoorW.PrintMore
attribute [local go_sem] max2_int min2_int max_two min_two max_three min_three max_four min_four   -- for this text's walks alone
set_option linter.unusedVariables false
set_option linter.unusedSimpArgs false

/-! ### isa_machine_inside: function 47, by hand -/
section
variable {P : Program} {ops : Array Oper} {rest : List Oper} {o : Oper} {a : Act} {W : World} {Q : Exit → Act → World → Prop}
/-- The same as one step of a region that draws. -/
theorem row_step {Kc : Act → World → Prop} (hw : Region.wanted o (yielded ops a.tmps) = true) (ty : TypeId) (x y : Operand) (ho : o.op = .store ty x y) (g : Nat) (cells old : Array Value) (t : TypeId) (hg : W.heap[g]? = some (.cells old t (0, 0)))
    (hx : a.eval x = .pointer (some ⟨g, 0, none⟩)) (hy : a.eval y = .agg cells) (hi : (P.info? ty).map (·.size) = some cells.size) (hold : old.size = cells.size) (h1 : cells.all (·.oneCell') = true)
    (h : ∀ w1, w1.heap[g]? = some (.cells cells t (0, 0)) → W.grownBy w1 (some g) → Kc (a.put o.dst undef) w1) : if Region.wanted o (yielded ops a.tmps) = true then Oper.wp P o a W Kc Q else Kc (a.put o.dst undef) W := by
  rw [if_pos hw]
  refine wp_store_row ty x y ho g cells hx hy t old hg hi hold h1 (h _ ?_ ⟨rfl, rfl, rfl, ?_, ?_⟩)
  · unfold World.setRow
    simp only
    rw [Array.getElem?_modify, if_pos rfl, hg]
    rfl
  · simp [World.setRow]
  · intro k _ hk
    unfold World.setRow
    simp only
    rw [Array.getElem?_modify, if_neg (fun e => hk (by rw [e]))]
/-- A row at the head of a longer one is written. -/
theorem head_event (hgd : o.guard = none) (ty : TypeId) (x y : Operand) (ho : o.op = .store ty x y) (g : Nat) (cells old rest' : List Value) (t : TypeId) (hg : W.heap[g]? = some (.cells (old ++ rest').toArray t (0, 0)))
    (hx : a.eval x = .pointer (some ⟨g, 0, none⟩)) (hy : a.eval y = .agg cells.toArray) (hi : (P.info? ty).map (·.size) = some cells.length) (hold : old.length = cells.length) (h1 : ∀ v ∈ cells, v.oneCell' = true)
    (h : ∀ w1, w1.heap[g]? = some (.cells (cells ++ rest').toArray t (0, 0)) → W.grownBy w1 (some g) → wpList P ops Q rest (a.put o.dst undef) w1) : wpList P ops Q (o :: rest) a W := by
  refine wpList_store_mid hgd ty x y ho g 0 cells.toArray hx hy ?_ (by simpa using hi) (all_oneCell_toArray h1) (h _ ?_ ?_)
  · intro j hj
    have hj' : j < cells.length := by simpa using hj
    refine ⟨?_, by simp [World.frozen?, hg]⟩
    rw [cell_of_row W g _ _ t (0, 0) hg]
    simp [hold, hj']
    omega
  · obtain ⟨cur, h2, h3, h4⟩ := setCells_row cells 0 W (old ++ rest').toArray hg (by simp; omega)
    simp only [List.toList_toArray] at h2 ⊢
    rw [h2]
    congr 3
    apply Array.ext'
    rw [h4]
    simp only [List.take_zero, List.nil_append, Nat.zero_add, List.toList_toArray]
    rw [← hold, List.drop_left]
  · obtain ⟨s1, s2, s3, s4⟩ := setCells_same g cells 0 W
    simp only [List.toList_toArray]
    exact ⟨s1, s2, s3, by rw [s4]; exact Nat.le_refl _, fun k' _ hk => setCells_far _ _ k' (fun he => hk (by rw [he]))⟩
end
/-- A machine: the processor's cells, the memory (a row of its own in block bm), what was printed. -/
def cellsM (cs : List Int) (vm vo : Value) : Array Value := (cs.map (Value.int .i64) ++ [vm, vo]).toArray
theorem cellsM_reg {cs : List Int} {vm vo : Value} (h : cs.length = 17) {n : Nat} (hn : n < 17) : (cellsM cs vm vo)[n]? = some (.int .i64 (cs.getD n 0)) := by
  have : n < cs.length := by omega
  simp [cellsM, List.getElem?_append, this]
theorem cellsM_mem {cs : List Int} {vm vo : Value} (h : cs.length = 17) : (cellsM cs vm vo)[17]? = some vm := by
  obtain ⟨c0, c1, c2, c3, c4, c5, c6, c7, c8, c9, c10, c11, c12, c13, c14, c15, c16, rfl⟩ := len17 h
  rfl
theorem cellsM_out {cs : List Int} {vm vo : Value} (h : cs.length = 17) : (cellsM cs vm vo)[18]? = some vo := by
  obtain ⟨c0, c1, c2, c3, c4, c5, c6, c7, c8, c9, c10, c11, c12, c13, c14, c15, c16, rfl⟩ := len17 h
  rfl
theorem cellsM_setOut {cs : List Int} {vm vo : Value} (h : cs.length = 17) (v : Value) : (cellsM cs vm vo).setIfInBounds 18 v = cellsM cs vm v := by
  obtain ⟨c0, c1, c2, c3, c4, c5, c6, c7, c8, c9, c10, c11, c12, c13, c14, c15, c16, rfl⟩ := len17 h
  rfl
theorem cellsM_setReg {cs : List Int} {vm vo : Value} (h : cs.length = 17) {n : Nat} (hn : n < 17) (v : Int) : (cellsM cs vm vo).setIfInBounds n (.int .i64 v) = cellsM (cs.set n v) vm vo := by
  unfold cellsM
  apply Array.ext'
  simp only [Array.toList_setIfInBounds]
  rw [List.set_append_left _ _ (by simp; omega), List.map_set]
theorem cellsI_set (xs : List Int) (n : Nat) (v : Int) : (cellsI xs).setIfInBounds n (.int .i64 v) = cellsI (xs.set n v) := by
  unfold cellsI
  apply Array.ext'
  simp [List.map_set]
def IsM (base : Nat) (w : World) (g bm : Nat) (cs mem out : List Int) (vo : Value) : Prop :=
  w.heap[g]? = some (.cells (cellsM cs (.slice (some ⟨bm, 0, none⟩) mem.length mem.length) vo) 72 (0, 0)) ∧ w.heap[bm]? = some (.cells (cellsI mem) 3 (0, 0)) ∧ (Kd.int .i64).R 3 w base (fun k => k ≠ g ∧ k ≠ bm) vo out ∧ g ≠ bm ∧ base ≤ g ∧ base ≤ bm ∧ cs.length = 17
theorem rangeM {W : World} {g : Nat} {cs : List Int} {vm vo : Value} {t : TypeId} (h : W.heap[g]? = some (.cells (cellsM cs vm vo) t (0, 0))) : W.rangeAt g 0 (cs.map (Value.int .i64)) := by
  intro j v hv
  have hj : j < (cs.map (Value.int .i64)).length := (List.getElem?_eq_some_iff.1 hv).1
  rw [Nat.zero_add, blk_cell h j, ← hv]
  simp only [cellsM, List.getElem?_toArray]
  rw [List.getElem?_append_left hj]
theorem infoR {cs : List Int} (h : cs.length = 17) : (Tryd.prog.info? 35).map (·.size) = some (cs.map (Value.int .i64)).length := by rw [List.length_map, h]; kernel_rfl
theorem rangeE {W : World} {g : Nat} {cs : List Int} {st : Bool} {ad wd : Int} {pr : Bool} {p : Int} {t : TypeId} (hc : cs.length = 17) (h : W.heap[g]? = some (.cells (cellsE cs st ad wd pr p) t (0, 0))) : W.rangeAt g 0 (cs.map (Value.int .i64)) := by
  intro j v hv
  have hj : j < (cs.map (Value.int .i64)).length := (List.getElem?_eq_some_iff.1 hv).1
  rw [Nat.zero_add, blk_cell h j, ← hv]
  unfold cellsE cellsI
  rw [Array.getElem?_append_left (by simpa using hj)]
  simp
def isa_machine_inside.f (n : Nat) (a : Int) : Option Bool := some (decide (0 ≤ a ∧ a < (n : Int)))
set_option maxHeartbeats 8000000 in
set_option maxRecDepth 100000 in
theorem isa_machine_inside.calls (g n c : Nat) (A : Option Addr) (a : Int) (r : Bool) (w : World) (hc : w.cell? ⟨g, 17, none⟩ = some (.slice A n c)) (h : isa_machine_inside.f n a = some r) :
    Calls Tryd.prog 47 #[.pointer (some ⟨g, 0, none⟩), .int .i64 a] w fun e w' => e = .returned (.bool r) ∧ ∃ nd, w' = w.drewN nd := by
  have hu72 := Tryd.underlying72
  unfold isa_machine_inside.f at h
  have h := Option.some.inj h
  subst h
  by_cases c0 : 0 ≤ a
  · by_cases c1 : a < (n : Int)
    · have hd : decide (0 ≤ a ∧ a < (n : Int)) = true := decide_eq_true ⟨c0, c1⟩
      rw [hd]
      have c1b : decide (a < (n : Int)) = true := decide_eq_true c1
      clear c1 hd
      go_enter Tryd.func47, Tryd.ntmps47
      go_wp2
      go_ret
      exact ⟨rfl, 0, rfl⟩
    · have hd : decide (0 ≤ a ∧ a < (n : Int)) = false := decide_eq_false (fun z => c1 z.2)
      rw [hd]
      have c1b : decide (a < (n : Int)) = false := decide_eq_false c1
      clear c1 hd
      go_enter Tryd.func47, Tryd.ntmps47
      go_wp2
      go_ret
      exact ⟨rfl, 0, rfl⟩
  · have hd : decide (0 ≤ a ∧ a < (n : Int)) = false := decide_eq_false (fun z => c0 z.1)
    rw [hd]
    clear hd
    go_enter Tryd.func47, Tryd.ntmps47
    go_wp2
    go_ret
    exact ⟨rfl, 0, rfl⟩

end Go.Proofs.YtoakfejpmlgbcaaDoor.PIsa
