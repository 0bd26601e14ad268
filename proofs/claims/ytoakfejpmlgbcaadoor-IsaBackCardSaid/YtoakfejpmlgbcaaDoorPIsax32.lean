-- By wip/xprint.py (a driver of this session's over the kit's print), for this claim.
import Derived.Test.YtoakfejpmlgbcaaDoorShl
import Derived.Test.YtoakfejpmlgbcaaDoorPIsax0
import Derived.Test.YtoakfejpmlgbcaaDoorPIsax2
import Derived.Test.YtoakfejpmlgbcaaDoorPIsax3
import Derived.Test.YtoakfejpmlgbcaaDoorPIsax4
import Derived.Test.YtoakfejpmlgbcaaDoorPIsax9
namespace Go.Proofs.YtoakfejpmlgbcaaDoor.PIsa
open Go.RowKit Go.Proofs.YtoakfejpmlgbcaaDoorW.PrintWords Go.Proofs.YtoakfejpmlgbcaaDoorW.PrintLast Go.Proofs.YtoakfejpmlgbcaaDoorW.PrintMore
attribute [local go_sem] max2_int min2_int max_two min_two max_three min_three max_four min_four   -- for this text's walks alone
set_option linter.unusedVariables false
set_option linter.unusedSimpArgs false

/-! ### isa_Text: function 14, by hand: a table, a loop over an array of structs, the library -/
def isa_Text.T9 : Bool × List (List Nat × List Nat) := (true, [([], []), ([], []), ([1], [1]), ([], []), ([3], [3]), ([4], [4]), ([2, 5], [2, 5]), ([6], [6]), ([0, 7, 5], [0, 7]), ([8, 8, 0, 1, 2, 3, 4, 5, 6, 7, 8], [0, 8])])
def isa_Text.B9 : List Nat := [0, 0, 2, 0, 8, 24, 62, 126, 255, 511]
theorem isa_Text.tab9 : rtab .any (opsOf Tryd.f14 9) = isa_Text.T9 := by kernel_rfl
theorem isa_Text.bits9 : waitsOk isa_Text.T9.2 isa_Text.B9 = true := by kernel_rfl
theorem flat7 (f : ByteArray × Bool × Bool × Bool × Bool × Bool × Bool → List Value) (hf : ∀ x, (f x).length = 7) : ∀ (xs : List (ByteArray × Bool × Bool × Bool × Bool × Bool × Bool)) (n : Nat) x, xs[n]? = some x → ∀ j, j < 7 → (xs.flatMap f)[n * 7 + j]? = (f x)[j]?
  | [], n, x, h, _, _ => by simp at h
  | y :: ys, 0, x, h, j, hj => by
    simp only [List.getElem?_cons_zero, Option.some.injEq] at h
    subst h
    rw [List.flatMap_cons, List.getElem?_append_left (by rw [hf]; omega)]
    congr 1
    omega
  | y :: ys, n + 1, x, h, j, hj => by
    rw [List.flatMap_cons, List.getElem?_append_right (by rw [hf]; omega), hf, show (n + 1) * 7 + j - 7 = n * 7 + j from by omega]
    exact flat7 f hf ys n x (by simpa using h) j hj
theorem shape_range {W : World} {t : TypeId} (h : W.heap[0]? = some (.cells shapesC t (0, 0))) {n : Nat} {x : ByteArray × Bool × Bool × Bool × Bool × Bool × Bool} (hx : shapes[n]? = some x) : W.rangeAt 0 (n * 7) (shapeC x) := by
  intro j v hv
  have hj : j < 7 := (List.getElem?_eq_some_iff.1 hv).1
  rw [blk_cell h, ← hv]
  show (shapes.flatMap shapeC).toArray[n * 7 + j]? = _
  rw [List.getElem?_toArray]
  exact flat7 shapeC (fun _ => rfl) shapes n x hx j hj
theorem one7 (nm : ByteArray) (ba bb bc bi ar ld : Bool) : (#[.string nm, .bool ba, .bool bb, .bool bc, .bool bi, .bool ar, .bool ld] : Array Value).all (·.oneCell') = true := by
  apply Array.all_eq_true_iff_forall_mem.2
  intro x hx
  simp only [List.mem_toArray, List.mem_cons, List.not_mem_nil, or_false] at hx
  rcases hx with rfl | rfl | rfl | rfl | rfl | rfl | rfl <;> rfl
theorem isa_register.ev_ (x : Int) : isa_register.f x = some (decide (0 ≤ x ∧ x < 16)) := by
  unfold isa_register.f
  by_cases h : x ≥ 0
  · rw [if_pos h]
    congr 1
    by_cases h' : x < 16
    · rw [decide_eq_true h', decide_eq_true ⟨h, h'⟩]
    · rw [decide_eq_false h', decide_eq_false (fun z => h' z.2)]
  · rw [if_neg h, decide_eq_false (fun z => h z.1)]
theorem isa_known.ev_ (x : Int) : isa_known.f x = some (decide (1 ≤ x ∧ x < 26)) := by
  unfold isa_known.f
  by_cases h : x ≥ 1
  · rw [if_pos h]
    congr 1
    by_cases h' : x < 26
    · rw [decide_eq_true h', decide_eq_true ⟨h, h'⟩]
    · rw [decide_eq_false h', decide_eq_false (fun z => h' z.2)]
  · rw [if_neg h, decide_eq_false (fun z => h z.1)]
/-- An instruction's word. -/
def encW_ (i0 i1 i2 i3 i4 : Int) : Int := Go.bits .or .i64 (Go.bits .or .i64 (Go.bits .or .i64 (Go.bits .or .i64 i0 (wrap64 (i1 * 256))) (wrap64 (i2 * 65536))) (wrap64 (i3 * 16777216))) (wrap64 (i4 * 4294967296))
theorem isa_Encode.ev_ (i0 i1 i2 i3 i4 : Int) : isa_Encode.f 1 i0 i1 i2 i3 i4 = some (if -2147483648 ≤ i4 ∧ i4 < 2147483648 ∧ 0 ≤ i1 ∧ i1 < 16 ∧ 0 ≤ i2 ∧ i2 < 16 ∧ 0 ≤ i3 ∧ i3 < 16 then (if 1 ≤ i0 ∧ i0 < 26 then (encW_ i0 i1 i2 i3 i4, 0) else (0, 4)) else (0, 2)) := by
  have hw : (i4 = wrap64 (wrap32 i4)) ↔ (-2147483648 ≤ i4 ∧ i4 < 2147483648) := by
    unfold wrap64 wrap32
    omega
  have hj : ∀ b, isa_Encode.j0 1 b i0 i1 i2 i3 i4 = some (if b = true then (0, 2) else if 1 ≤ i0 ∧ i0 < 26 then (encW_ i0 i1 i2 i3 i4, 0) else (0, 4)) := by
    intro b
    show (if b = true then some (0, 2) else ((isa_known.f i0).bind fun t => (if t = true then (some (encW_ i0 i1 i2 i3 i4, 0)) else (some (0, 4))))) = _
    rw [isa_known.ev_, Option.bind_some]
    cases b
    · by_cases hk : 1 ≤ i0 ∧ i0 < 26 <;> simp [hk]
    · rfl
  unfold isa_Encode.f
  simp only [isa_register.ev_, Option.bind_some, hj]
  by_cases h4 : i4 = wrap64 (wrap32 i4)
  · rw [if_pos h4]
    have h4' := hw.mp h4
    by_cases h1 : 0 ≤ i1 ∧ i1 < 16 <;> by_cases h2 : 0 ≤ i2 ∧ i2 < 16 <;> by_cases h3 : 0 ≤ i3 ∧ i3 < 16 <;> simp [h1, h2, h3, h4'.1, h4'.2]
  · rw [if_neg h4]
    have h5 : ¬ (-2147483648 ≤ i4 ∧ i4 < 2147483648 ∧ 0 ≤ i1 ∧ i1 < 16 ∧ 0 ≤ i2 ∧ i2 < 16 ∧ 0 ≤ i3 ∧ i3 < 16) := fun z => h4 (hw.mpr ⟨z.1, z.2.1⟩)
    rw [if_neg h5]
    rfl
theorem isa_encodable.ev_ (i0 i1 i2 i3 i4 : Int) : isa_encodable.f 1 i0 i1 i2 i3 i4 = some (enc1 i0 i1 i2 i3 i4) := by
  unfold isa_encodable.f enc1
  rw [isa_Encode.ev_, Option.bind_some]
  congr 1
  by_cases h : -2147483648 ≤ i4 ∧ i4 < 2147483648 ∧ 0 ≤ i1 ∧ i1 < 16 ∧ 0 ≤ i2 ∧ i2 < 16 ∧ 0 ≤ i3 ∧ i3 < 16
  · rw [if_pos h]
    by_cases hk : 1 ≤ i0 ∧ i0 < 26
    · rw [if_pos hk, decide_eq_true (by omega)]
      rfl
    · rw [if_neg hk, decide_eq_false (by omega)]
      rfl
  · rw [if_neg h, decide_eq_false (by omega)]
    rfl
/-- An operand's text. -/
def opText (x : ByteArray × Int) : ByteArray := x.1 ++ ⟨(Lib.itoa x.2).toArray⟩
def textG : List (Bool × ByteArray × Int) → List ByteArray → List ByteArray
  | [], p => p
  | x :: r, p => textG r (if x.1 = true then p ++ [opText x.2] else p)
def opsOf4 (x : ByteArray × Bool × Bool × Bool × Bool × Bool × Bool) (i1 i2 i3 i4 : Int) : List (Bool × ByteArray × Int) := [(x.2.1, ⟨#[114]⟩, i1), (x.2.2.1, ⟨#[114]⟩, i2), (x.2.2.2.1, ⟨#[114]⟩, i3), (x.2.2.2.2.1, ⟨#[]⟩, i4)]
def isa_Text.f (i0 i1 i2 i3 i4 : Int) : Option ByteArray := if enc1 i0 i1 i2 i3 i4 = true then (shapes[i0.toNat]?).bind fun x => some ⟨(Lib.join ((textG (opsOf4 x i1 i2 i3 i4) [x.1]).map (·.data.toList)) [32]).toArray⟩ else some ⟨#[119, 111, 114, 100]⟩
theorem ri0 {ba bb bc bi : Bool} {i1 i2 i3 i4 : Int} (w : World) : (Instr.index 64 (.agg #[.bool ba, .string (⟨#[114]⟩ : ByteArray), .int .i64 i1, .bool bb, .string (⟨#[114]⟩ : ByteArray), .int .i64 i2, .bool bc, .string (⟨#[114]⟩ : ByteArray), .int .i64 i3, .bool bi, .string (⟨#[]⟩ : ByteArray), .int .i64 i4]) (.int .i64 0)).run Tryd.prog w = .ok (.agg #[.bool ba, .string (⟨#[114]⟩ : ByteArray), .int .i64 i1]) w := by kernel_rfl
theorem ri1 {ba bb bc bi : Bool} {i1 i2 i3 i4 : Int} (w : World) : (Instr.index 64 (.agg #[.bool ba, .string (⟨#[114]⟩ : ByteArray), .int .i64 i1, .bool bb, .string (⟨#[114]⟩ : ByteArray), .int .i64 i2, .bool bc, .string (⟨#[114]⟩ : ByteArray), .int .i64 i3, .bool bi, .string (⟨#[]⟩ : ByteArray), .int .i64 i4]) (.int .i64 1)).run Tryd.prog w = .ok (.agg #[.bool bb, .string (⟨#[114]⟩ : ByteArray), .int .i64 i2]) w := by kernel_rfl
theorem ri2 {ba bb bc bi : Bool} {i1 i2 i3 i4 : Int} (w : World) : (Instr.index 64 (.agg #[.bool ba, .string (⟨#[114]⟩ : ByteArray), .int .i64 i1, .bool bb, .string (⟨#[114]⟩ : ByteArray), .int .i64 i2, .bool bc, .string (⟨#[114]⟩ : ByteArray), .int .i64 i3, .bool bi, .string (⟨#[]⟩ : ByteArray), .int .i64 i4]) (.int .i64 2)).run Tryd.prog w = .ok (.agg #[.bool bc, .string (⟨#[114]⟩ : ByteArray), .int .i64 i3]) w := by kernel_rfl
theorem ri3 {ba bb bc bi : Bool} {i1 i2 i3 i4 : Int} (w : World) : (Instr.index 64 (.agg #[.bool ba, .string (⟨#[114]⟩ : ByteArray), .int .i64 i1, .bool bb, .string (⟨#[114]⟩ : ByteArray), .int .i64 i2, .bool bc, .string (⟨#[114]⟩ : ByteArray), .int .i64 i3, .bool bi, .string (⟨#[]⟩ : ByteArray), .int .i64 i4]) (.int .i64 3)).run Tryd.prog w = .ok (.agg #[.bool bi, .string (⟨#[]⟩ : ByteArray), .int .i64 i4]) w := by kernel_rfl
theorem run_index_ops {nm : ByteArray} {ba bb bc bi ar ld : Bool} {i1 i2 i3 i4 : Int} (n : Nat) (x : Bool × ByteArray × Int) (h : (opsOf4 (nm, ba, bb, bc, bi, ar, ld) i1 i2 i3 i4)[n]? = some x) (w : World) : (Instr.index 64 (.agg #[.bool ba, .string (⟨#[114]⟩ : ByteArray), .int .i64 i1, .bool bb, .string (⟨#[114]⟩ : ByteArray), .int .i64 i2, .bool bc, .string (⟨#[114]⟩ : ByteArray), .int .i64 i3, .bool bi, .string (⟨#[]⟩ : ByteArray), .int .i64 i4]) (.int .i64 (n : Int))).run Tryd.prog w = .ok (.agg #[.bool x.1, .string x.2.1, .int .i64 x.2.2]) w := by
  match n, h with
  | 0, h =>
    simp only [opsOf4, List.getElem?_cons_zero, Option.some.injEq] at h
    subst h
    exact ri0 w
  | 1, h =>
    simp only [opsOf4, List.getElem?_cons_succ, List.getElem?_cons_zero, Option.some.injEq] at h
    subst h
    exact ri1 w
  | 2, h =>
    simp only [opsOf4, List.getElem?_cons_succ, List.getElem?_cons_zero, Option.some.injEq] at h
    subst h
    exact ri2 w
  | 3, h =>
    simp only [opsOf4, List.getElem?_cons_succ, List.getElem?_cons_zero, Option.some.injEq] at h
    subst h
    exact ri3 w
  | n + 4, h => simp [opsOf4] at h
theorem join_len (sep : List UInt8) : ∀ (xs : List (List UInt8)), (∀ l ∈ xs, l.length ≤ 100) → (Lib.join xs sep).length ≤ xs.length * (100 + sep.length)
  | [], _ => by simp [Lib.join_nil]
  | x :: r, h => by
    have h0 := h x (List.mem_cons_self ..)
    have hj : ∀ (r : List (List UInt8)), (∀ l ∈ r, l.length ≤ 100) → (Lib.joinTail sep r).length ≤ r.length * (100 + sep.length) := by
      intro r
      induction r with
      | nil => intro _; simp [Lib.joinTail]
      | cons y t ih =>
        intro hr
        have h1 := ih (fun l hl => hr l (List.mem_cons_of_mem _ hl))
        have h2 := hr y (List.mem_cons_self ..)
        simp only [Lib.joinTail, List.map_cons, List.flatten_cons, List.length_append, List.length_cons] at h1 ⊢
        rw [Nat.add_mul]
        omega
    have h1 := hj r (fun l hl => h l (List.mem_cons_of_mem _ hl))
    rw [Lib.join_cons, List.length_append, List.length_cons, Nat.add_mul]
    omega
theorem shapes_size : ∀ x ∈ shapes, x.1.size ≤ 100 := by decide
theorem one3 (b : Bool) (s : ByteArray) (m : Int) : (#[.bool b, .string s, .int .i64 m] : Array Value).all (·.oneCell') = true := by
  apply Array.all_eq_true_iff_forall_mem.2
  intro x hx
  simp only [List.mem_toArray, List.mem_cons, List.not_mem_nil, or_false] at hx
  rcases hx with rfl | rfl | rfl <;> rfl
theorem textG_len : ∀ (l : List (Bool × ByteArray × Int)) (p : List ByteArray), (textG l p).length ≤ p.length + l.length ∧ p.length ≤ (textG l p).length
  | [], p => ⟨Nat.le_refl _, Nat.le_refl _⟩
  | x :: r, p => by
    unfold textG
    have := textG_len r (if x.1 = true then p ++ [opText x.2] else p)
    split at this <;> split <;> simp_all <;> omega
theorem opText_size (s : ByteArray) (n : Int) (h0 : -9223372036854775808 ≤ n) (h1 : n ≤ 9223372036854775807) : (opText (s, n)).size ≤ s.size + 21 := by
  have := Lib.itoa_length_le n h0 h1
  unfold opText
  rw [ByteArray.size_append]
  show s.size + (Lib.itoa n).toArray.size ≤ _
  simp only [List.size_toArray]
  omega
set_option maxHeartbeats 8000000 in
set_option maxRecDepth 100000 in
theorem isa_Text.calls (i0 i1 i2 i3 i4 : Int) (r : ByteArray) (w : World) (hGl : Aside0 (Glob w)) (h : isa_Text.f i0 i1 i2 i3 i4 = some r) :
    Calls Tryd.prog 14 #[.agg #[.int .i64 i0, .int .i64 i1, .int .i64 i2, .int .i64 i3, .int .i64 i4]] w fun e w' => e = .returned (.string r) ∧ Below w.heap.size w w' := by
  have HB := Aside0.mk (Below.refl w.heap.size w)
  have hu23 := Tryd.underlying23
  have hu60 := Tryd.underlying60
  have hu61 := Tryd.underlying61
  have hu63 := Tryd.underlying63
  have HE := Aside0.mk (isa_encodable.ev_ i0 i1 i2 i3 i4)
  unfold isa_Text.f at h
  by_cases ce : enc1 i0 i1 i2 i3 i4 = true
  case neg =>
    rw [if_neg ce] at h
    have h := Option.some.inj h
    subst h
    have HE1 := Aside0.mk (HE.out.trans (congrArg some (Bool.eq_false_iff.mpr ce)))
    clear HE ce
    go_enter Tryd.func14, Tryd.ntmps14
    go_upto_region 1 with (first | ((with_reducible refine gate_dst (N := 1) rfl ?_); refine box_event ?hg (N := 1) ?hd (cs := #[.int .i64 i0, .int .i64 i1, .int .i64 i2, .int .i64 i3, .int .i64 i4]) (t := 23) ?hr ?_; (case hd => rfl); (case hg => rfl); (case hr => first | (go_simp; done) | (go_simp; rfl)); intro gb1 hg w1 hbox hb; have n0_ := Aside0.mk (below_step (by repeat (first | (with_reducible first | exact HB.out | apply below_alloc | apply pw_below_drewN | apply below_drew1) | exact HB.out)) hb); have n1_ := Aside0.mk hbox; have n2_ := Aside0.mk ((by rw [hg]; exact (below_size (by repeat (first | (with_reducible first | exact HB.out | apply below_alloc | apply pw_below_drewN | apply below_drew1) | exact HB.out)))) : w.heap.size ≤ gb1); clear HB; have HB := n0_; have BK1 := n1_; have GE1 := n2_; clear n0_ n1_ n2_; clear hb hbox hg))
    have hca_0 : w1.cell? ⟨gb1, 0, none⟩ = some (.int .i64 i0) := (blk_cell BK1.out 0).trans (rfl)
    have hca_1 : w1.cell? ⟨gb1, 1, none⟩ = some (.int .i64 i1) := (blk_cell BK1.out 1).trans (rfl)
    have hca_2 : w1.cell? ⟨gb1, 2, none⟩ = some (.int .i64 i2) := (blk_cell BK1.out 2).trans (rfl)
    have hca_3 : w1.cell? ⟨gb1, 3, none⟩ = some (.int .i64 i3) := (blk_cell BK1.out 3).trans (rfl)
    have hca_4 : w1.cell? ⟨gb1, 4, none⟩ = some (.int .i64 i4) := (blk_cell BK1.out 4).trans (rfl)
    have hfa_0 := blk_frozen BK1.out 0
    have hfa_1 := blk_frozen BK1.out 1
    have hfa_2 := blk_frozen BK1.out 2
    have hfa_3 := blk_frozen BK1.out 3
    have hfa_4 := blk_frozen BK1.out 4
    go_wp2_with (first | (go_at_call 32; (with_reducible refine (isa_encodable.calls 1 i0 i1 i2 i3 i4 false _ HE1.out).mono ?_); rintro e w' ⟨rfl, hb⟩; have n0_ := Aside0.mk (below_step (by repeat (first | (with_reducible first | exact HB.out | apply below_alloc | apply pw_below_drewN | apply below_drew1) | exact HB.out)) hb); have m1_ := Aside0.mk (blk_below (by (with_reducible repeat (first | exact BK1.out | refine blk_drewN ?_ _ | refine blk_drew ?_ | refine blk_alloc ?_ _)); try exact BK1.out) hb); clear HB; have HB := n0_; clear n0_; clear BK1; have BK1 := m1_; clear m1_; clear hb))
    go_ret
    exact ⟨rfl, (by repeat (first | (with_reducible first | exact HB.out | apply below_alloc | apply pw_below_drewN | apply below_drew1) | exact HB.out))⟩
  rw [if_pos ce] at h
  have HE1 := Aside0.mk (HE.out.trans (congrArg some ce))
  clear HE
  have he := of_decide_eq_true ce
  obtain ⟨b1, b2, b3, b4, b5, b6, b7, b8, b9, b10⟩ := he
  clear ce
  obtain ⟨⟨nm, ba, bb, bc, bi, ar, ld⟩, hx, h⟩ := Option.bind_eq_some_iff.mp h
  have h := Option.some.inj h
  have H := Aside0.mk h
  have HX := Aside0.mk hx
  clear h hx
  go_enter Tryd.func14, Tryd.ntmps14
  go_upto_region 1 with (first | ((with_reducible refine gate_dst (N := 1) rfl ?_); refine box_event ?hg (N := 1) ?hd (cs := #[.int .i64 i0, .int .i64 i1, .int .i64 i2, .int .i64 i3, .int .i64 i4]) (t := 23) ?hr ?_; (case hd => rfl); (case hg => rfl); (case hr => first | (go_simp; done) | (go_simp; rfl)); intro gb1 hg w1 hbox hb; have n0_ := Aside0.mk (below_step (by repeat (first | (with_reducible first | exact HB.out | apply below_alloc | apply pw_below_drewN | apply below_drew1) | exact HB.out)) hb); have n1_ := Aside0.mk hbox; have n2_ := Aside0.mk ((by rw [hg]; exact (below_size (by repeat (first | (with_reducible first | exact HB.out | apply below_alloc | apply pw_below_drewN | apply below_drew1) | exact HB.out)))) : w.heap.size ≤ gb1); clear HB; have HB := n0_; have BK1 := n1_; have GE1 := n2_; clear n0_ n1_ n2_; clear hb hbox hg))
  have hca_0 : w1.cell? ⟨gb1, 0, none⟩ = some (.int .i64 i0) := (blk_cell BK1.out 0).trans (rfl)
  have hca_1 : w1.cell? ⟨gb1, 1, none⟩ = some (.int .i64 i1) := (blk_cell BK1.out 1).trans (rfl)
  have hca_2 : w1.cell? ⟨gb1, 2, none⟩ = some (.int .i64 i2) := (blk_cell BK1.out 2).trans (rfl)
  have hca_3 : w1.cell? ⟨gb1, 3, none⟩ = some (.int .i64 i3) := (blk_cell BK1.out 3).trans (rfl)
  have hca_4 : w1.cell? ⟨gb1, 4, none⟩ = some (.int .i64 i4) := (blk_cell BK1.out 4).trans (rfl)
  have hfa_0 := blk_frozen BK1.out 0
  have hfa_1 := blk_frozen BK1.out 1
  have hfa_2 := blk_frozen BK1.out 2
  have hfa_3 := blk_frozen BK1.out 3
  have hfa_4 := blk_frozen BK1.out 4
  go_upto_region 3 with (first | (go_at_call 32; (with_reducible refine (isa_encodable.calls 1 i0 i1 i2 i3 i4 true _ HE1.out).mono ?_); rintro e wa ⟨rfl, hb⟩; have n0_ := Aside0.mk (below_step (by repeat (first | (with_reducible first | exact HB.out | apply below_alloc | apply pw_below_drewN | apply below_drew1) | exact HB.out)) hb); have m1_ := Aside0.mk (blk_below (by (with_reducible repeat (first | exact BK1.out | refine blk_drewN ?_ _ | refine blk_drew ?_ | refine blk_alloc ?_ _)); try exact BK1.out) hb); clear HB; have HB := n0_; clear n0_; clear BK1; have BK1 := m1_; clear m1_; clear hb))
  clear hca_0 hfa_0 hca_1 hfa_1 hca_2 hfa_2 hca_3 hfa_3 hca_4 hfa_4
  have hcb_0 : wa.cell? ⟨gb1, 0, none⟩ = some (.int .i64 i0) := (blk_cell BK1.out 0).trans (rfl)
  have hcb_1 : wa.cell? ⟨gb1, 1, none⟩ = some (.int .i64 i1) := (blk_cell BK1.out 1).trans (rfl)
  have hcb_2 : wa.cell? ⟨gb1, 2, none⟩ = some (.int .i64 i2) := (blk_cell BK1.out 2).trans (rfl)
  have hcb_3 : wa.cell? ⟨gb1, 3, none⟩ = some (.int .i64 i3) := (blk_cell BK1.out 3).trans (rfl)
  have hcb_4 : wa.cell? ⟨gb1, 4, none⟩ = some (.int .i64 i4) := (blk_cell BK1.out 4).trans (rfl)
  have hfb_0 := blk_frozen BK1.out 0
  have hfb_1 := blk_frozen BK1.out 1
  have hfb_2 := blk_frozen BK1.out 2
  have hfb_3 := blk_frozen BK1.out 3
  have hfb_4 := blk_frozen BK1.out 4
  have hGw := Glob.below hGl.out (by repeat (first | (with_reducible first | exact HB.out | apply below_alloc | apply pw_below_drewN | apply below_drew1) | exact HB.out))
  obtain ⟨⟨tG, hG⟩, _⟩ := hGw
  have HRG := Aside0.mk (shape_range hG HX.out)
  clear hG
  go_upto_region 4 with (first | ((with_reducible refine gate_dst (N := 13) rfl ?_); refine wpList_load_mid (by rfl) 60 _ rfl 0 (i0.toNat * 7) (by first | rfl | (go_simp; done)) [.string nm, .bool ba, .bool bb, .bool bc, .bool bi, .bool ar, .bool ld] _ (HRG.out) Tryd.underlying60 rfl (by kernel_rfl) ?_) | ((with_reducible refine gate_dst (N := 3) rfl ?_); refine box_event ?hg (N := 3) ?hd (cs := #[.string (⟨#[]⟩ : ByteArray), .bool false, .bool false, .bool false, .bool false, .bool false, .bool false]) (t := 60) ?hr ?_; (case hd => rfl); (case hg => rfl); (case hr => first | (go_simp; done) | (go_simp; rfl)); intro gb3 hg w3 hbox hb; have n0_ := Aside0.mk (below_step (by repeat (first | (with_reducible first | exact HB.out | apply below_alloc | apply pw_below_drewN | apply below_drew1) | exact HB.out)) hb); have n1_ := Aside0.mk hbox; have n2_ := Aside0.mk ((by rw [hg]; exact (below_size (by repeat (first | (with_reducible first | exact HB.out | apply below_alloc | apply pw_below_drewN | apply below_drew1) | exact HB.out)))) : w.heap.size ≤ gb3); have m1_ := Aside0.mk (blk_below (by (with_reducible repeat (first | exact BK1.out | refine blk_drewN ?_ _ | refine blk_drew ?_ | refine blk_alloc ?_ _)); try exact BK1.out) hb); have k1_ := Aside0.mk (show gb1 ≠ gb3 from by rw [hg]; exact Nat.ne_of_lt (blk_lt (by (with_reducible repeat (first | exact BK1.out | refine blk_drewN ?_ _ | refine blk_drew ?_ | refine blk_alloc ?_ _)); try exact BK1.out))); clear HB; have HB := n0_; have BK3 := n1_; have GE3 := n2_; clear n0_ n1_ n2_; clear BK1; have BK1 := m1_; have NE1_3 := k1_; clear m1_ k1_; clear hb hbox hg) | ((with_reducible refine gate_store (t := 60) (p := 3) rfl ?_); refine row_event (by rfl) 60 _ _ rfl gb3 (#[.string nm, .bool ba, .bool bb, .bool bc, .bool bi, .bool ar, .bool ld]) _ _ (by (with_reducible repeat (first | exact BK3.out | refine blk_drewN ?_ _ | refine blk_drew ?_ | refine blk_alloc ?_ _)); try exact BK3.out) (by rfl) (by rfl) (by kernel_rfl) (by rfl) (one7 nm ba bb bc bi ar ld) ?_; intro w3_ hbox hg; have n0_ := Aside0.mk (pw_below_grown (by repeat (first | (with_reducible first | exact HB.out | apply below_alloc | apply pw_below_drewN | apply below_drew1) | exact HB.out)) (some gb3) (below_size (by repeat (first | (with_reducible first | exact HB.out | apply below_alloc | apply pw_below_drewN | apply below_drew1) | exact HB.out))) hg (by rintro k_ e_; injection e_ with e_; rw [← e_]; exact GE3.out)); have n1_ := Aside0.mk hbox; have m1_ := Aside0.mk (blk_grown (by (with_reducible repeat (first | exact BK1.out | refine blk_drewN ?_ _ | refine blk_drew ?_ | refine blk_alloc ?_ _)); try exact BK1.out) hg (fun e_ => by injection e_ with e_; exact NE1_3.out e_)); clear HB BK3; have HB := n0_; have BK3 := n1_; clear n0_ n1_; clear BK1; have BK1 := m1_; clear m1_; clear hg hbox))
  have hcs_0 : w3_.cell? ⟨gb3, 0, none⟩ = some (.string nm) := (blk_cell BK3.out 0).trans (rfl)
  have hcs_1 : w3_.cell? ⟨gb3, 1, none⟩ = some (.bool ba) := (blk_cell BK3.out 1).trans (rfl)
  have hcs_2 : w3_.cell? ⟨gb3, 2, none⟩ = some (.bool bb) := (blk_cell BK3.out 2).trans (rfl)
  have hcs_3 : w3_.cell? ⟨gb3, 3, none⟩ = some (.bool bc) := (blk_cell BK3.out 3).trans (rfl)
  have hcs_4 : w3_.cell? ⟨gb3, 4, none⟩ = some (.bool bi) := (blk_cell BK3.out 4).trans (rfl)
  have hfs_0 := blk_frozen BK3.out 0
  have hfs_1 := blk_frozen BK3.out 1
  have hfs_2 := blk_frozen BK3.out 2
  have hfs_3 := blk_frozen BK3.out 3
  have hfs_4 := blk_frozen BK3.out 4
  go_upto_region 5 with (first | ((with_reducible refine gate_dst (N := 16) rfl ?_); refine Kd.R_lit Kd.string (w0 := w) w.heap.size 9 ?hg (N := 16) ?hd (xs := [nm]) (inner := [.string nm]) (ok := fun _ => True) (okp := fun _ => False) ?hr ?hp (fun _ hk => hk.elim) trivial (by repeat (first | (with_reducible first | exact HB.out | apply below_alloc | apply pw_below_drewN | apply below_drew1) | exact HB.out)) (below_size (by repeat (first | (with_reducible first | exact HB.out | apply below_alloc | apply pw_below_drewN | apply below_drew1) | exact HB.out))) (by simp) ?_; (case hd => rfl); (case hg => rfl); (case hr => first | (go_simp; done) | (go_simp; rfl)); (case hp => exact (Reps.one (show Kd.M Kd.string _ _ _ nm [.string nm] from rfl) (Reps.none _ _))); intro vp w16 ho2 hb hg_ hnew_; clear hnew_; have m1_ := Aside0.mk (blk_grown (by (with_reducible repeat (first | exact BK1.out | refine blk_drewN ?_ _ | refine blk_drew ?_ | refine blk_alloc ?_ _)); try exact BK1.out) hg_ (by simp)); have m3_ := Aside0.mk (blk_grown (by (with_reducible repeat (first | exact BK3.out | refine blk_drewN ?_ _ | refine blk_drew ?_ | refine blk_alloc ?_ _)); try exact BK3.out) hg_ (by simp)); clear HB BK1 BK3; have HB := Aside0.mk hb; have HO := Aside0.mk ho2; have BK1 := m1_; have BK3 := m3_; clear hb ho2 hg_ m1_ m3_))
  clear hcb_0 hfb_0 hcs_0 hfs_0 hcb_1 hfb_1 hcs_1 hfs_1 hcb_2 hfb_2 hcs_2 hfs_2 hcb_3 hfb_3 hcs_3 hfs_3 hcb_4 hfb_4 hcs_4 hfs_4
  have hcs_0 : w16.cell? ⟨gb3, 0, none⟩ = some (.string nm) := (blk_cell BK3.out 0).trans (rfl)
  have hcs_1 : w16.cell? ⟨gb3, 1, none⟩ = some (.bool ba) := (blk_cell BK3.out 1).trans (rfl)
  have hcs_2 : w16.cell? ⟨gb3, 2, none⟩ = some (.bool bb) := (blk_cell BK3.out 2).trans (rfl)
  have hcs_3 : w16.cell? ⟨gb3, 3, none⟩ = some (.bool bc) := (blk_cell BK3.out 3).trans (rfl)
  have hcs_4 : w16.cell? ⟨gb3, 4, none⟩ = some (.bool bi) := (blk_cell BK3.out 4).trans (rfl)
  have hfs_0 := blk_frozen BK3.out 0
  have hfs_1 := blk_frozen BK3.out 1
  have hfs_2 := blk_frozen BK3.out 2
  have hfs_3 := blk_frozen BK3.out 3
  have hfs_4 := blk_frozen BK3.out 4
  have hcc_0 : w16.cell? ⟨gb1, 0, none⟩ = some (.int .i64 i0) := (blk_cell BK1.out 0).trans (rfl)
  have hcc_1 : w16.cell? ⟨gb1, 1, none⟩ = some (.int .i64 i1) := (blk_cell BK1.out 1).trans (rfl)
  have hcc_2 : w16.cell? ⟨gb1, 2, none⟩ = some (.int .i64 i2) := (blk_cell BK1.out 2).trans (rfl)
  have hcc_3 : w16.cell? ⟨gb1, 3, none⟩ = some (.int .i64 i3) := (blk_cell BK1.out 3).trans (rfl)
  have hcc_4 : w16.cell? ⟨gb1, 4, none⟩ = some (.int .i64 i4) := (blk_cell BK1.out 4).trans (rfl)
  have hfc_0 := blk_frozen BK1.out 0
  have hfc_1 := blk_frozen BK1.out 1
  have hfc_2 := blk_frozen BK1.out 2
  have hfc_3 := blk_frozen BK1.out 3
  have hfc_4 := blk_frozen BK1.out 4
  go_wp2
  clear hcs_0 hfs_0 hcc_0 hfc_0 hcs_1 hfs_1 hcc_1 hfc_1 hcs_2 hfs_2 hcc_2 hfc_2 hcs_3 hfs_3 hcc_3 hfc_3 hcs_4 hfs_4 hcc_4 hfc_4
  have HIX := Aside0.mk (run_index_ops (ba := ba) (bb := bb) (bc := bc) (bi := bi) (i1 := i1) (i2 := i2) (i3 := i3) (i4 := i4) (nm := nm) (ar := ar) (ld := ld))
  have HM := Aside0.mk (show ∀ x ∈ (opsOf4 (nm, ba, bb, bc, bi, ar, ld) i1 i2 i3 i4), -9223372036854775808 ≤ x.2.2 ∧ x.2.2 ≤ 9223372036854775807 ∧ x.2.1.size ≤ 1 from by intro x hx; simp only [opsOf4, List.mem_cons, List.not_mem_nil, or_false] at hx; rcases hx with rfl | rfl | rfl | rfl <;> exact ⟨by dsimp only; omega, by dsimp only; omega, Nat.le_of_ble_eq_true rfl⟩)
  have HL4 := Aside0.mk (show ((opsOf4 (nm, ba, bb, bc, bi, ar, ld) i1 i2 i3 i4)).length = 4 from rfl)
  have H0 := Aside0.mk (show (⟨(Lib.join ((textG (((opsOf4 (nm, ba, bb, bc, bi, ar, ld) i1 i2 i3 i4)).drop 0) [nm]).map (·.data.toList)) [32]).toArray⟩ : ByteArray) = r from H.out)
  clear H
  generalize hops : (opsOf4 (nm, ba, bb, bc, bi, ar, ld) i1 i2 i3 i4) = ops at HIX HM HL4 H0
  clear hops
  go_loopg [38, 4] 4 (fun kq v38 v4 wc => ∃ (n : Nat) (ps : List ByteArray), v38 = .int .i64 (n : Int) ∧ n ≤ 4 ∧ 4 - n ≤ kq ∧ Aside0 ((⟨(Lib.join ((textG (ops.drop n) ps).map (·.data.toList)) [32]).toArray⟩ : ByteArray) = r) ∧ Aside0 (Kd.string.R 9 wc w.heap.size (fun _ => True) v4 ps) ∧ Aside0 (Below w.heap.size w wc) ∧ Aside0 (0 < ps.length ∧ ps.length ≤ n + 1) ∧ Aside0 (∀ p ∈ ps, p.size ≤ 100))
  case atStart => exact ⟨0, [nm], rfl, by omega, by omega, H0, HO, HB, ⟨by simp, by simp⟩, ⟨fun p hp => by rw [List.mem_singleton] at hp; rw [hp]; exact shapes_size _ (List.mem_of_getElem? HX.out)⟩⟩
  case round =>
    clear H0 HO HB BK1 BK3
    obtain ⟨n, ps, rfl, hn, hkq, H, HO, HB, HP, HQ⟩ := hrel
    by_cases hlt : n < 4
    · have hl : n < ops.length := by rw [HL4.out]; exact hlt
      obtain ⟨⟨b, s, m⟩, hx⟩ : ∃ x, ops[n]? = some x := ⟨_, List.getElem?_eq_getElem hl⟩
      have hd : ops.drop n = (b, s, m) :: ops.drop (n + 1) := by
        rw [List.drop_eq_getElem_cons hl]
        rw [List.getElem?_eq_getElem hl] at hx
        rw [Option.some.inj hx]
      have h1 := H.out
      rw [hd] at h1
      have H1 := Aside0.mk (show (⟨(Lib.join ((textG (ops.drop (n + 1)) (if b = true then ps ++ [opText (s, m)] else ps)).map (·.data.toList)) [32]).toArray⟩ : ByteArray) = r from h1)
      have hm := HM.out (b, s, m) (List.mem_of_getElem? hx)
      have hidx := HIX.out n (b, s, m) hx
      dsimp only at hidx hm
      obtain ⟨hm0, hm1, hm2⟩ := hm
      have hop := opText_size s m hm0 hm1
      obtain ⟨tx, htx⟩ : ∃ t : ByteArray, (⟨(Lib.itoa m).toArray⟩ : ByteArray) = t := ⟨_, rfl⟩
      have hope : opText (s, m) = s ++ tx := by unfold opText; rw [htx]
      rw [hope] at hop
      have HS := Aside0.mk (show (s ++ tx).size ≤ 100 from by omega)
      rw [ByteArray.size_append] at hop
      have hsz : s.size + tx.size ≤ 9223372036854775807 := by omega
      have hsz2 : ¬ (9223372036854775807 < s.size + tx.size) := by omega
      have c0 : decide ((n : Int) < 4) = true := decide_eq_true (by omega)
      rw [hope] at H1
      have cI := fun w_ ht_ => strconv_Itoa m hm0 hm1 w_ ht_
      simp only [htx] at cI
      have CI_ := Aside0.mk cI
      clear hd h1 H hx htx hope hop cI
      cases b with
      | false =>
        go_wp2_with (first | ((with_reducible refine gate_dst (N := 6) rfl ?_); refine box_event ?hg (N := 6) ?hd (cs := #[.bool false, .string (⟨#[]⟩ : ByteArray), .int .i64 0]) (t := 63) ?hr ?_; (case hd => rfl); (case hg => rfl); (case hr => first | (go_simp; done) | (go_simp; rfl)); intro gb6 hg w6 hbox hb; have r0_ := Aside0.mk (Kd.R_below (Kd.R_mono (Kd.R_bound (by (with_reducible repeat (first | exact HO.out | apply Kd.R_drewN | apply Kd.R_drew | apply Kd.R_alloc)))) (fun k_ hk_ => (by have := hk_.2.2.1; rw [hg]; omega : k_ ≠ gb6))) hb); have n0_ := Aside0.mk (below_step (by repeat (first | (with_reducible first | exact HB.out | apply below_alloc | apply pw_below_drewN | apply below_drew1) | exact HB.out)) hb); have n1_ := Aside0.mk hbox; have n2_ := Aside0.mk ((by rw [hg]; exact (below_size (by repeat (first | (with_reducible first | exact HB.out | apply below_alloc | apply pw_below_drewN | apply below_drew1) | exact HB.out)))) : w.heap.size ≤ gb6); clear HB; have HB := n0_; have BK6 := n1_; have GE6 := n2_; clear n0_ n1_ n2_; clear HO; have HO := r0_; clear r0_; clear hb hbox hg) | ((with_reducible refine gate_store (t := 63) (p := 6) rfl ?_); refine row_event (by rfl) 63 _ _ rfl gb6 (#[.bool false, .string s, .int .i64 m]) _ _ (by (with_reducible repeat (first | exact BK6.out | refine blk_drewN ?_ _ | refine blk_drew ?_ | refine blk_alloc ?_ _)); try exact BK6.out) (by rfl) (by rfl) (by kernel_rfl) (by rfl) (one3 _ _ _) ?_; intro w6_ hbox hg; have r0_ := Aside0.mk (Kd.R_grown (by (with_reducible repeat (first | exact HO.out | apply Kd.R_drewN | apply Kd.R_drew | apply Kd.R_alloc))) hg (fun k_ (hk_ : k_ ≠ gb6) e_ => hk_ (Option.some.inj e_))); clear HO; have HO := r0_; clear r0_; have n0_ := Aside0.mk (pw_below_grown (by repeat (first | (with_reducible first | exact HB.out | apply below_alloc | apply pw_below_drewN | apply below_drew1) | exact HB.out)) (some gb6) (below_size (by repeat (first | (with_reducible first | exact HB.out | apply below_alloc | apply pw_below_drewN | apply below_drew1) | exact HB.out))) hg (by rintro k_ e_; injection e_ with e_; rw [← e_]; exact GE6.out)); have n1_ := Aside0.mk hbox; clear HB BK6; have HB := n0_; have BK6 := n1_; clear n0_ n1_; clear hg hbox; have hu0 : w6_.cell? ⟨gb6, 0, none⟩ = some (.bool false) := (blk_cell BK6.out 0).trans rfl; have hu1 : w6_.cell? ⟨gb6, 1, none⟩ = some (.string s) := (blk_cell BK6.out 1).trans rfl; have hu2 : w6_.cell? ⟨gb6, 2, none⟩ = some (.int .i64 m) := (blk_cell BK6.out 2).trans rfl))
        go_roundg (4 - (n + 1))
        case measure => omega
        case rel => exact ⟨n + 1, ps, (by first | rfl | (simp; done)), by omega, Nat.le_refl _, ⟨by have := H1.out; rw [if_neg (by decide)] at this; exact this⟩, ⟨Kd.R_mono (by (with_reducible repeat (first | exact HO.out | apply Kd.R_drewN | apply Kd.R_drew | apply Kd.R_alloc))) (fun _ _ => trivial)⟩, ⟨(by repeat (first | (with_reducible first | exact HB.out | apply below_alloc | apply pw_below_drewN | apply below_drew1) | exact HB.out))⟩, ⟨by have := HP.out; omega, by have := HP.out; omega⟩, HQ⟩
      | true =>
        go_wp2_with (first | ((with_reducible refine gate_dst (N := 6) rfl ?_); refine box_event ?hg (N := 6) ?hd (cs := #[.bool false, .string (⟨#[]⟩ : ByteArray), .int .i64 0]) (t := 63) ?hr ?_; (case hd => rfl); (case hg => rfl); (case hr => first | (go_simp; done) | (go_simp; rfl)); intro gb6 hg w6 hbox hb; have r0_ := Aside0.mk (Kd.R_below (Kd.R_mono (Kd.R_bound (by (with_reducible repeat (first | exact HO.out | apply Kd.R_drewN | apply Kd.R_drew | apply Kd.R_alloc)))) (fun k_ hk_ => (by have := hk_.2.2.1; rw [hg]; omega : k_ ≠ gb6))) hb); have n0_ := Aside0.mk (below_step (by repeat (first | (with_reducible first | exact HB.out | apply below_alloc | apply pw_below_drewN | apply below_drew1) | exact HB.out)) hb); have n1_ := Aside0.mk hbox; have n2_ := Aside0.mk ((by rw [hg]; exact (below_size (by repeat (first | (with_reducible first | exact HB.out | apply below_alloc | apply pw_below_drewN | apply below_drew1) | exact HB.out)))) : w.heap.size ≤ gb6); clear HB; have HB := n0_; have BK6 := n1_; have GE6 := n2_; clear n0_ n1_ n2_; clear HO; have HO := r0_; clear r0_; clear hb hbox hg) | ((with_reducible refine gate_store (t := 63) (p := 6) rfl ?_); refine row_event (by rfl) 63 _ _ rfl gb6 (#[.bool true, .string s, .int .i64 m]) _ _ (by (with_reducible repeat (first | exact BK6.out | refine blk_drewN ?_ _ | refine blk_drew ?_ | refine blk_alloc ?_ _)); try exact BK6.out) (by rfl) (by rfl) (by kernel_rfl) (by rfl) (one3 _ _ _) ?_; intro w6_ hbox hg; have r0_ := Aside0.mk (Kd.R_grown (by (with_reducible repeat (first | exact HO.out | apply Kd.R_drewN | apply Kd.R_drew | apply Kd.R_alloc))) hg (fun k_ (hk_ : k_ ≠ gb6) e_ => hk_ (Option.some.inj e_))); clear HO; have HO := r0_; clear r0_; have n0_ := Aside0.mk (pw_below_grown (by repeat (first | (with_reducible first | exact HB.out | apply below_alloc | apply pw_below_drewN | apply below_drew1) | exact HB.out)) (some gb6) (below_size (by repeat (first | (with_reducible first | exact HB.out | apply below_alloc | apply pw_below_drewN | apply below_drew1) | exact HB.out))) hg (by rintro k_ e_; injection e_ with e_; rw [← e_]; exact GE6.out)); have n1_ := Aside0.mk hbox; clear HB BK6; have HB := n0_; have BK6 := n1_; clear n0_ n1_; clear hg hbox; have hu0 : w6_.cell? ⟨gb6, 0, none⟩ = some (.bool true) := (blk_cell BK6.out 0).trans rfl; have hu1 : w6_.cell? ⟨gb6, 1, none⟩ = some (.string s) := (blk_cell BK6.out 1).trans rfl; have hu2 : w6_.cell? ⟨gb6, 2, none⟩ = some (.int .i64 m) := (blk_cell BK6.out 2).trans rfl))
        refine start_ (n := 10) (S := fun w' => w'.cell? ⟨gb6, 1, none⟩ = some (.string s) ∧ w'.cell? ⟨gb6, 2, none⟩ = some (.int .i64 m)) (ds := []) #[false, false, false, false, false, false, false, false, false, false] (by kernel_rfl) rfl rfl ⟨hu1, hu2⟩ (fun hHeld => ?_); refine with_tabW isa_Text.tab9 isa_Text.bits9 (fun HT_ HW_ => ?_)
        refine pure_ (i := 0) (N := some 43) (v := ?_) (a' := ?_) #[true, false, false, false, false, false, false, false, false, false] rfl rfl (any_of HT_.out (by kernel_rfl)) (fun _ _ _ h => h) (Or.inl ⟨by rfl, ?_⟩) ?_ ?_
        rotate_left
        · intro w'
          go_simp
          (try with_reducible rfl)
        rotate_left
        · simp only [Act.put, List.setIfInBounds_toArray, List.set_cons_zero, List.set_cons_succ, i64_w, i32_w]
          rfl
        refine pure_ (i := 1) (N := some 44) (v := ?_) (a' := ?_) #[true, true, false, false, false, false, false, false, false, false] rfl rfl (any_of HT_.out (by kernel_rfl)) (fun _ _ _ h => h) (Or.inl ⟨by rfl, ?_⟩) ?_ ?_
        rotate_left
        · intro w'
          go_simp
          (try with_reducible rfl)
        rotate_left
        · simp only [Act.put, List.setIfInBounds_toArray, List.set_cons_zero, List.set_cons_succ, i64_w, i32_w]
          rfl
        refine take_ (i := 2) (N := some 45) (v := ?_) (a' := ?_) #[true, true, true, false, false, false, false, false, false, false] rfl rfl (take_ofW HT_.out HW_.out (by kernel_rfl)) (fun _ _ _ h => h) (Or.inl ⟨by rfl, ?_⟩) hHeld ?_ ?_
        rotate_left
        · rintro w' ⟨s0, s1⟩
          go_simp
          (try with_reducible rfl)
        rotate_left
        · simp only [Act.put, List.setIfInBounds_toArray, List.set_cons_zero, List.set_cons_succ, i64_w, i32_w]
          rfl
        refine pure_ (i := 3) (N := some 46) (v := ?_) (a' := ?_) #[true, true, true, true, false, false, false, false, false, false] rfl rfl (any_of HT_.out (by kernel_rfl)) (fun _ _ _ h => h) (Or.inl ⟨by rfl, ?_⟩) ?_ ?_
        rotate_left
        · intro w'
          go_simp
          (try with_reducible rfl)
        rotate_left
        · simp only [Act.put, List.setIfInBounds_toArray, List.set_cons_zero, List.set_cons_succ, i64_w, i32_w]
          rfl
        refine take_ (i := 4) (N := some 47) (v := ?_) (a' := ?_) #[true, true, true, true, true, false, false, false, false, false] rfl rfl (take_ofW HT_.out HW_.out (by kernel_rfl)) (fun _ _ _ h => h) (Or.inl ⟨by rfl, ?_⟩) hHeld ?_ ?_
        rotate_left
        · rintro w' ⟨s0, s1⟩
          go_simp
          (try with_reducible rfl)
        rotate_left
        · simp only [Act.put, List.setIfInBounds_toArray, List.set_cons_zero, List.set_cons_succ, i64_w, i32_w]
          rfl
        refine one_ (i := 5) (N := some 48) #[true, true, true, true, true, true, false, false, false, false] rfl rfl (one_of HT_.out (by kernel_rfl)) (by decide) (fun K hK => ?_)
        refine goes_ Tryd.func33 (by kernel_rfl) rfl #[.int .i64 m] (by rfl) rfl rfl (by (try simp only [List.map_toArray, List.map_cons, List.map_nil]); first | done | rfl | (simp only [List.length_drop, List.length_take]; rfl)) ?_
        with_reducible refine (CI_.out _ (Glob.tab (Glob.below hGl.out (by repeat (first | (with_reducible first | exact HB.out | apply below_alloc | apply pw_below_drewN | apply below_drew1) | exact HB.out))))).mono ?_
        rintro e wi ⟨rfl, kk_, os_, hwi⟩
        refine ⟨_, rfl, ?_⟩
        have hb : Below w6_.drew.heap.size w6_.drew wi := by rw [hwi]; exact Lib.below_grow _ _ (Nat.le_refl _) _ _
        clear hwi
        have r0_ := Aside0.mk (Kd.R_below (by (with_reducible repeat (first | exact HO.out | apply Kd.R_drewN | apply Kd.R_drew | apply Kd.R_alloc))) hb); clear HO; have HO := r0_; clear r0_; have n0_ := Aside0.mk (below_step (by repeat (first | (with_reducible first | exact HB.out | apply below_alloc | apply pw_below_drewN | apply below_drew1) | exact HB.out)) hb); have m6_ := Aside0.mk (blk_below (by (with_reducible repeat (first | exact BK6.out | refine blk_drewN ?_ _ | refine blk_drew ?_ | refine blk_alloc ?_ _)); try exact BK6.out) hb); clear HB; have HB := n0_; clear n0_; clear BK6; have BK6 := m6_; clear m6_; clear hb
        refine hK.out _ _ ⟨(blk_cell (by (with_reducible repeat (first | exact BK6.out | refine blk_drewN ?_ _ | refine blk_drew ?_ | refine blk_alloc ?_ _)); try exact BK6.out) 1).trans rfl, (blk_cell (by (with_reducible repeat (first | exact BK6.out | refine blk_drewN ?_ _ | refine blk_drew ?_ | refine blk_alloc ?_ _)); try exact BK6.out) 2).trans rfl⟩ (fun hHeld => ?_)
        clear hK K
        refine norm_ (a' := ?_) ?_ ?_
        rotate_left
        · show Act.put _ (some 48) _ = _
          simp only [Act.put, List.setIfInBounds_toArray, List.set_cons_zero, List.set_cons_succ, i64_w, i32_w]
          rfl
        refine pure_ (i := 6) (N := some 49) (v := ?_) (a' := ?_) #[true, true, true, true, true, true, true, false, false, false] rfl rfl (any_of HT_.out (by kernel_rfl)) (fun _ _ _ h => h) (Or.inl ⟨by rfl, ?_⟩) ?_ ?_
        rotate_left
        · intro w'
          go_simp
          (try with_reducible rfl)
        rotate_left
        · simp only [Act.put, List.setIfInBounds_toArray, List.set_cons_zero, List.set_cons_succ, i64_w, i32_w]
          rfl
        refine one_ (i := 7) (N := some 50) #[true, true, true, true, true, true, true, true, false, false] rfl rfl (one_of HT_.out (by kernel_rfl)) (by decide) (fun K hK => ?_)
        refine event_step (by rfl) (v := .slice (some ⟨wi.heap.size, 0, none⟩) 1 1) (w1 := wi.alloc (.cells #[.string (s ++ tx)] 9)) (by first | (go_simp; done) | (go_simp; rfl)) ?_
        refine hK.out _ _ ⟨(blk_cell (by (with_reducible repeat (first | exact BK6.out | refine blk_drewN ?_ _ | refine blk_drew ?_ | refine blk_alloc ?_ _)); try exact BK6.out) 1).trans rfl, (blk_cell (by (with_reducible repeat (first | exact BK6.out | refine blk_drewN ?_ _ | refine blk_drew ?_ | refine blk_alloc ?_ _)); try exact BK6.out) 2).trans rfl⟩ (fun hHeld => ?_)
        clear hK K
        refine norm_ (a' := ?_) ?_ ?_
        rotate_left
        · show Act.put _ (some 50) _ = _
          simp only [Act.put, List.setIfInBounds_toArray, List.set_cons_zero, List.set_cons_succ, i64_w, i32_w]
          rfl
        refine one_ (i := 8) (N := some 51) #[true, true, true, true, true, true, true, true, true, false] rfl rfl (one_of HT_.out (by kernel_rfl)) (by decide) (fun K hK => ?_)
        refine Kd.R_append_step Kd.string (w0 := w) (W := wi) w.heap.size (by rfl) (.tmp 43) (.tmp 50) 62 9 (.string (⟨#[]⟩ : ByteArray)) 16 rfl Tryd.underlying62 (by kernel_rfl) rfl (by decide) (by omega) u4 ps (s ++ tx) [.string (s ++ tx)] (fun _ => True) (fun _ => False) rfl rfl ?aP (fun _ hk => hk.elim) ?aF ?aO ?aB ?aS ?aL ?_
        case aP => exact rfl
        case aF => exact fun _ _ => trivial
        case aO => exact Kd.R_mono (by (with_reducible repeat (first | exact HO.out | apply Kd.R_drewN | apply Kd.R_drew | apply Kd.R_alloc))) (fun _ _ => trivial)
        case aB => exact by repeat (first | (with_reducible first | exact HB.out | apply below_alloc | apply pw_below_drewN | apply below_drew1) | exact HB.out)
        case aS => exact below_size (by repeat (first | (with_reducible first | exact HB.out | apply below_alloc | apply pw_below_drewN | apply below_drew1) | exact HB.out))
        case aL => have := HP.out; omega
        intro vq Wq hr hb hg hat
        have m6_ := Aside0.mk (blk_grown (by (with_reducible repeat (first | exact BK6.out | refine blk_drewN ?_ _ | refine blk_drew ?_ | refine blk_alloc ?_ _)); try exact BK6.out) hg (fun e_ => (HO.out.1 gb6 e_.symm) rfl))
        clear HB HO BK6 hu0 hu1 hu2
        have HB := Aside0.mk hb
        have HO := Aside0.mk hr
        have BK6 := m6_
        clear hb hr hg hat m6_
        refine hK.out _ _ ⟨(blk_cell (by (with_reducible repeat (first | exact BK6.out | refine blk_drewN ?_ _ | refine blk_drew ?_ | refine blk_alloc ?_ _)); try exact BK6.out) 1).trans rfl, (blk_cell (by (with_reducible repeat (first | exact BK6.out | refine blk_drewN ?_ _ | refine blk_drew ?_ | refine blk_alloc ?_ _)); try exact BK6.out) 2).trans rfl⟩ (fun hHeld => ?_)
        clear hK K
        refine norm_ (a' := ?_) ?_ ?_
        rotate_left
        · show Act.put _ (some 51) _ = _
          simp only [Act.put, List.setIfInBounds_toArray, List.set_cons_zero, List.set_cons_succ, i64_w, i32_w]
          rfl
        refine pure_ (i := 9) (N := some 4) (v := ?_) (a' := ?_) #[true, true, true, true, true, true, true, true, true, true] rfl rfl (any_of HT_.out (by kernel_rfl)) (fun _ _ _ h => h) (Or.inl ⟨by rfl, ?_⟩) ?_ ?_
        rotate_left
        · intro w'
          go_simp
          (try with_reducible rfl)
        rotate_left
        · simp only [Act.put, List.setIfInBounds_toArray, List.set_cons_zero, List.set_cons_succ, i64_w, i32_w]
          rfl
        refine done_ (done_of HT_.out (by kernel_rfl)) ?_
        go_wp2
        go_roundg (4 - (n + 1))
        case measure => omega
        case rel => exact ⟨n + 1, ps ++ [s ++ tx], (by first | rfl | (simp; done)), by omega, Nat.le_refl _, ⟨by have := H1.out; simpa using this⟩, ⟨(by (with_reducible repeat (first | exact HO.out | apply Kd.R_drewN | apply Kd.R_drew | apply Kd.R_alloc)))⟩, ⟨(by repeat (first | (with_reducible first | exact HB.out | apply below_alloc | apply pw_below_drewN | apply below_drew1) | exact HB.out))⟩, ⟨by have := HP.out; simp, by have := HP.out; simp; omega⟩, ⟨fun p hp => by rcases List.mem_append.mp hp with h_ | h_; exact HQ.out p h_; rw [List.mem_singleton] at h_; rw [h_]; exact HS.out⟩⟩
    · obtain rfl : n = 4 := by omega
      have own := Kd.own_of_R (enc := Value.string) (h1 := fun _ => rfl) HO.out
      rcases own.2 with ⟨_, hx0⟩ | ⟨g, cap, cur, hv, hb_, hh, hnc, hcm, hcs, htake⟩
      · have := HP.out
        omega
      have hv' : u4 = .slice (some ⟨g, 0, none⟩) ps.length cap := by first | exact hv | (rw [hv]; simp)
      subst hv'
      have hcl : ∀ (j : Nat) x, ps[j]? = some x → wr.cell? ⟨g, 0 + j, none⟩ = some (.string x) := by
        intro j x hj
        have hl : j < ps.length := (List.getElem?_eq_some_iff.1 hj).1
        rw [cell_of_row wr g _ cur _ (0, 0) hh]
        have ht := congrArg (fun l => l[j]?) htake
        simp only [List.getElem?_take, Nat.mul_one] at ht
        rw [if_pos hl] at ht
        simp only [encs, List.getElem?_map, hj, Option.map_some, Array.getElem?_toList] at ht
        rw [Nat.zero_add]
        exact ht
      have hgl : g < wr.heap.size := blk_lt hh
      have hjl : (Lib.join (ps.map (·.data.toList)) [32]).length ≤ 140737488355328 := by
        have := join_len [32] (ps.map (·.data.toList)) (fun l hl => by
          obtain ⟨p, hp, rfl⟩ := List.mem_map.mp hl
          have := HQ.out p hp
          have e : p.data.toList.length = p.size := rfl
          rw [e]
          exact this)
        have hp := HP.out
        rw [List.length_map] at this
        simp only [List.length_cons, List.length_nil] at this
        omega
      have HJ := Aside0.mk (fun w_ (hw : ∀ a, w_.cell? a = wr.cell? a) (hs : w_.heap.size = wr.heap.size) => strings_Join g 0 cap ps ⟨#[32]⟩ w_ (fun j x hj => (hw _).trans (hcl j x hj)) (by rw [hs]; exact hgl) (by have := HP.out; omega) (by omega) hjl)
      have H1 := Aside0.mk (show (⟨(Lib.join (ps.map (·.data.toList)) [32]).toArray⟩ : ByteArray) = r from by
        have := H.out
        rw [List.drop_eq_nil_of_le (by rw [HL4.out]; exact Nat.le_refl _)] at this
        exact this)
      have hu4 : decide (((4 : Nat) : Int) < 4) = false := rfl
      clear own hcl hjl hh htake hcs hnc hcm hb_ H HIX HM HX HRG hv
      go_wp2_with (first | (go_at_call 34; refine (HJ.out _ (fun _ => rfl) rfl).mono ?_; rintro e wj ⟨rfl, hb⟩; have n0_ := Aside0.mk (below_step (by repeat (first | (with_reducible first | exact HB.out | apply below_alloc | apply pw_below_drewN | apply below_drew1) | exact HB.out)) hb); clear HB; have HB := n0_; clear n0_ hb))
      go_ret
      exact ⟨by rw [← H1.out]; rfl, (by repeat (first | (with_reducible first | exact HB.out | apply below_alloc | apply pw_below_drewN | apply below_drew1) | exact HB.out))⟩

end Go.Proofs.YtoakfejpmlgbcaaDoor.PIsa
