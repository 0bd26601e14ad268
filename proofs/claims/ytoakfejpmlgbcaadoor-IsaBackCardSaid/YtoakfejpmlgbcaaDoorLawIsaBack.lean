/-
  The statement IsaBack: the row, out of its pure part and the walk; the structs that come in are opened by hand. The premise is the listed variables' alone.
-/
import Derived.Test.YtoakfejpmlgbcaaDoorRows
import Derived.Test.YtoakfejpmlgbcaaDoorPIsax47
import Derived.Test.YtoakfejpmlgbcaaDoorMathC
import Derived.Test.YtoakfejpmlgbcaaDoorLaid
import Derived.Test.YtoakfejpmlgbcaaDoorCards
import Derived.Test.YtoakfejpmlgbcaaDoorTie
import Derived.WalkKit
import Derived.ProofKit
import Derived.OpenShut
import Derived.ShutString
import Derived.ChangeOld
import Derived.ChangeSame
import Derived.Below
import Derived.SizedLaws
import Derived.LaidMore
import Derived.Stop.Joined
import Derived.SevenTiedAt
namespace Go.Proofs.YtoakfejpmlgbcaaDoor.isaBack
open Go Go.ChangeShapes Go.WideShapes Go.ChangeAt Go.RowKit Go.Proofs.YtoakfejpmlgbcaaDoorW.PrintWords
set_option linter.unusedVariables false
set_option linter.unusedSimpArgs false
theorem own : ownKnob Tryd.prog.godebug = none := by kernel_rfl
theorem laidOut : laidOutB Tryd.prog = true := by kernel_rfl
theorem wf_bounds {a : Int} (h : (Lit.int .i64 a).wf = true) : -9223372036854775808 ≤ a ∧ a ≤ 9223372036854775807 := by
  have h' : (decide (IntKind.i64.min ≤ a) && decide (a ≤ IntKind.i64.max)) = true := h
  rw [Bool.and_eq_true, decide_eq_true_eq, decide_eq_true_eq, show IntKind.i64.min = -9223372036854775808 by rfl, show IntKind.i64.max = 9223372036854775807 by rfl] at h'
  exact h'
theorem int_cell {H : Type} {enc : TypeId × Value → H} {W : World} {base : Nat} {sp : Nat → Bool} {held : Bool} {fuel k : Nat} {cs : List Value} {y : DataW H × List MemPlace} (h : DataW.trod enc Tryd.prog W base sp held fuel 3 ((cs.drop k).take (Tryd.prog.cellsOf 3)) = some y) : ∃ b : Int, cs[k]? = some (.int .i64 b) ∧ (Lit.int .i64 b).wf = true := by
  rw [show Tryd.prog.cellsOf 3 = 1 by kernel_rfl] at h
  obtain ⟨s, e, rfl, hw⟩ := DataW.trod_int Tryd.underlying3 h
  refine ⟨s, ?_, hw⟩
  have := congrArg (fun l => l[0]?) e
  simpa [List.getElem?_take, List.getElem?_drop] using this
set_option maxRecDepth 1000000 in
theorem open_inst {H : Type} {enc : TypeId × Value → H} {W : World} {base : Nat} {sp : Nat → Bool} {held : Bool} {cs : Array Value} {x : DataW H × List MemPlace} (hc : cs.size = 5) (h : ∃ fuel, DataW.trod enc Tryd.prog W base sp held fuel 23 (Value.agg cs).cells.toList = some x) :
    ∃ i0 i1 i2 i3 i4 : Int, cs = #[.int .i64 i0, .int .i64 i1, .int .i64 i2, .int .i64 i3, .int .i64 i4] ∧ (Lit.int .i64 i0).wf = true ∧ (Lit.int .i64 i1).wf = true ∧ (Lit.int .i64 i2).wf = true ∧ (Lit.int .i64 i3).wf = true ∧ (Lit.int .i64 i4).wf = true := by
  obtain ⟨fuel, h⟩ := h
  obtain ⟨xs, n, _, rfl, hl, hlen, hf⟩ := DataW.trod_struct Tryd.underlying23 h
  obtain ⟨l⟩ := cs
  match xs, hlen with
  | [y0, y1, y2, y3, y4], _ =>
    obtain ⟨b0, e0, w0⟩ := int_cell (hf 0 _ rfl)
    obtain ⟨b1, e1, w1⟩ := int_cell (hf 1 _ rfl)
    obtain ⟨b2, e2, w2⟩ := int_cell (hf 2 _ rfl)
    obtain ⟨b3, e3, w3⟩ := int_cell (hf 3 _ rfl)
    obtain ⟨b4, e4, w4⟩ := int_cell (hf 4 _ rfl)
    refine ⟨b0, b1, b2, b3, b4, ?_, w0, w1, w2, w3, w4⟩
    match l, hc with
    | [s0, s1, s2, s3, s4], _ =>
      have e0 := Option.some.inj e0
      have e1 := Option.some.inj e1
      have e2 := Option.some.inj e2
      have e3 := Option.some.inj e3
      have e4 := Option.some.inj e4
      rw [e0, e1, e2, e3, e4]
theorem walk (W : World) (hGl : Aside0 (PIsa.Glob W)) (b0 b1 b2 b3 b4 : Int) (w0 : (Lit.int .i64 b0).wf = true) (w1 : (Lit.int .i64 b1).wf = true) (w2 : (Lit.int .i64 b2).wf = true) (w3 : (Lit.int .i64 b3).wf = true) (w4 : (Lit.int .i64 b4).wf = true) (a1 : Int) (wa : (Lit.int .i64 a1).wf = true) :
    Calls Tryd.prog 4 #[.agg #[.int .i64 b0, .int .i64 b1, .int .i64 b2, .int .i64 b3, .int .i64 b4], .int .i64 a1] W fun e w' => e = .returned (.bool true) ∧ Below W.heap.size W w' := by
  obtain ⟨h0, h1⟩ := wf_bounds wa
  obtain ⟨k, h⟩ := Pure.IsaBack b0 b1 b2 b3 b4 a1 h0 (by omega)
  exact PIsa.debuggerlaw16_IsaBack.calls k b0 b1 b2 b3 b4 a1 true W hGl rfl h
set_option maxRecDepth 100000 in
theorem lifted (os : Os) (started : os.Started) (H : Type) (enc : TypeId × Value → H) :
    ReturnsInHanded {} Tryd.checked os 4 .any (fun w args => (Rows.isaBackSpec.pre enc Tryd.prog Tryd.f4 [] false w args ∧ laidMetH Tryd.prog PIsa.laidL w) ∧ sizedMet enc Tryd.prog Tryd.f4 (OpenSpec.ofChange Rows.isaBackSpec) false w args) (Rows.isaBackSpec.post enc Tryd.prog Tryd.f4 false true false false) := by
  refine returnsInHanded_of_change_and (C := Tryd.checked) (X := fun w _ => laidMetH Tryd.prog PIsa.laidL w) (fun _ _ _ hh h => h.of_heap hh) own started (by kernel_rfl) Tryd.func4
    (ChangeSpec.witness_shaped (enc := enc) (C := Tryd.checked) (os := os) (X := fun w _ => laidMetH Tryd.prog PIsa.laidL w) false (World.doorLaid Tryd.prog 400 os) #[.agg #[.int .i64 0, .int .i64 0, .int .i64 0, .int .i64 0, .int .i64 0], .int .i64 0] 8 rfl (World.shaped_of_RefB (by kernel_rfl) (by kernel_rfl)) (by kernel_rfl) (by kernel_rfl) (by kernel_rfl) (PIsa.door_met os _)) ?_
  intro W base args ds gs before hval0 hW hcnd hsz0 hL _
  have hval : ∀ (j : Nat) t v, Tryd.f4.params[j]? = some t → args[j]? = some v → Value.okWide Tryd.prog W .any base t v := hval0
  have hW' := hW
  obtain ⟨p, q, hA0, hV, rfl, hfz, hnd⟩ := hW
  have hA : DataW.TrodAll enc Tryd.prog W 0 (fun _ => true) true Tryd.f4.params.toList args.toList ds p := hA0
  rw [Tryd.params4] at hA hval
  obtain ⟨v0, vs0, d0, ds0, p0, q0, hargs, rfl, rfl, h0, r0⟩ := trodAll_cons hA
  obtain ⟨v1, vs1, d1, ds1, p1, q1, rfl, rfl, rfl, h1, r1⟩ := trodAll_cons r0
  obtain ⟨rfl, rfl, rfl⟩ := trodAll_nil r1
  obtain rfl : args = #[v0, v1] := by cases args; simp_all
  obtain ⟨rfl, rfl⟩ := trodVars_none hV
  obtain ⟨cs0, rfl, hcs0⟩ := okWide_struct Tryd.underlying23 (hval 0 23 v0 rfl rfl)
  have k0 := h0
  have lt0 : ∀ x ∈ p0, x.block < W.heap.size := by obtain ⟨m, hm⟩ := k0; exact DataW.trod_lt m _ _ _ hm
  obtain ⟨b0_0, b0_1, b0_2, b0_3, b0_4, rfl, w0_0, w0_1, w0_2, w0_3, w0_4⟩ := open_inst (hcs0.trans (by kernel_rfl)) h0
  obtain ⟨a1, rfl, rfl, rfl, w1⟩ := open_int Tryd.underlying3 (hval 1 3 v1 rfl rfl) h1
  clear hA0 hval0 hsz0
  refine (walk W ⟨PIsa.glob_of_laid hL⟩ b0_0 b0_1 b0_2 b0_3 b0_4 w0_0 w0_1 w0_2 w0_3 w0_4 a1 w1).mono fun e W' ⟨he, bel⟩ => ?_
  subst he
  exact ⟨_, rfl, _, _, _, [], _, [], hW', trodAll_mk1 (shut_bool Tryd.underlying4 _), (trodAll_cons_mk (Below.trod laidOut (by kernel_rfl) (of_decide_eq_true (by kernel_rfl)) k0 bel lt0) (trodAll_cons_mk (shut_int Tryd.underlying3 w1) trodAll_mk0)), rfl, bel.frame _, fun h => by cases h⟩
theorem over : Rows.isaBackRow.holds Tryd.pinned (OpenSpec.ofChange Rows.isaBackSpec) :=
  OpenClaim.holds_of_wide 4 Tryd.f4 rfl rfl rfl rfl rfl rfl rfl ⟨rfl, rfl, rfl, rfl, rfl⟩ rfl rfl rfl rfl rfl (by kernel_rfl) Tryd.func4 (by kernel_rfl)
    (of_decide_eq_true (by kernel_rfl)) (by unfold Func.isWrapper; first | (rw [if_pos (by decide +kernel)]; kernel_rfl) | (rw [if_neg (by decide +kernel)]; exact ⟨rfl, rfl⟩))
    (fun os started H enc _ => lifted os started H enc)
theorem proved : Rows.IsaBackSaid := over
theorem card : Rows.IsaBackCardSaid :=
 Claim7.holds_tied_plain_at .later [] [.data, .data, .data, .data] true (true, "aab60a1cafa098675e14bfdd98a038ae8160e2b83f0394ba35b41f5a8c12b88f") false
  proved (fun _ h => by cases h) (by kernel_rfl) (fun _ h => by cases h) isaBack_row_tie rfl ⟨rfl, rfl⟩ (by kernel_rfl) rfl
  (fun f fn hf hfn => by
   obtain rfl : f = 4 := Option.some.inj ((show Tryd.prog.funcNamed "debugger/debuggerlaw16.IsaBack" = some 4 by kernel_rfl).symm.trans hf) |>.symm
   obtain rfl : fn = Tryd.f4 := (Option.some.inj (Tryd.func4.symm.trans hfn)).symm
   exact ⟨by kernel_rfl, fun j t ht => by
    rw [Tryd.params4] at ht
    have hm := Array.mem_of_getElem? ht
    simp only [List.mem_toArray, List.mem_cons, List.not_mem_nil, or_false] at hm <;> first | exact hm.elim | (rcases hm with rfl | rfl; all_goals (show Tryd.prog.wantsStandIn _ = false; kernel_rfl)) | (rcases hm with rfl; show Tryd.prog.wantsStandIn _ = false; kernel_rfl)⟩)
  (by kernel_rfl)
#print axioms card
end Go.Proofs.YtoakfejpmlgbcaaDoor.isaBack
namespace Go.Proofs.YtoakfejpmlgbcaaDoor
/-- The row, under a short name, for the claim. -/
theorem isaBack_holds : Rows.IsaBackCardSaid := isaBack.card
end Go.Proofs.YtoakfejpmlgbcaaDoor
