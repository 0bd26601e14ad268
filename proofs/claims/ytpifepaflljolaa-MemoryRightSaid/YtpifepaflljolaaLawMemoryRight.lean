/-
  The statement MemoryRight: the row, out of its pure part and the printed walk; the page that comes in is opened by hand. No condition.
-/
import Derived.Test.YtpifepaflljolaaRows
import Derived.Test.YtpifepaflljolaaPMemx39
import Derived.Test.YtpifepaflljolaaPureMemoryRight
import Derived.WalkKit
import Derived.ProofKit
import Derived.OpenShut
import Derived.ShutString
import Derived.ChangeOld
import Derived.ChangeSame
import Derived.Below
import Derived.SizedLaws
import Derived.DataReads
import Derived.Test.YtpifepaflljolaaVw
namespace Go.Proofs.Ytpifepaflljolaa.memoryRight
open Go.ChangeShapes Go.WideShapes Go.ChangeAt Go.RowKit Go.Proofs.YtpifepaflljolaaW.PrintWords
set_option linter.unusedVariables false
theorem own : ownKnob Try.prog.godebug = none := by kernel_rfl
theorem laidOut : laidOutB Try.prog = true := by kernel_rfl
def IsRow (k : IntKind) (w : World) (a : Option Addr) (len cap : Nat) (zs : List Int) : Prop :=
  (a = none ∧ len = 0 ∧ cap = 0 ∧ zs = []) ∨
  ∃ x, a = some x ∧ len ≤ cap ∧ cap ≤ maxLen ∧ zs.length = cap ∧ (∀ i, i < zs.length → w.cell? (x.add i) = some (.int k (zs.getD i 0))) ∧ ∀ n ∈ zs, (Lit.int k n).wf = true
theorem cells_page : Try.prog.cellsOf 31 = 2 := by kernel_rfl
theorem cells_int : Try.prog.cellsOf 3 = 1 := by kernel_rfl
theorem cells_ints : Try.prog.cellsOf 25 = 1 := by kernel_rfl
theorem cells_pages : Try.prog.cellsOf 22 = 1 := by kernel_rfl
/-- A page that came in, by its two cells. -/
theorem page_of {H : Type} {enc : TypeId × Value → H} {W : World} {cs : List Value} {y : DataW H × List MemPlace} {held : Bool} {fuel : Nat} (hc : cs.length = 2) (hf : DataW.trod enc Try.prog W 0 (fun _ => true) held fuel 31 cs = some y) :
    ∃ x : PMem.S31, PMem.k31.K W x cs := by
  match cs, hc with
  | [u, v], _ =>
    obtain ⟨y0, y1, n, _, _, t0, t1⟩ := trod_struct2 Try.underlying31 hf
    have t0' : DataW.trod enc Try.prog W 0 (fun _ => true) held n 3 [u] = some y0 := by
      have := t0
      simp only [cells_int] at this
      exact this
    have t1' : DataW.trod enc Try.prog W 0 (fun _ => true) held n 25 [v] = some y1 := by
      have := t1
      simp only [cells_ints] at this
      exact this
    obtain ⟨b, e0, _, _⟩ := DataW.trod_int Try.underlying3 t0'
    simp only [List.cons.injEq, and_true] at e0
    rcases open_ints Try.underlying25 Try.underlying3 cells_int t1' with ⟨hcs, _⟩ | ⟨x, l, c, zs, hcs, _, hl, hm, hz, _, hcell, hwz⟩
    · simp only [List.cons.injEq, and_true] at hcs
      rw [e0, hcs]
      exact ⟨⟨b, []⟩, PMem.k31_mk W ⟨b, []⟩ (Nat.zero_le _) (Kd.C_nil _ W)⟩
    · simp only [List.cons.injEq, and_true] at hcs
      rw [e0, hcs]
      obtain ⟨ys, hys, hr, _, _, hcap⟩ := ReadsInt.ofRowC (k := .i64) (w := W) (a := some x) (len := l) (cap := c) (zs := zs) (.inr ⟨_, rfl, hl, hm, by simpa using hz, hcell, hwz⟩)
      subst hys
      exact ⟨⟨b, ys⟩, PMem.k31_mk W ⟨b, ys⟩ hcap (Kd.C_of_reads (d := (0 : Int)) (h1 := fun _ => rfl) hr)⟩
/-- A memory that came in. -/
theorem open_memory {H : Type} {enc : TypeId × Value → H} {W : World} {cs : Array Value} {d : DataW H} {ps : List MemPlace} {held : Bool} (hc : cs.size = 1) (h : ∃ fuel, DataW.trod enc Try.prog W 0 (fun _ => true) held fuel 24 (Value.agg cs).cells.toList = some (d, ps)) :
    ∃ (a : Option Addr) (cap : Nat) (xs : List PMem.S31), cs = #[.slice a xs.length cap] ∧ xs.length ≤ cap ∧ Kd.C PMem.k31 W a xs.length xs := by
  obtain ⟨u, rfl⟩ : ∃ u, cs = #[u] := by
    obtain ⟨l⟩ := cs
    match l, hc with
    | [u], _ => exact ⟨u, rfl⟩
  obtain ⟨fuel, hf⟩ := h
  obtain ⟨y0, n, _, _, t0⟩ := trod_struct1 Try.underlying24 hf
  have t0' : DataW.trod enc Try.prog W 0 (fun _ => true) held n 22 [u] = some y0 := by
    have := t0
    simp only [cells_pages] at this
    exact this
  rcases DataW.trod_slice Try.underlying22 t0' with ⟨hcs, _⟩ | ⟨a, len, cap, elems, rest, m, _, hcs, _, hb, hl, hm, hlen, hel, _, _⟩
  · simp only [List.cons.injEq, and_true] at hcs
    subst hcs
    exact ⟨none, 0, [], rfl, Nat.le_refl _, Kd.C_nil _ W⟩
  · simp only [List.cons.injEq, and_true] at hcs
    subst hcs
    have each : ∀ i, i < len → ∃ x : PMem.S31, ∃ c : List Value, c.length = 2 ∧ PMem.k31.K W x c ∧ ∀ j u, c[j]? = some u → W.cell? (a.add (i * 2 + j)) = some u := by
      intro i hi
      have he := hel i hi
      rw [cells_page, List.getElem?_eq_getElem (by omega)] at he
      obtain ⟨c, h1, h2⟩ := Option.bind_eq_some_iff.mp he
      obtain ⟨_, g2, g3⟩ := World.cells?_some h1
      obtain ⟨x, hx⟩ := page_of g2 h2
      refine ⟨x, c, g2, hx, fun j u hj => ?_⟩
      have hj2 : j < 2 := by
        have := (List.getElem?_eq_some_iff.1 hj).1
        omega
      have := g3 j hj2
      rw [hj] at this
      rw [← this, Addr.add_add]
    obtain ⟨F, hF⟩ : ∃ F : Nat → PMem.S31, ∀ i, i < len → ∃ c : List Value, c.length = 2 ∧ PMem.k31.K W (F i) c ∧ ∀ j u, c[j]? = some u → W.cell? (a.add (i * 2 + j)) = some u :=
      ⟨fun i => if h : i < len then Classical.choose (each i h) else ⟨0, []⟩, fun i hi => by
        have e : (if h : i < len then Classical.choose (each i h) else (⟨0, []⟩ : PMem.S31)) = Classical.choose (each i hi) := dif_pos hi
        show ∃ c : List Value, c.length = 2 ∧ PMem.k31.K W (if h : i < len then Classical.choose (each i h) else (⟨0, []⟩ : PMem.S31)) c ∧ _
        rw [e]
        exact Classical.choose_spec (each i hi)⟩
    have hxl : ((List.range len).map F).length = len := by simp
    refine ⟨some a, cap, (List.range len).map F, by rw [hxl], by rw [hxl]; exact hl, ?_⟩
    rw [hxl]
    refine ⟨hxl, ?_, fun _ => ⟨a, rfl, fun j p hj => ?_⟩⟩
    · have : maxLen ≤ 9223372036854775807 := by decide
      omega
    · have hjl : j < len := by
        have := (List.getElem?_eq_some_iff.1 hj).1
        rw [hxl] at this
        exact this
      rw [List.getElem?_map, List.getElem?_range hjl] at hj
      simp only [Option.map_some, Option.some.injEq] at hj
      subst hj
      exact hF j hjl
theorem walk (W : World) (am : Option Addr) (capm : Nat) (xs : List PMem.S31) (hx : xs.length ≤ capm) (hm : Kd.C PMem.k31 W am xs.length xs) (a1 : Option Addr) (len1 cap1 : Nat) (z1 : List Int) (a2 a3 a4 : Int) (w1 : IsRow .i64 W a1 len1 cap1 z1) :
    Calls Try.prog 3 #[.agg #[.slice am xs.length capm], .slice a1 len1 cap1, .int .i64 a2, .int .i64 a3, .int .i64 a4] W fun e w' => e = .returned (.bool true) ∧ Below W.heap.size W w' := by
  obtain ⟨l1, rfl, hr1, _, _, hc1⟩ := ReadsInt.ofRowC w1
  obtain ⟨k, h⟩ := Pure.MemoryRight xs l1 a2 a3 a4
  exact PMem.debuggerlaw25_MemoryRight.calls k _ _ xs _ _ l1 a2 a3 a4 true W hm hx (Kd.C_of_reads (d := (0 : Int)) (h1 := fun _ => rfl) hr1) hc1 rfl h
set_option maxRecDepth 100000 in
theorem lifted (os : Os) (started : os.Started) (H : Type) (enc : TypeId × Value → H) :
    ReturnsInHanded {} Try.checked os 3 .any (Rows.memoryRightSpec.pre6 enc Try.prog Try.f3 Rows.memoryRightRow.domain false) (Rows.memoryRightSpec.post enc Try.prog Try.f3 false true false false) := by
  refine returnsInHanded_of_change_sized (C := Try.checked) own started (by kernel_rfl) Try.func3
    (ChangeSpec.witness6 (enc := enc) (C := Try.checked) false ⟨#[], #[.agg #[.slice none 0 0], .slice none 0 0, .int .i64 0, .int .i64 0, .int .i64 0], []⟩ 8 (by kernel_rfl) (by kernel_rfl) (by kernel_rfl) (by kernel_rfl)) ?_
  intro W base args ds gs before hval0 hW hcnd hsz0 _
  have hval : ∀ (j : Nat) t v, Try.f3.params[j]? = some t → args[j]? = some v → Value.okWide Try.prog W .any base t v := hval0
  have hW' := hW
  obtain ⟨p, q, hA0, hV, rfl, hfz, hnd⟩ := hW
  have hA : DataW.TrodAll enc Try.prog W 0 (fun _ => true) true Try.f3.params.toList args.toList ds p := hA0
  rw [Try.params3] at hA hval
  obtain ⟨v0, vs0, d0, ds0, p0, q0, hargs, rfl, rfl, h0, r0⟩ := trodAll_cons hA
  obtain ⟨v1, vs1, d1, ds1, p1, q1, rfl, rfl, rfl, h1, r1⟩ := trodAll_cons r0
  obtain ⟨v2, vs2, d2, ds2, p2, q2, rfl, rfl, rfl, h2, r2⟩ := trodAll_cons r1
  obtain ⟨v3, vs3, d3, ds3, p3, q3, rfl, rfl, rfl, h3, r3⟩ := trodAll_cons r2
  obtain ⟨v4, vs4, d4, ds4, p4, q4, rfl, rfl, rfl, h4, r4⟩ := trodAll_cons r3
  obtain ⟨rfl, rfl, rfl⟩ := trodAll_nil r4
  obtain rfl : args = #[v0, v1, v2, v3, v4] := by cases args; simp_all
  obtain ⟨rfl, rfl⟩ := trodVars_none hV
  obtain ⟨cs0, rfl, hcs0⟩ := okWide_struct Try.underlying24 (hval 0 24 v0 rfl rfl)
  have k0 := h0
  have lt0 : ∀ x ∈ p0, x.block < W.heap.size := by obtain ⟨m, hm⟩ := k0; exact DataW.trod_lt m _ _ _ hm
  obtain ⟨am, capm, xs, rfl, hx, hm⟩ := open_memory (hcs0.trans (show Try.prog.cellsOf 24 = 1 by kernel_rfl)) h0
  obtain ⟨a1, len1, cap1, rfl⟩ := okWide_slice Try.underlying25 (hval 1 25 v1 rfl rfl)
  have k1 := h1
  have lt1 : ∀ x ∈ p1, x.block < W.heap.size := by obtain ⟨m, hm⟩ := k1; exact DataW.trod_lt m _ _ _ hm
  obtain ⟨z1, w1⟩ : ∃ zs, IsRow .i64 W a1 len1 cap1 zs := by
    obtain ⟨fuel, hf⟩ := h1
    rcases open_ints Try.underlying25 Try.underlying3 (by kernel_rfl) hf with ⟨hcs, _⟩ | ⟨x, l, c, zs, hcs, _, hl, hm, hz, _, hcell, hwz⟩
    · simp [Value.cells] at hcs
      obtain ⟨rfl, rfl, rfl⟩ := hcs
      exact ⟨[], .inl ⟨rfl, rfl, rfl, rfl⟩⟩
    · simp [Value.cells] at hcs
      obtain ⟨rfl, rfl, rfl⟩ := hcs
      exact ⟨zs, .inr ⟨_, rfl, hl, hm, by simpa using hz, hcell, hwz⟩⟩
  obtain ⟨a2, rfl, rfl, rfl, w2⟩ := open_int Try.underlying3 (hval 2 3 v2 rfl rfl) h2
  obtain ⟨a3, rfl, rfl, rfl, w3⟩ := open_int Try.underlying3 (hval 3 3 v3 rfl rfl) h3
  obtain ⟨a4, rfl, rfl, rfl, w4⟩ := open_int Try.underlying3 (hval 4 3 v4 rfl rfl) h4
  clear hA0 hval0 hsz0
  refine (walk W am capm xs hx hm a1 len1 cap1 z1 a2 a3 a4 w1).mono fun e W' ⟨he, bel⟩ => ?_
  subst he
  exact ⟨_, rfl, _, _, _, [], _, [], hW', trodAll_mk1 (shut_bool Try.underlying4 _), (trodAll_cons_mk (Below.trod laidOut (by kernel_rfl) (of_decide_eq_true (by kernel_rfl)) k0 bel lt0) (trodAll_cons_mk (Below.trod laidOut (by kernel_rfl) (of_decide_eq_true (by kernel_rfl)) k1 bel lt1) (trodAll_cons_mk (shut_int Try.underlying3 w2) (trodAll_cons_mk (shut_int Try.underlying3 w3) (trodAll_cons_mk (shut_int Try.underlying3 w4) trodAll_mk0))))), rfl, bel.frame _, fun h => by cases h⟩
theorem over : Rows.memoryRightRow.holds Try.pinned (OpenSpec.ofChange Rows.memoryRightSpec) :=
  OpenClaim.holds_of_wide 3 Try.f3 rfl rfl rfl rfl rfl rfl rfl ⟨rfl, rfl, rfl, rfl, rfl⟩ rfl rfl rfl rfl rfl (by kernel_rfl) Try.func3 (by kernel_rfl)
    (of_decide_eq_true (by kernel_rfl)) (by unfold Func.isWrapper; first | (rw [if_pos (by decide +kernel)]; kernel_rfl) | (rw [if_neg (by decide +kernel)]; exact ⟨rfl, rfl⟩))
    (fun os started H enc _ => lifted os started H enc)
theorem proved : Rows.MemoryRightSaid := over
#print axioms proved
end Go.Proofs.Ytpifepaflljolaa.memoryRight
namespace Go.Proofs.Ytpifepaflljolaa
/-- The row, under a short name, for the claim. -/
theorem memoryRight_holds : Rows.MemoryRightSaid := memoryRight.proved
end Go.Proofs.Ytpifepaflljolaa
