/-
 The statement MemoryPages: the row, out of its pure part and the printed walk; the page that comes in is opened by hand. No condition.
-/
import Derived.Test.YtpifepaflljolaaRows
import Derived.Test.YtpifepaflljolaaPMemx36
import Derived.Test.YtpifepaflljolaaPureMemoryPages
import Derived.WalkKit
import Derived.ProofKit
import Derived.OpenShut
import Derived.ShutString
import Derived.ChangeOld
import Derived.ChangeSame
import Derived.Below
import Derived.SizedLaws
import Derived.Test.YtpifepaflljolaaVw
namespace Go.Proofs.Ytpifepaflljolaa.memoryPages
open Go.ChangeShapes Go.WideShapes Go.ChangeAt Go.RowKit Go.Proofs.YtpifepaflljolaaW.PrintWords
set_option linter.unusedVariables false
theorem own : ownKnob Try.prog.godebug = none := by kernel_rfl
theorem laidOut : laidOutB Try.prog = true := by kernel_rfl
def IsRow (k : IntKind) (w : World) (a : Option Addr) (len cap : Nat) (zs : List Int) : Prop :=
 (a = none ∧ len = 0 ∧ cap = 0 ∧ zs = []) ∨
 ∃ x, a = some x ∧ len ≤ cap ∧ cap ≤ maxLen ∧ zs.length = cap ∧ (∀ i, i < zs.length → w.cell? (x.add i) = some (.int k (zs.getD i 0))) ∧ ∀ n ∈ zs, (Lit.int k n).wf = true
theorem cells_page : Try.prog.cellsOf 31 = 2 := by kernel_rfl
theorem two {cs : Array Value} (h : cs.size = 2) : ∃ u v, cs = #[u, v] := by
 obtain ⟨l⟩ := cs
 match l, h with
 | [u, v], _ => exact ⟨u, v, rfl⟩
/-- A page that comes in. -/
theorem open_page {H : Type} {enc : TypeId × Value → H} {W : World} {cs : Array Value} {d : DataW H} {ps : List MemPlace} {held : Bool} (hc : cs.size = 2) (h : ∃ fuel, DataW.trod enc Try.prog W 0 (fun _ => true) held fuel 31 (Value.agg cs).cells.toList = some (d, ps)) :
  ∃ (b : Int) (a : Option Addr) (len cap : Nat) (zs : List Int), cs = #[.int .i64 b, .slice a len cap] ∧ IsRow .i64 W a len cap zs := by
 obtain ⟨u, v, rfl⟩ := two hc
 obtain ⟨fuel, hf⟩ := h
 have c1 : Try.prog.cellsOf 3 = 1 := by kernel_rfl
 have c2 : Try.prog.cellsOf 25 = 1 := by kernel_rfl
 obtain ⟨y0, y1, n, _, _, t0, t1⟩ := trod_struct2 Try.underlying31 hf
 have t0' : DataW.trod enc Try.prog W 0 (fun _ => true) held n 3 [u] = some y0 := by
  have := t0
  simp only [c1] at this
  exact this
 have t1' : DataW.trod enc Try.prog W 0 (fun _ => true) held n 25 [v] = some y1 := by
  have := t1
  simp only [c2] at this
  exact this
 obtain ⟨b, e0, _, _⟩ := DataW.trod_int Try.underlying3 t0'
 simp only [List.cons.injEq, and_true] at e0
 rcases open_ints Try.underlying25 Try.underlying3 c1 t1' with ⟨hcs, _⟩ | ⟨x, l, c, zs, hcs, _, hl, hm, hz, _, hcell, hwz⟩
 ·simp only [List.cons.injEq, and_true] at hcs
  exact ⟨b, none, 0, 0, [], by rw [e0, hcs], .inl ⟨rfl, rfl, rfl, rfl⟩⟩
 ·simp only [List.cons.injEq, and_true] at hcs
  exact ⟨b, some x, l, c, zs, by rw [e0, hcs], .inr ⟨_, rfl, hl, hm, by simpa using hz, hcell, hwz⟩⟩
theorem walk (W : World) (a0 : Option Addr) (len0 cap0 : Nat) (z0 : List Int) (a1 : Option Addr) (len1 cap1 : Nat) (z1 : List Int) (b2 : Int) (a2 : Option Addr) (len2 cap2 : Nat) (z2 : List Int) (a3 : Int)
  (w0 : IsRow .i64 W a0 len0 cap0 z0) (w1 : IsRow .i64 W a1 len1 cap1 z1) (w2 : IsRow .i64 W a2 len2 cap2 z2) :
  Calls Try.prog 8 #[.slice a0 len0 cap0, .slice a1 len1 cap1, .agg #[.int .i64 b2, .slice a2 len2 cap2], .int .i64 a3] W fun e w' => e = .returned (.bool true) ∧ Below W.heap.size W w' := by
 obtain ⟨l0, rfl, hr0, _, _, hc0⟩ := ReadsInt.ofRowC w0
 obtain ⟨l1, rfl, hr1, _, _, hc1⟩ := ReadsInt.ofRowC w1
 obtain ⟨l2, rfl, hr2, _, _, hc2⟩ := ReadsInt.ofRowC w2
 obtain ⟨k, h⟩ := Pure.MemoryPages l0 l1 b2 l2 a3
 exact PMem.debuggerlaw25_MemoryPages.calls k _ _ l0 _ _ l1 b2 _ _ l2 a3 true W (Kd.C_of_reads (d := (0 : Int)) (h1 := fun _ => rfl) hr0) hc0 (Kd.C_of_reads (d := (0 : Int)) (h1 := fun _ => rfl) hr1) hc1 (Kd.C_of_reads (d := (0 : Int)) (h1 := fun _ => rfl) hr2) hc2 rfl h
set_option maxRecDepth 100000 in
theorem lifted (os : Os) (started : os.Started) (H : Type) (enc : TypeId × Value → H) :
  ReturnsInHanded {} Try.checked os 8 .any (Rows.memoryPagesSpec.pre6 enc Try.prog Try.f8 Rows.memoryPagesRow.domain false) (Rows.memoryPagesSpec.post enc Try.prog Try.f8 false true false false) := by
 refine returnsInHanded_of_change_sized (C := Try.checked) own started (by kernel_rfl) Try.func8
  (ChangeSpec.witness6 (enc := enc) (C := Try.checked) false ⟨#[], #[.slice none 0 0, .slice none 0 0, .agg #[.int .i64 0, .slice none 0 0], .int .i64 0], []⟩ 8 (by kernel_rfl) (by kernel_rfl) (by kernel_rfl) (by kernel_rfl)) ?_
 intro W base args ds gs before hval0 hW hcnd hsz0 _
 have hval : ∀ (j : Nat) t v, Try.f8.params[j]? = some t → args[j]? = some v → Value.okWide Try.prog W .any base t v := hval0
 have hW' := hW
 obtain ⟨p, q, hA0, hV, rfl, hfz, hnd⟩ := hW
 have hA : DataW.TrodAll enc Try.prog W 0 (fun _ => true) true Try.f8.params.toList args.toList ds p := hA0
 rw [Try.params8] at hA hval
 obtain ⟨v0, vs0, d0, ds0, p0, q0, hargs, rfl, rfl, h0, r0⟩ := trodAll_cons hA
 obtain ⟨v1, vs1, d1, ds1, p1, q1, rfl, rfl, rfl, h1, r1⟩ := trodAll_cons r0
 obtain ⟨v2, vs2, d2, ds2, p2, q2, rfl, rfl, rfl, h2, r2⟩ := trodAll_cons r1
 obtain ⟨v3, vs3, d3, ds3, p3, q3, rfl, rfl, rfl, h3, r3⟩ := trodAll_cons r2
 obtain ⟨rfl, rfl, rfl⟩ := trodAll_nil r3
 obtain rfl : args = #[v0, v1, v2, v3] := by cases args; simp_all
 obtain ⟨rfl, rfl⟩ := trodVars_none hV
 obtain ⟨a0, len0, cap0, rfl⟩ := okWide_slice Try.underlying25 (hval 0 25 v0 rfl rfl)
 have k0 := h0
 have lt0 : ∀ x ∈ p0, x.block < W.heap.size := by obtain ⟨m, hm⟩ := k0; exact DataW.trod_lt m _ _ _ hm
 obtain ⟨z0, w0⟩ : ∃ zs, IsRow .i64 W a0 len0 cap0 zs := by
  obtain ⟨fuel, hf⟩ := h0
  rcases open_ints Try.underlying25 Try.underlying3 (by kernel_rfl) hf with ⟨hcs, _⟩ | ⟨x, l, c, zs, hcs, _, hl, hm, hz, _, hcell, hwz⟩
  ·simp [Value.cells] at hcs
   obtain ⟨rfl, rfl, rfl⟩ := hcs
   exact ⟨[], .inl ⟨rfl, rfl, rfl, rfl⟩⟩
  ·simp [Value.cells] at hcs
   obtain ⟨rfl, rfl, rfl⟩ := hcs
   exact ⟨zs, .inr ⟨_, rfl, hl, hm, by simpa using hz, hcell, hwz⟩⟩
 obtain ⟨a1, len1, cap1, rfl⟩ := okWide_slice Try.underlying25 (hval 1 25 v1 rfl rfl)
 have k1 := h1
 have lt1 : ∀ x ∈ p1, x.block < W.heap.size := by obtain ⟨m, hm⟩ := k1; exact DataW.trod_lt m _ _ _ hm
 obtain ⟨z1, w1⟩ : ∃ zs, IsRow .i64 W a1 len1 cap1 zs := by
  obtain ⟨fuel, hf⟩ := h1
  rcases open_ints Try.underlying25 Try.underlying3 (by kernel_rfl) hf with ⟨hcs, _⟩ | ⟨x, l, c, zs, hcs, _, hl, hm, hz, _, hcell, hwz⟩
  ·simp [Value.cells] at hcs
   obtain ⟨rfl, rfl, rfl⟩ := hcs
   exact ⟨[], .inl ⟨rfl, rfl, rfl, rfl⟩⟩
  ·simp [Value.cells] at hcs
   obtain ⟨rfl, rfl, rfl⟩ := hcs
   exact ⟨zs, .inr ⟨_, rfl, hl, hm, by simpa using hz, hcell, hwz⟩⟩
 obtain ⟨cs2, rfl, hcs2⟩ := okWide_struct Try.underlying31 (hval 2 31 v2 rfl rfl)
 have k2 := h2
 have lt2 : ∀ x ∈ p2, x.block < W.heap.size := by obtain ⟨m, hm⟩ := k2; exact DataW.trod_lt m _ _ _ hm
 obtain ⟨b2, a2, len2, cap2, z2, rfl, w2⟩ := open_page (hcs2.trans cells_page) h2
 obtain ⟨a3, rfl, rfl, rfl, w3⟩ := open_int Try.underlying3 (hval 3 3 v3 rfl rfl) h3
 clear hA0 hval0 hsz0
 refine (walk W a0 len0 cap0 z0 a1 len1 cap1 z1 b2 a2 len2 cap2 z2 a3 w0 w1 w2).mono fun e W' ⟨he, bel⟩ => ?_
 subst he
 exact ⟨_, rfl, _, _, _, [], _, [], hW', trodAll_mk1 (shut_bool Try.underlying4 _), (trodAll_cons_mk (Below.trod laidOut (by kernel_rfl) (of_decide_eq_true (by kernel_rfl)) k0 bel lt0) (trodAll_cons_mk (Below.trod laidOut (by kernel_rfl) (of_decide_eq_true (by kernel_rfl)) k1 bel lt1) (trodAll_cons_mk (Below.trod laidOut (by kernel_rfl) (of_decide_eq_true (by kernel_rfl)) k2 bel lt2) (trodAll_cons_mk (shut_int Try.underlying3 w3) trodAll_mk0)))), rfl, bel.frame _, fun h => by cases h⟩
theorem over : Rows.memoryPagesRow.holds Try.pinned (OpenSpec.ofChange Rows.memoryPagesSpec) :=
 OpenClaim.holds_of_wide 8 Try.f8 rfl rfl rfl rfl rfl rfl rfl ⟨rfl, rfl, rfl, rfl, rfl⟩ rfl rfl rfl rfl rfl (by kernel_rfl) Try.func8 (by kernel_rfl)
  (of_decide_eq_true (by kernel_rfl)) (by unfold Func.isWrapper; first | (rw [if_pos (by decide +kernel)]; kernel_rfl) | (rw [if_neg (by decide +kernel)]; exact ⟨rfl, rfl⟩))
  (fun os started H enc _ => lifted os started H enc)
theorem proved : Rows.MemoryPagesSaid := over
#print axioms proved
end Go.Proofs.Ytpifepaflljolaa.memoryPages
namespace Go.Proofs.Ytpifepaflljolaa
/-- The row, under a short name, for the claim. -/
theorem memoryPages_holds : Rows.MemoryPagesSaid := memoryPages.proved
end Go.Proofs.Ytpifepaflljolaa
