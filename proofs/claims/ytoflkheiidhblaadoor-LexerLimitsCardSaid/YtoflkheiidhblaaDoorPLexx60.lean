-- By wip/xprint.py (a driver of this session's over the kit's print), for this claim.
import Derived.Test.YtoflkheiidhblaaDoorPLexx0
import Derived.Test.YtoflkheiidhblaaDoorPLexx14
import Derived.Test.YtoflkheiidhblaaDoorPLexx16
import Derived.Test.YtoflkheiidhblaaDoorPLexx34
import Derived.Test.YtoflkheiidhblaaDoorPLexx52
import Derived.Test.YtoflkheiidhblaaDoorPLexx59
namespace Go.Proofs.YtoflkheiidhblaaDoor.PLex
open Go.RowKit Go.Proofs.YtoflkheiidhblaaDoorW.PrintWords Go.Proofs.YtoflkheiidhblaaDoorW.PrintLast Go.Proofs.YtoflkheiidhblaaDoorW.PrintMore
attribute [local go_sem] max2_int min2_int max_two min_two max_three min_three max_four min_four   -- for this text's walks alone
set_option linter.unusedVariables false
set_option linter.unusedSimpArgs false

/-! ### debuggerlaw02_LexerLimits: function 8, by hand: straight code; the answer true alone settles every test -/
def debuggerlaw02_LexerLimits.g (k : Nat) (q : Int) : Option Bool :=
 (debuggerlaw02_repeat.f k (⟨#[97]⟩ : ByteArray) (wrap64 (12 + q))).bind fun s1 => (lexer_Scan.f k s1).bind fun a =>
 (debuggerlaw02_repeat.f k (⟨#[55]⟩ : ByteArray) (wrap64 (18 + q))).bind fun s2 => (lexer_Scan.f k s2).bind fun b =>
 (debuggerlaw02_repeat.f k (⟨#[59]⟩ : ByteArray) (wrap64 (2000 + q))).bind fun s3 => (lexer_Scan.f k s3).bind fun c =>
 (debuggerlaw02_repeat.f k (⟨#[32]⟩ : ByteArray) (wrap64 (4000 + q))).bind fun s4 => (lexer_Scan.f k s4).bind fun d =>
 (debuggerlaw02_known.f k).bind fun z => some (decide ((q ≤ 0 ∧ a.2.2 = 0 ∧ b.2.2 = 0 ∧ c.2.2 = 0 ∧ d.2.2 = 0 ∧ (c.1.length : Int) = wrap64 (wrap64 (2000 + q) + 1)) ∨ (0 < q ∧ a.2.2 = 5 ∧ b.2.2 = 5 ∧ c.2.2 = 5 ∧ d.2.2 = 5)) && z)
def debuggerlaw02_LexerLimits.f (k : Nat) (a0 : Int) : Option Bool := (debuggerkit_Mod.f a0 5).bind fun m => debuggerlaw02_LexerLimits.g k (wrap64 (m - 2))
theorem debuggerlaw02_LexerLimits.mono : ∀ a0 k, LeO (debuggerlaw02_LexerLimits.f k a0) (debuggerlaw02_LexerLimits.f (k + 1) a0) := by
 intro a0 k
 unfold debuggerlaw02_LexerLimits.f debuggerlaw02_LexerLimits.g
 refine LeO.bind (LeO.refl _) fun m => ?_
 refine LeO.bind (debuggerlaw02_repeat.mono _ _ _) fun _ => LeO.bind (lexer_Scan.mono _ _) fun _ => ?_
 refine LeO.bind (debuggerlaw02_repeat.mono _ _ _) fun _ => LeO.bind (lexer_Scan.mono _ _) fun _ => ?_
 refine LeO.bind (debuggerlaw02_repeat.mono _ _ _) fun _ => LeO.bind (lexer_Scan.mono _ _) fun _ => ?_
 refine LeO.bind (debuggerlaw02_repeat.mono _ _ _) fun _ => LeO.bind (lexer_Scan.mono _ _) fun _ => ?_
 exact LeO.bind (debuggerlaw02_known.mono _) fun _ => LeO.refl _
set_option maxHeartbeats 8000000 in
set_option maxRecDepth 100000 in
theorem debuggerlaw02_LexerLimits.calls (k : Nat) (a0 : Int) (r : Bool) (w : World) (hGl : Aside0 (Glob w)) (hT0 : r = true) (h : debuggerlaw02_LexerLimits.f k a0 = some r) :
  Calls Tryd.prog 8 #[.int .i64 a0] w fun e w' => e = .returned (.bool r) ∧ Below w.heap.size w w' := by
 have HB := Aside0.mk (Below.refl w.heap.size w)
 subst hT0
 unfold debuggerlaw02_LexerLimits.f debuggerlaw02_LexerLimits.g at h
 obtain ⟨m, hm, h⟩ := Option.bind_eq_some_iff.mp h
 have AM := Aside0.mk hm
 clear hm
 generalize hq : wrap64 (m - 2) = q at h
 have hQ := Aside0.mk hq
 obtain ⟨s1, hs1, h⟩ := Option.bind_eq_some_iff.mp h
 obtain ⟨⟨l1, n1, e1⟩, hc1, h⟩ := Option.bind_eq_some_iff.mp h
 have AS1 := Aside0.mk hs1
 have AC1 := Aside0.mk hc1
 clear hs1 hc1
 obtain ⟨s2, hs2, h⟩ := Option.bind_eq_some_iff.mp h
 obtain ⟨⟨l2, n2, e2⟩, hc2, h⟩ := Option.bind_eq_some_iff.mp h
 have AS2 := Aside0.mk hs2
 have AC2 := Aside0.mk hc2
 clear hs2 hc2
 obtain ⟨s3, hs3, h⟩ := Option.bind_eq_some_iff.mp h
 obtain ⟨⟨l3, n3, e3⟩, hc3, h⟩ := Option.bind_eq_some_iff.mp h
 have AS3 := Aside0.mk hs3
 have AC3 := Aside0.mk hc3
 clear hs3 hc3
 obtain ⟨s4, hs4, h⟩ := Option.bind_eq_some_iff.mp h
 obtain ⟨⟨l4, n4, e4⟩, hc4, h⟩ := Option.bind_eq_some_iff.mp h
 have AS4 := Aside0.mk hs4
 have AC4 := Aside0.mk hc4
 clear hs4 hc4
 obtain ⟨z, hz, h⟩ := Option.bind_eq_some_iff.mp h
 have AZ := Aside0.mk hz
 clear hz
 simp only [Option.some.injEq, Bool.and_eq_true, decide_eq_true_eq] at h
 obtain ⟨h, rfl⟩ := h
 rcases h with ⟨hq0, h1, h2, h3, h4, h5⟩ | ⟨hq0, h1, h2, h3, h4⟩
 ·subst h1 h2 h3 h4
  have c0 : decide (0 < q) = false := decide_eq_false (by omega)
  have c1 : decide (q ≤ 0) = true := decide_eq_true hq0
  have c2 : ((l3.length : Int) == wrap64 (wrap64 (2000 + q) + 1)) = true := beq_iff_eq.mpr h5
  clear hq0 h5
  clear hq
  go_enter Tryd.func8, Tryd.ntmps8
  go_wp2_with (first | (go_at_call 14; (with_reducible refine (debuggerkit_Mod.calls a0 5 m _ AM.out).mono ?_); rintro e w9 ⟨rfl, hb⟩; have n_ := Aside0.mk (below_step (by repeat (first | (with_reducible exact HB.out) | (with_reducible apply pw_below_drewN) | (with_reducible apply below_drew1) | (with_reducible apply below_alloc))) hb); clear HB; have HB := n_; clear n_ hb; have hq := hQ.out) | (go_at_call 18; (with_reducible refine (debuggerlaw02_repeat.calls k (⟨#[97]⟩ : ByteArray) (wrap64 (12 + q)) s1 _ AS1.out).mono ?_); rintro e w9 ⟨rfl, ⟨nd1, rfl⟩⟩) | (go_at_call 15; (with_reducible refine (lexer_Scan.calls k s1 l1 n1 0 _ ⟨Glob.below hGl.out (by repeat (first | (with_reducible exact HB.out) | (with_reducible apply pw_below_drewN) | (with_reducible apply below_drew1) | (with_reducible apply below_alloc)))⟩ AC1.out).mono ?_); rintro e w9 ⟨v1, rfl, ho, hb⟩; obtain ⟨A1, c1, hv⟩ := Kd.R_slice ho; subst hv; have n_ := Aside0.mk (below_step (by repeat (first | (with_reducible exact HB.out) | (with_reducible apply pw_below_drewN) | (with_reducible apply below_drew1) | (with_reducible apply below_alloc))) hb); clear HB; have HB := n_; clear n_ ho hb) | (go_at_call 18; (with_reducible refine (debuggerlaw02_repeat.calls k (⟨#[55]⟩ : ByteArray) (wrap64 (18 + q)) s2 _ AS2.out).mono ?_); rintro e w9 ⟨rfl, ⟨nd2, rfl⟩⟩) | (go_at_call 15; (with_reducible refine (lexer_Scan.calls k s2 l2 n2 0 _ ⟨Glob.below hGl.out (by repeat (first | (with_reducible exact HB.out) | (with_reducible apply pw_below_drewN) | (with_reducible apply below_drew1) | (with_reducible apply below_alloc)))⟩ AC2.out).mono ?_); rintro e w9 ⟨v2, rfl, ho, hb⟩; obtain ⟨A2, c2, hv⟩ := Kd.R_slice ho; subst hv; have n_ := Aside0.mk (below_step (by repeat (first | (with_reducible exact HB.out) | (with_reducible apply pw_below_drewN) | (with_reducible apply below_drew1) | (with_reducible apply below_alloc))) hb); clear HB; have HB := n_; clear n_ ho hb) | (go_at_call 18; (with_reducible refine (debuggerlaw02_repeat.calls k (⟨#[59]⟩ : ByteArray) (wrap64 (2000 + q)) s3 _ AS3.out).mono ?_); rintro e w9 ⟨rfl, ⟨nd3, rfl⟩⟩) | (go_at_call 15; (with_reducible refine (lexer_Scan.calls k s3 l3 n3 0 _ ⟨Glob.below hGl.out (by repeat (first | (with_reducible exact HB.out) | (with_reducible apply pw_below_drewN) | (with_reducible apply below_drew1) | (with_reducible apply below_alloc)))⟩ AC3.out).mono ?_); rintro e w9 ⟨v3, rfl, ho, hb⟩; obtain ⟨A3, c3, hv⟩ := Kd.R_slice ho; subst hv; have n_ := Aside0.mk (below_step (by repeat (first | (with_reducible exact HB.out) | (with_reducible apply pw_below_drewN) | (with_reducible apply below_drew1) | (with_reducible apply below_alloc))) hb); clear HB; have HB := n_; clear n_ ho hb) | (go_at_call 18; (with_reducible refine (debuggerlaw02_repeat.calls k (⟨#[32]⟩ : ByteArray) (wrap64 (4000 + q)) s4 _ AS4.out).mono ?_); rintro e w9 ⟨rfl, ⟨nd4, rfl⟩⟩) | (go_at_call 15; (with_reducible refine (lexer_Scan.calls k s4 l4 n4 0 _ ⟨Glob.below hGl.out (by repeat (first | (with_reducible exact HB.out) | (with_reducible apply pw_below_drewN) | (with_reducible apply below_drew1) | (with_reducible apply below_alloc)))⟩ AC4.out).mono ?_); rintro e w9 ⟨v4, rfl, ho, hb⟩; obtain ⟨A4, c4, hv⟩ := Kd.R_slice ho; subst hv; have n_ := Aside0.mk (below_step (by repeat (first | (with_reducible exact HB.out) | (with_reducible apply pw_below_drewN) | (with_reducible apply below_drew1) | (with_reducible apply below_alloc))) hb); clear HB; have HB := n_; clear n_ ho hb) | (go_at_call 13; (with_reducible refine (debuggerlaw02_known.calls k true _ ⟨Glob.below hGl.out (by repeat (first | (with_reducible exact HB.out) | (with_reducible apply pw_below_drewN) | (with_reducible apply below_drew1) | (with_reducible apply below_alloc)))⟩ AZ.out).mono ?_); rintro e w9 ⟨rfl, hb⟩; have n_ := Aside0.mk (below_step (by repeat (first | (with_reducible exact HB.out) | (with_reducible apply pw_below_drewN) | (with_reducible apply below_drew1) | (with_reducible apply below_alloc))) hb); clear HB; have HB := n_; clear n_ hb))
  go_ret
  exact ⟨rfl, (by repeat (first | (with_reducible exact HB.out) | (with_reducible apply pw_below_drewN) | (with_reducible apply below_drew1) | (with_reducible apply below_alloc)))⟩
 ·subst h1 h2 h3 h4
  have c0 : decide (0 < q) = true := decide_eq_true hq0
  have c1 : decide (q ≤ 0) = false := decide_eq_false (by omega)
  clear hq0
  clear hq
  go_enter Tryd.func8, Tryd.ntmps8
  go_wp2_with (first | (go_at_call 14; (with_reducible refine (debuggerkit_Mod.calls a0 5 m _ AM.out).mono ?_); rintro e w9 ⟨rfl, hb⟩; have n_ := Aside0.mk (below_step (by repeat (first | (with_reducible exact HB.out) | (with_reducible apply pw_below_drewN) | (with_reducible apply below_drew1) | (with_reducible apply below_alloc))) hb); clear HB; have HB := n_; clear n_ hb; have hq := hQ.out) | (go_at_call 18; (with_reducible refine (debuggerlaw02_repeat.calls k (⟨#[97]⟩ : ByteArray) (wrap64 (12 + q)) s1 _ AS1.out).mono ?_); rintro e w9 ⟨rfl, ⟨nd1, rfl⟩⟩) | (go_at_call 15; (with_reducible refine (lexer_Scan.calls k s1 l1 n1 5 _ ⟨Glob.below hGl.out (by repeat (first | (with_reducible exact HB.out) | (with_reducible apply pw_below_drewN) | (with_reducible apply below_drew1) | (with_reducible apply below_alloc)))⟩ AC1.out).mono ?_); rintro e w9 ⟨v1, rfl, ho, hb⟩; obtain ⟨A1, c1, hv⟩ := Kd.R_slice ho; subst hv; have n_ := Aside0.mk (below_step (by repeat (first | (with_reducible exact HB.out) | (with_reducible apply pw_below_drewN) | (with_reducible apply below_drew1) | (with_reducible apply below_alloc))) hb); clear HB; have HB := n_; clear n_ ho hb) | (go_at_call 18; (with_reducible refine (debuggerlaw02_repeat.calls k (⟨#[55]⟩ : ByteArray) (wrap64 (18 + q)) s2 _ AS2.out).mono ?_); rintro e w9 ⟨rfl, ⟨nd2, rfl⟩⟩) | (go_at_call 15; (with_reducible refine (lexer_Scan.calls k s2 l2 n2 5 _ ⟨Glob.below hGl.out (by repeat (first | (with_reducible exact HB.out) | (with_reducible apply pw_below_drewN) | (with_reducible apply below_drew1) | (with_reducible apply below_alloc)))⟩ AC2.out).mono ?_); rintro e w9 ⟨v2, rfl, ho, hb⟩; obtain ⟨A2, c2, hv⟩ := Kd.R_slice ho; subst hv; have n_ := Aside0.mk (below_step (by repeat (first | (with_reducible exact HB.out) | (with_reducible apply pw_below_drewN) | (with_reducible apply below_drew1) | (with_reducible apply below_alloc))) hb); clear HB; have HB := n_; clear n_ ho hb) | (go_at_call 18; (with_reducible refine (debuggerlaw02_repeat.calls k (⟨#[59]⟩ : ByteArray) (wrap64 (2000 + q)) s3 _ AS3.out).mono ?_); rintro e w9 ⟨rfl, ⟨nd3, rfl⟩⟩) | (go_at_call 15; (with_reducible refine (lexer_Scan.calls k s3 l3 n3 5 _ ⟨Glob.below hGl.out (by repeat (first | (with_reducible exact HB.out) | (with_reducible apply pw_below_drewN) | (with_reducible apply below_drew1) | (with_reducible apply below_alloc)))⟩ AC3.out).mono ?_); rintro e w9 ⟨v3, rfl, ho, hb⟩; obtain ⟨A3, c3, hv⟩ := Kd.R_slice ho; subst hv; have n_ := Aside0.mk (below_step (by repeat (first | (with_reducible exact HB.out) | (with_reducible apply pw_below_drewN) | (with_reducible apply below_drew1) | (with_reducible apply below_alloc))) hb); clear HB; have HB := n_; clear n_ ho hb) | (go_at_call 18; (with_reducible refine (debuggerlaw02_repeat.calls k (⟨#[32]⟩ : ByteArray) (wrap64 (4000 + q)) s4 _ AS4.out).mono ?_); rintro e w9 ⟨rfl, ⟨nd4, rfl⟩⟩) | (go_at_call 15; (with_reducible refine (lexer_Scan.calls k s4 l4 n4 5 _ ⟨Glob.below hGl.out (by repeat (first | (with_reducible exact HB.out) | (with_reducible apply pw_below_drewN) | (with_reducible apply below_drew1) | (with_reducible apply below_alloc)))⟩ AC4.out).mono ?_); rintro e w9 ⟨v4, rfl, ho, hb⟩; obtain ⟨A4, c4, hv⟩ := Kd.R_slice ho; subst hv; have n_ := Aside0.mk (below_step (by repeat (first | (with_reducible exact HB.out) | (with_reducible apply pw_below_drewN) | (with_reducible apply below_drew1) | (with_reducible apply below_alloc))) hb); clear HB; have HB := n_; clear n_ ho hb) | (go_at_call 13; (with_reducible refine (debuggerlaw02_known.calls k true _ ⟨Glob.below hGl.out (by repeat (first | (with_reducible exact HB.out) | (with_reducible apply pw_below_drewN) | (with_reducible apply below_drew1) | (with_reducible apply below_alloc)))⟩ AZ.out).mono ?_); rintro e w9 ⟨rfl, hb⟩; have n_ := Aside0.mk (below_step (by repeat (first | (with_reducible exact HB.out) | (with_reducible apply pw_below_drewN) | (with_reducible apply below_drew1) | (with_reducible apply below_alloc))) hb); clear HB; have HB := n_; clear n_ hb))
  go_ret
  exact ⟨rfl, (by repeat (first | (with_reducible exact HB.out) | (with_reducible apply pw_below_drewN) | (with_reducible apply below_drew1) | (with_reducible apply below_alloc)))⟩
/-- The one pure statement. -/
def debuggerlaw02_LexerLimits.Pure : Prop := ∀ (a0 : Int), (Lit.int .i64 a0).wf = true → ∃ k, debuggerlaw02_LexerLimits.f k a0 = some true
theorem debuggerlaw02_LexerLimits.walk (P : debuggerlaw02_LexerLimits.Pure) (a0 : Int) (w : World) (hGl : Aside0 (Glob w)) (w0 : (Lit.int .i64 a0).wf = true) :
  Calls Tryd.prog 8 #[.int .i64 a0] w fun e w' => e = .returned (.bool true) ∧ Below w.heap.size w w' := by
 obtain ⟨k, h⟩ := P a0 w0
 exact debuggerlaw02_LexerLimits.calls k a0 true w hGl rfl h

end Go.Proofs.YtoflkheiidhblaaDoor.PLex
