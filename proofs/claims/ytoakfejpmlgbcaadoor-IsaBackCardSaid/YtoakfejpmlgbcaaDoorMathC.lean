/- IsaBack: its function returns true, whatever the input. -/
import Derived.Test.YtoakfejpmlgbcaaDoorMathA
import Derived.Test.YtoakfejpmlgbcaaDoorMathB
import Derived.Test.YtoakfejpmlgbcaaDoorPIsax47
namespace Go.Proofs.YtoakfejpmlgbcaaDoor.Pure
open Go.RowKit Go.Proofs.YtoakfejpmlgbcaaDoor.PIsa Go.Proofs.YtoakfejpmlgbcaaDoorW.PrintWords Go.Proofs.YtoakfejpmlgbcaaDoorW.PrintLast
theorem mod_ev (a n : Int) (h0 : 0 < n) (h1 : n < 4611686018427387904) : ∃ m, debuggerkit_Mod.f a n = some m ∧ 0 ≤ m ∧ m < n := by
  unfold debuggerkit_Mod.f
  rw [if_neg (by omega)]
  have e1 : -n < Int.tmod a n := by
    rcases Int.le_total 0 a with h | h
    · have := Int.tmod_nonneg n h
      omega
    · have h2 := Int.tmod_lt_of_pos (-a) h0
      rw [Int.neg_tmod] at h2
      omega
  have e2 : Int.tmod a n < n := Int.tmod_lt_of_pos a h0
  by_cases hn : Int.tmod a n < 0
  · rw [if_pos hn]
    refine ⟨_, rfl, ?_, ?_⟩ <;> (unfold wrap64; omega)
  · rw [if_neg hn]
    exact ⟨_, rfl, by omega, e2⟩
theorem near_ev (a0 a1 a2 a3 a4 : Int) : ∃ b0 b1 b2 b3 b4, debuggerlaw16_near.f a0 a1 a2 a3 a4 = some (b0, b1, b2, b3, b4) ∧ 1 ≤ b0 ∧ b0 < 26 ∧ 0 ≤ b1 ∧ b1 < 16 ∧ 0 ≤ b2 ∧ b2 < 16 ∧ 0 ≤ b3 ∧ b3 < 16 ∧ -2147483648 ≤ b4 ∧ b4 < 2147483648 := by
  obtain ⟨m0, e0, l0, u0⟩ := mod_ev a0 25 (by decide) (by decide)
  obtain ⟨m1, e1, l1, u1⟩ := mod_ev a1 16 (by decide) (by decide)
  obtain ⟨m2, e2, l2, u2⟩ := mod_ev a2 16 (by decide) (by decide)
  obtain ⟨m3, e3, l3, u3⟩ := mod_ev a3 16 (by decide) (by decide)
  obtain ⟨m4, e4, l4, u4⟩ := mod_ev a4 4294967296 (by decide) (by decide)
  refine ⟨wrap64 (1 + m0), m1, m2, m3, wrap64 (m4 - 2147483648), ?_, ?_, ?_, l1, u1, l2, u2, l3, u3, ?_, ?_⟩
  · unfold debuggerlaw16_near.f
    rw [e0, Option.bind_some, e1, Option.bind_some, e2, Option.bind_some, e3, Option.bind_some, e4, Option.bind_some]
  all_goals (unfold wrap64; omega)
theorem enc_up {i0 i1 i2 i3 i4 : Int} {r : Int × Int} (h : isa_Encode.f 1 i0 i1 i2 i3 i4 = some r) : isa_Encode.f 20 i0 i1 i2 i3 i4 = some r := by
  have m := isa_Encode.mono i0 i1 i2 i3 i4
  have up : ∀ n, isa_Encode.f (n + 1) i0 i1 i2 i3 i4 = some r := by
    intro n
    induction n with
    | zero => exact h
    | succ n ih => exact m (n + 1) r ih
  exact up 19
theorem IsaBack (a0 a1 a2 a3 a4 w : Int) (hw0 : -9223372036854775808 ≤ w) (hw1 : w < 9223372036854775808) : ∃ k, debuggerlaw16_IsaBack.f k a0 a1 a2 a3 a4 w = some true := by
  obtain ⟨b0, b1, b2, b3, b4, en, l0, u0, l1, u1, l2, u2, l3, u3, l4, u4⟩ := near_ev a0 a1 a2 a3 a4
  refine ⟨20, ?_⟩
  unfold debuggerlaw16_IsaBack.f
  have e1 : isa_Encode.f 20 b0 b1 b2 b3 b4 = some (encW b0 b1 b2 b3 b4, 0) := enc_up (by rw [isa_Encode.ev, if_pos (by omega), if_pos (by omega)])
  have e2 := decode_encW b0 b1 b2 b3 b4 l0 u0 l1 u1 l2 u2 l3 u3 l4 u4
  rw [en, Option.bind_some]
  simp only
  rw [e1, Option.bind_some]
  simp only
  rw [e2, Option.bind_some]
  simp only
  rcases encode_decode w hw0 hw1 with ⟨o, a, b, c, d, e3, e4⟩ | e3
  · rw [e3, Option.bind_some]
    simp only
    rw [enc_up e4, Option.bind_some]
    simp only [beq_self_eq_true, Bool.and_self, if_true, known_ev, Option.bind_some]
  · rw [e3, Option.bind_some]
    simp only
    have e5 : isa_Encode.f 20 0 0 0 0 0 = some (0, 4) := enc_up (by rw [isa_Encode.ev, if_pos (by omega), if_neg (by omega)])
    rw [e5, Option.bind_some]
    simp only [beq_self_eq_true, Bool.and_self, if_true, known_ev, Option.bind_some]
    rw [if_neg (by decide)]
end Go.Proofs.YtoakfejpmlgbcaaDoor.Pure
