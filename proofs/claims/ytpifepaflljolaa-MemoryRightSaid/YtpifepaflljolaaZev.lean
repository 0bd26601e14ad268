/-
  Words of this session's about 'with enough rounds the function answers r' (Ev), whole numbers that fit, and lists. Nothing of the program is in it.
-/
import Derived.Test.YtpifepaflljolaaVw
namespace Go.Proofs.Ytpifepaflljolaa.Zev
open Go.RowKit Go.Proofs.YtpifepaflljolaaW.PrintWords Go.Proofs.YtpifepaflljolaaW.PrintLast Go.Proofs.YtpifepaflljolaaW.PrintMore
variable {α β : Type}
theorem now (r : α) : Ev (fun _ => some r) r := ⟨0, fun _ _ => rfl⟩
theorem ifp {c : Prop} [Decidable c] {f g : Nat → Option α} {r : α} (h : c) (e : Ev f r) : Ev (fun k => if c then f k else g k) r := Ev.congr (fun _ => if_pos h) e
theorem ifn {c : Prop} [Decidable c] {f g : Nat → Option α} {r : α} (h : ¬ c) (e : Ev g r) : Ev (fun k => if c then f k else g k) r := Ev.congr (fun _ => if_neg h) e
theorem bindc {a : Option α} {x : α} {f : Nat → α → Option β} {r : β} (h : a = some x) (e : Ev (fun k => f k x) r) : Ev (fun k => a.bind (f k)) r := by
  subst h
  exact e
theorem bind {g : Nat → Option α} {f : Nat → α → Option β} {a : α} {r : β} (h : Ev g a) (k : Ev (fun n => f n a) r) : Ev (fun n => (g n).bind (f n)) r := Ev.bind h k
theorem step {g f : Nat → Option α} {r : α} (h : ∀ k, g (k + 1) = f k) (k : Ev f r) : Ev g r := Ev.step h k
theorem done {g : Nat → Option α} {r : α} (h : Ev g r) : ∃ k, g k = some r := Ev.rounds h
theorem cast {g : Nat → Option α} {r r' : α} (h : Ev g r) (e : r = r') : Ev g r' := e ▸ h
/-- A Bool in a function's arguments, behind a letter. -/
theorem gen {F : Bool → Nat → Option α} {b : Bool} {r : α} (h : ∀ c, c = b → Ev (F c) r) : Ev (F b) r := h b rfl
/-- A closed run: enough rounds once is enough rounds ever. -/
theorem mono {g : Nat → Option α} (hg : ∀ k, LeO (g k) (g (k + 1))) {k : Nat} {r : α} (h : g k = some r) : Ev g r := Ev.of hg h
theorem w64 {x : Int} (h1 : -9223372036854775808 ≤ x) (h2 : x ≤ 9223372036854775807) : wrap64 x = x := by
  unfold wrap64
  omega
theorem tm (a n : Int) (ha : 0 ≤ a) : Int.tmod a n = a % n := Int.tmod_eq_emod_of_nonneg ha
theorem md {a n : Int} (hn : 0 < n) (h2 : n ≤ 4611686018427387904) : (if Int.tmod a n < 0 then wrap64 (Int.tmod a n + n) else Int.tmod a n) = a % n := by
  have h0 := Int.emod_nonneg a (show n ≠ 0 by omega)
  have h1 := Int.emod_lt_of_pos a hn
  have e := @Int.tmod_eq_emod a n
  have hna : (n.natAbs : Int) = n := by omega
  split at e
  · rw [if_neg (by omega)]; omega
  · by_cases hz : Int.tmod a n < 0
    · rw [if_pos hz, w64 (by omega) (by omega)]; omega
    · rw [if_neg hz]; omega
theorem mn_le {a b : Int} (h : a ≤ b) : mn a b = a := by unfold mn; rw [if_neg (by omega)]
theorem wf_i64 {x : Int} (h : (Lit.int .i64 x).wf = true) : -9223372036854775808 ≤ x ∧ x ≤ 9223372036854775807 := by
  simp only [Lit.wf, Bool.and_eq_true, decide_eq_true_eq] at h
  exact ⟨h.1, h.2⟩
end Go.Proofs.Ytpifepaflljolaa.Zev
