/-
  The statement LexerLimits, over lists alone. No condition.
-/
import Derived.Test.YtoflkheiidhblaaDoorPLexx60
import Derived.Test.YtoflkheiidhblaaDoorMathU
namespace Go.Proofs.YtoflkheiidhblaaDoor.Pure
open Go.RowKit Go.Proofs.YtoflkheiidhblaaDoor.PLex Go.Proofs.YtoflkheiidhblaaDoorW.PrintWords Go.Proofs.YtoflkheiidhblaaDoorW.PrintLast Go.Proofs.YtoflkheiidhblaaDoor.Lx
set_option linter.unusedSimpArgs false
def repB (n : Nat) (c : UInt8) : ByteArray := ⟨(List.replicate n c).toArray⟩
theorem repB_size (n : Nat) (c : UInt8) : (repB n c).size = n := by simp [repB, ByteArray.size]
theorem repB_data (n : Nat) (c : UInt8) : (repB n c).data.toList = List.replicate n c := rfl
theorem repB_step (n : Nat) (c : UInt8) : repB n c ++ (⟨#[c]⟩ : ByteArray) = repB (n + 1) c := by
  apply bai
  rw [ByteArray.data_append, Array.toList_append]
  show List.replicate n c ++ [c] = List.replicate (n + 1) c
  rw [List.replicate_succ']
theorem repeat_ev (c : UInt8) (n : Nat) (hn : n ≤ 1000000) : ∀ (d i : Nat), i + d = n → Ev (fun k => debuggerlaw02_repeat.l0 k (⟨#[c]⟩ : ByteArray) (n : Int) (repB i c) (i : Int)) (repB n c) := by
  intro d
  induction d with
  | zero =>
    intro i hi
    obtain rfl : i = n := by omega
    exact Zev.step (f := fun _ => some (repB i c)) (fun k => by rw [debuggerlaw02_repeat.l0, if_neg (by omega)]) (Zev.now _)
  | succ d ih =>
    intro i hi
    have e : wrap64 ((i : Int) + 1) = ((i + 1 : Nat) : Int) := by rw [Zev.w64 (by omega) (by omega)]; omega
    refine Zev.step (fun k => ?_) (ih (i + 1) (by omega))
    have hs : (repB i c).size + (⟨#[c]⟩ : ByteArray).size ≤ 9223372036854775807 := by
      rw [repB_size]
      show i + 1 ≤ _
      omega
    rw [debuggerlaw02_repeat.l0, if_pos (by omega), if_pos hs, repB_step, e]
theorem repeat_f (c : UInt8) (n : Nat) (hn : n ≤ 1000000) : Ev (fun k => debuggerlaw02_repeat.f k (⟨#[c]⟩ : ByteArray) (n : Int)) (repB n c) := repeat_ev c n hn n 0 (by omega)
theorem known_ev : Ev (fun k => debuggerlaw02_known.f k) true := Zev.mono (fun k => debuggerlaw02_known.mono k) (k := 60) (by decide +kernel)
/-! blanks -/
theorem skip32 : ∀ (n : Nat) (l : Int), skipL false (List.replicate n 32) l = ([], l) := by
  intro n
  induction n with
  | zero => intro l; rfl
  | succ n ih =>
    intro l
    rw [List.replicate_succ, skipL, if_neg (by decide), if_pos (.inl rfl)]
    exact ih l
theorem scan32 (n : Nat) : (scanA (List.replicate n 32)).2.2 = if n ≤ 4000 then 0 else 5 := by
  unfold scanA
  rw [List.length_replicate]
  by_cases h : n ≤ 4000
  · rw [if_neg (by omega), if_pos h, skip32, scanL, if_pos rfl]
  · rw [if_pos (by omega), if_neg h]
/-! signs -/
theorem skip59 (n : Nat) (l : Int) : skipL false (List.replicate n 59) l = (List.replicate n 59, l) := by
  cases n with
  | zero => rfl
  | succ n => rw [List.replicate_succ, skipL, if_neg (by decide), if_neg (by decide), if_neg (fun h => absurd h.1 (by decide))]
theorem next59 (s : List UInt8) (l : Int) : nextL l (59 :: s) = ((4, l, ⟨#[59]⟩, 0, 0), s) := by
  have hd : ¬ (59 :: s : List UInt8).head?.map isD = some true := by
    show ¬ some (isD 59) = some true
    decide
  have hl : ¬ (59 :: s : List UInt8).head?.map isL = some true := by
    show ¬ some (isL 59) = some true
    decide
  have hf : sgn_words.find? (fun x => x.data.toList.isPrefixOf (59 :: s)) = some ⟨#[59]⟩ := rfl
  unfold nextL
  rw [if_neg hd, if_neg hl, hf]
  rfl
theorem scan59 : ∀ (j N : Nat) (l : Int) (acc : List S36), j < N → acc.length ≤ 2000 → (acc.length + j ≤ 2000 → (scanL N (List.replicate j 59) l acc).2.2 = 0 ∧ (scanL N (List.replicate j 59) l acc).1.length = acc.length + j + 1) ∧ (2000 < acc.length + j → (scanL N (List.replicate j 59) l acc).2.2 = 5) := by
  intro j
  induction j with
  | zero =>
    intro N l acc hN ha
    obtain ⟨N, rfl⟩ : ∃ M, N = M + 1 := ⟨N - 1, by omega⟩
    rw [List.replicate_zero, scanL, if_pos rfl]
    exact ⟨fun _ => ⟨rfl, by simp⟩, fun h => by omega⟩
  | succ j ih =>
    intro N l acc hN ha
    obtain ⟨N, rfl⟩ : ∃ M, N = M + 1 := ⟨N - 1, by omega⟩
    rw [List.replicate_succ, scanL, if_neg (by simp), next59]
    rw [if_pos rfl]
    by_cases h : (acc.length : Int) ≥ 2000
    · rw [if_pos h]
      exact ⟨fun h' => by omega, fun _ => rfl⟩
    · rw [if_neg h]
      show (_ → (scanL N (skipL false (List.replicate j 59) l).1 (skipL false (List.replicate j 59) l).2 _).2.2 = 0 ∧ _) ∧ (_ → (scanL N (skipL false (List.replicate j 59) l).1 (skipL false (List.replicate j 59) l).2 _).2.2 = 5)
      rw [skip59]
      have q := ih N l (acc ++ [tokOf (4, l, ⟨#[59]⟩, 0, 0)]) (by omega) (by simp; omega)
      rw [List.length_append, List.length_singleton] at q
      refine ⟨fun h' => ?_, fun h' => q.2 (by omega)⟩
      obtain ⟨q1, q2⟩ := q.1 (by omega)
      exact ⟨q1, by rw [q2]; omega⟩
theorem scanA59 (n : Nat) (hn : n ≤ 4000) : (n ≤ 2000 → (scanA (List.replicate n 59)).2.2 = 0 ∧ (scanA (List.replicate n 59)).1.length = n + 1) ∧ (2000 < n → (scanA (List.replicate n 59)).2.2 = 5) := by
  unfold scanA
  rw [List.length_replicate, if_neg (by omega), skip59]
  have q := scan59 n (n + 1) 1 [] (by omega) (by simp)
  rw [List.length_nil, Nat.zero_add] at q
  exact q
theorem goal (q : Int) (n1 n2 n3 n4 : Nat) (e1 : wrap64 (12 + q) = n1) (e2 : wrap64 (18 + q) = n2) (e3 : wrap64 (2000 + q) = n3) (e4 : wrap64 (4000 + q) = n4) (hn : n1 ≤ 100 ∧ n2 ≤ 100 ∧ n3 ≤ 3000 ∧ n4 ≤ 5000)
    (h : (q ≤ 0 ∧ (scanA (List.replicate n1 97)).2.2 = 0 ∧ (scanA (List.replicate n2 55)).2.2 = 0 ∧ (scanA (List.replicate n3 59)).2.2 = 0 ∧ (scanA (List.replicate n4 32)).2.2 = 0 ∧ ((scanA (List.replicate n3 59)).1.length : Int) = wrap64 (wrap64 (2000 + q) + 1)) ∨ (0 < q ∧ (scanA (List.replicate n1 97)).2.2 = 5 ∧ (scanA (List.replicate n2 55)).2.2 = 5 ∧ (scanA (List.replicate n3 59)).2.2 = 5 ∧ (scanA (List.replicate n4 32)).2.2 = 5)) :
    Ev (fun k => debuggerlaw02_LexerLimits.g k q) true := by
  unfold debuggerlaw02_LexerLimits.g
  rw [e1, e2, e3, e4]
  rw [e3] at h
  refine Zev.bind (repeat_f 97 n1 (by omega)) (Zev.bind (scan_ev (repB n1 97)) ?_)
  refine Zev.bind (repeat_f 55 n2 (by omega)) (Zev.bind (scan_ev (repB n2 55)) ?_)
  refine Zev.bind (repeat_f 59 n3 (by omega)) (Zev.bind (scan_ev (repB n3 59)) ?_)
  refine Zev.bind (repeat_f 32 n4 (by omega)) (Zev.bind (scan_ev (repB n4 32)) ?_)
  refine Zev.bind known_ev ?_
  refine Zev.cast (Zev.now _) ?_
  rw [Bool.and_true]
  exact decide_eq_true h
theorem LexerLimits : debuggerlaw02_LexerLimits.Pure := by
  intro a0 _
  refine Zev.done ?_
  unfold debuggerlaw02_LexerLimits.f
  have h5 := @Zev.md a0 5 (by omega) (by omega)
  have hm : debuggerkit_Mod.f a0 5 = some (a0 % 5) := by
    unfold debuggerkit_Mod.f
    rw [if_neg (by decide), ← h5]
    split <;> rfl
  refine Zev.bindc hm ?_
  have m0 := Int.emod_nonneg a0 (show (5 : Int) ≠ 0 by decide)
  have m1 := Int.emod_lt_of_pos a0 (show (0 : Int) < 5 by decide)
  generalize a0 % 5 = m at m0 m1
  have c : m = 0 ∨ m = 1 ∨ m = 2 ∨ m = 3 ∨ m = 4 := by omega
  have e59 : ∀ n, n ≤ 2000 → (scanA (List.replicate n 59)).2.2 = 0 ∧ (scanA (List.replicate n 59)).1.length = n + 1 := fun n h => (scanA59 n (by omega)).1 h
  have o59 : ∀ n, 2000 < n → n ≤ 4000 → (scanA (List.replicate n 59)).2.2 = 5 := fun n h h' => (scanA59 n h').2 h
  have e32 : ∀ n, n ≤ 4000 → (scanA (List.replicate n 32)).2.2 = 0 := fun n h => by rw [scan32, if_pos h]
  have o32 : ∀ n, 4000 < n → (scanA (List.replicate n 32)).2.2 = 5 := fun n h => by rw [scan32, if_neg (by omega)]
  rcases c with rfl | rfl | rfl | rfl | rfl
  · exact goal _ 10 16 1998 3998 (by decide +kernel) (by decide +kernel) (by decide +kernel) (by decide +kernel) (by decide +kernel) (.inl ⟨by decide +kernel, by decide +kernel, by decide +kernel, (e59 _ (by decide +kernel)).1, e32 _ (by decide +kernel), by rw [(e59 1998 (by decide +kernel)).2]; decide +kernel⟩)
  · exact goal _ 11 17 1999 3999 (by decide +kernel) (by decide +kernel) (by decide +kernel) (by decide +kernel) (by decide +kernel) (.inl ⟨by decide +kernel, by decide +kernel, by decide +kernel, (e59 _ (by decide +kernel)).1, e32 _ (by decide +kernel), by rw [(e59 1999 (by decide +kernel)).2]; decide +kernel⟩)
  · exact goal _ 12 18 2000 4000 (by decide +kernel) (by decide +kernel) (by decide +kernel) (by decide +kernel) (by decide +kernel) (.inl ⟨by decide +kernel, by decide +kernel, by decide +kernel, (e59 _ (by decide +kernel)).1, e32 _ (by decide +kernel), by rw [(e59 2000 (by decide +kernel)).2]; decide +kernel⟩)
  · exact goal _ 13 19 2001 4001 (by decide +kernel) (by decide +kernel) (by decide +kernel) (by decide +kernel) (by decide +kernel) (.inr ⟨by decide +kernel, by decide +kernel, by decide +kernel, o59 _ (by decide +kernel) (by decide +kernel), o32 _ (by decide +kernel)⟩)
  · exact goal _ 14 20 2002 4002 (by decide +kernel) (by decide +kernel) (by decide +kernel) (by decide +kernel) (by decide +kernel) (.inr ⟨by decide +kernel, by decide +kernel, by decide +kernel, o59 _ (by decide +kernel) (by decide +kernel), o32 _ (by decide +kernel)⟩)
end Go.Proofs.YtoflkheiidhblaaDoor.Pure
