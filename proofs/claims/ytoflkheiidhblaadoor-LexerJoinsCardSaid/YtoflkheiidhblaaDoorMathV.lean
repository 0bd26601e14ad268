/-
  The lexer over lists of bytes, fourth part: two texts with a line feed between them. Nothing of the program's run is in it.
-/
import Derived.Test.YtoflkheiidhblaaDoorMathU
namespace Go.Proofs.YtoflkheiidhblaaDoor.Lx
open Go.RowKit Go.Proofs.YtoflkheiidhblaaDoor.PLex Go.Proofs.YtoflkheiidhblaaDoorW.PrintWords Go.Proofs.YtoflkheiidhblaaDoorW.PrintLast Go.Proofs.YtoflkheiidhblaaDoorW.PrintMore
set_option linter.unusedVariables false
set_option linter.unusedSimpArgs false
theorem skip_shift : ∀ (s : List UInt8) (m : Bool) (l d : Int), skipL m s (l + d) = ((skipL m s l).1, (skipL m s l).2 + d) := by
  intro s
  induction s with
  | nil => intro m l d; cases m <;> rfl
  | cons c r ih =>
    intro m l d
    have e : l + d + 1 = l + 1 + d := by omega
    cases m <;> unfold skipL
    · rw [e, ih false (l + 1) d, ih false l d, ih true l d]
      (repeat' split) <;> rfl
    · rw [e, ih false (l + 1) d, ih true l d]
      (repeat' split) <;> rfl
theorem skip_join (u : List UInt8) : ∀ (s : List UInt8) (m : Bool) (l : Int), skipL m (s ++ 10 :: u) l = if (skipL m s l).1 = [] then skipL false u ((skipL m s l).2 + 1) else ((skipL m s l).1 ++ 10 :: u, (skipL m s l).2) := by
  intro s
  induction s with
  | nil =>
    intro m l
    cases m
    · show skipL false (10 :: u) l = _
      rw [skipL, if_pos rfl]
      rfl
    · show skipL true (10 :: u) l = _
      rw [skipL, if_pos rfl]
      rfl
  | cons c r ih =>
    intro m l
    rw [List.cons_append]
    cases m
    · rw [skipL, skipL]
      by_cases h1 : c = 10
      · rw [if_pos h1, if_pos h1]; exact ih _ _
      · rw [if_neg h1, if_neg h1]
        by_cases h2 : c = 32 ∨ c = 9 ∨ c = 13
        · rw [if_pos h2, if_pos h2]; exact ih _ _
        · rw [if_neg h2, if_neg h2]
          have e : (r ++ 10 :: u).head? = some 47 ↔ r.head? = some 47 := by
            cases r with
            | nil => exact ⟨fun h => absurd h (by show ¬ some (10 : UInt8) = some 47; decide), fun h => by cases h⟩
            | cons d r' => exact Iff.rfl
          by_cases h3 : c = 47 ∧ r.head? = some 47
          · rw [if_pos h3, if_pos ⟨h3.1, e.mpr h3.2⟩]; exact ih _ _
          · rw [if_neg h3, if_neg (fun h => h3 ⟨h.1, e.mp h.2⟩), if_neg (by simp)]
            rfl
    · rw [skipL, skipL]
      by_cases h1 : c = 10
      · rw [if_pos h1, if_pos h1]; exact ih _ _
      · rw [if_neg h1, if_neg h1]; exact ih _ _
theorem tw_join {f : UInt8 → Bool} (hf : f 10 = false) (u : List UInt8) : ∀ s : List UInt8, (s ++ 10 :: u).takeWhile f = s.takeWhile f ∧ (s ++ 10 :: u).dropWhile f = s.dropWhile f ++ 10 :: u := by
  intro s
  induction s with
  | nil => simp [hf]
  | cons c r ih =>
    rw [List.cons_append]
    by_cases h : f c = true
    · rw [List.takeWhile_cons_of_pos h, List.takeWhile_cons_of_pos h, List.dropWhile_cons_of_pos h, List.dropWhile_cons_of_pos h, ih.1, ih.2]
      exact ⟨rfl, rfl⟩
    · rw [List.takeWhile_cons_of_neg h, List.takeWhile_cons_of_neg h, List.dropWhile_cons_of_neg h, List.dropWhile_cons_of_neg h]
      exact ⟨rfl, rfl⟩
theorem pre_join (u : List UInt8) : ∀ (y s : List UInt8), 10 ∉ y → y.isPrefixOf (s ++ 10 :: u) = y.isPrefixOf s := by
  intro y
  induction y with
  | nil => intro s _; simp
  | cons a y ih =>
    intro s h
    have ha : a ≠ 10 := fun e => h (by rw [e]; exact List.mem_cons_self)
    cases s with
    | nil =>
      show ((a == (10 : UInt8)) && y.isPrefixOf u) = false
      rw [beq_eq_false_iff_ne.mpr ha, Bool.false_and]
    | cons b s' =>
      show ((a == b) && y.isPrefixOf (s' ++ 10 :: u)) = ((a == b) && y.isPrefixOf s')
      rw [ih s' (fun hm => h (List.mem_cons_of_mem _ hm))]
theorem find_ext {α : Type} {p q : α → Bool} : ∀ (xs : List α), (∀ x ∈ xs, p x = q x) → xs.find? p = xs.find? q := by
  intro xs
  induction xs with
  | nil => intro _; rfl
  | cons x xs ih =>
    intro h
    rw [List.find?_cons, List.find?_cons, h x List.mem_cons_self, ih (fun y hy => h y (List.mem_cons_of_mem _ hy))]
theorem sgn_no10 : ∀ x ∈ sgn_words, 10 ∉ x.data.toList := by decide
theorem next_join (l : Int) (c : UInt8) (r u : List UInt8) : nextL l (c :: r ++ 10 :: u) = ((nextL l (c :: r)).1, (nextL l (c :: r)).2 ++ 10 :: u) := by
  have hh : (c :: r ++ 10 :: u).head? = (c :: r).head? := rfl
  have hD := tw_join (f := isD) (by decide) u (c :: r)
  have hN := tw_join (f := isN) (by decide) u (c :: r)
  have hx : ∀ s : List UInt8, (s ++ 10 :: u).head?.map isL = some true ↔ s.head?.map isL = some true := by
    intro s
    cases s with
    | nil => exact ⟨fun h => absurd h (by show ¬ some (isL 10) = some true; decide), fun h => by cases h⟩
    | cons d s' => exact Iff.rfl
  unfold nextL
  rw [hh, hD.1, hD.2, hN.1, hN.2]
  by_cases h1 : (c :: r).head?.map isD = some true
  · rw [if_pos h1, if_pos h1]
    by_cases h2 : ((c :: r).takeWhile isD).length > 18
    · rw [if_pos h2, if_pos h2]
    · rw [if_neg h2, if_neg h2]
      by_cases h3 : ((c :: r).dropWhile isD).head?.map isL = some true
      · rw [if_pos h3, if_pos ((hx _).mpr h3)]
      · rw [if_neg h3, if_neg (fun h => h3 ((hx _).mp h))]
  · rw [if_neg h1, if_neg h1]
    by_cases h2 : (c :: r).head?.map isL = some true
    · rw [if_pos h2, if_pos h2]
      by_cases h3 : ((c :: r).takeWhile isN).length > 12
      · rw [if_pos h3, if_pos h3]
      · rw [if_neg h3, if_neg h3]
    · rw [if_neg h2, if_neg h2]
      have hf : sgn_words.find? (fun x => x.data.toList.isPrefixOf (c :: r ++ 10 :: u)) = sgn_words.find? (fun x => x.data.toList.isPrefixOf (c :: r)) := find_ext _ (fun x hx => pre_join u _ _ (sgn_no10 x hx))
      rw [hf]
      cases hq : sgn_words.find? (fun x => x.data.toList.isPrefixOf (c :: r)) with
      | none => rfl
      | some x =>
        have hp := List.find?_some hq
        have hl := (List.isPrefixOf_iff_prefix.mp hp).length_le
        rw [tlen] at hl
        show ((4, l, x, 0, 0), (c :: r ++ 10 :: u).drop x.size) = ((4, l, x, 0, 0), (c :: r).drop x.size ++ 10 :: u)
        rw [List.drop_append_of_le_length hl]
/-- A token, some lines later. -/
def later (d : Int) (t : S36) : S36 := ⟨t.f0, t.f1 + d, t.f2, t.f3⟩
theorem next_shift (l d : Int) (s : List UInt8) : (nextL (l + d) s).2 = (nextL l s).2 ∧ (nextL (l + d) s).1.2.2.2.2 = (nextL l s).1.2.2.2.2 ∧ ((nextL l s).1.2.2.2.2 = 0 → tokOf (nextL (l + d) s).1 = later d (tokOf (nextL l s).1) ∧ (nextL l s).1.2.1 = l) := by
  unfold nextL
  by_cases h1 : s.head?.map isD = some true
  · rw [if_pos h1, if_pos h1]
    by_cases h2 : (s.takeWhile isD).length > 18
    · rw [if_pos h2, if_pos h2]
      exact ⟨rfl, rfl, fun h => absurd h (by show ¬ ((5 : Int) = 0); decide)⟩
    · rw [if_neg h2, if_neg h2]
      by_cases h3 : (s.dropWhile isD).head?.map isL = some true
      · rw [if_pos h3, if_pos h3]
        exact ⟨rfl, rfl, fun h => absurd h (by show ¬ ((6 : Int) = 0); decide)⟩
      · rw [if_neg h3, if_neg h3]
        exact ⟨rfl, rfl, fun _ => ⟨rfl, rfl⟩⟩
  · rw [if_neg h1, if_neg h1]
    by_cases h2 : s.head?.map isL = some true
    · rw [if_pos h2, if_pos h2]
      by_cases h3 : (s.takeWhile isN).length > 12
      · rw [if_pos h3, if_pos h3]
        exact ⟨rfl, rfl, fun h => absurd h (by show ¬ ((5 : Int) = 0); decide)⟩
      · rw [if_neg h3, if_neg h3]
        exact ⟨rfl, rfl, fun _ => ⟨rfl, rfl⟩⟩
    · rw [if_neg h2, if_neg h2]
      cases hq : sgn_words.find? (fun x => x.data.toList.isPrefixOf s) with
      | some x => exact ⟨rfl, rfl, fun _ => ⟨rfl, rfl⟩⟩
      | none => exact ⟨rfl, rfl, fun h => absurd h (by show ¬ ((6 : Int) = 0); decide)⟩
theorem scanL_nil (N : Nat) (l : Int) (acc : List S36) : scanL (N + 1) [] l acc = (acc ++ [⟨0, l, ⟨#[]⟩, 0⟩], 0, 0) := by
  rw [scanL, if_pos rfl]
theorem scanL_cons (N : Nat) (c : UInt8) (r : List UInt8) (l : Int) (acc : List S36) : scanL (N + 1) (c :: r) l acc = (if (nextL l (c :: r)).1.2.2.2.2 = 0 then (if (acc.length : Int) ≥ 2000 then ([], l, 5) else scanL N (skipL false (nextL l (c :: r)).2 l).1 (skipL false (nextL l (c :: r)).2 l).2 (acc ++ [tokOf (nextL l (c :: r)).1])) else ([], l, (nextL l (c :: r)).1.2.2.2.2)) := by
  rw [scanL, if_neg (by simp)]
theorem scan_shift (d : Int) : ∀ (N : Nat) (s : List UInt8) (l : Int) (acc acc' : List S36), s.length < N → acc.length + s.length ≤ 2000 → acc'.length + s.length ≤ 2000 →
    (scanL N s (l + d) acc).2.2 = (scanL N s l acc').2.2 ∧ ((scanL N s l acc').2.2 ≠ 0 → (scanL N s (l + d) acc).2.1 = (scanL N s l acc').2.1 + d) ∧
    ((scanL N s l acc').2.2 = 0 → ∃ ts, (scanL N s l acc').1 = acc' ++ ts ∧ (scanL N s (l + d) acc).1 = acc ++ ts.map (later d)) := by
  intro N
  induction N with
  | zero => intro s l acc acc' h; omega
  | succ N ih =>
    intro s l acc acc' hN ha ha'
    cases s with
    | nil =>
      rw [scanL_nil, scanL_nil]
      exact ⟨rfl, fun h => absurd rfl h, fun _ => ⟨[⟨0, l, ⟨#[]⟩, 0⟩], rfl, rfl⟩⟩
    | cons c r =>
      rw [scanL_cons, scanL_cons]
      obtain ⟨n1, n2, n3⟩ := next_shift l d (c :: r)
      rw [n2]
      simp only [List.length_cons] at ha ha' hN
      by_cases h0 : (nextL l (c :: r)).1.2.2.2.2 = 0
      · rw [if_pos h0, if_pos h0, if_neg (by omega), if_neg (by omega), n1, skip_shift, (n3 h0).1]
        have hsh := nextL_short l c r h0
        have hss := (skipL_suffix (nextL l (c :: r)).2 false l).length_le
        simp only [List.length_cons] at hsh
        obtain ⟨i1, i2, i3⟩ := ih (skipL false (nextL l (c :: r)).2 l).1 (skipL false (nextL l (c :: r)).2 l).2 (acc ++ [later d (tokOf (nextL l (c :: r)).1)]) (acc' ++ [tokOf (nextL l (c :: r)).1]) (by omega) (by rw [List.length_append, List.length_singleton]; omega) (by rw [List.length_append, List.length_singleton]; omega)
        refine ⟨i1, i2, fun h => ?_⟩
        obtain ⟨ts, e1, e2⟩ := i3 h
        exact ⟨tokOf (nextL l (c :: r)).1 :: ts, by rw [e1, List.append_assoc]; rfl, by rw [e2, List.append_assoc]; rfl⟩
      · rw [if_neg h0, if_neg h0]
        exact ⟨rfl, fun _ => rfl, fun h => absurd h h0⟩
theorem scan_bound (B : Int) : ∀ (N : Nat) (s : List UInt8) (l : Int) (acc : List S36), s.length < N → 0 ≤ l → l + s.length ≤ B → (∀ t ∈ acc, 0 ≤ t.f1 ∧ t.f1 ≤ B) →
    (0 ≤ (scanL N s l acc).2.1 ∧ (scanL N s l acc).2.1 ≤ B) ∧ (∀ t ∈ (scanL N s l acc).1, 0 ≤ t.f1 ∧ t.f1 ≤ B) ∧ (scanL N s l acc).1.length ≤ acc.length + s.length + 1 := by
  intro N
  induction N with
  | zero => intro s l acc h; omega
  | succ N ih =>
    intro s l acc hN hl hB ha
    cases s with
    | nil =>
      rw [scanL_nil]
      simp only [List.length_nil] at hB
      refine ⟨⟨Int.le_refl _, by show (0 : Int) ≤ B; omega⟩, ?_, ?_⟩
      · intro t ht
        rcases List.mem_append.mp ht with h | h
        · exact ha t h
        · rw [List.mem_singleton] at h
          subst h
          exact ⟨hl, by show l ≤ B; omega⟩
      · show (acc ++ [_]).length ≤ _
        rw [List.length_append, List.length_singleton]
        omega
    | cons c r =>
      rw [scanL_cons]
      simp only [List.length_cons] at hB hN
      by_cases h0 : (nextL l (c :: r)).1.2.2.2.2 = 0
      · rw [if_pos h0]
        by_cases h2 : (acc.length : Int) ≥ 2000
        · rw [if_pos h2]
          exact ⟨⟨hl, by show l ≤ B; omega⟩, fun t ht => (by cases ht), by show 0 ≤ _; omega⟩
        · rw [if_neg h2]
          have hsh := nextL_short l c r h0
          have hss := (skipL_suffix (nextL l (c :: r)).2 false l).length_le
          have hsl := skipL_line (nextL l (c :: r)).2 false l
          simp only [List.length_cons] at hsh
          have hline : (tokOf (nextL l (c :: r)).1).f1 = l := ((next_shift l 0 (c :: r)).2.2 h0).2
          obtain ⟨i1, i2, i3⟩ := ih (skipL false (nextL l (c :: r)).2 l).1 (skipL false (nextL l (c :: r)).2 l).2 (acc ++ [tokOf (nextL l (c :: r)).1]) (by omega) (by omega) (by omega) (fun t ht => by
            rcases List.mem_append.mp ht with h | h
            · exact ha t h
            · rw [List.mem_singleton] at h
              subst h
              rw [hline]
              exact ⟨hl, by omega⟩)
          refine ⟨i1, i2, ?_⟩
          rw [List.length_append, List.length_singleton] at i3
          simp only [List.length_cons]
          omega
      · rw [if_neg h0]
        exact ⟨⟨hl, by show l ≤ B; omega⟩, fun t ht => (by cases ht), by show 0 ≤ _; omega⟩
/-- Where the joined text stands when the first text stands at its bytes s, line l, behind blanks. -/
def js (B : List UInt8) (s : List UInt8) (l : Int) : List UInt8 × Int := if s = [] then skipL false B (l + 1) else (s ++ 10 :: B, l)
theorem scan_join (B : List UInt8) : ∀ (N : Nat) (s : List UInt8) (l : Int) (acc : List S36), s.length < N → acc.length + s.length ≤ 2000 → ∀ M, s.length + 1 + B.length < M →
    ((scanL N s l acc).2.2 ≠ 0 → (scanL M (js B s l).1 (js B s l).2 acc).2.2 ≠ 0) ∧
    ((scanL N s l acc).2.2 = 0 → ∃ (x0 : List S36) (L : Int) (M' : Nat), (scanL N s l acc).1 = x0 ++ [⟨0, L, ⟨#[]⟩, 0⟩] ∧ x0.length ≤ acc.length + s.length ∧ B.length < M' ∧ scanL M (js B s l).1 (js B s l).2 acc = scanL M' (skipL false B (1 + L)).1 (skipL false B (1 + L)).2 x0) := by
  intro N
  induction N with
  | zero => intro s l acc h; omega
  | succ N ih =>
    intro s l acc hN ha M hM
    cases s with
    | nil =>
      rw [scanL_nil]
      refine ⟨fun h => absurd rfl h, fun _ => ⟨acc, l, M, rfl, by simp, by omega, ?_⟩⟩
      unfold js
      rw [if_pos rfl, Int.add_comm]
    | cons c r =>
      rw [scanL_cons]
      simp only [List.length_cons] at ha hN hM
      obtain ⟨M, rfl⟩ : ∃ M0, M = M0 + 1 := ⟨M - 1, by omega⟩
      have ej : js B (c :: r) l = (c :: r ++ 10 :: B, l) := by unfold js; rw [if_neg (by simp)]
      have e2 : c :: r ++ 10 :: B = c :: (r ++ 10 :: B) := rfl
      rw [ej, e2, scanL_cons, ← e2, next_join]
      by_cases h0 : (nextL l (c :: r)).1.2.2.2.2 = 0
      · rw [if_pos h0, if_pos h0, if_neg (by omega), if_neg (by omega), skip_join]
        have hsh := nextL_short l c r h0
        have hss := (skipL_suffix (nextL l (c :: r)).2 false l).length_le
        simp only [List.length_cons] at hsh
        obtain ⟨i1, i2⟩ := ih (skipL false (nextL l (c :: r)).2 l).1 (skipL false (nextL l (c :: r)).2 l).2 (acc ++ [tokOf (nextL l (c :: r)).1]) (by omega) (by rw [List.length_append, List.length_singleton]; omega) M (by omega)
        unfold js at i1 i2
        refine ⟨i1, fun h => ?_⟩
        obtain ⟨x0, L, M', e1, e2, e3, e4⟩ := i2 h
        rw [List.length_append, List.length_singleton] at e2
        exact ⟨x0, L, M', e1, by simp only [List.length_cons]; omega, e3, e4⟩
      · rw [if_neg h0, if_neg h0]
        exact ⟨fun h => h, fun h => absurd h h0⟩
end Go.Proofs.YtoflkheiidhblaaDoor.Lx
