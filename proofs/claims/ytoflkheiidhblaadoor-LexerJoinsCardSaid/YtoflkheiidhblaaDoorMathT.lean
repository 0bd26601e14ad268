/-
  The lexer over lists of bytes, second part: spans, numbers, names, signs, the next token. Nothing of the program's run is in it.
-/
import Derived.Test.YtoflkheiidhblaaDoorMathS
namespace Go.Proofs.YtoflkheiidhblaaDoor.Lx
open Go.RowKit Go.Proofs.YtoflkheiidhblaaDoor.PLex Go.Proofs.YtoflkheiidhblaaDoorW.PrintWords Go.Proofs.YtoflkheiidhblaaDoorW.PrintLast Go.Proofs.YtoflkheiidhblaaDoorW.PrintMore
set_option linter.unusedVariables false
set_option linter.unusedSimpArgs false
theorem spanD_ev (v : Value) (t : ByteArray) (ht : t.size ≤ 1000000) (x5 : Nat) (l : Int) : ∀ (s : List UInt8) (p : Nat), Suf t p s → x5 ≤ p →
    Ev (fun k => lexer_scanner_span_at_lexer_digit.l0 k (x5 : Int) t p l v) (t.extract x5 (t.size - (s.dropWhile isD).length), t, ((t.size - (s.dropWhile isD).length : Nat) : Int), l) := by
  intro s
  induction s with
  | nil =>
    intro p hs hx
    have e := hs.len
    simp only [List.length_nil, Nat.add_zero] at e
    subst e
    refine Zev.step (f := fun _ => some (t.extract x5 (t.size - 0), t, ((t.size - 0 : Nat) : Int), l)) (fun k => ?_) (Zev.now _)
    rw [lexer_scanner_span_at_lexer_digit.l0, if_neg (by omega), if_pos (by omega), if_pos (by omega), if_pos (by omega), Int.toNat_natCast, Int.toNat_natCast]
    rfl
  | cons c r ih =>
    intro p hs hx
    obtain ⟨hp, hb, hr⟩ := hs.cons
    have wp : wrap64 ((p : Int) + 1) = ((p + 1 : Nat) : Int) := by rw [Zev.w64 (by omega) (by omega)]; omega
    have c1 : (p : Int) < (t.size : Int) := by omega
    have c2 : (0 : Int) ≤ (p : Int) := by omega
    by_cases hc : isD c = true
    · rw [List.dropWhile_cons_of_pos hc]
      refine Zev.step (fun k => ?_) (ih (p + 1) hr (by omega))
      rw [lexer_scanner_span_at_lexer_digit.l0, if_pos c1, if_pos c2, hb, digit_eq, Option.bind_some, hc, if_pos rfl, wp]
    · rw [List.dropWhile_cons_of_neg hc]
      rw [Bool.not_eq_true] at hc
      have e : t.size - (c :: r).length = p := hs.pos.symm
      refine Zev.step (f := fun _ => some (t.extract x5 (t.size - (c :: r).length), t, ((t.size - (c :: r).length : Nat) : Int), l)) (fun k => ?_) (Zev.now _)
      rw [lexer_scanner_span_at_lexer_digit.l0, if_pos c1, if_pos c2, hb, digit_eq, Option.bind_some, hc, if_neg (by decide), if_pos (by omega), if_pos (by omega), if_pos (by omega), Int.toNat_natCast, Int.toNat_natCast, e]
theorem spanN_ev (v : Value) (t : ByteArray) (ht : t.size ≤ 1000000) (x5 : Nat) (l : Int) : ∀ (s : List UInt8) (p : Nat), Suf t p s → x5 ≤ p →
    Ev (fun k => lexer_scanner_span_at_name_1.l0 k (x5 : Int) t p l v) (t.extract x5 (t.size - (s.dropWhile isN).length), t, ((t.size - (s.dropWhile isN).length : Nat) : Int), l) := by
  intro s
  induction s with
  | nil =>
    intro p hs hx
    have e := hs.len
    simp only [List.length_nil, Nat.add_zero] at e
    subst e
    refine Zev.step (f := fun _ => some (t.extract x5 (t.size - 0), t, ((t.size - 0 : Nat) : Int), l)) (fun k => ?_) (Zev.now _)
    rw [lexer_scanner_span_at_name_1.l0, if_neg (by omega), if_pos (by omega), if_pos (by omega), if_pos (by omega), Int.toNat_natCast, Int.toNat_natCast]
    rfl
  | cons c r ih =>
    intro p hs hx
    obtain ⟨hp, hb, hr⟩ := hs.cons
    have wp : wrap64 ((p : Int) + 1) = ((p + 1 : Nat) : Int) := by rw [Zev.w64 (by omega) (by omega)]; omega
    have c1 : (p : Int) < (t.size : Int) := by omega
    have c2 : (0 : Int) ≤ (p : Int) := by omega
    by_cases hc : isN c = true
    · rw [List.dropWhile_cons_of_pos hc]
      refine Zev.step (fun k => ?_) (ih (p + 1) hr (by omega))
      rw [lexer_scanner_span_at_name_1.l0, if_pos c1, if_pos c2, hb, name_eq, Option.bind_some, hc, if_pos rfl, wp]
    · rw [List.dropWhile_cons_of_neg hc]
      rw [Bool.not_eq_true] at hc
      have e : t.size - (c :: r).length = p := hs.pos.symm
      refine Zev.step (f := fun _ => some (t.extract x5 (t.size - (c :: r).length), t, ((t.size - (c :: r).length : Nat) : Int), l)) (fun k => ?_) (Zev.now _)
      rw [lexer_scanner_span_at_name_1.l0, if_pos c1, if_pos c2, hb, name_eq, Option.bind_some, hc, if_neg (by decide), if_pos (by omega), if_pos (by omega), if_pos (by omega), Int.toNat_natCast, Int.toNat_natCast, e]
def numL (ds : List UInt8) : Int := (lexer_scanner_number.n ds 0).getD 0
theorem n_some : ∀ (ds : List UInt8), (∀ c ∈ ds, isD c = true) → ∀ a, ∃ r, lexer_scanner_number.n ds a = some r := by
  intro ds
  induction ds with
  | nil => intro _ a; exact ⟨a, rfl⟩
  | cons c r ih =>
    intro h a
    have hc : isD c = true := h c List.mem_cons_self
    have hc' : c.toNat < 128 := by
      simp only [isD, Bool.and_eq_true, decide_eq_true_eq] at hc
      omega
    obtain ⟨q, hq⟩ := ih (fun d hd => h d (List.mem_cons_of_mem _ hd)) (wrap64 (wrap64 (10 * a) + wrap64 (wrap32 ((c.toNat : Int) - 48))))
    exact ⟨q, by rw [lexer_scanner_number.n, if_pos hc', hq]⟩
theorem num_eq (s : List UInt8) : lexer_scanner_number.n (s.takeWhile isD) 0 = some (numL (s.takeWhile isD)) := by
  obtain ⟨r, hr⟩ := n_some (s.takeWhile isD) (fun c hc => List.all_eq_true.mp List.all_takeWhile c hc) 0
  unfold numL
  rw [hr]
  rfl
/-- The token at the head of the bytes that are left (kind, line, text, number, error), and what is left behind it. -/
def nextL (l : Int) (s : List UInt8) : (Int × Int × ByteArray × Int × Int) × List UInt8 :=
  if s.head?.map isD = some true then
    (if (s.takeWhile isD).length > 18 then ((0, 0, ⟨#[]⟩, 0, 5), s.dropWhile isD) else if (s.dropWhile isD).head?.map isL = some true then ((0, 0, ⟨#[]⟩, 0, 6), s.dropWhile isD) else ((2, l, ⟨#[]⟩, numL (s.takeWhile isD), 0), s.dropWhile isD))
  else if s.head?.map isL = some true then
    (if (s.takeWhile isN).length > 12 then ((0, 0, ⟨#[]⟩, 0, 5), s.dropWhile isN) else ((if s.takeWhile isN ∈ rsv_words then 3 else 1, l, ⟨(s.takeWhile isN).toArray⟩, 0, 0), s.dropWhile isN))
  else match sgn_words.find? (fun x => x.data.toList.isPrefixOf s) with
    | some x => ((4, l, x, 0, 0), s.drop x.size)
    | none => ((0, 0, ⟨#[]⟩, 0, 6), s)
theorem nextL_suffix (l : Int) (s : List UInt8) : (nextL l s).2 <:+ s := by
  unfold nextL
  split
  · (repeat' split) <;> exact List.dropWhile_suffix _
  · split
    · (repeat' split) <;> exact List.dropWhile_suffix _
    · split
      · exact List.drop_suffix _ _
      · exact List.suffix_refl _
theorem sign_eq (t : ByteArray) (p : Nat) (s : List UInt8) (l : Int) (hs : Suf t p s) (ht : t.size ≤ 1000000) : ∀ xs : List ByteArray,
    lexer_scanner_sign.g t (p : Int) l xs = some (match xs.find? (fun x => x.data.toList.isPrefixOf s) with | some x => (4, l, x, 0, 0, t, ((t.size - (s.drop x.size).length : Nat) : Int), l) | none => (0, 0, (⟨#[]⟩ : ByteArray), 0, 6, t, (p : Int), l)) := by
  intro xs
  have hl := hs.len
  induction xs with
  | nil => rfl
  | cons x xs ih =>
    have hd : (t.extract ((p : Int)).toNat t.size).data.toList = s := by rw [Int.toNat_natCast]; exact hs.ext
    rw [lexer_scanner_sign.g, if_pos (by omega), if_pos (by omega), prefix_eq, hd, Option.bind_some, List.find?_cons]
    cases hx : x.data.toList.isPrefixOf s with
    | true =>
      rw [if_pos rfl]
      have hlen := (List.isPrefixOf_iff_prefix.mp hx).length_le
      rw [tlen] at hlen
      have : wrap64 ((p : Int) + (x.size : Int)) = ((t.size - (s.drop x.size).length : Nat) : Int) := by
        rw [List.length_drop, Zev.w64 (by omega) (by omega)]
        omega
      rw [this]
    | false =>
      rw [if_neg (by decide)]
      exact ih
theorem takeN_ne {c : UInt8} {r : List UInt8} (h : isL c = true) : isN c = true := by unfold isN; rw [h]; rfl
theorem next_ev (v : Value) (t : ByteArray) (ht : t.size ≤ 1000000) (c : UInt8) (r : List UInt8) (p : Nat) (l : Int) (hs : Suf t p (c :: r)) :
    Ev (fun k => lexer_scanner_next.f k t p l v) ((nextL l (c :: r)).1.1, (nextL l (c :: r)).1.2.1, (nextL l (c :: r)).1.2.2.1, (nextL l (c :: r)).1.2.2.2.1, (nextL l (c :: r)).1.2.2.2.2, t, ((t.size - (nextL l (c :: r)).2.length : Nat) : Int), l) := by
  obtain ⟨hp, hb, _⟩ := hs.cons
  have c1 : (p : Int) < (t.size : Int) := by omega
  have c2 : (0 : Int) ≤ (p : Int) := by omega
  unfold lexer_scanner_next.f
  refine Zev.ifp c2 (Zev.ifp c1 ?_)
  refine Zev.bindc (by rw [hb]; exact digit_eq c) ?_
  by_cases hd : isD c = true
  · refine Zev.ifp hd ?_
    have h0 : (c :: r).head?.map isD = some true := by simp [hd]
    have hsuf := hs.of_suffix (List.dropWhile_suffix isD (l := c :: r))
    have hsp := (spanD_ev v t ht p l (c :: r) p hs (Nat.le_refl _))
    have hcut : t.extract p (t.size - ((c :: r).dropWhile isD).length) = ⟨((c :: r).takeWhile isD).toArray⟩ := Suf.cut (u := (c :: r).takeWhile isD) (by rw [List.takeWhile_append_dropWhile]; exact hs)
    rw [hcut] at hsp
    have hnum : Ev (fun k => lexer_scanner_number.f k t p l v) ((nextL l (c :: r)).1.1, (nextL l (c :: r)).1.2.1, (nextL l (c :: r)).1.2.2.1, (nextL l (c :: r)).1.2.2.2.1, (nextL l (c :: r)).1.2.2.2.2, t, ((t.size - (nextL l (c :: r)).2.length : Nat) : Int), l) := by
      unfold lexer_scanner_number.f lexer_scanner_span_at_lexer_digit.f
      refine Zev.bind hsp ?_
      have hz : (ByteArray.mk ((c :: r).takeWhile isD).toArray).size = ((c :: r).takeWhile isD).length := by simp [ByteArray.size]
      unfold nextL
      rw [if_pos h0]
      by_cases h18 : ((c :: r).takeWhile isD).length > 18
      · rw [if_pos h18]
        exact Zev.ifp (by show ((ByteArray.mk ((c :: r).takeWhile isD).toArray).size : Int) > 18; rw [hz]; omega) (Zev.now _)
      · rw [if_neg h18]
        refine Zev.ifn (by show ¬ ((ByteArray.mk ((c :: r).takeWhile isD).toArray).size : Int) > 18; rw [hz]; omega) ?_
        have hq : (if ((t.size - ((c :: r).dropWhile isD).length : Nat) : Int) < (t.size : Int) then (if (0 : Int) ≤ ((t.size - ((c :: r).dropWhile isD).length : Nat) : Int) then lexer_letter.f (bt t ((t.size - ((c :: r).dropWhile isD).length : Nat) : Int)) else none) else some false) = some (decide (((c :: r).dropWhile isD).head?.map isL = some true)) := by
          generalize hu : (c :: r).dropWhile isD = u at hsuf
          cases u with
          | nil => rw [if_neg (by simp)]; rfl
          | cons d u' =>
            obtain ⟨hp', hb', _⟩ := hsuf.cons
            rw [if_pos (by omega), if_pos (by omega), hb', letter_eq]
            simp
        refine Zev.bindc hq ?_
        by_cases hl : ((c :: r).dropWhile isD).head?.map isL = some true
        · rw [if_pos hl]
          exact Zev.ifp (decide_eq_true hl) (Zev.now _)
        · rw [if_neg hl]
          refine Zev.ifn (by rw [decide_eq_false hl]; decide) ?_
          refine Zev.bindc (x := numL ((c :: r).takeWhile isD)) ?_ (Zev.now _)
          exact num_eq (c :: r)
    exact Zev.bind hnum (Zev.now _)
  · rw [Bool.not_eq_true] at hd
    refine Zev.ifn (by rw [hd]; decide) ?_
    have h0 : ¬ (c :: r).head?.map isD = some true := by simp [hd]
    refine Zev.bindc (by rw [hb]; exact letter_eq c) ?_
    by_cases hl : isL c = true
    · refine Zev.ifp hl ?_
      have h1 : (c :: r).head?.map isL = some true := by simp [hl]
      have hsp := (spanN_ev v t ht p l (c :: r) p hs (Nat.le_refl _))
      have hcut : t.extract p (t.size - ((c :: r).dropWhile isN).length) = ⟨((c :: r).takeWhile isN).toArray⟩ := Suf.cut (u := (c :: r).takeWhile isN) (by rw [List.takeWhile_append_dropWhile]; exact hs)
      rw [hcut] at hsp
      have hname : Ev (fun k => lexer_scanner_name.f k t p l v) ((nextL l (c :: r)).1.1, (nextL l (c :: r)).1.2.1, (nextL l (c :: r)).1.2.2.1, (nextL l (c :: r)).1.2.2.2.1, (nextL l (c :: r)).1.2.2.2.2, t, ((t.size - (nextL l (c :: r)).2.length : Nat) : Int), l) := by
        unfold lexer_scanner_name.f lexer_scanner_span_at_name_1.f
        refine Zev.bind hsp ?_
        have hz : (ByteArray.mk ((c :: r).takeWhile isN).toArray).size = ((c :: r).takeWhile isN).length := by simp [ByteArray.size]
        unfold nextL
        rw [if_neg h0, if_pos h1]
        by_cases h12 : ((c :: r).takeWhile isN).length > 12
        · rw [if_pos h12]
          exact Zev.ifp (by show ((ByteArray.mk ((c :: r).takeWhile isN).toArray).size : Int) > 12; rw [hz]; omega) (Zev.now _)
        · rw [if_neg h12]
          refine Zev.ifn (by show ¬ ((ByteArray.mk ((c :: r).takeWhile isN).toArray).size : Int) > 12; rw [hz]; omega) ?_
          refine Zev.bindc (x := decide ((c :: r).takeWhile isN ∈ rsv_words)) ?_ ?_
          · unfold lexer_reserved.f
            rw [if_pos (by show (ByteArray.mk ((c :: r).takeWhile isN).toArray).size < _; rw [hz]; omega)]
          · refine Zev.cast (Zev.now _) ?_
            by_cases hm : (c :: r).takeWhile isN ∈ rsv_words
            · simp only [hm, decide_true, if_true]
            · simp only [hm, decide_false, if_false]; rfl
      exact Zev.bind hname (Zev.now _)
    · rw [Bool.not_eq_true] at hl
      refine Zev.ifn (by rw [hl]; decide) ?_
      have h1 : ¬ (c :: r).head?.map isL = some true := by simp [hl]
      unfold nextL
      rw [if_neg h0, if_neg h1]
      refine Zev.bindc (sign_eq t p (c :: r) l hs ht sgn_words) ?_
      refine Zev.cast (Zev.now _) ?_
      cases sgn_words.find? (fun x => x.data.toList.isPrefixOf (c :: r)) with
      | some x => rfl
      | none =>
        have : ((t.size - (c :: r).length : Nat) : Int) = (p : Int) := by rw [← hs.pos]
        show (0, 0, (⟨#[]⟩ : ByteArray), 0, 6, t, (p : Int), l) = (0, 0, (⟨#[]⟩ : ByteArray), 0, 6, t, ((t.size - (c :: r).length : Nat) : Int), l)
        rw [this]
end Go.Proofs.YtoflkheiidhblaaDoor.Lx
