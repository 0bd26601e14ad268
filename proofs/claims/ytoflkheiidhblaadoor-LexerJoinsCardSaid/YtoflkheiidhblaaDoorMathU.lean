/-
  The lexer over lists of bytes, third part: Scan. Nothing of the program's run is in it.
-/
import Derived.Test.YtoflkheiidhblaaDoorMathT
namespace Go.Proofs.YtoflkheiidhblaaDoor.Lx
open Go.RowKit Go.Proofs.YtoflkheiidhblaaDoor.PLex Go.Proofs.YtoflkheiidhblaaDoorW.PrintWords Go.Proofs.YtoflkheiidhblaaDoorW.PrintLast Go.Proofs.YtoflkheiidhblaaDoorW.PrintMore
set_option linter.unusedVariables false
set_option linter.unusedSimpArgs false
def tokOf (q : Int × Int × ByteArray × Int × Int) : S36 := ⟨q.1, q.2.1, q.2.2.1, q.2.2.2.1⟩
def scanL : Nat → List UInt8 → Int → List S36 → List S36 × Int × Int
  | 0, _, _, _ => ([], 0, 77)
  | n + 1, s, l, acc => if s = [] then (acc ++ [⟨0, l, ⟨#[]⟩, 0⟩], 0, 0) else (if (nextL l s).1.2.2.2.2 = 0 then (if (acc.length : Int) ≥ 2000 then ([], l, 5) else scanL n (skipL false (nextL l s).2 l).1 (skipL false (nextL l s).2 l).2 (acc ++ [tokOf (nextL l s).1])) else ([], l, (nextL l s).1.2.2.2.2))
theorem dw_lt {f : UInt8 → Bool} {c : UInt8} {r : List UInt8} (h : f c = true) : ((c :: r).dropWhile f).length < (c :: r).length := by
  rw [List.dropWhile_cons_of_pos h]
  have := (List.dropWhile_suffix f (l := r)).length_le
  simp only [List.length_cons]
  omega
theorem sgn_pos : ∀ x ∈ sgn_words, 0 < x.size := by decide
theorem nextL_short (l : Int) (c : UInt8) (r : List UInt8) (h : (nextL l (c :: r)).1.2.2.2.2 = 0) : (nextL l (c :: r)).2.length < (c :: r).length := by
  unfold nextL at h ⊢
  by_cases hd : (c :: r).head?.map isD = some true
  · have hd' : isD c = true := by simpa using hd
    rw [if_pos hd] at h ⊢
    (repeat' split) <;> exact dw_lt hd'
  · rw [if_neg hd] at h ⊢
    by_cases hl : (c :: r).head?.map isL = some true
    · have hl' : isL c = true := by simpa using hl
      rw [if_pos hl] at h ⊢
      (repeat' split) <;> exact dw_lt (takeN_ne (r := r) hl')
    · rw [if_neg hl] at h ⊢
      cases hf : sgn_words.find? (fun x => x.data.toList.isPrefixOf (c :: r)) with
      | some x =>
        have := sgn_pos x (List.mem_of_find?_eq_some hf)
        show ((c :: r).drop x.size).length < _
        rw [List.length_drop]
        simp only [List.length_cons]
        omega
      | none =>
        rw [hf] at h
        exact absurd h (by show ¬ ((6 : Int) = 0); decide)
theorem scanL_ev (t : ByteArray) (ht : t.size ≤ 1000000) : ∀ (n : Nat) (s : List UInt8) (p : Nat) (l : Int) (acc : List S36), s.length < n → Suf t p s → 0 ≤ l → l + s.length ≤ 2000000 →
    Ev (fun k => lexer_Scan.l0 k t t p l acc) (scanL n s l acc) := by
  intro n
  induction n with
  | zero => intro s p l acc h; omega
  | succ n ih =>
    intro s p l acc hn hs hl0 hl
    have hlen := hs.len
    cases s with
    | nil =>
      refine Zev.step (f := fun _ => some (acc ++ [⟨0, l, (⟨#[]⟩ : ByteArray), 0⟩], 0, 0)) (fun k => ?_) (Zev.cast (Zev.now _) ?_)
      · simp only [List.length_nil] at hlen
        rw [lexer_Scan.l0, if_neg (by omega)]
      · rw [scanL, if_pos rfl]
    | cons c r =>
      simp only [List.length_cons] at hlen hl hn
      have hnx := next_ev lexer_Scan.v t ht c r p l hs
      rw [scanL, if_neg (by simp)]
      have st : ∀ k, lexer_Scan.l0 (k + 1) t t p l acc = (lexer_scanner_next.f k t p l lexer_Scan.v).bind fun b => (if b.2.2.2.2.1 = 0 then (if (acc.length : Int) ≥ 2000 then some ([], b.2.2.2.2.2.2.2, 5) else (lexer_scanner_skip.f k b.2.2.2.2.2.1 b.2.2.2.2.2.2.1 b.2.2.2.2.2.2.2 lexer_Scan.v).bind fun c => lexer_Scan.l0 k t c.1 c.2.1 c.2.2 (acc ++ [⟨b.1, b.2.1, b.2.2.1, b.2.2.2.1⟩])) else some ([], b.2.2.2.2.2.2.2, b.2.2.2.2.1)) := fun k => by
        rw [lexer_Scan.l0, if_pos (by omega)]
      refine Zev.step st (Zev.bind hnx ?_)
      by_cases h0 : (nextL l (c :: r)).1.2.2.2.2 = 0
      · rw [if_pos h0]
        refine Zev.ifp h0 ?_
        by_cases h2 : (acc.length : Int) ≥ 2000
        · rw [if_pos h2]
          exact Zev.ifp h2 (Zev.now _)
        · rw [if_neg h2]
          refine Zev.ifn h2 ?_
          have hsh := nextL_short l c r h0
          simp only [List.length_cons] at hsh
          have hsuf := hs.of_suffix (nextL_suffix l (c :: r))
          have hsk := (skip_ev lexer_Scan.v t ht _ _ l hsuf hl0 (by omega)).1
          have hss := skipL_suffix (nextL l (c :: r)).2 false l
          have hsl := skipL_line (nextL l (c :: r)).2 false l
          have hsz := hss.length_le
          have ev := ih (skipL false (nextL l (c :: r)).2 l).1 (t.size - (skipL false (nextL l (c :: r)).2 l).1.length) (skipL false (nextL l (c :: r)).2 l).2 (acc ++ [tokOf (nextL l (c :: r)).1]) (by omega) (hsuf.of_suffix hss) (by omega) (by omega)
          exact Zev.bind hsk ev
      · rw [if_neg h0]
        exact Zev.ifn h0 (Zev.now _)
/-- What Scan answers. -/
def scanA (t : List UInt8) : List S36 × Int × Int := if t.length > 4000 then ([], 0, 5) else scanL (t.length + 1) (skipL false t 1).1 (skipL false t 1).2 []
theorem scan_ev (t : ByteArray) : Ev (fun k => lexer_Scan.f k t) (scanA t.data.toList) := by
  unfold lexer_Scan.f scanA
  rw [tlen]
  by_cases h : t.size > 4000
  · rw [if_pos h]
    exact Zev.ifp (by omega) (Zev.now _)
  · rw [if_neg h]
    refine Zev.ifn (by omega) ?_
    have hsk := (skip_ev lexer_Scan.v t (by omega) t.data.toList 0 1 (Suf.zero t) (by omega) (by rw [tlen]; omega)).1
    have hss := skipL_suffix t.data.toList false 1
    have hsl := skipL_line t.data.toList false 1
    have hsz := hss.length_le
    rw [tlen] at hsl hsz
    have ev := scanL_ev t (by omega) (t.size + 1) (skipL false t.data.toList 1).1 (t.size - (skipL false t.data.toList 1).1.length) (skipL false t.data.toList 1).2 [] (by omega) ((Suf.zero t).of_suffix hss) (by omega) (by omega)
    exact Zev.bind hsk ev
end Go.Proofs.YtoflkheiidhblaaDoor.Lx
