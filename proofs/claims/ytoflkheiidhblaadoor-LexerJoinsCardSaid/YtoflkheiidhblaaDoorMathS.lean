/-
  The lexer over lists of bytes: what the printed functions skip, span, number, name, sign, next and Scan answer, told as functions of the bytes that are left. Nothing of the program's run is in it.
-/
import Derived.Test.YtoflkheiidhblaaDoorPLexx16
import Derived.Test.YtoflkheiidhblaaDoorZev
import Derived.Laws.Strings
import Derived.WideShapes
namespace Go.Proofs.YtoflkheiidhblaaDoor.Lx
open Go.RowKit Go.Proofs.YtoflkheiidhblaaDoor.PLex Go.Proofs.YtoflkheiidhblaaDoorW.PrintWords Go.Proofs.YtoflkheiidhblaaDoorW.PrintLast Go.Proofs.YtoflkheiidhblaaDoorW.PrintMore
set_option linter.unusedVariables false
set_option linter.unusedSimpArgs false
theorem bai {a b : ByteArray} (h : a.data.toList = b.data.toList) : a = b := by
  cases a; cases b; congr 1; exact Array.toList_inj.mp h
/-- The bytes from a place on. -/
def Suf (t : ByteArray) (p : Nat) (s : List UInt8) : Prop := t.data.toList.drop p = s ∧ p ≤ t.size
theorem tlen (t : ByteArray) : t.data.toList.length = t.size := Array.length_toList
theorem Suf.len {t : ByteArray} {p : Nat} {s : List UInt8} (h : Suf t p s) : p + s.length = t.size := by
  have := congrArg List.length h.1
  rw [List.length_drop, tlen] at this
  have := h.2
  omega
theorem Suf.pos {t : ByteArray} {p : Nat} {s : List UInt8} (h : Suf t p s) : p = t.size - s.length := by have := h.len; omega
theorem Suf.cons {t : ByteArray} {p : Nat} {c : UInt8} {r : List UInt8} (h : Suf t p (c :: r)) : p < t.size ∧ bt t (p : Int) = (c.toNat : Int) ∧ Suf t (p + 1) r := by
  have hl := h.len
  simp only [List.length_cons] at hl
  have hp : p < t.size := by omega
  refine ⟨hp, ?_, ?_, by omega⟩
  · have e : t.data.toList[p]? = some c := by
      have := congrArg (fun l => l[0]?) h.1
      simpa using this
    have hp' : p < t.data.size := hp
    rw [Array.getElem?_toList, Array.getElem?_eq_getElem hp'] at e
    simp only [Option.some.injEq] at e
    unfold bt
    rw [dif_pos (show ((p : Int).toNat) < t.size by simpa using hp)]
    simp only [Int.toNat_natCast]
    rw [← e]
    rfl
  · have := congrArg List.tail h.1
    simpa using this
theorem Suf.of_suffix {t : ByteArray} {p : Nat} {s r : List UInt8} (h : Suf t p s) (hr : r <:+ s) : Suf t (t.size - r.length) r := by
  obtain ⟨q, rfl⟩ := hr
  have hl := h.len
  simp only [List.length_append] at hl
  have e : t.size - r.length = p + q.length := by omega
  rw [e]
  refine ⟨?_, by omega⟩
  rw [← List.drop_drop, h.1, List.drop_left]
theorem Suf.zero (t : ByteArray) : Suf t 0 t.data.toList := ⟨rfl, Nat.zero_le _⟩
theorem Suf.ext {t : ByteArray} {p : Nat} {s : List UInt8} (h : Suf t p s) : (t.extract p t.size).data.toList = s := by
  rw [ByteArray.data_extract, Array.toList_extract, ← h.1]
  rw [List.extract_eq_take_drop]
  refine List.take_of_length_le ?_
  rw [List.length_drop, tlen]
  omega
theorem Suf.cut {t : ByteArray} {p : Nat} {u r : List UInt8} (h : Suf t p (u ++ r)) : t.extract p (t.size - r.length) = ⟨u.toArray⟩ := by
  apply bai
  have hl := h.len
  simp only [List.length_append] at hl
  rw [ByteArray.data_extract, Array.toList_extract, List.extract_eq_take_drop, h.1]
  have : t.size - r.length - p = u.length := by omega
  rw [this, List.take_left]
/-! bytes -/
def isD (c : UInt8) : Bool := decide (48 ≤ c.toNat) && decide (c.toNat ≤ 57)
def isL (c : UInt8) : Bool := (decide (97 ≤ c.toNat) && decide (c.toNat ≤ 122)) || (decide (65 ≤ c.toNat) && decide (c.toNat ≤ 90)) || decide (c.toNat = 95)
def isN (c : UInt8) : Bool := isL c || isD c
theorem digit_eq (c : UInt8) : lexer_digit.f (c.toNat : Int) = some (isD c) := by
  unfold lexer_digit.f isD
  by_cases h : 48 ≤ c.toNat
  · rw [if_pos (by omega)]; simp [h]; omega
  · rw [if_neg (by omega)]; simp [h]
theorem letter_eq (c : UInt8) : lexer_letter.f (c.toNat : Int) = some (isL c) := by
  unfold lexer_letter.f isL
  have e : ((c.toNat : Int) == 95) = decide (c.toNat = 95) := by
    by_cases h : c.toNat = 95
    · simp [h]
    · simp [h]; omega
  by_cases h1 : 97 ≤ c.toNat <;> by_cases h2 : c.toNat ≤ 122 <;> by_cases h3 : 65 ≤ c.toNat <;> by_cases h4 : c.toNat ≤ 90 <;> simp [h1, h2, h3, h4, e] <;> (repeat' split) <;> first | rfl | omega | simp_all | skip
theorem name_eq (c : UInt8) : lexer_scanner_name_1.f (c.toNat : Int) = some (isN c) := by
  unfold lexer_scanner_name_1.f
  rw [letter_eq, Option.bind_some]
  unfold isN
  cases isL c
  · rw [if_neg (by decide), digit_eq]; rfl
  · rfl
theorem ne8 {c d : UInt8} (h : c ≠ d) : (c.toNat : Int) ≠ (d.toNat : Int) := fun e => h (UInt8.toNat_inj.mp (by omega))
/-- A prefix, as the program asks for it. -/
theorem prefix_eq (a x : ByteArray) : strings_HasPrefix.f a x = some (x.data.toList.isPrefixOf a.data.toList) := by
  unfold strings_HasPrefix.f stringslite_HasPrefix.f
  have ea := tlen a
  have ex := tlen x
  by_cases h : (a.size : Int) ≥ (x.size : Int)
  · rw [if_pos h, if_pos (by omega), if_pos (by omega), Option.bind_some]
    congr 1
    rw [ByteArray.toList_eq, ByteArray.toList_eq, ByteArray.data_extract, Array.toList_extract, List.extract_eq_take_drop, List.drop_zero, Int.toNat_natCast, Nat.sub_zero, Bool.eq_iff_iff, beq_iff_eq, List.isPrefixOf_iff_prefix, List.prefix_iff_eq_take, ex]
    exact eq_comm
  · rw [if_neg h, Option.bind_some]
    congr 1
    symm
    rw [Bool.eq_false_iff]
    intro hp
    have := (List.isPrefixOf_iff_prefix.mp hp).length_le
    omega
/-! what is passed over -/
def skipL : Bool → List UInt8 → Int → List UInt8 × Int
  | _, [], l => ([], l)
  | true, c :: r, l => if c = 10 then skipL false r (l + 1) else skipL true r l
  | false, c :: r, l => if c = 10 then skipL false r (l + 1) else if c = 32 ∨ c = 9 ∨ c = 13 then skipL false r l else if c = 47 ∧ r.head? = some 47 then skipL true r l else (c :: r, l)
theorem skipL_suffix : ∀ (s : List UInt8) (m : Bool) (l : Int), (skipL m s l).1 <:+ s := by
  intro s
  induction s with
  | nil => intro m l; cases m <;> exact List.suffix_refl _
  | cons c r ih =>
    intro m l
    have ih' : ∀ m l, (skipL m r l).1 <:+ c :: r := fun m l => (ih m l).trans (List.suffix_cons c r)
    cases m <;> unfold skipL
    · split
      · exact ih' _ _
      · split
        · exact ih' _ _
        · split
          · exact ih' _ _
          · exact List.suffix_refl _
    · split <;> exact ih' _ _
theorem skipL_line : ∀ (s : List UInt8) (m : Bool) (l : Int), l ≤ (skipL m s l).2 ∧ (skipL m s l).2 + (skipL m s l).1.length ≤ l + s.length := by
  intro s
  induction s with
  | nil => intro m l; cases m <;> exact ⟨Int.le_refl _, Int.le_refl _⟩
  | cons c r ih =>
    intro m l
    have i1 := ih false (l + 1)
    have i2 := ih false l
    have i3 := ih true l
    cases m <;> unfold skipL <;> simp only [List.length_cons] <;> (repeat' split) <;> (try simp only [List.length_cons]) <;> omega
theorem skip_ev (v : Value) (t : ByteArray) (ht : t.size ≤ 1000000) : ∀ (s : List UInt8) (p : Nat) (l : Int), Suf t p s → 0 ≤ l → l + s.length ≤ 2000000 →
    Ev (fun k => lexer_scanner_skip.l0 k t p l v) (t, ((t.size - (skipL false s l).1.length : Nat) : Int), (skipL false s l).2) ∧ Ev (fun k => lexer_scanner_skip.l1 k t p l v) (t, ((t.size - (skipL true s l).1.length : Nat) : Int), (skipL true s l).2) := by
  intro s
  induction s with
  | nil =>
    intro p l hs hl0 hl
    have e := hs.len
    simp only [List.length_nil, Nat.add_zero] at e
    subst e
    have q : Ev (fun k => lexer_scanner_skip.l0 k t (t.size : Int) l v) (t, ((t.size - 0 : Nat) : Int), l) := Zev.step (f := fun _ => some (t, ((t.size - 0 : Nat) : Int), l)) (fun k => by rw [lexer_scanner_skip.l0, if_neg (by omega)]; rfl) (Zev.now _)
    exact ⟨q, Zev.step (f := fun k => lexer_scanner_skip.l0 k t (t.size : Int) l v) (fun k => by rw [lexer_scanner_skip.l1, if_neg (by omega)]) q⟩
  | cons c r ih =>
    intro p l hs hl0 hl
    obtain ⟨hp, hb, hr⟩ := hs.cons
    have hlen := hs.len
    simp only [List.length_cons] at hl hlen
    have wp : wrap64 ((p : Int) + 1) = ((p + 1 : Nat) : Int) := by rw [Zev.w64 (by omega) (by omega)]; omega
    have wl : wrap64 (l + 1) = l + 1 := Zev.w64 (by omega) (by omega)
    have c1 : (p : Int) < (t.size : Int) := by omega
    have c2 : (0 : Int) ≤ (p : Int) := by omega
    have i10 := ih (p + 1) (l + 1) hr (by omega) (by omega)
    have i0 := ih (p + 1) l hr (by omega) (by omega)
    have hd : (t.extract ((p : Int)).toNat t.size).data.toList = c :: r := by rw [Int.toNat_natCast]; exact hs.ext
    by_cases h10 : c = 10
    · subst h10
      have b10 : bt t (p : Int) = 10 := hb
      have q : Ev (fun k => lexer_scanner_skip.l0 k t p l v) (t, ((t.size - (skipL false r (l + 1)).1.length : Nat) : Int), (skipL false r (l + 1)).2) := Zev.step (fun k => by rw [lexer_scanner_skip.l0, if_pos c1, if_pos c2, if_pos b10, wp, wl]) i10.1
      constructor
      · rw [skipL, if_pos rfl]; exact q
      · rw [skipL, if_pos rfl]
        exact Zev.step (fun k => by rw [lexer_scanner_skip.l1, if_pos c1, if_pos c2, if_pos b10]) q
    · have b10 : ¬ bt t (p : Int) = 10 := by rw [hb]; exact ne8 h10
      refine ⟨?_, ?_⟩
      · have jt : Ev (fun k => lexer_scanner_skip.j1 k true t p l v) (t, ((t.size - (skipL false r l).1.length : Nat) : Int), (skipL false r l).2) := Zev.step (fun k => by rw [lexer_scanner_skip.j1, if_pos rfl, wp]) i0.1
        rw [skipL, if_neg h10]
        by_cases hw : c = 32 ∨ c = 9 ∨ c = 13
        · rw [if_pos hw]
          refine Zev.step (fun k => ?_) jt
          rw [lexer_scanner_skip.l0, if_pos c1, if_pos c2, if_neg b10]
          rcases hw with h | h | h
          · subst h; rw [if_pos (show bt t (p : Int) = 32 from hb)]
          · subst h
            have b9 : bt t (p : Int) = 9 := hb
            rw [if_neg (by rw [b9]; decide), if_pos b9]
          · subst h
            have b13 : bt t (p : Int) = 13 := hb
            rw [if_neg (by rw [b13]; decide), if_neg (by rw [b13]; decide), b13]
            rfl
        · rw [if_neg hw]
          have n32 : ¬ bt t (p : Int) = 32 := by rw [hb]; exact ne8 (fun e => hw (.inl e))
          have n9 : ¬ bt t (p : Int) = 9 := by rw [hb]; exact ne8 (fun e => hw (.inr (.inl e)))
          have n13 : (bt t (p : Int) == 13) = false := by rw [hb]; exact beq_eq_false_iff_ne.mpr (ne8 (fun e => hw (.inr (.inr e))))
          have hpre : strings_HasPrefix.f (t.extract ((p : Int)).toNat t.size) (⟨#[47, 47]⟩ : ByteArray) = some (decide (c = 47 ∧ r.head? = some 47)) := by
            rw [prefix_eq, hd]
            congr 1
            cases r with
            | nil =>
              show (((47 : UInt8) == c) && false) = _
              rw [Bool.and_false]
              symm
              exact decide_eq_false (fun h => by cases h.2)
            | cons d r' =>
              show (((47 : UInt8) == c) && (((47 : UInt8) == d) && true)) = decide (c = 47 ∧ some d = some 47)
              rw [Bool.eq_iff_iff]
              simp only [Bool.and_eq_true, beq_iff_eq, decide_eq_true_eq, Option.some.injEq, and_true]
              exact ⟨fun h => ⟨h.1.symm, h.2.symm⟩, fun h => ⟨h.1.symm, h.2.symm⟩⟩
          have st : ∀ k, lexer_scanner_skip.l0 (k + 1) t p l v = lexer_scanner_skip.j1 k false t p l v := fun k => by rw [lexer_scanner_skip.l0, if_pos c1, if_pos c2, if_neg b10, if_neg n32, if_neg n9, n13]
          refine Zev.step st ?_
          have c3 : (p : Int) ≤ (t.size : Int) := by omega
          by_cases h47 : c = 47 ∧ r.head? = some 47
          · rw [if_pos h47]
            have l1s : Ev (fun k => lexer_scanner_skip.l1 k t p l v) (t, ((t.size - (skipL true r l).1.length : Nat) : Int), (skipL true r l).2) := Zev.step (fun k => by rw [lexer_scanner_skip.l1, if_pos c1, if_pos c2, if_neg b10, wp]) i0.2
            refine Zev.step (fun k => ?_) l1s
            rw [lexer_scanner_skip.j1, if_neg (by decide), if_pos c2, if_pos c3, hpre, Option.bind_some, decide_eq_true h47, if_pos rfl]
          · rw [if_neg h47]
            have e : ((t.size - (c :: r).length : Nat) : Int) = (p : Int) := by rw [← hs.pos]
            refine Zev.step (f := fun _ => some (t, ((t.size - (c :: r).length : Nat) : Int), l)) (fun k => ?_) (Zev.now _)
            rw [lexer_scanner_skip.j1, if_neg (by decide), if_pos c2, if_pos c3, hpre, Option.bind_some, decide_eq_false h47, if_neg (by decide), e]
      · rw [skipL, if_neg h10]
        exact Zev.step (fun k => by rw [lexer_scanner_skip.l1, if_pos c1, if_pos c2, if_neg b10, wp]) i0.2
end Go.Proofs.YtoflkheiidhblaaDoor.Lx
