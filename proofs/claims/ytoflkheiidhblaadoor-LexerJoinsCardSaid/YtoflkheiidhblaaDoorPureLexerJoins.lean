/-
  The statement LexerJoins, over lists alone. No condition.
-/
import Derived.Test.YtoflkheiidhblaaDoorPLexx57
import Derived.Test.YtoflkheiidhblaaDoorMathV
namespace Go.Proofs.YtoflkheiidhblaaDoor.Pure
open Go.RowKit Go.Proofs.YtoflkheiidhblaaDoor.PLex Go.Proofs.YtoflkheiidhblaaDoorW.PrintWords Go.Proofs.YtoflkheiidhblaaDoorW.PrintLast Go.Proofs.YtoflkheiidhblaaDoor.Lx
set_option linter.unusedSimpArgs false
set_option linter.unusedVariables false
theorem known_true : Ev (fun k => debuggerlaw02_known.f k) true := Zev.mono (fun k => debuggerlaw02_known.mono k) (k := 60) (by decide +kernel)
theorem scan_fuel : ∀ (N N' : Nat) (s : List UInt8) (l : Int) (acc : List S36), s.length < N → s.length < N' → scanL N s l acc = scanL N' s l acc := by
  intro N
  induction N with
  | zero => intro N' s l acc h; omega
  | succ N ih =>
    intro N' s l acc h h'
    obtain ⟨N', rfl⟩ : ∃ M, N' = M + 1 := ⟨N' - 1, by omega⟩
    cases s with
    | nil => rw [scanL_nil, scanL_nil]
    | cons c r =>
      rw [scanL_cons, scanL_cons]
      simp only [List.length_cons] at h h'
      by_cases h0 : (nextL l (c :: r)).1.2.2.2.2 = 0
      · rw [if_pos h0, if_pos h0]
        have hsh := nextL_short l c r h0
        have hss := (skipL_suffix (nextL l (c :: r)).2 false l).length_le
        simp only [List.length_cons] at hsh
        rw [ih N' _ _ _ (by omega) (by omega)]
      · rw [if_neg h0, if_neg h0]
/-- Both texts and the joined one, as Scan answers. -/
theorem joined (A B : List UInt8) (h : A.length + B.length ≤ 2000) :
    ((scanA A).2.2 ≠ 0 → (scanA (A ++ 10 :: B)).2.2 ≠ 0) ∧
    ((scanA A).2.2 = 0 → ∃ (x0 : List S36) (L : Int), (scanA A).1 = x0 ++ [⟨0, L, ⟨#[]⟩, 0⟩] ∧ 0 ≤ L ∧ L ≤ 3000 ∧ x0.length ≤ 2000 ∧ (scanA (A ++ 10 :: B)).2.2 = (scanA B).2.2 ∧ ((scanA B).2.2 ≠ 0 → (scanA (A ++ 10 :: B)).2.1 = (scanA B).2.1 + L) ∧
      ((scanA B).2.2 = 0 → (scanA (A ++ 10 :: B)).1 = x0 ++ (scanA B).1.map (later L))) ∧
    (0 ≤ (scanA B).2.1 ∧ (scanA B).2.1 ≤ 3000) ∧ (∀ t ∈ (scanA B).1, 0 ≤ t.f1 ∧ t.f1 ≤ 3000) ∧ (scanA B).1.length ≤ 2001 := by
  have hzlen : (A ++ 10 :: B).length = A.length + B.length + 1 := by rw [List.length_append, List.length_cons]; omega
  have hx : scanA A = scanL (A.length + 1) (skipL false A 1).1 (skipL false A 1).2 [] := by unfold scanA; rw [if_neg (by omega)]
  have hy : scanA B = scanL (B.length + 1) (skipL false B 1).1 (skipL false B 1).2 [] := by unfold scanA; rw [if_neg (by omega)]
  have hz : scanA (A ++ 10 :: B) = scanL (A.length + B.length + 2) (js B (skipL false A 1).1 (skipL false A 1).2).1 (js B (skipL false A 1).1 (skipL false A 1).2).2 [] := by
    unfold scanA js
    rw [hzlen, if_neg (by omega), skip_join]
  have sA := (skipL_suffix A false 1).length_le
  have sB := (skipL_suffix B false 1).length_le
  have lA := skipL_line A false 1
  have lB := skipL_line B false 1
  have hj := scan_join B (A.length + 1) (skipL false A 1).1 (skipL false A 1).2 [] (by omega) (by simp only [List.length_nil]; omega) (A.length + B.length + 2) (by omega)
  have bx := scan_bound 3000 (A.length + 1) (skipL false A 1).1 (skipL false A 1).2 [] (by omega) (by omega) (by omega) (fun t ht => by cases ht)
  have bb := scan_bound 3000 (B.length + 1) (skipL false B 1).1 (skipL false B 1).2 [] (by omega) (by omega) (by omega) (fun t ht => by cases ht)
  rw [← hx, ← hz] at hj
  rw [← hx] at bx
  rw [← hy] at bb
  refine ⟨hj.1, fun h0 => ?_, bb.1, bb.2.1, ?_⟩
  · obtain ⟨x0, L, M', e1, e2, e3, e4⟩ := hj.2 h0
    have hL := bx.2.1 ⟨0, L, ⟨#[]⟩, 0⟩ (by rw [e1]; simp)
    simp only [List.length_nil] at e2
    refine ⟨x0, L, e1, hL.1, hL.2, by omega, ?_⟩
    rw [skip_shift] at e4
    have sh := scan_shift L (B.length + 1) (skipL false B 1).1 (skipL false B 1).2 x0 [] (by omega) (by omega) (by simp only [List.length_nil]; omega)
    rw [scan_fuel M' (B.length + 1) _ _ _ (by show (skipL false B 1).1.length < M'; omega) (by show (skipL false B 1).1.length < _; omega)] at e4
    rw [← hy] at sh
    rw [e4]
    refine ⟨sh.1, sh.2.1, fun hb => ?_⟩
    obtain ⟨ts, f1, f2⟩ := sh.2.2 hb
    rw [List.nil_append] at f1
    rw [f1]
    exact f2
  · have := bb.2.2
    simp only [List.length_nil] at this
    omega
theorem rd_left (x0 ts us : List S36) (i : Nat) (h : i < x0.length) : rd_T36 (x0 ++ ts) (i : Int) = rd_T36 (x0 ++ us) (i : Int) := by
  unfold rd_T36
  rw [Int.toNat_natCast, List.getD_eq_getElem?_getD, List.getD_eq_getElem?_getD, List.getElem?_append_left h, List.getElem?_append_left h]
theorem rd_right (x0 y : List S36) (L : Int) (j : Nat) (h : j < y.length) : rd_T36 (x0 ++ y.map (later L)) ((x0.length + j : Nat) : Int) = later L (rd_T36 y (j : Int)) := by
  unfold rd_T36
  rw [Int.toNat_natCast, Int.toNat_natCast, List.getD_eq_getElem?_getD, List.getD_eq_getElem?_getD, List.getElem?_append_right (by omega), List.getElem?_map]
  have e : x0.length + j - x0.length = j := by omega
  rw [e, List.getElem?_eq_getElem h]
  rfl
theorem loop (x0 y : List S36) (E : S36) (L : Int) (hL : 0 ≤ L ∧ L ≤ 3000) (hx : x0.length ≤ 2000) (hy : y.length ≤ 2001) (hb : ∀ t ∈ y, 0 ≤ t.f1 ∧ t.f1 ≤ 3000) : ∀ (d i : Nat), i + d = x0.length + y.length →
    Ev (fun k => debuggerlaw02_LexerJoins.l0 k (x0 ++ [E]) y (x0 ++ y.map (later L)) L (i : Int)) true := by
  have lz : (x0 ++ y.map (later L)).length = x0.length + y.length := by simp
  have lx : (x0 ++ [E]).length = x0.length + 1 := by simp
  intro d
  induction d with
  | zero =>
    intro i hi
    refine Zev.step (f := fun k => (debuggerlaw02_known.f k).bind fun t289 => (some t289)) (fun k => ?_) (Zev.bind known_true (Zev.now _))
    rw [debuggerlaw02_LexerJoins.l0, if_neg (by rw [lz]; omega)]
  | succ d ih =>
    intro i hi
    have wi : wrap64 ((i : Int) + 1) = ((i + 1 : Nat) : Int) := by rw [Zev.w64 (by omega) (by omega)]; omega
    have w1 : wrap64 (((x0 ++ [E]).length : Int) - 1) = (x0.length : Int) := by rw [lx, Zev.w64 (by omega) (by omega)]; omega
    have q := ih (i + 1) (by omega)
    refine Zev.step (fun k => ?_) q
    rw [debuggerlaw02_LexerJoins.l0, if_pos (by rw [lz]; omega), w1]
    by_cases hc : i < x0.length
    · rw [if_pos (by omega), if_pos (by omega), if_pos (by rw [lx]; omega), rd_left x0 (y.map (later L)) [E] i hc, wi]
      simp
    · rw [if_neg (by omega)]
      obtain ⟨j, rfl⟩ : ∃ j, i = x0.length + j := ⟨i - x0.length, by omega⟩
      have hj : j < y.length := by omega
      have wj : wrap64 (wrap64 (((x0.length + j : Nat) : Int) - ((x0 ++ [E]).length : Int)) + 1) = (j : Int) := by
        rw [lx, Zev.w64 (x := ((x0.length + j : Nat) : Int) - ((x0.length + 1 : Nat) : Int)) (by omega) (by omega), Zev.w64 (by omega) (by omega)]
        omega
      have hbj := hb (rd_T36 y (j : Int)) (by
        unfold rd_T36
        rw [Int.toNat_natCast, List.getD_eq_getElem?_getD, List.getElem?_eq_getElem hj]
        exact List.getElem_mem hj)
      have wl : wrap64 ((rd_T36 y (j : Int)).f1 + L) = (rd_T36 y (j : Int)).f1 + L := Zev.w64 (by omega) (by omega)
      rw [wj, if_pos (by omega), if_pos (by omega), if_pos (by omega), rd_right x0 y L j hj, wl, wi]
      simp [later]
theorem LexerJoins : debuggerlaw02_LexerJoins.Pure := by
  intro a0 a1 h0 h1
  refine Zev.done ?_
  unfold debuggerlaw02_LexerJoins.f
  have ws : wrap64 ((a0.size : Int) + (a1.size : Int)) = (a0.size : Int) + (a1.size : Int) := Zev.w64 (by omega) (by omega)
  rw [ws]
  by_cases hs : (a0.size : Int) + (a1.size : Int) > 2000
  · exact Zev.ifp hs (Zev.bind known_true (Zev.now _))
  · refine Zev.ifn hs ?_
    have hab : a0.data.toList.length + a1.data.toList.length ≤ 2000 := by rw [tlen, tlen]; omega
    obtain ⟨j1, j2, j3, j4, j5⟩ := joined _ _ hab
    have hz : ((a0 ++ (⟨#[10]⟩ : ByteArray)) ++ a1).data.toList = a0.data.toList ++ 10 :: a1.data.toList := by
      rw [ByteArray.data_append, ByteArray.data_append, Array.toList_append, Array.toList_append, List.append_assoc]
      rfl
    have ez := scan_ev ((a0 ++ (⟨#[10]⟩ : ByteArray)) ++ a1)
    rw [hz] at ez
    have hsz : (a0 ++ (⟨#[10]⟩ : ByteArray)).size = a0.size + 1 := by rw [ByteArray.size_append]; rfl
    refine Zev.bind (scan_ev a0) (Zev.bind (scan_ev a1) (Zev.ifp (by omega) (Zev.ifp (by rw [hsz]; omega) (Zev.bind ez ?_))))
    generalize scanA a0.data.toList = x at *
    generalize hyy : scanA a1.data.toList = y at *
    generalize scanA (a0.data.toList ++ 10 :: a1.data.toList) = z at *
    by_cases hx : x.2.2 = 0
    · refine Zev.ifp hx ?_
      obtain ⟨x0, L, e1, hL0, hL1, hx0, e2, e3, e4⟩ := j2 hx
      have lx : x.1.length = x0.length + 1 := by rw [e1]; simp
      have w1 : wrap64 ((x.1.length : Int) - 1) = (x0.length : Int) := by rw [lx, Zev.w64 (by omega) (by omega)]; omega
      have rL : (rd_T36 x.1 (x0.length : Int)).f1 = L := by
        unfold rd_T36
        rw [e1, Int.toNat_natCast, List.getD_eq_getElem?_getD, List.getElem?_append_right (Nat.le_refl _), Nat.sub_self]
        rfl
      rw [w1, rL]
      refine Zev.ifn (by omega) (Zev.ifp (by omega) (Zev.ifp (by omega) ?_))
      by_cases hy : y.2.2 = 0
      · refine Zev.ifp hy (Zev.ifp (by omega) ?_)
        have hz1 := e4 hy
        have lz : z.1.length = x0.length + y.1.length := by rw [hz1]; simp
        have wz : wrap64 (wrap64 ((x.1.length : Int) + (y.1.length : Int)) - 1) = (z.1.length : Int) := by
          rw [lx, lz, Zev.w64 (x := ((x0.length + 1 : Nat) : Int) + (y.1.length : Int)) (by omega) (by omega), Zev.w64 (by omega) (by omega)]
          omega
        rw [wz]
        have hne : ((z.1.length : Int) != (z.1.length : Int)) = false := by simp
        rw [hne]
        have q := loop x0 y.1 ⟨0, L, ⟨#[]⟩, 0⟩ L ⟨hL0, hL1⟩ hx0 j5 j4 (x0.length + y.1.length) 0 (by omega)
        rw [← e1, ← hz1] at q
        exact Zev.step (fun k => by rw [debuggerlaw02_LexerJoins.j0, if_neg (by decide)]; rfl) q
      · refine Zev.ifn hy ?_
        have ey := scan_ev a1
        rw [hyy] at ey
        refine Zev.bind ey (Zev.ifp e2 (Zev.ifp ?_ (Zev.bind known_true (Zev.now _))))
        rw [e3 hy, Zev.w64 (by omega) (by omega)]
    · exact Zev.ifn hx (Zev.ifn (j1 hx) (Zev.bind known_true (Zev.now _)))
end Go.Proofs.YtoflkheiidhblaaDoor.Pure
