-- By wip/xprint.py (a driver of this session's over the kit's print), for this claim.
import Derived.Test.YtoflkheiidhblaaDoorPLexx0
namespace Go.Proofs.YtoflkheiidhblaaDoor.PLex
open Go.RowKit Go.Proofs.YtoflkheiidhblaaDoorW.PrintWords Go.Proofs.YtoflkheiidhblaaDoorW.PrintLast Go.Proofs.YtoflkheiidhblaaDoorW.PrintMore
attribute [local go_sem] max2_int min2_int max_two min_two max_three min_three max_four min_four   -- for this text's walks alone
set_option linter.unusedVariables false
set_option linter.unusedSimpArgs false

/-! ### lexer_reserved: function 55, by hand: a map literal with constant keys, looked up once -/
section
open Go.Maps
theorem wpList_insert_own {H : Type} {P : Program} (w : World) {ops : Array Oper} {rest : List Oper} {o : Oper} {a : Act} {Q : Exit → Act → World → Prop}
  (hg : o.guard = none) (m x v : Operand) (t : TypeId) (hop : o.op = Op.insert t m x v)
  (k e : TypeId) (K : Keyed P k) (ht : P.underlying t = some (.map k e)) (R : Value → Option (DataW H × List MemPlace)) (b n : Nat) (D : DataW H)
  (hm : a.eval m = .map (some b)) (hown : w.ownsMap P k R b n D) (hn : n < maxLen) (key val : Value) (kl : Lit) (hx : a.eval x = key) (hv : a.eval v = val) (hkey : keyOf P k key = some kl)
  (d : DataW H) (ps : List MemPlace) (hval : R val = some (d, ps))
  (hK : ∀ w', w'.ownsMap P k R b (n + 1) (D.put kl d) → w.grownBy w' (some b) → wpList P ops Q rest (a.put o.dst undef) w') :
  wpList P ops Q (o :: rest) a w := by
 refine wpList_plain hg fun K' hK' => ?_
 obtain ⟨w', hrun, r1, r2⟩ := hown.update K ht hn hkey hval
 unfold Oper.wp
 simp [execOp, hop, hm, hx, hv, hrun, Result.andThen]
 exact hK' _ _ (hK w' r1 r2)
theorem plainElem_bool_of {H : Type} {P : Program} {e : TypeId} (he : P.underlying e = some .bool) {v : Value} {b : Bool} {ps : List MemPlace} (h : plainElem (H := H) P e v = some (.lit (.bool b), ps)) : v = .bool b := by
 unfold plainElem at h
 rw [he] at h
 cases v <;> simp at h
 rw [h.1]
theorem wpList_lookup_own_bool {H : Type} {P : Program} (w : World) {ops : Array Oper} {rest : List Oper} {o : Oper} {a : Act} {Q : Exit → Act → World → Prop}
  (hg : o.guard = none) (m x : Operand) (t : TypeId) (hop : o.op = Op.lookup t m x false)
  (k e : TypeId) (K : Keyed P k) (ht : P.underlying t = some (.map k e)) (he : P.underlying e = some .bool) (hz : (zeroValue e).run P w = .ok (.bool false) w) (b n : Nat) (D : DataW H)
  (hm : a.eval m = .map (some b)) (hown : w.ownsMap P k (plainElem P e) b n D) (key : Value) (kl : Lit) (hx : a.eval x = key) (hkey : keyOf P k key = some kl) (r : Bool) (hat : D.atKey kl (.lit (.bool false)) = .lit (.bool r))
  (hK : wpList P ops Q rest (a.put o.dst (.bool r)) w) :
  wpList P ops Q (o :: rest) a w := by
 refine wpList_plain hg fun K' hK' => ?_
 obtain ⟨v, ps, hrun, hv⟩ := hown.lookup K ht hz (plainElem_bool he false) hkey
 rw [hat] at hv
 obtain rfl := plainElem_bool_of he hv
 unfold Oper.wp
 simp [execOp, hop, hm, hx, hrun, Result.andThen]
 exact hK' _ _ hK
end
theorem rsv_map (ws : List (List UInt8)) : ∀ (D : DataW Unit) (x : List UInt8) (c : Bool), Go.Maps.IsMap D → D.atKey (.string x) (.lit (.bool false)) = .lit (.bool c) → (ws.foldl (fun D y => D.put (.string y) (.lit (.bool true))) D).atKey (.string x) (.lit (.bool false)) = .lit (.bool (c || decide (x ∈ ws))) := by
 induction ws with
 | nil => intro D x c _ h; simpa using h
 | cons y ws ih =>
  intro D x c hm h
  by_cases e : x = y
  ·have := ih (D.put (.string y) (.lit (.bool true))) x true (by obtain ⟨es, rfl⟩ := hm; exact ⟨_, rfl⟩) (by rw [e]; exact Go.Maps.atKey_put_same hm (by trivial) _ _)
   simpa [e] using this
  ·have := ih (D.put (.string y) (.lit (.bool true))) x c (by obtain ⟨es, rfl⟩ := hm; exact ⟨_, rfl⟩) (by rw [Go.Maps.atKey_put_other (by intro e'; injection e' with e'; exact e e')]; exact h)
   simpa [e] using this
def rsv_words : List (List UInt8) := [[114, 101, 99, 111, 114, 100], [102, 117, 110, 99], [118, 97, 114], [105, 110, 116], [105, 102], [101, 108, 115, 101], [119, 104, 105, 108, 101], [114, 101, 116, 117, 114, 110], [116, 104, 114, 111, 119], [116, 114, 121], [99, 97, 116, 99, 104], [112, 114, 105, 110, 116]]
def lexer_reserved.f (a0 : ByteArray) : Option Bool := if a0.size < 4398046511104 then some (decide (a0.data.toList ∈ rsv_words)) else none
set_option maxHeartbeats 4000000 in
set_option maxRecDepth 100000 in
theorem lexer_reserved.calls (a0 : ByteArray) (r : Bool) (w : World) (h : lexer_reserved.f a0 = some r) :
  Calls Tryd.prog 55 #[.string a0] w fun e w' => e = .returned (.bool r) ∧ Below w.heap.size w w' := by
 unfold lexer_reserved.f at h
 by_cases h1 : a0.size < 4398046511104
 case neg => rw [if_neg h1] at h; cases h
 rw [if_pos h1] at h
 obtain rfl := Option.some.inj h
 clear h
 have hat := rsv_map rsv_words (.map []) a0.data.toList false ⟨_, rfl⟩ rfl
 rw [Bool.false_or] at hat
 generalize decide (a0.data.toList ∈ rsv_words) = r at hat ⊢
 have hkey : keyOf Tryd.prog 9 (.string a0) = some (.string a0.data.toList) := Go.WideMaps.keyOf_string_mk Tryd.underlying9 (by unfold maxLen; omega)
 have HAT := Aside0.mk hat
 clear hat h1
 have hmm := @run_makeMap Tryd.prog
 have hown0 : (w.alloc (.map #[] 0)).ownsMap Tryd.prog 9 (plainElem (H := Unit) Tryd.prog 4) w.heap.size 0 (.map []) := World.ownsMap_made _ _ _ _
 have hB0 : Below w.heap.size w (w.alloc (.map #[] 0)) := (Below.refl _ _).alloc (Nat.le_refl _) _
 have hzb : ∀ w' : World, (zeroValue 4).run Tryd.prog w' = .ok (.bool false) w' := fun _ => by kernel_rfl
 go_enter Tryd.func55, Tryd.ntmps55
 go_wp2_with (first
  | (refine wpList_insert_own _ (by rfl) _ _ _ 94 (by rfl) 9 4 (Go.Maps.string_keyed Tryd.underlying9) Tryd.underlying94 _ w.heap.size 0 _ (by rfl) hown0 (by decide) (.string ⟨#[114, 101, 99, 111, 114, 100]⟩) (.bool true) (.string [114, 101, 99, 111, 114, 100]) (by rfl) (by rfl) (Go.WideMaps.keyOf_string_mk Tryd.underlying9 (by decide)) _ [] (plainElem_bool Tryd.underlying4 true) ?_; intro w1 hown1 hgrow1; have hB1 := hB0.grown hgrow1 hB0.size (fun j hj => by cases hj; exact Nat.le_refl _); clear hown0 hgrow1 hB0)
  | (refine wpList_insert_own _ (by rfl) _ _ _ 94 (by rfl) 9 4 (Go.Maps.string_keyed Tryd.underlying9) Tryd.underlying94 _ w.heap.size 1 _ (by rfl) hown1 (by decide) (.string ⟨#[102, 117, 110, 99]⟩) (.bool true) (.string [102, 117, 110, 99]) (by rfl) (by rfl) (Go.WideMaps.keyOf_string_mk Tryd.underlying9 (by decide)) _ [] (plainElem_bool Tryd.underlying4 true) ?_; intro w2 hown2 hgrow2; have hB2 := hB1.grown hgrow2 hB1.size (fun j hj => by cases hj; exact Nat.le_refl _); clear hown1 hgrow2 hB1)
  | (refine wpList_insert_own _ (by rfl) _ _ _ 94 (by rfl) 9 4 (Go.Maps.string_keyed Tryd.underlying9) Tryd.underlying94 _ w.heap.size 2 _ (by rfl) hown2 (by decide) (.string ⟨#[118, 97, 114]⟩) (.bool true) (.string [118, 97, 114]) (by rfl) (by rfl) (Go.WideMaps.keyOf_string_mk Tryd.underlying9 (by decide)) _ [] (plainElem_bool Tryd.underlying4 true) ?_; intro w3 hown3 hgrow3; have hB3 := hB2.grown hgrow3 hB2.size (fun j hj => by cases hj; exact Nat.le_refl _); clear hown2 hgrow3 hB2)
  | (refine wpList_insert_own _ (by rfl) _ _ _ 94 (by rfl) 9 4 (Go.Maps.string_keyed Tryd.underlying9) Tryd.underlying94 _ w.heap.size 3 _ (by rfl) hown3 (by decide) (.string ⟨#[105, 110, 116]⟩) (.bool true) (.string [105, 110, 116]) (by rfl) (by rfl) (Go.WideMaps.keyOf_string_mk Tryd.underlying9 (by decide)) _ [] (plainElem_bool Tryd.underlying4 true) ?_; intro w4 hown4 hgrow4; have hB4 := hB3.grown hgrow4 hB3.size (fun j hj => by cases hj; exact Nat.le_refl _); clear hown3 hgrow4 hB3)
  | (refine wpList_insert_own _ (by rfl) _ _ _ 94 (by rfl) 9 4 (Go.Maps.string_keyed Tryd.underlying9) Tryd.underlying94 _ w.heap.size 4 _ (by rfl) hown4 (by decide) (.string ⟨#[105, 102]⟩) (.bool true) (.string [105, 102]) (by rfl) (by rfl) (Go.WideMaps.keyOf_string_mk Tryd.underlying9 (by decide)) _ [] (plainElem_bool Tryd.underlying4 true) ?_; intro w5 hown5 hgrow5; have hB5 := hB4.grown hgrow5 hB4.size (fun j hj => by cases hj; exact Nat.le_refl _); clear hown4 hgrow5 hB4)
  | (refine wpList_insert_own _ (by rfl) _ _ _ 94 (by rfl) 9 4 (Go.Maps.string_keyed Tryd.underlying9) Tryd.underlying94 _ w.heap.size 5 _ (by rfl) hown5 (by decide) (.string ⟨#[101, 108, 115, 101]⟩) (.bool true) (.string [101, 108, 115, 101]) (by rfl) (by rfl) (Go.WideMaps.keyOf_string_mk Tryd.underlying9 (by decide)) _ [] (plainElem_bool Tryd.underlying4 true) ?_; intro w6 hown6 hgrow6; have hB6 := hB5.grown hgrow6 hB5.size (fun j hj => by cases hj; exact Nat.le_refl _); clear hown5 hgrow6 hB5)
  | (refine wpList_insert_own _ (by rfl) _ _ _ 94 (by rfl) 9 4 (Go.Maps.string_keyed Tryd.underlying9) Tryd.underlying94 _ w.heap.size 6 _ (by rfl) hown6 (by decide) (.string ⟨#[119, 104, 105, 108, 101]⟩) (.bool true) (.string [119, 104, 105, 108, 101]) (by rfl) (by rfl) (Go.WideMaps.keyOf_string_mk Tryd.underlying9 (by decide)) _ [] (plainElem_bool Tryd.underlying4 true) ?_; intro w7 hown7 hgrow7; have hB7 := hB6.grown hgrow7 hB6.size (fun j hj => by cases hj; exact Nat.le_refl _); clear hown6 hgrow7 hB6)
  | (refine wpList_insert_own _ (by rfl) _ _ _ 94 (by rfl) 9 4 (Go.Maps.string_keyed Tryd.underlying9) Tryd.underlying94 _ w.heap.size 7 _ (by rfl) hown7 (by decide) (.string ⟨#[114, 101, 116, 117, 114, 110]⟩) (.bool true) (.string [114, 101, 116, 117, 114, 110]) (by rfl) (by rfl) (Go.WideMaps.keyOf_string_mk Tryd.underlying9 (by decide)) _ [] (plainElem_bool Tryd.underlying4 true) ?_; intro w8 hown8 hgrow8; have hB8 := hB7.grown hgrow8 hB7.size (fun j hj => by cases hj; exact Nat.le_refl _); clear hown7 hgrow8 hB7)
  | (refine wpList_insert_own _ (by rfl) _ _ _ 94 (by rfl) 9 4 (Go.Maps.string_keyed Tryd.underlying9) Tryd.underlying94 _ w.heap.size 8 _ (by rfl) hown8 (by decide) (.string ⟨#[116, 104, 114, 111, 119]⟩) (.bool true) (.string [116, 104, 114, 111, 119]) (by rfl) (by rfl) (Go.WideMaps.keyOf_string_mk Tryd.underlying9 (by decide)) _ [] (plainElem_bool Tryd.underlying4 true) ?_; intro w9 hown9 hgrow9; have hB9 := hB8.grown hgrow9 hB8.size (fun j hj => by cases hj; exact Nat.le_refl _); clear hown8 hgrow9 hB8)
  | (refine wpList_insert_own _ (by rfl) _ _ _ 94 (by rfl) 9 4 (Go.Maps.string_keyed Tryd.underlying9) Tryd.underlying94 _ w.heap.size 9 _ (by rfl) hown9 (by decide) (.string ⟨#[116, 114, 121]⟩) (.bool true) (.string [116, 114, 121]) (by rfl) (by rfl) (Go.WideMaps.keyOf_string_mk Tryd.underlying9 (by decide)) _ [] (plainElem_bool Tryd.underlying4 true) ?_; intro w10 hown10 hgrow10; have hB10 := hB9.grown hgrow10 hB9.size (fun j hj => by cases hj; exact Nat.le_refl _); clear hown9 hgrow10 hB9)
  | (refine wpList_insert_own _ (by rfl) _ _ _ 94 (by rfl) 9 4 (Go.Maps.string_keyed Tryd.underlying9) Tryd.underlying94 _ w.heap.size 10 _ (by rfl) hown10 (by decide) (.string ⟨#[99, 97, 116, 99, 104]⟩) (.bool true) (.string [99, 97, 116, 99, 104]) (by rfl) (by rfl) (Go.WideMaps.keyOf_string_mk Tryd.underlying9 (by decide)) _ [] (plainElem_bool Tryd.underlying4 true) ?_; intro w11 hown11 hgrow11; have hB11 := hB10.grown hgrow11 hB10.size (fun j hj => by cases hj; exact Nat.le_refl _); clear hown10 hgrow11 hB10)
  | (refine wpList_insert_own _ (by rfl) _ _ _ 94 (by rfl) 9 4 (Go.Maps.string_keyed Tryd.underlying9) Tryd.underlying94 _ w.heap.size 11 _ (by rfl) hown11 (by decide) (.string ⟨#[112, 114, 105, 110, 116]⟩) (.bool true) (.string [112, 114, 105, 110, 116]) (by rfl) (by rfl) (Go.WideMaps.keyOf_string_mk Tryd.underlying9 (by decide)) _ [] (plainElem_bool Tryd.underlying4 true) ?_; intro w12 hown12 hgrow12; have hB12 := hB11.grown hgrow12 hB11.size (fun j hj => by cases hj; exact Nat.le_refl _); clear hown11 hgrow12 hB11)
  | (refine wpList_lookup_own_bool _ rfl _ _ 94 rfl 9 4 (Go.Maps.string_keyed Tryd.underlying9) Tryd.underlying94 Tryd.underlying4 (hzb _) w.heap.size 12 _ rfl hown12 _ _ rfl hkey r HAT.out ?_))
 go_ret
 exact ⟨rfl, hB12⟩

end Go.Proofs.YtoflkheiidhblaaDoor.PLex
