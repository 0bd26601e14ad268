-- By wip/xprint.py (a driver of this session's over the kit's print), for this claim.
import Derived.Test.YtpifepaflljolaaProg
import Derived.Below
import Derived.Deep.Draws
import Derived.Deep.AppendLies
import Derived.Maps.AppendAt
import Derived.OwnWalk
import Derived.Laws.BytesArg
import Derived.Laws.MakeOwn
import Derived.Laws.OwnMore
import Derived.Deep.OwnRows
import Derived.Tactics
import Derived.Lib.ConvBytes
import Derived.Laws.Slices
import Derived.WalkKit
import Derived.KernelRfl
import Derived.RowKit3
import Derived.Deep.LoopGhost
import Derived.Deep.QuietTactic
import Derived.BigQuiet
import Derived.WideLaws
import Derived.Deep.DeepCutAuto
import Derived.Deep.CutBlock
import Derived.Deep.RegionHeld3
import Derived.Laws.Rows
import Derived.Lib.AppendStr
import Derived.ArgAppend
import Derived.Laws.IdiomCopy
import Derived.OrdersHeld
import Derived.Laws.BitsLemmas
import Derived.RowKit
import Derived.Test.YtpifepaflljolaaVw
namespace Go.Proofs.Ytpifepaflljolaa.PMem
open Go.RowKit Go.Proofs.YtpifepaflljolaaW.PrintWords Go.Proofs.YtpifepaflljolaaW.PrintLast Go.Proofs.YtpifepaflljolaaW.PrintMore
attribute [local go_sem] max2_int min2_int max_two min_two max_three min_three max_four min_four   -- for this text's walks alone
set_option linter.unusedVariables false
set_option linter.unusedSimpArgs false



def errW : Option Int → Value
 | none => .nilIface
 | some c => .iface 0 (.int .i64 c)
theorem errW_none : errW none = .nilIface := rfl
theorem errW_some (c : Int) : errW (some c) = .iface 0 (.int .i64 c) := rfl

theorem info3 : (Try.prog.info? 3).map (fun i => (i.zero, i.size, i.bytes)) = some (some (.int .i64 0), 1, 8) := by kernel_rfl
theorem info31 : (Try.prog.info? 31).map (fun i => (i.zero, i.size, i.bytes)) = some (some (.agg #[(.int .i64 0), (.slice none 0 0)]), 2, 32) := by kernel_rfl
-- the values' own types
def rd_L1 (xs : List (List Int)) (i : Int) : (List Int) := xs.getD i.toNat ([] : List Int)
theorem at_L1 {w : World} {A : Option Addr} {n : Nat} {xs : List (List Int)} (h : Kd.C (Kd.slice 3 (Kd.int .i64)) w A n xs) (i : Int) (h0 : 0 ≤ i) (h1 : i < n) : ∃ ad A0 c0, A = some ad ∧ w.cell? (ad.add i.toNat) = some (.slice A0 (rd_L1 xs i).length c0) ∧ (rd_L1 xs i).length ≤ c0 ∧ (Kd.int .i64).C w A0 (rd_L1 xs i).length (rd_L1 xs i) := by
 obtain ⟨ad, c, e, _, hK, hc0⟩ := Kd.C_get h ([] : List Int) i h0 h1
 have hc : ∀ j u, c[j]? = some u → w.cell? (ad.add (i.toNat * 1 + j)) = some u := hc0
 obtain ⟨A0, c0, rfl, l0, g0⟩ := hK
 exact ⟨ad, A0, c0, e, by have hq := hc 0 _ rfl; rwa [Nat.mul_one, Nat.add_zero] at hq, l0, g0⟩

/-! #### struct type 31 -/
structure S31 where
 f0 : Int
 f1 : (List Int)
def z31 : S31 := ⟨(0 : Int), ([] : List Int)⟩
def k31 : Kd S31 := Kd.iso (Kd.pair (Kd.int .i64) (Kd.slice 3 (Kd.int .i64))) (fun x : S31 => (x.f0, x.f1))
theorem k31_open {w : World} {x : S31} {cs : List Value} (h : k31.K w x cs) : ∃ A1 c1, cs = [.int .i64 x.f0, .slice A1 x.f1.length c1] ∧ x.f1.length ≤ c1 ∧ (Kd.int .i64).C w A1 x.f1.length x.f1 := by
 obtain ⟨_, _, rfl, rfl, ⟨A1, c1, rfl, l1, g1⟩⟩ := h
 exact ⟨A1, c1, rfl, l1, g1⟩
theorem k31_openM {w : World} {base : Nat} {ok : Nat → Prop} {x : S31} {cs : List Value} (h : k31.M w base ok x cs) : ∃ v1, cs = [.int .i64 x.f0, v1] ∧ (Kd.int .i64).R 3 w base ok v1 x.f1 := by
 obtain ⟨_, _, rfl, rfl, ⟨v1, rfl, g1⟩⟩ := h
 exact ⟨v1, rfl, g1⟩
theorem k31_mk (w : World) (x : S31) {A1 : Option Addr} {c1 : Nat} (l1 : x.f1.length ≤ c1) (g1 : (Kd.int .i64).C w A1 x.f1.length x.f1) : k31.K w x [.int .i64 x.f0, .slice A1 x.f1.length c1] := ⟨[.int .i64 x.f0], [.slice A1 x.f1.length c1], rfl, rfl, ⟨A1, c1, rfl, l1, g1⟩⟩
theorem k31_mkM (w : World) (base : Nat) (ok : Nat → Prop) (x : S31) {v1 : Value} (g1 : (Kd.int .i64).R 3 w base ok v1 x.f1) : k31.M w base ok x [.int .i64 x.f0, v1] := ⟨[.int .i64 x.f0], [v1], rfl, rfl, ⟨v1, rfl, g1⟩⟩
theorem k31_openF {W : World} {ok : Nat → Prop} {x : S31} {cs : List Value} (h : Kd.FK k31 W ok x cs) : ∃ A1 c1, cs = [.int .i64 x.f0, .slice A1 x.f1.length c1] ∧ x.f1.length ≤ c1 ∧ Kd.F (Kd.int .i64) W ok A1 x.f1.length x.f1 := by
 obtain ⟨A1, c1, rfl, l1, _⟩ := k31_open (Kd.FK_now h)
 exact ⟨A1, c1, rfl, l1, (fun W' hW => by obtain ⟨A1_, c1_, he, l1_, g1_⟩ := k31_open (h W' hW); injection (Option.some.inj (show some (Value.slice A1 x.f1.length c1) = some (Value.slice A1_ x.f1.length c1_) from congrArg (fun l => l[1]?) he)) with ha_ _ _; rw [ha_]; exact g1_)⟩
theorem k31_mkF (W : World) (ok : Nat → Prop) (x : S31) {A1 : Option Addr} {c1 : Nat} (l1 : x.f1.length ≤ c1) (g1 : Kd.F (Kd.int .i64) W ok A1 x.f1.length x.f1) : Kd.FK k31 W ok x [.int .i64 x.f0, .slice A1 x.f1.length c1] := fun W2 hW => k31_mk W2 x l1 (g1 W2 hW)
def rd_T31 (xs : List S31) (i : Int) : S31 := xs.getD i.toNat z31
theorem at_T31 {w : World} {A : Option Addr} {n : Nat} {xs : List S31} (h : Kd.C k31 w A n xs) (i : Int) (h0 : 0 ≤ i) (h1 : i < n) : ∃ ad A1 c1, A = some ad ∧ w.cell? (ad.add (i.toNat * 2)) = some (.int .i64 (rd_T31 xs i).f0) ∧ w.cell? ⟨(ad.add (i.toNat * 2)).block, (ad.add (i.toNat * 2)).off + 1, none⟩ = some (.slice A1 (rd_T31 xs i).f1.length c1) ∧ (rd_T31 xs i).f1.length ≤ c1 ∧ (Kd.int .i64).C w A1 (rd_T31 xs i).f1.length (rd_T31 xs i).f1 := by
 obtain ⟨ad, c, e, _, hK, hc0⟩ := Kd.C_get h z31 i h0 h1
 have hc : ∀ j u, c[j]? = some u → w.cell? (ad.add (i.toNat * 2 + j)) = some u := hc0
 obtain ⟨A1, c1, rfl, l1, g1⟩ := k31_open hK
 exact ⟨ad, A1, c1, e, hc 0 _ rfl, by rw [← add_field _ _ 1 (by omega)]; exact hc 1 _ rfl, l1, g1⟩

def rd_L3 (xs : List (List S31)) (i : Int) : (List S31) := xs.getD i.toNat ([] : List S31)
theorem at_L3 {w : World} {A : Option Addr} {n : Nat} {xs : List (List S31)} (h : Kd.C (Kd.slice 31 k31) w A n xs) (i : Int) (h0 : 0 ≤ i) (h1 : i < n) : ∃ ad A0 c0, A = some ad ∧ w.cell? (ad.add i.toNat) = some (.slice A0 (rd_L3 xs i).length c0) ∧ (rd_L3 xs i).length ≤ c0 ∧ k31.C w A0 (rd_L3 xs i).length (rd_L3 xs i) := by
 obtain ⟨ad, c, e, _, hK, hc0⟩ := Kd.C_get h ([] : List S31) i h0 h1
 have hc : ∀ j u, c[j]? = some u → w.cell? (ad.add (i.toNat * 1 + j)) = some u := hc0
 obtain ⟨A0, c0, rfl, l0, g0⟩ := hK
 exact ⟨ad, A0, c0, e, by have hq := hc 0 _ rfl; rwa [Nat.mul_one, Nat.add_zero] at hq, l0, g0⟩

/-! #### ours: the builtin copy between rows of whole numbers -/
def cpy {α : Type} (ys xs : List α) : List α := ys.take (min ys.length xs.length) ++ xs.drop (min ys.length xs.length)
theorem cpy_length {α : Type} (ys xs : List α) : (cpy ys xs).length = xs.length := by
 unfold cpy
 rw [List.length_append, List.length_take, List.length_drop]
 omega
theorem copy_run {P : Program} {W : World} {k : IntKind} (base : Nat) (t t' ty e : TypeId) (z : Option Value) (by_ : Nat) (ht : P.underlying t = some (.slice e)) (hinfo : (P.info? e).map (fun i => (i.zero, i.size, i.bytes)) = some (z, 1, by_))
  (v : Value) (xs ys : List Int) (A : Option Addr) (m c : Nat) (ok : Nat → Prop) (HO : (Kd.int k).R e W base ok v xs) (HR : (Kd.int k).C W A m ys) :
  ∃ w1, (Builtin.copy_ #[t, t'] ty #[v, .slice A m c]).run P W = .ok (goInt ((min ys.length xs.length : Nat) : Int)) w1 ∧ (Kd.int k).R e w1 base ok v (cpy ys xs) ∧ W.grownBy w1 v.ownBlock := by
 have hsz : (P.info? e).map (·.size) = some 1 := by
  cases hq : P.info? e with
  | none => rw [hq] at hinfo; cases hinfo
  | some i =>
   rw [hq] at hinfo
   simp only [Option.map_some, Option.some.injEq, Prod.mk.injEq] at hinfo ⊢
   exact hinfo.2.1
 have hR := Kd.reads_of_C (enc := Value.int k) (d := 0) (h1 := fun _ => rfl) HR
 have hm : ys.length = m := hR.1
 have hown := Kd.own_of_R (enc := Value.int k) (h1 := fun _ => rfl) HO
 unfold cpy
 rw [hm]
 rcases Nat.eq_zero_or_pos (min m xs.length) with h0 | hp
 ·obtain ⟨A', c', hv⟩ := own_slice hown
  refine ⟨W, ?_, by rw [h0, List.take_zero, List.drop_zero, List.nil_append]; exact HO, World.grownBy.refl W _⟩
  rw [h0, hv]
  exact run_copy_none W t t' ty e A' A xs.length c' m c ht hsz h0
 ·obtain ⟨ad, hA, hc⟩ := hR.2.2 (by omega)
  rcases hown.2 with ⟨_, hx0⟩ | ⟨g, cap, cur, hv, hb, hh, hnc, hcm, hcs, htake⟩
  ·omega
  have hcs1 : cur.size = cap := by omega
  have hsrc : ∀ j u, (encs (Value.int k) (ys.take (min m xs.length)))[j]? = some u → W.cell? (ad.add j) = some u := by
   intro j u hu
   have hj : j < (ys.take (min m xs.length)).length := by
    rcases Nat.lt_or_ge j (ys.take (min m xs.length)).length with h | h
    ·exact h
    ·rw [List.getElem?_eq_none (by rw [encs_length]; exact h)] at hu
     cases hu
   have hjm : j < min m xs.length := by rw [List.length_take] at hj; omega
   rw [encs_get (d := 0) _ j hj] at hu
   rw [hc j (by omega), ← hu]
   simp [List.getD_eq_getElem?_getD, hjm]
  have hkl : (encs (Value.int k) (ys.take (min m xs.length))).length = min m xs.length := by rw [encs_length, List.length_take]; omega
  have hr := run_copy_cells (P := P) W t t' ty e g 0 xs.length cap ad m c (encs (Value.int k) (ys.take (min m xs.length))) ht hsz (by rw [hkl]) hsrc
   (fun j hj => by rw [cell_of_row W g _ cur e (0, 0) hh]; simp; omega) (fun j _ => blk_frozen hh _) (by intro u hu; simp only [encs, List.mem_map] at hu; obtain ⟨q, _, rfl⟩ := hu; rfl)
  obtain ⟨cur', h3, h4, h5⟩ := setCells_row (encs (Value.int k) (ys.take (min m xs.length))) 0 W cur hh (by rw [hkl]; omega)
  obtain ⟨s1, s2, s3, s4⟩ := setCells_same g (encs (Value.int k) (ys.take (min m xs.length))) 0 W
  refine ⟨_, by rw [hv, hA, hr, hkl], Kd.R_of_own ?_ HO.1, ⟨s1, s2, s3, by rw [s4]; exact Nat.le_refl _, fun k' _ hk => setCells_far _ _ k' (fun he => hk (by rw [hv, he]; simp [Value.ownBlock]))⟩⟩
  have hln : (ys.take (min m xs.length) ++ xs.drop (min m xs.length)).length = xs.length := by
   rw [List.length_append, List.length_take, List.length_drop]
   omega
  rw [hln]
  refine ⟨by rw [encs_length, hln, Nat.mul_one], .inr ⟨g, cap, cur', hv, hb, h3, hnc, hcm, by rw [h4, hcs], ?_⟩⟩
  rw [h5, List.take_zero, List.nil_append, hkl, Nat.zero_add, encs_append, Nat.mul_one]
  rw [List.take_append, hkl, List.take_of_length_le (by rw [hkl]; omega)]
  congr 1
  have htk : cur.toList.take xs.length = encs (Value.int k) xs := by rw [← htake, Nat.mul_one]
  have hd : encs (Value.int k) (xs.drop (min m xs.length)) = (encs (Value.int k) xs).drop (min m xs.length) := by simp [encs, List.map_drop]
  rw [hd, ← htk, List.drop_take]
section
variable {P : Program} {ops : Array Oper} {rest : List Oper} {o : Oper} {a : Act} {Q : Exit → Act → World → Prop} {Kc : Act → World → Prop} {k : IntKind}
theorem R_copy {w0 W : World} (base : Nat) (hgd : o.guard = none) (s x : Operand) (t t' e : TypeId)
  (ho : o.op = .call { callee := .builtin .copy, args := #[s, x], argTypes := #[t, t'] }) (ht : P.underlying t = some (.slice e)) {z : Option Value} {by_ : Nat} (hinfo : (P.info? e).map (fun i => (i.zero, i.size, i.bytes)) = some (z, 1, by_))
  (v : Value) (xs ys : List Int) (A : Option Addr) (m c : Nat) (ok : Nat → Prop) (hs : a.eval s = v) (hx : a.eval x = .slice A m c)
  (HO : (Kd.int k).R e W base ok v xs) (HR : (Kd.int k).C W A m ys) (HB : Below base w0 W) (hbase : base ≤ W.heap.size)
  (h : ∀ w1, (Kd.int k).R e w1 base ok v (cpy ys xs) → Below base w0 w1 → W.grownBy w1 v.ownBlock → wpList P ops Q rest (a.put o.dst (.int .i64 ((min ys.length xs.length : Nat) : Int))) w1) :
  wpList P ops Q (o :: rest) a W := by
 obtain ⟨w1, hr, hrow, hg⟩ := copy_run (P := P) base t t' o.type e z by_ ht hinfo v xs ys A m c ok HO HR
 refine wpList_plain hgd fun K hK => ?_
 unfold Oper.wp execOp
 simp only [ho, resolve, invoke, builtin, Sem.run_bind, Sem.run_pure, Result.andThen_ok, List.map_toArray, List.map_cons, List.map_nil, hs, hx, hr]
 exact hK _ _ (h w1 hrow (HB.grown hg hbase (own_base (Kd.own_of_R (enc := Value.int k) (h1 := fun _ => rfl) HO))) hg)
theorem R_copy_step {w0 W : World} (base : Nat) (hw : Region.wanted o (yielded ops a.tmps) = true) (s x : Operand) (t t' e : TypeId)
  (ho : o.op = .call { callee := .builtin .copy, args := #[s, x], argTypes := #[t, t'] }) (ht : P.underlying t = some (.slice e)) {z : Option Value} {by_ : Nat} (hinfo : (P.info? e).map (fun i => (i.zero, i.size, i.bytes)) = some (z, 1, by_))
  (v : Value) (xs ys : List Int) (A : Option Addr) (m c : Nat) (ok : Nat → Prop) (hs : a.eval s = v) (hx : a.eval x = .slice A m c)
  (HO : (Kd.int k).R e W base ok v xs) (HR : (Kd.int k).C W A m ys) (HB : Below base w0 W) (hbase : base ≤ W.heap.size)
  (h : ∀ w1, (Kd.int k).R e w1 base ok v (cpy ys xs) → Below base w0 w1 → W.grownBy w1 v.ownBlock → Kc (a.put o.dst (.int .i64 ((min ys.length xs.length : Nat) : Int))) w1) :
  if Region.wanted o (yielded ops a.tmps) = true then Oper.wp P o a W Kc Q else Kc (a.put o.dst undef) W := by
 obtain ⟨w1, hr, hrow, hg⟩ := copy_run (P := P) base t t' o.type e z by_ ht hinfo v xs ys A m c ok HO HR
 rw [if_pos hw]
 unfold Oper.wp execOp
 simp only [ho, resolve, invoke, builtin, Sem.run_bind, Sem.run_pure, Result.andThen_ok, List.map_toArray, List.map_cons, List.map_nil, hs, hx, hr]
 exact h w1 hrow (HB.grown hg hbase (own_base (Kd.own_of_R (enc := Value.int k) (h1 := fun _ => rfl) HO))) hg
end
theorem X_dset (w : World) (n : Nat) (p : Addr) (v : Value) : (w.drewN n).setCell p v = (w.setCell p v).drewN n := rfl
theorem X_dcell (w : World) (n : Nat) (p : Addr) : (w.drewN n).cell? p = w.cell? p := rfl

end Go.Proofs.Ytpifepaflljolaa.PMem
