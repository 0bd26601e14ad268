-- By wip/xprint.py (a driver of this session's over the kit's print), for this claim.
import Derived.Test.YtoakfejpmlgbcaaDoorPIsax0
import Derived.Test.YtoakfejpmlgbcaaDoorPIsax40
import Derived.Test.YtoakfejpmlgbcaaDoorPIsax41
namespace Go.Proofs.YtoakfejpmlgbcaaDoor.PIsa
open Go.RowKit Go.Proofs.YtoakfejpmlgbcaaDoorW.PrintWords Go.Proofs.YtoakfejpmlgbcaaDoorW.PrintLast Go.Proofs.YtoakfejpmlgbcaaDoorW.PrintMore
attribute [local go_sem] max2_int min2_int max_two min_two max_three min_three max_four min_four   -- for this text's walks alone
set_option linter.unusedVariables false
set_option linter.unusedSimpArgs false

/-! ### isa_Run: function 24, by hand -/
/-- The builtin copy into a block: what it holds behind it. -/
theorem copy_blk {P : Program} {W : World} (g o n cap : Nat) (cur : List Value) (t_ : TypeId) (hg : W.heap[g]? = some (.cells cur.toArray t_ (0, 0))) (hfit : o + n ≤ cur.length) (ys : List Int) (A : Option Addr) (m c : Nat) (HR : (Kd.int .i64).C W A m ys)
    (t t' ty e : TypeId) (ht : P.underlying t = some (.slice e)) (hsz : (P.info? e).map (·.size) = some 1) :
    ∃ w1, (Builtin.copy_ #[t, t'] ty #[.slice (some ⟨g, o, none⟩) n cap, .slice A m c]).run P W = .ok (goInt ((min m n : Nat) : Int)) w1 ∧ w1.heap[g]? = some (.cells (cur.take o ++ (ys.take (min m n)).map (Value.int .i64) ++ cur.drop (o + min m n)).toArray t_ (0, 0)) ∧ W.grownBy w1 (some g) := by
  have hR := Kd.reads_of_C (enc := Value.int .i64) (d := 0) (h1 := fun _ => rfl) HR
  have hm : ys.length = m := hR.1
  rcases Nat.eq_zero_or_pos (min m n) with h0 | hp
  · refine ⟨W, ?_, ?_, World.grownBy.refl W _⟩
    · rw [h0]
      exact run_copy_none W t t' ty e (some ⟨g, o, none⟩) A n cap m c ht hsz h0
    · rw [h0, hg]
      simp
  · obtain ⟨ad, hA, hc⟩ := hR.2.2 (by omega)
    have hkl : ((ys.take (min m n)).map (Value.int .i64)).length = min m n := by rw [List.length_map, List.length_take]; omega
    have hsrc : ∀ j u, ((ys.take (min m n)).map (Value.int .i64))[j]? = some u → W.cell? (ad.add j) = some u := by
      intro j u hu
      have hj : j < min m n := by
        have := (List.getElem?_eq_some_iff.1 hu).1
        omega
      rw [hc j (by omega), ← hu]
      simp [List.getD_eq_getElem?_getD, hj, List.getElem?_take, List.getElem?_eq_getElem (show j < ys.length by omega)]
    have hr := run_copy_cells (P := P) W t t' ty e g o n cap ad m c ((ys.take (min m n)).map (Value.int .i64)) ht hsz (by rw [hkl]) hsrc
      (fun j hj => by rw [cell_of_row W g _ _ t_ (0, 0) hg]; simp; omega) (fun j _ => blk_frozen hg _) (by intro u hu; simp only [List.mem_map] at hu; obtain ⟨q, _, rfl⟩ := hu; rfl)
    obtain ⟨cur', h3, h4, h5⟩ := setCells_row ((ys.take (min m n)).map (Value.int .i64)) o W cur.toArray hg (by rw [hkl]; simp; omega)
    obtain ⟨s1, s2, s3, s4⟩ := setCells_same g ((ys.take (min m n)).map (Value.int .i64)) o W
    refine ⟨_, by rw [hA, hr, hkl], ?_, ⟨s1, s2, s3, by rw [s4]; exact Nat.le_refl _, fun k' _ hk => setCells_far _ _ k' (fun he => hk (by rw [he]))⟩⟩
    rw [h3]
    congr 2
    apply Array.ext'
    rw [h5, hkl]
section
variable {P : Program} {ops : Array Oper} {rest : List Oper} {o : Oper} {a : Act} {W : World} {Q : Exit → Act → World → Prop}
theorem copy_event (hgd : o.guard = none) (s x : Operand) (t t' e : TypeId) (ho : o.op = .call { callee := .builtin .copy, args := #[s, x], argTypes := #[t, t'] }) (ht : P.underlying t = some (.slice e)) (hsz : (P.info? e).map (·.size) = some 1)
    (g of_ n cap : Nat) (cur : List Value) (t_ : TypeId) (hg : W.heap[g]? = some (.cells cur.toArray t_ (0, 0))) (hfit : of_ + n ≤ cur.length) (ys : List Int) (A : Option Addr) (m c : Nat) (hs : a.eval s = .slice (some ⟨g, of_, none⟩) n cap) (hx : a.eval x = .slice A m c) (HR : (Kd.int .i64).C W A m ys)
    (h : ∀ w1, w1.heap[g]? = some (.cells (cur.take of_ ++ (ys.take (min m n)).map (Value.int .i64) ++ cur.drop (of_ + min m n)).toArray t_ (0, 0)) → W.grownBy w1 (some g) → wpList P ops Q rest (a.put o.dst (.int .i64 ((min m n : Nat) : Int))) w1) : wpList P ops Q (o :: rest) a W := by
  obtain ⟨w1, hr, h1, h2⟩ := copy_blk (P := P) g of_ n cap cur t_ hg hfit ys A m c HR t t' o.type e ht hsz
  refine wpList_plain hgd fun K hK => ?_
  unfold Oper.wp execOp
  simp only [ho, resolve, invoke, builtin, Sem.run_bind, Sem.run_pure, Result.andThen_ok, List.map_toArray, List.map_cons, List.map_nil, hs, hx, hr]
  exact hK _ _ (h w1 h1 h2)
theorem make_event (hgd : o.guard = none) (t e : TypeId) (x y : Operand) (ho : o.op = .makeSlice t x y) (n : Int) (hx : a.eval x = .int .i64 n) (hy : a.eval y = .int .i64 n) (ht : P.underlying t = some (.slice e)) (hinfo : (P.info? e).map (fun i => (i.zero, i.size, i.bytes)) = some (some (.int .i64 0), 1, 8)) (h0 : 0 ≤ n) (h1 : n ≤ 1000000)
    (h : ∀ g, g = W.heap.size → ∀ w1, w1.heap[g]? = some (.cells ((List.replicate n.toNat (0 : Int)).map (Value.int .i64)).toArray e (0, 0)) → Below W.heap.size W w1 → wpList P ops Q rest (a.put o.dst (.slice (some ⟨g, 0, none⟩) n.toNat n.toNat)) w1) : wpList P ops Q (o :: rest) a W := by
  cases hq : P.info? e with
  | none => rw [hq] at hinfo; cases hinfo
  | some i =>
    rw [hq] at hinfo
    simp only [Option.map_some, Option.some.injEq, Prod.mk.injEq] at hinfo
    obtain ⟨hz, hs, hb⟩ := hinfo
    have hr := run_makeSlice (P := P) (w := W) t e i (.int .i64 0) ht hq hz .i64 .i64 n n h0 (Int.le_refl _) (by rw [hs]; omega) (by rw [hb]; omega) (by omega)
    refine wpList_plain hgd fun K hK => ?_
    unfold Oper.wp execOp
    simp only [ho, hx, hy, hr, Sem.run_bind, Sem.run_pure, Result.andThen_ok]
    refine hK _ _ (h _ rfl _ ?_ (below_alloc (Below.refl _ _) _))
    rw [blk_new]
    congr 2
    rw [hs]
    apply Array.ext'
    simp only [madeCells, Value.cells, Nat.mul_one, Array.toList_map, Array.toList_range]
    apply List.ext_getElem (by simp)
    intro i h1 h2
    simp [Nat.mod_one]
end
def cs0 (size entry : Int) (args : List Int) : List Int := ((zeros17.set 16 entry).set 14 (wrap64 (size - 1))).take 1 ++ args.take (min args.length 15) ++ ((zeros17.set 16 entry).set 14 (wrap64 (size - 1))).drop (1 + min args.length 15)
def mem0 (words : List Int) (size : Int) : List Int := (words.take (min words.length size.toNat) ++ (List.replicate size.toNat (0 : Int)).drop (min words.length size.toNat)).set (wrap64 (size - 1)).toNat (-1)
theorem cs0_len (size entry : Int) (args : List Int) : (cs0 size entry args).length = 17 := by
  unfold cs0
  simp only [List.length_append, List.length_take, List.length_drop, List.length_set]
  show min 1 17 + min (min args.length 15) args.length + (17 - (1 + min args.length 15)) = 17
  omega
theorem mem0_len (words : List Int) (size : Int) : (mem0 words size).length = size.toNat := by
  unfold mem0
  rw [List.length_set]
  simp only [List.length_append, List.length_take, List.length_drop, List.length_replicate]
  omega
/-- The machine's loop: its error, whether it threw, its value, what was printed. -/
def isa_Run.l : Nat → Int → Int → List Int → List Int → List Int → Option (Int × Bool × Int × List Int)
  | 0, _, _, _, _, _ => none
  | k + 1, steps, n, cs, mem, out => if cs.getD 16 0 = -1 then some (0, cs.getD 13 0 != 0, cs.getD 0 0, out) else if n ≥ steps then some (13, false, 0, out) else (isa_machine_step.f cs mem out).bind fun s => if s.1 = true then isa_Run.l k steps (wrap64 (n + 1)) s.2.1 s.2.2.1 s.2.2.2 else some (14, false, 0, s.2.2.2)
def isa_Run.f (k : Nat) (words : List Int) (size entry : Int) (args : List Int) (steps : Int) : Option (Int × Bool × Int × List Int) :=
  if words.length > 1099511627776 then none else if size < (words.length : Int) + 16 ∨ size > 16384 ∨ (args.length : Int) > 4 ∨ steps < 0 ∨ steps > 200000 then some (1, false, 0, []) else isa_Run.l k steps 0 (cs0 size entry args) (mem0 words size) []
theorem isa_Run.mono_l : ∀ k steps n cs mem out, LeO (isa_Run.l k steps n cs mem out) (isa_Run.l (k + 1) steps n cs mem out)
  | 0, _, _, _, _, _ => LeO.none _
  | k + 1, steps, n, cs, mem, out => by
    unfold isa_Run.l
    refine LeO.ite (LeO.refl _) (LeO.ite (LeO.refl _) (LeO.bind (LeO.refl _) (fun s => LeO.ite (isa_Run.mono_l k _ _ _ _ _) (LeO.refl _))))
theorem isa_Run.mono : ∀ words size entry args steps k, LeO (isa_Run.f k words size entry args steps) (isa_Run.f (k + 1) words size entry args steps) := by
  intro words size entry args steps k
  unfold isa_Run.f
  exact LeO.ite (LeO.refl _) (LeO.ite (LeO.refl _) (isa_Run.mono_l _ _ _ _ _ _))
theorem isa_machine_step.out_len {cs mem out : List Int} {r : Bool} {cs' mem' out' : List Int} (h : isa_machine_step.f cs mem out = some (r, cs', mem', out')) : out'.length ≤ out.length + 1 := by
  unfold isa_machine_step.f at h
  split at h
  · obtain ⟨d, _, h⟩ := Option.bind_eq_some_iff.mp h
    split at h
    · obtain ⟨q, _, h⟩ := Option.bind_eq_some_iff.mp h
      split at h
      · simp only [Option.some.injEq, Prod.mk.injEq] at h
        rw [← h.2.2.2]
        omega
      · obtain ⟨x, _, h⟩ := Option.bind_eq_some_iff.mp h
        split at h
        · simp only [Option.some.injEq, Prod.mk.injEq] at h
          rw [← h.2.2.2]
          split
          · simp
          · omega
        · simp only [Option.some.injEq, Prod.mk.injEq] at h
          rw [← h.2.2.2]
          omega
    · simp only [Option.some.injEq, Prod.mk.injEq] at h
      rw [← h.2.2.2]
      omega
  · simp only [Option.some.injEq, Prod.mk.injEq] at h
    rw [← h.2.2.2]
    omega
theorem isa_machine_step.cs_len {cs mem out : List Int} {r : Bool} {cs' mem' out' : List Int} (hc : cs.length = 17) (h : isa_machine_step.f cs mem out = some (r, cs', mem', out')) : cs'.length = 17 := by
  unfold isa_machine_step.f at h
  split at h
  · obtain ⟨d, _, h⟩ := Option.bind_eq_some_iff.mp h
    split at h
    · obtain ⟨q, _, h⟩ := Option.bind_eq_some_iff.mp h
      split at h
      · simp only [Option.some.injEq, Prod.mk.injEq] at h
        rw [← h.2.1]
        exact hc
      · obtain ⟨⟨x0, x1, x2, x3, x4, x5, x6⟩, hx, h⟩ := Option.bind_eq_some_iff.mp h
        split at h
        · simp only [Option.some.injEq, Prod.mk.injEq] at h
          rw [← h.2.1]
          exact isa_Execute.len hc hx
        · simp only [Option.some.injEq, Prod.mk.injEq] at h
          rw [← h.2.1]
          exact hc
    · simp only [Option.some.injEq, Prod.mk.injEq] at h
      rw [← h.2.1]
      exact hc
  · simp only [Option.some.injEq, Prod.mk.injEq] at h
    rw [← h.2.1]
    exact hc
theorem one_out (a : Int) (b : Bool) (c : Int) (v : Value) (hv : v.oneCell' = true) : (#[.int .i64 a, .bool b, .int .i64 c, v] : Array Value).all (·.oneCell') = true := by
  apply Array.all_eq_true_iff_forall_mem.2
  intro x hx
  simp only [List.mem_toArray, List.mem_cons, List.not_mem_nil, or_false] at hx
  rcases hx with rfl | rfl | rfl | rfl
  · rfl
  · rfl
  · rfl
  · exact hv
theorem built_mac (g n : Nat) : Tryd.prog.built 72 [(1, .slice (some ⟨g, 0, none⟩) n n)] = some (cellsM zeros17 (.slice (some ⟨g, 0, none⟩) n n) (.slice none 0 0)) := by kernel_rfl
theorem cellsM_one {cs : List Int} {vm vo : Value} (hm : vm.oneCell' = true) (ho : vo.oneCell' = true) : (cellsM cs vm vo).all (·.oneCell') = true := by
  apply Array.all_eq_true_iff_forall_mem.2
  intro x hx
  simp only [cellsM, List.mem_toArray, List.mem_append, List.mem_map, List.mem_cons, List.not_mem_nil, or_false] at hx
  rcases hx with ⟨_, _, rfl⟩ | rfl | rfl
  · rfl
  · exact hm
  · exact ho
theorem cs0_cells (cs args : List Int) (vm vo : Value) (hc : cs.length = 17) : (((cs.map (Value.int .i64) ++ [vm, vo]).take 1 ++ (args.take (min args.length 15)).map (Value.int .i64) ++ (cs.map (Value.int .i64) ++ [vm, vo]).drop (1 + min args.length 15)).toArray) = cellsM (cs.take 1 ++ args.take (min args.length 15) ++ cs.drop (1 + min args.length 15)) vm vo := by
  unfold cellsM
  congr 1
  rw [List.take_append_of_le_length (by simp; omega), List.drop_append_of_le_length (by simp; omega)]
  simp [List.map_take, List.map_drop]
set_option maxHeartbeats 8000000 in
set_option maxRecDepth 100000 in
theorem isa_Run.calls (k : Nat) (A0 : Option Addr) (c0 : Nat) (l0 : List Int) (a1 : Int) (a2 : Int) (A3 : Option Addr) (c3 : Nat) (l3 : List Int) (a4 : Int) (r1 : Int) (r2 : Bool) (r3 : Int) (r4 : List Int) (w : World) (hGl : Aside0 (Glob w)) (hr0 : Kd.C (Kd.int .i64) w A0 l0.length l0) (hc0 : l0.length ≤ c0) (hr3 : Kd.C (Kd.int .i64) w A3 l3.length l3) (hc3 : l3.length ≤ c3) (h : isa_Run.f k l0 a1 a2 l3 a4 = some (r1, r2, r3, r4)) :
    Calls Tryd.prog 24 #[.slice A0 l0.length c0, .int .i64 a1, .int .i64 a2, .slice A3 l3.length c3, .int .i64 a4] w fun e w' => ∃ v0_3 : Value, e = .returned (.agg #[.int .i64 r1, .bool r2, .int .i64 r3, v0_3]) ∧ Kd.R (Kd.int .i64) 3 w' w.heap.size (fun _ => True) v0_3 r4 ∧ Below w.heap.size w w' := by
  have HB := Aside0.mk (Below.refl w.heap.size w)
  have HR0 := Aside0.mk hr0
  have HR3 := Aside0.mk hr3
  have hu72 := Tryd.underlying72
  have hu35 := Tryd.underlying35
  have hu33 := Tryd.underlying33
  have hu48 := Tryd.underlying48
  clear hr0 hr3
  unfold isa_Run.f at h
  by_cases cl : l0.length > 1099511627776
  · rw [if_pos cl] at h
    cases h
  rw [if_neg cl] at h
  have hwr : wrap64 ((l0.length : Int) + 16) = (l0.length : Int) + 16 := by unfold wrap64; omega
  clear hc0 hc3
  have H := Aside0.mk h
  clear h
  go_enter Tryd.func24, Tryd.ntmps24
  go_upto_region 1 with (first | ((with_reducible refine gate_dst (N := 10) rfl ?_); refine box_event ?hg (N := 10) ?hd (cs := #[.int .i64 0, .bool false, .int .i64 0, .slice none 0 0]) (t := 48) ?hr ?_; (case hd => rfl); (case hg => rfl); (case hr => first | (go_simp; done) | (go_simp; rfl)); intro gb10 hg w10 hbox hb; have n0_ := Aside0.mk (below_step (by repeat (first | (with_reducible first | exact HB.out | apply below_alloc | apply pw_below_drewN | apply below_drew1) | exact HB.out)) hb); have n1_ := Aside0.mk hbox; have n2_ := Aside0.mk ((by rw [hg]; exact (below_size (by repeat (first | (with_reducible first | exact HB.out | apply below_alloc | apply pw_below_drewN | apply below_drew1) | exact HB.out)))) : w.heap.size ≤ gb10); clear HB; have HB := n0_; have BK10 := n1_; have GE10 := n2_; clear n0_ n1_ n2_; clear hb hbox hg))
  by_cases g0 : a1 < (l0.length : Int) + 16
  · have h := H.out
    clear H
    rw [if_pos (show _ from (.inl g0))] at h
    simp only [Option.some.injEq, Prod.mk.injEq] at h
    obtain ⟨rfl, rfl, rfl, rfl⟩ := h
    have q0 : decide (a1 < (l0.length : Int) + 16) = true := decide_eq_true g0
    clear g0
    go_wp2_with (first | ((with_reducible refine gate_store (t := 48) (p := 10) rfl ?_); refine row_event (by rfl) 48 _ _ rfl gb10 (#[.int .i64 1, .bool false, .int .i64 0, .slice none 0 0]) _ _ (by (with_reducible repeat (first | exact BK10.out | refine blk_drewN ?_ _ | refine blk_drew ?_ | refine blk_alloc ?_ _)); try exact BK10.out) (by rfl) (by rfl) (by kernel_rfl) (by rfl) (one_out 1 false 0 _ rfl) ?_; intro w10_ hbox hg; have n0_ := Aside0.mk (pw_below_grown (by repeat (first | (with_reducible first | exact HB.out | apply below_alloc | apply pw_below_drewN | apply below_drew1) | exact HB.out)) (some gb10) (below_size (by repeat (first | (with_reducible first | exact HB.out | apply below_alloc | apply pw_below_drewN | apply below_drew1) | exact HB.out))) hg (by rintro k_ e_; injection e_ with e_; rw [← e_]; exact GE10.out)); have n1_ := Aside0.mk hbox; clear HB BK10; have HB := n0_; have BK10 := n1_; clear n0_ n1_; clear hg hbox))
    refine bodyPost_ret (results_cell_row rfl _ _ gb10 48 (#[.int .i64 1, .bool false, .int .i64 0, .slice none 0 0]) (0, 0) _ rfl (by (with_reducible repeat (first | exact BK10.out | refine blk_drewN ?_ _ | refine blk_drew ?_ | refine blk_alloc ?_ _)); try exact BK10.out) Tryd.underlying48 rfl (by kernel_rfl)) rfl ?_
    exact ⟨_, rfl, Kd.R_nil _ _ _ _ _, (by repeat (first | (with_reducible first | exact HB.out | apply below_alloc | apply pw_below_drewN | apply below_drew1) | exact HB.out))⟩
  have q0 : decide (a1 < (l0.length : Int) + 16) = false := decide_eq_false g0
  by_cases g1 : a1 > 16384
  · have h := H.out
    clear H
    rw [if_pos (show _ from (.inr (.inl g1)))] at h
    simp only [Option.some.injEq, Prod.mk.injEq] at h
    obtain ⟨rfl, rfl, rfl, rfl⟩ := h
    have q1 : decide (16384 < a1) = true := decide_eq_true g1
    clear g1
    go_wp2_with (first | ((with_reducible refine gate_store (t := 48) (p := 10) rfl ?_); refine row_event (by rfl) 48 _ _ rfl gb10 (#[.int .i64 1, .bool false, .int .i64 0, .slice none 0 0]) _ _ (by (with_reducible repeat (first | exact BK10.out | refine blk_drewN ?_ _ | refine blk_drew ?_ | refine blk_alloc ?_ _)); try exact BK10.out) (by rfl) (by rfl) (by kernel_rfl) (by rfl) (one_out 1 false 0 _ rfl) ?_; intro w10_ hbox hg; have n0_ := Aside0.mk (pw_below_grown (by repeat (first | (with_reducible first | exact HB.out | apply below_alloc | apply pw_below_drewN | apply below_drew1) | exact HB.out)) (some gb10) (below_size (by repeat (first | (with_reducible first | exact HB.out | apply below_alloc | apply pw_below_drewN | apply below_drew1) | exact HB.out))) hg (by rintro k_ e_; injection e_ with e_; rw [← e_]; exact GE10.out)); have n1_ := Aside0.mk hbox; clear HB BK10; have HB := n0_; have BK10 := n1_; clear n0_ n1_; clear hg hbox))
    refine bodyPost_ret (results_cell_row rfl _ _ gb10 48 (#[.int .i64 1, .bool false, .int .i64 0, .slice none 0 0]) (0, 0) _ rfl (by (with_reducible repeat (first | exact BK10.out | refine blk_drewN ?_ _ | refine blk_drew ?_ | refine blk_alloc ?_ _)); try exact BK10.out) Tryd.underlying48 rfl (by kernel_rfl)) rfl ?_
    exact ⟨_, rfl, Kd.R_nil _ _ _ _ _, (by repeat (first | (with_reducible first | exact HB.out | apply below_alloc | apply pw_below_drewN | apply below_drew1) | exact HB.out))⟩
  have q1 : decide (16384 < a1) = false := decide_eq_false g1
  by_cases g2 : (l3.length : Int) > 4
  · have h := H.out
    clear H
    rw [if_pos (show _ from (.inr (.inr (.inl g2))))] at h
    simp only [Option.some.injEq, Prod.mk.injEq] at h
    obtain ⟨rfl, rfl, rfl, rfl⟩ := h
    have q2 : decide (4 < (l3.length : Int)) = true := decide_eq_true g2
    clear g2
    go_wp2_with (first | ((with_reducible refine gate_store (t := 48) (p := 10) rfl ?_); refine row_event (by rfl) 48 _ _ rfl gb10 (#[.int .i64 1, .bool false, .int .i64 0, .slice none 0 0]) _ _ (by (with_reducible repeat (first | exact BK10.out | refine blk_drewN ?_ _ | refine blk_drew ?_ | refine blk_alloc ?_ _)); try exact BK10.out) (by rfl) (by rfl) (by kernel_rfl) (by rfl) (one_out 1 false 0 _ rfl) ?_; intro w10_ hbox hg; have n0_ := Aside0.mk (pw_below_grown (by repeat (first | (with_reducible first | exact HB.out | apply below_alloc | apply pw_below_drewN | apply below_drew1) | exact HB.out)) (some gb10) (below_size (by repeat (first | (with_reducible first | exact HB.out | apply below_alloc | apply pw_below_drewN | apply below_drew1) | exact HB.out))) hg (by rintro k_ e_; injection e_ with e_; rw [← e_]; exact GE10.out)); have n1_ := Aside0.mk hbox; clear HB BK10; have HB := n0_; have BK10 := n1_; clear n0_ n1_; clear hg hbox))
    refine bodyPost_ret (results_cell_row rfl _ _ gb10 48 (#[.int .i64 1, .bool false, .int .i64 0, .slice none 0 0]) (0, 0) _ rfl (by (with_reducible repeat (first | exact BK10.out | refine blk_drewN ?_ _ | refine blk_drew ?_ | refine blk_alloc ?_ _)); try exact BK10.out) Tryd.underlying48 rfl (by kernel_rfl)) rfl ?_
    exact ⟨_, rfl, Kd.R_nil _ _ _ _ _, (by repeat (first | (with_reducible first | exact HB.out | apply below_alloc | apply pw_below_drewN | apply below_drew1) | exact HB.out))⟩
  have q2 : decide (4 < (l3.length : Int)) = false := decide_eq_false g2
  by_cases g3 : a4 < 0
  · have h := H.out
    clear H
    rw [if_pos (show _ from (.inr (.inr (.inr (.inl g3)))))] at h
    simp only [Option.some.injEq, Prod.mk.injEq] at h
    obtain ⟨rfl, rfl, rfl, rfl⟩ := h
    have q3 : decide (a4 < 0) = true := decide_eq_true g3
    clear g3
    go_wp2_with (first | ((with_reducible refine gate_store (t := 48) (p := 10) rfl ?_); refine row_event (by rfl) 48 _ _ rfl gb10 (#[.int .i64 1, .bool false, .int .i64 0, .slice none 0 0]) _ _ (by (with_reducible repeat (first | exact BK10.out | refine blk_drewN ?_ _ | refine blk_drew ?_ | refine blk_alloc ?_ _)); try exact BK10.out) (by rfl) (by rfl) (by kernel_rfl) (by rfl) (one_out 1 false 0 _ rfl) ?_; intro w10_ hbox hg; have n0_ := Aside0.mk (pw_below_grown (by repeat (first | (with_reducible first | exact HB.out | apply below_alloc | apply pw_below_drewN | apply below_drew1) | exact HB.out)) (some gb10) (below_size (by repeat (first | (with_reducible first | exact HB.out | apply below_alloc | apply pw_below_drewN | apply below_drew1) | exact HB.out))) hg (by rintro k_ e_; injection e_ with e_; rw [← e_]; exact GE10.out)); have n1_ := Aside0.mk hbox; clear HB BK10; have HB := n0_; have BK10 := n1_; clear n0_ n1_; clear hg hbox))
    refine bodyPost_ret (results_cell_row rfl _ _ gb10 48 (#[.int .i64 1, .bool false, .int .i64 0, .slice none 0 0]) (0, 0) _ rfl (by (with_reducible repeat (first | exact BK10.out | refine blk_drewN ?_ _ | refine blk_drew ?_ | refine blk_alloc ?_ _)); try exact BK10.out) Tryd.underlying48 rfl (by kernel_rfl)) rfl ?_
    exact ⟨_, rfl, Kd.R_nil _ _ _ _ _, (by repeat (first | (with_reducible first | exact HB.out | apply below_alloc | apply pw_below_drewN | apply below_drew1) | exact HB.out))⟩
  have q3 : decide (a4 < 0) = false := decide_eq_false g3
  by_cases g4 : a4 > 200000
  · have h := H.out
    clear H
    rw [if_pos (show _ from (.inr (.inr (.inr (.inr g4)))))] at h
    simp only [Option.some.injEq, Prod.mk.injEq] at h
    obtain ⟨rfl, rfl, rfl, rfl⟩ := h
    have q4 : decide (200000 < a4) = true := decide_eq_true g4
    clear g4
    go_wp2_with (first | ((with_reducible refine gate_store (t := 48) (p := 10) rfl ?_); refine row_event (by rfl) 48 _ _ rfl gb10 (#[.int .i64 1, .bool false, .int .i64 0, .slice none 0 0]) _ _ (by (with_reducible repeat (first | exact BK10.out | refine blk_drewN ?_ _ | refine blk_drew ?_ | refine blk_alloc ?_ _)); try exact BK10.out) (by rfl) (by rfl) (by kernel_rfl) (by rfl) (one_out 1 false 0 _ rfl) ?_; intro w10_ hbox hg; have n0_ := Aside0.mk (pw_below_grown (by repeat (first | (with_reducible first | exact HB.out | apply below_alloc | apply pw_below_drewN | apply below_drew1) | exact HB.out)) (some gb10) (below_size (by repeat (first | (with_reducible first | exact HB.out | apply below_alloc | apply pw_below_drewN | apply below_drew1) | exact HB.out))) hg (by rintro k_ e_; injection e_ with e_; rw [← e_]; exact GE10.out)); have n1_ := Aside0.mk hbox; clear HB BK10; have HB := n0_; have BK10 := n1_; clear n0_ n1_; clear hg hbox))
    refine bodyPost_ret (results_cell_row rfl _ _ gb10 48 (#[.int .i64 1, .bool false, .int .i64 0, .slice none 0 0]) (0, 0) _ rfl (by (with_reducible repeat (first | exact BK10.out | refine blk_drewN ?_ _ | refine blk_drew ?_ | refine blk_alloc ?_ _)); try exact BK10.out) Tryd.underlying48 rfl (by kernel_rfl)) rfl ?_
    exact ⟨_, rfl, Kd.R_nil _ _ _ _ _, (by repeat (first | (with_reducible first | exact HB.out | apply below_alloc | apply pw_below_drewN | apply below_drew1) | exact HB.out))⟩
  have q4 : decide (200000 < a4) = false := decide_eq_false g4
  have h := H.out
  clear H
  rw [if_neg (fun z => by rcases z with z | z | z | z | z <;> first | exact g0 z | exact g1 z | exact g2 z | exact g3 z | exact g4 z)] at h
  have H := Aside0.mk h
  clear h
  have HZ := Aside0.mk (show wrap64 (a1 - 1) = a1 - 1 from by unfold wrap64; omega)
  have hz0 : 16 ≤ a1 := by omega
  have HB0 := HB
  clear HB
  have HB := Aside0.mk (Below.refl w10.heap.size w10)
  have n10_ := Aside0.mk (show w10.heap[gb10]? = _ from BK10.out)
  go_upto_region 3 with (fail)
  go_wp2_with ((with_reducible refine gate_dst (N := 37) rfl ?_); refine RowKit.Hid.out ?_)
  change wpList _ _ _ _ _ _
  (with_reducible refine gate_dst (N := 37) rfl ?_); refine make_event (by rfl) 44 3 _ _ rfl a1 (by rfl) (by rfl) Tryd.underlying44 (by kernel_rfl) (by omega) (by omega) ?_; intro gb2 hg w2 hbox hb; have n0_ := Aside0.mk (below_step (by repeat (first | (with_reducible first | exact HB.out | apply below_alloc | apply pw_below_drewN | apply below_drew1) | exact HB.out)) hb); have BK2 := Aside0.mk hbox; have GE2 := Aside0.mk ((by rw [hg]; exact (below_size (by repeat (first | (with_reducible first | exact HB.out | apply below_alloc | apply pw_below_drewN | apply below_drew1) | exact HB.out)))) : w10.heap.size ≤ gb2); clear HB; have HB := n0_; clear n0_ hb hbox hg
  ((with_reducible refine gate_dst (N := 38) rfl ?_); refine build_event (by rfl) 72 [(1, .tmp 37)] rfl (cellsM zeros17 (.slice (some ⟨gb2, 0, none⟩) a1.toNat a1.toNat) (.slice none 0 0)) (built_mac gb2 a1.toNat) ?_)
  go_upto_region 4 with (first | ((with_reducible refine gate_dst (N := 11) rfl ?_); refine box_event ?hg (N := 11) ?hd (cs := cellsM zeros17 (.slice none 0 0) (.slice none 0 0)) (t := 72) ?hr ?_; (case hd => rfl); (case hg => rfl); (case hr => first | (go_simp; done) | (go_simp; rfl)); intro gb1 hg w1 hbox hb; have n0_ := Aside0.mk (below_step (by repeat (first | (with_reducible first | exact HB.out | apply below_alloc | apply pw_below_drewN | apply below_drew1) | exact HB.out)) hb); have n1_ := Aside0.mk hbox; have n2_ := Aside0.mk ((by rw [hg]; exact (below_size (by repeat (first | (with_reducible first | exact HB.out | apply below_alloc | apply pw_below_drewN | apply below_drew1) | exact HB.out)))) : w10.heap.size ≤ gb1); have m2_ := Aside0.mk (blk_below (by (with_reducible repeat (first | exact BK2.out | refine blk_drewN ?_ _ | refine blk_drew ?_ | refine blk_alloc ?_ _)); try exact BK2.out) hb); have k2_ := Aside0.mk (show gb2 ≠ gb1 from by rw [hg]; exact Nat.ne_of_lt (blk_lt (by (with_reducible repeat (first | exact BK2.out | refine blk_drewN ?_ _ | refine blk_drew ?_ | refine blk_alloc ?_ _)); try exact BK2.out))); clear HB; have HB := n0_; have BK1 := n1_; have GE1 := n2_; clear n0_ n1_ n2_; clear BK2; have BK2 := m2_; have NE2_1 := k2_; clear m2_ k2_; clear hb hbox hg) | ((with_reducible refine gate_store (t := 72) (p := 11) rfl ?_); refine row_event (by rfl) 72 _ _ rfl gb1 (cellsM zeros17 (.slice (some ⟨gb2, 0, none⟩) a1.toNat a1.toNat) (.slice none 0 0)) _ _ (by (with_reducible repeat (first | exact BK1.out | refine blk_drewN ?_ _ | refine blk_drew ?_ | refine blk_alloc ?_ _)); try exact BK1.out) (by rfl) (by rfl) (by kernel_rfl) (by rfl) (cellsM_one rfl rfl) ?_; intro w1_ hbox hg; have n0_ := Aside0.mk (pw_below_grown (by repeat (first | (with_reducible first | exact HB.out | apply below_alloc | apply pw_below_drewN | apply below_drew1) | exact HB.out)) (some gb1) (below_size (by repeat (first | (with_reducible first | exact HB.out | apply below_alloc | apply pw_below_drewN | apply below_drew1) | exact HB.out))) hg (by rintro k_ e_; injection e_ with e_; rw [← e_]; exact GE1.out)); have n1_ := Aside0.mk hbox; have m2_ := Aside0.mk (blk_grown (by (with_reducible repeat (first | exact BK2.out | refine blk_drewN ?_ _ | refine blk_drew ?_ | refine blk_alloc ?_ _)); try exact BK2.out) hg (fun e_ => by injection e_ with e_; exact NE2_1.out e_)); clear HB BK1; have HB := n0_; have BK1 := n1_; clear n0_ n1_; clear BK2; have BK2 := m2_; clear m2_; clear hg hbox))
  have hc17 : w1_.cell? ⟨gb1, 17, none⟩ = some (.slice (some ⟨gb2, 0, none⟩) a1.toNat a1.toNat) := (blk_cell BK1.out 17).trans (cellsM_mem rfl)
  go_upto_region 5 with (first | ((with_reducible refine gate_dst (N := 42) rfl ?_); refine copy_event (by rfl) _ _ 44 44 3 rfl Tryd.underlying44 (by kernel_rfl) gb2 0 a1.toNat a1.toNat ((List.replicate a1.toNat (0 : Int)).map (Value.int .i64)) _ (by (with_reducible repeat (first | exact BK2.out | refine blk_drewN ?_ _ | refine blk_drew ?_ | refine blk_alloc ?_ _)); try exact BK2.out) (by simp) l0 A0 l0.length c0 (by rfl) (by rfl) (Kd.C_below HR0.out (below_step HB0.out (by repeat (first | (with_reducible first | exact HB.out | apply below_alloc | apply pw_below_drewN | apply below_drew1) | exact HB.out)))) ?_; intro wk42 hbox hg; have n0_ := Aside0.mk (pw_below_grown (by repeat (first | (with_reducible first | exact HB.out | apply below_alloc | apply pw_below_drewN | apply below_drew1) | exact HB.out)) (some gb2) (below_size (by repeat (first | (with_reducible first | exact HB.out | apply below_alloc | apply pw_below_drewN | apply below_drew1) | exact HB.out))) hg (by rintro k_ e_; injection e_ with e_; rw [← e_]; exact GE2.out)); have n1_ := Aside0.mk (show wk42.heap[gb2]? = some (.cells (cellsI (l0.take (min l0.length a1.toNat) ++ (List.replicate a1.toNat (0 : Int)).drop (min l0.length a1.toNat))) 3 (0, 0)) from by rw [hbox]; simp [cellsI, List.map_take, List.map_drop]); have m_ := Aside0.mk (blk_grown (by (with_reducible repeat (first | exact BK1.out | refine blk_drewN ?_ _ | refine blk_drew ?_ | refine blk_alloc ?_ _)); try exact BK1.out) hg (fun e_ => by injection e_ with e_; exact NE2_1.out e_.symm)); clear HB BK2 BK1; have HB := n0_; have BK2 := n1_; have BK1 := m_; clear n0_ n1_ m_ hbox hg))
  clear hc17
  have hc17 : wk42.cell? ⟨gb1, 17, none⟩ = some (.slice (some ⟨gb2, 0, none⟩) a1.toNat a1.toNat) := (blk_cell BK1.out 17).trans (cellsM_mem rfl)
  obtain ⟨old, hold⟩ : ∃ x, (cellsI (l0.take (min l0.length a1.toNat) ++ (List.replicate a1.toNat (0 : Int)).drop (min l0.length a1.toNat)))[(a1.toNat - 1)]? = some x := ⟨_, cellsI_get (by simp only [List.length_append, List.length_take, List.length_drop, List.length_replicate]; omega)⟩
  have hmx : wk42.cell? ⟨gb2, (a1.toNat - 1), none⟩ = some old := (blk_cell BK2.out _).trans hold
  have hmf := blk_frozen BK2.out (a1.toNat - 1)
  clear hold
  have hc16 : wk42.cell? ⟨gb1, 16, none⟩ = some (.int .i64 0) := (blk_cell BK1.out 16).trans (cellsM_reg rfl (by decide))
  have hc14 : wk42.cell? ⟨gb1, 14, none⟩ = some (.int .i64 0) := (blk_cell BK1.out 14).trans (cellsM_reg rfl (by decide))
  have hf16 := blk_frozen BK1.out 16
  have hf14 := blk_frozen BK1.out 14
  have hnq := NE2_1.out
  have hnr := Ne.symm NE2_1.out
  go_upto_region 8 with (fail)
  refine gen_w (P := Code.wp _ _ _) (F := fun W => Below w10.heap.size w10 W ∧ W.heap[gb1]? = some (.cells (cellsM ((zeros17.set 16 a2).set 14 (a1 - 1)) (.slice (some ⟨gb2, 0, none⟩) a1.toNat a1.toNat) (.slice none 0 0)) 72 (0, 0)) ∧ W.heap[gb2]? = some (.cells (cellsI ((l0.take (min l0.length a1.toNat) ++ (List.replicate a1.toNat (0 : Int)).drop (min l0.length a1.toNat)).set (a1.toNat - 1) (-1))) 3 (0, 0))) ⟨?_, ?_, ?_⟩ ?_
  · repeat (first | exact HB.out | refine below_set ?_ GE1.out | refine below_set ?_ GE2.out)
  · refine blk_put (cs := cellsM (zeros17.set 16 a2) (.slice (some ⟨gb2, 0, none⟩) a1.toNat a1.toNat) (.slice none 0 0)) ?_ 14 _ (cellsM_setReg rfl (by decide) _); refine blk_put (cs := cellsM zeros17 (.slice (some ⟨gb2, 0, none⟩) a1.toNat a1.toNat) (.slice none 0 0)) ?_ 16 _ (cellsM_setReg rfl (by decide) _); refine blk_far ?_ (Ne.symm NE2_1.out) _; exact BK1.out
  · refine blk_far ?_ NE2_1.out _; refine blk_far ?_ NE2_1.out _; refine blk_put (cs := cellsI (l0.take (min l0.length a1.toNat) ++ (List.replicate a1.toNat (0 : Int)).drop (min l0.length a1.toNat))) ?_ (a1.toNat - 1) _ (cellsI_set _ _ _); exact BK2.out
  clear hc17 hmx hmf hc16 hc14 hf16 hf14 hnq hnr HB BK1 BK2
  rintro W8 ⟨hb, h1, h2⟩
  have HB := Aside0.mk hb
  have BK1 := Aside0.mk h1
  have BK2 := Aside0.mk h2
  clear hb h1 h2
  go_upto_region 9 with (first | ((with_reducible refine gate_dst (N := 60) rfl ?_); refine copy_event (by rfl) _ _ 44 44 3 rfl Tryd.underlying44 (by kernel_rfl) gb1 1 15 15 (((zeros17.set 16 a2).set 14 (a1 - 1)).map (Value.int .i64) ++ [(.slice (some ⟨gb2, 0, none⟩) a1.toNat a1.toNat), .slice none 0 0]) _ (by (with_reducible repeat (first | exact BK1.out | refine blk_drewN ?_ _ | refine blk_drew ?_ | refine blk_alloc ?_ _)); try exact BK1.out) (by simp [zeros17]) l3 A3 l3.length c3 (by rfl) (by rfl) (Kd.C_below HR3.out (below_step HB0.out (by repeat (first | (with_reducible first | exact HB.out | apply below_alloc | apply pw_below_drewN | apply below_drew1) | exact HB.out)))) ?_; intro wk60 hbox hg; have n0_ := Aside0.mk (pw_below_grown (by repeat (first | (with_reducible first | exact HB.out | apply below_alloc | apply pw_below_drewN | apply below_drew1) | exact HB.out)) (some gb1) (below_size (by repeat (first | (with_reducible first | exact HB.out | apply below_alloc | apply pw_below_drewN | apply below_drew1) | exact HB.out))) hg (by rintro k_ e_; injection e_ with e_; rw [← e_]; exact GE1.out)); have n1_ := Aside0.mk (show wk60.heap[gb1]? = some (.cells (cellsM (cs0 a1 a2 l3) (.slice (some ⟨gb2, 0, none⟩) a1.toNat a1.toNat) (.slice none 0 0)) 72 (0, 0)) from by rw [hbox]; rw [cs0_cells _ _ _ _ rfl, cs0, HZ.out]); have m_ := Aside0.mk (blk_grown (by (with_reducible repeat (first | exact BK2.out | refine blk_drewN ?_ _ | refine blk_drew ?_ | refine blk_alloc ?_ _)); try exact BK2.out) hg (fun e_ => by injection e_ with e_; exact NE2_1.out e_)); clear HB BK1 BK2; have HB := n0_; have BK1 := n1_; have BK2 := m_; clear n0_ n1_ m_ hbox hg))
  have HI := Aside0.mk (show IsM w10.heap.size wk60 gb1 gb2 (cs0 a1 a2 l3) (mem0 l0 a1) [] (.slice none 0 0) from ⟨by rw [mem0_len]; exact BK1.out, by rw [show mem0 l0 a1 = (l0.take (min l0.length a1.toNat) ++ (List.replicate a1.toNat (0 : Int)).drop (min l0.length a1.toNat)).set (a1.toNat - 1) (-1) from by unfold mem0; rw [HZ.out, show (a1 - 1).toNat = a1.toNat - 1 from by omega]]; exact BK2.out, Kd.R_nil _ _ _ _ _, Ne.symm NE2_1.out, GE1.out, GE2.out, cs0_len _ _ _⟩)
  clear BK1 BK2
  go_wp2
  go_loopg [12] k (fun kq v12 wc => ∃ (kf : Nat) (n : Int) (cs mem out : List Int) (vo : Value), v12 = .int .i64 n ∧ kf ≤ kq ∧ Aside0 (0 ≤ n ∧ n ≤ 200000 ∧ (out.length : Int) ≤ n) ∧ Aside0 (isa_Run.l kf a4 n cs mem out = some (r1, r2, r3, r4)) ∧ Aside0 (IsM w10.heap.size wc gb1 gb2 cs mem out vo) ∧ Aside0 (Below w10.heap.size w10 wc))
  case atStart => exact ⟨k, 0, _, _, _, _, rfl, Nat.le_refl _, ⟨by omega, by omega, by simp⟩, H, HI, HB⟩
  case round =>
    clear H HI HB
    obtain ⟨kf, n, cs, mem, out, vo, rfl, hkf, HN, H, HI, HB⟩ := hrel
    have h := H.out
    clear H
    cases kf with
    | zero => cases h
    | succ kf =>
      unfold isa_Run.l at h
      obtain ⟨hm1, hm2, hm3, hm4, hm5, hm6, hm7⟩ := HI.out
      obtain ⟨Av, cv, hvv⟩ := Kd.R_slice hm3
      generalize hnv : out.length = nv at hvv
      subst hvv
      have HNV := Aside0.mk hnv
      have HO := Aside0.mk hm3
      obtain ⟨pc, hpc⟩ : ∃ x, cs.getD 16 0 = x := ⟨_, rfl⟩
      obtain ⟨c13, h13⟩ : ∃ x, cs.getD 13 0 = x := ⟨_, rfl⟩
      obtain ⟨c00, h00⟩ : ∃ x, cs.getD 0 0 = x := ⟨_, rfl⟩
      have hc16 : wr.cell? ⟨gb1, 16, none⟩ = some (.int .i64 pc) := (blk_cell hm1 16).trans ((cellsM_reg hm7 (by decide)).trans (by rw [hpc]))
      have hc13 : wr.cell? ⟨gb1, 13, none⟩ = some (.int .i64 c13) := (blk_cell hm1 13).trans ((cellsM_reg hm7 (by decide)).trans (by rw [h13]))
      have hc00 : wr.cell? ⟨gb1, 0, none⟩ = some (.int .i64 c00) := (blk_cell hm1 0).trans ((cellsM_reg hm7 (by decide)).trans (by rw [h00]))
      have hc18 : wr.cell? ⟨gb1, 18, none⟩ = some (.slice Av nv cv) := (blk_cell hm1 18).trans (cellsM_out hm7)
      rw [hpc, h13, h00] at h
      clear hpc h13 h00 hm1 hm2 hm3 hm4 hm5 hm6 hm7 hnv
      by_cases cz : pc = -1
      · rw [if_pos cz] at h
        simp only [Option.some.injEq, Prod.mk.injEq] at h
        obtain ⟨rfl, rfl, rfl, rfl⟩ := h
        subst cz
        go_wp2_with ((with_reducible refine gate_store (t := 48) (p := 10) rfl ?_); refine row_event (by rfl) 48 _ _ rfl gb10 (#[.int .i64 0, .bool (c13 != 0), .int .i64 c00, .slice Av nv cv]) _ _ (by (with_reducible repeat (first | refine blk_drewN ?_ _ | refine blk_drew ?_)); exact blk_below n10_.out HB.out) (by rfl) (by first | rfl | (go_simp; done) | (go_simp; rfl)) (by kernel_rfl) (by rfl) (one_out _ _ _ _ rfl) ?_; intro wf hbox hg; have BF := Aside0.mk hbox; have HG := Aside0.mk hg; clear hbox hg)
        refine bodyPost_ret (results_cell_row rfl _ _ gb10 48 (#[.int .i64 0, .bool (c13 != 0), .int .i64 c00, .slice Av nv cv]) (0, 0) _ rfl BF.out Tryd.underlying48 rfl (by kernel_rfl)) rfl ?_
        exact ⟨_, rfl, Kd.R_lower (Kd.R_mono (Kd.R_grown (Kd.R_mono (Kd.R_bound HO.out) (fun k_ hk_ => (by have h1_ := hk_.2.1; have h2_ := blk_lt n10_.out; omega : k_ ≠ gb10))) HG.out (fun k_ hk_ e_ => hk_ (Option.some.inj e_))) (fun _ _ => trivial)) (below_size HB0.out), pw_below_grown (below_step HB0.out HB.out) (some gb10) (below_size (below_step HB0.out HB.out)) HG.out (by rintro k_ e_; injection e_ with e_; rw [← e_]; exact GE10.out)⟩
      rw [if_neg cz] at h
      have czb : (pc != -1) = true := bne_iff_ne.mpr cz
      clear cz hc13 hc00
      by_cases cn : n ≥ a4
      · rw [if_pos cn] at h
        simp only [Option.some.injEq, Prod.mk.injEq] at h
        obtain ⟨rfl, rfl, rfl, rfl⟩ := h
        have cnb : decide (a4 ≤ n) = true := decide_eq_true cn
        clear cn
        go_wp2_with ((with_reducible refine gate_store (t := 48) (p := 10) rfl ?_); refine row_event (by rfl) 48 _ _ rfl gb10 (#[.int .i64 13, .bool false, .int .i64 0, .slice Av nv cv]) _ _ (by (with_reducible repeat (first | refine blk_drewN ?_ _ | refine blk_drew ?_)); exact blk_below n10_.out HB.out) (by rfl) (by first | rfl | (go_simp; done) | (go_simp; rfl)) (by kernel_rfl) (by rfl) (one_out _ _ _ _ rfl) ?_; intro wf hbox hg; have BF := Aside0.mk hbox; have HG := Aside0.mk hg; clear hbox hg)
        refine bodyPost_ret (results_cell_row rfl _ _ gb10 48 (#[.int .i64 13, .bool false, .int .i64 0, .slice Av nv cv]) (0, 0) _ rfl BF.out Tryd.underlying48 rfl (by kernel_rfl)) rfl ?_
        exact ⟨_, rfl, Kd.R_lower (Kd.R_mono (Kd.R_grown (Kd.R_mono (Kd.R_bound HO.out) (fun k_ hk_ => (by have h1_ := hk_.2.1; have h2_ := blk_lt n10_.out; omega : k_ ≠ gb10))) HG.out (fun k_ hk_ e_ => hk_ (Option.some.inj e_))) (fun _ _ => trivial)) (below_size HB0.out), pw_below_grown (below_step HB0.out HB.out) (some gb10) (below_size (below_step HB0.out HB.out)) HG.out (by rintro k_ e_; injection e_ with e_; rw [← e_]; exact GE10.out)⟩
      rw [if_neg cn] at h
      have cnb : decide (a4 ≤ n) = false := decide_eq_false cn
      obtain ⟨⟨sr, cs2, mem2, out2⟩, hs, h⟩ := Option.bind_eq_some_iff.mp h
      have AS := Aside0.mk hs
      have HL2 := Aside0.mk (isa_machine_step.out_len hs)
      have HCN := Aside0.mk cn
      clear hs cn hc18
      have HGw := Aside0.mk (Glob.below hGl.out HB0.out)
      have HOL := Aside0.mk (show out.length ≤ 1000000 from by have := HN.out; omega)
      have H := Aside0.mk h
      clear h
      go_upto_if 74 with (first | (go_at_call 39; (with_reducible refine (isa_machine_step.calls gb1 gb2 cs mem out _ sr cs2 mem2 out2 w10 _ HGw HI.out HB.out HOL.out AS.out).mono ?_); rintro e wd ⟨rfl, ⟨vo2, hI⟩, hB⟩; clear HB HI HO; have HB := Aside0.mk hB; have HI := Aside0.mk hI; clear hB hI))
      have h := H.out
      clear H
      cases sr with
      | false =>
        obtain ⟨hm1, hm2, hm3, hm4, hm5, hm6, hm7⟩ := HI.out
        obtain ⟨Av2, cv2, hvv⟩ := Kd.R_slice hm3
        generalize out2.length = nv2 at hvv
        subst hvv
        have HO := Aside0.mk hm3
        have hc18 : wd.cell? ⟨gb1, 18, none⟩ = some (.slice Av2 nv2 cv2) := (blk_cell hm1 18).trans (cellsM_out hm7)
        clear hm1 hm2 hm3 hm4 hm5 hm6 hm7
        replace h : some (14, false, 0, out2) = some (r1, r2, r3, r4) := h
        simp only [Option.some.injEq, Prod.mk.injEq] at h
        obtain ⟨rfl, rfl, rfl, rfl⟩ := h
        go_wp2_with ((with_reducible refine gate_store (t := 48) (p := 10) rfl ?_); refine row_event (by rfl) 48 _ _ rfl gb10 (#[.int .i64 14, .bool false, .int .i64 0, .slice Av2 nv2 cv2]) _ _ (by (with_reducible repeat (first | refine blk_drewN ?_ _ | refine blk_drew ?_)); exact blk_below n10_.out HB.out) (by rfl) (by first | rfl | (go_simp; done) | (go_simp; rfl)) (by kernel_rfl) (by rfl) (one_out _ _ _ _ rfl) ?_; intro wf hbox hg; have BF := Aside0.mk hbox; have HG := Aside0.mk hg; clear hbox hg)
        refine bodyPost_ret (results_cell_row rfl _ _ gb10 48 (#[.int .i64 14, .bool false, .int .i64 0, .slice Av2 nv2 cv2]) (0, 0) _ rfl BF.out Tryd.underlying48 rfl (by kernel_rfl)) rfl ?_
        exact ⟨_, rfl, Kd.R_lower (Kd.R_mono (Kd.R_grown (Kd.R_mono (Kd.R_bound HO.out) (fun k_ hk_ => (by have h1_ := hk_.2.1; have h2_ := blk_lt n10_.out; omega : k_ ≠ gb10))) HG.out (fun k_ hk_ e_ => hk_ (Option.some.inj e_))) (fun _ _ => trivial)) (below_size HB0.out), pw_below_grown (below_step HB0.out HB.out) (some gb10) (below_size (below_step HB0.out HB.out)) HG.out (by rintro k_ e_; injection e_ with e_; rw [← e_]; exact GE10.out)⟩
      | true =>
        replace h : isa_Run.l kf a4 (wrap64 (n + 1)) cs2 mem2 out2 = some (r1, r2, r3, r4) := h
        rw [show wrap64 (n + 1) = n + 1 from by have := HN.out; unfold wrap64; omega] at h
        have hw : wrap64 (n + 1) = n + 1 := by have := HN.out; unfold wrap64; omega
        go_wp2
        go_roundg kf
        case measure => omega
        case rel => exact ⟨kf, n + 1, cs2, mem2, out2, vo2, (by first | rfl | exact congrArg (Value.int .i64) hw), Nat.le_refl _, ⟨by have := HN.out; omega, by have := HN.out; have := HCN.out; omega, by have := HN.out; have := HL2.out; omega⟩, ⟨h⟩, HI, HB⟩

end Go.Proofs.YtoakfejpmlgbcaaDoor.PIsa
