-- By wip/xprint.py (a driver of this session's over the kit's print), for this claim.
import Derived.Test.YtoakfejpmlgbcaaDoorPIsax0
import Derived.Test.YtoakfejpmlgbcaaDoorPIsax7
import Derived.Test.YtoakfejpmlgbcaaDoorPIsax36
import Derived.Test.YtoakfejpmlgbcaaDoorPIsax39
import Derived.Test.YtoakfejpmlgbcaaDoorPIsax40
namespace Go.Proofs.YtoakfejpmlgbcaaDoor.PIsa
open Go.RowKit Go.Proofs.YtoakfejpmlgbcaaDoorW.PrintWords Go.Proofs.YtoakfejpmlgbcaaDoorW.PrintLast Go.Proofs.YtoakfejpmlgbcaaDoorW.PrintMore
attribute [local go_sem] max2_int min2_int max_two min_two max_three min_three max_four min_four   -- for this text's walks alone
set_option linter.unusedVariables false
set_option linter.unusedSimpArgs false

/-! ### isa_machine_step: function 39, by hand: a step of a machine -/
def isa_machine_step.T3 : Bool × List (List Nat × List Nat) := (true, [([], []), ([0], [0]), ([1], [1]), ([2], [2]), ([], []), ([4], [4]), ([5], [5]), ([6], [6]), ([7], [7]), ([3, 8], [3, 8]), ([9], [9]), ([10], [10]), ([11], [11]), ([12], [12]), ([12], [12]), ([], []), ([15, 13, 11, 0, 1, 2, 3, 4, 5, 6, 7, 8, 9, 10, 11, 12, 13, 15], [13, 15]), ([14, 16, 0, 1, 2, 3, 4, 5, 6, 7, 8, 9, 10, 11, 12, 13, 14, 15, 16], [14])])
def isa_machine_step.B3 : List Nat := [0, 1, 3, 7, 0, 16, 48, 112, 240, 511, 1023, 2047, 4095, 8191, 8191, 0, 49151, 131071]
theorem isa_machine_step.tab3 : rtab .any (opsOf Tryd.f39 3) = isa_machine_step.T3 := by kernel_rfl
theorem isa_machine_step.bits3 : waitsOk isa_machine_step.T3.2 isa_machine_step.B3 = true := by kernel_rfl
def isa_machine_step.T7 : Bool × List (List Nat × List Nat) := (true, [([], []), ([0], [0]), ([1], [1]), ([2], [2]), ([], []), ([3, 4], [3, 4]), ([5], [5]), ([6], [6]), ([6], [6]), ([7, 5, 0, 1, 2, 3, 4, 5, 6, 7], [7]), ([8, 9, 0, 1, 2, 3, 4, 5, 6, 7, 8, 9], [8])])
def isa_machine_step.B7 : List Nat := [0, 1, 3, 7, 0, 31, 63, 127, 127, 255, 1023]
theorem isa_machine_step.tab7 : rtab .any (opsOf Tryd.f39 7) = isa_machine_step.T7 := by kernel_rfl
theorem isa_machine_step.bits7 : waitsOk isa_machine_step.T7.2 isa_machine_step.B7 = true := by kernel_rfl
def isa_machine_step.T12 : Bool × List (List Nat × List Nat) := (true, [([], []), ([0], [0]), ([1], [1]), ([2], [2]), ([], []), ([], []), ([3, 4, 5], [3, 4, 5]), ([6], [6]), ([7], [7]), ([7], [7]), ([], []), ([10, 8, 6, 0, 1, 2, 3, 4, 5, 6, 7, 8, 10], [8, 10]), ([9, 11, 0, 1, 2, 3, 4, 5, 6, 7, 8, 9, 10, 11], [9])])
def isa_machine_step.B12 : List Nat := [0, 1, 3, 7, 0, 0, 63, 127, 255, 255, 0, 1535, 4095]
theorem isa_machine_step.tab12 : rtab .any (opsOf Tryd.f39 12) = isa_machine_step.T12 := by kernel_rfl
theorem isa_machine_step.bits12 : waitsOk isa_machine_step.T12.2 isa_machine_step.B12 = true := by kernel_rfl
def isa_machine_step.T16 : Bool × List (List Nat × List Nat) := (true, [([], []), ([0], [0]), ([1], [1]), ([2], [2]), ([], []), ([4], [4]), ([], []), ([6], [6]), ([3, 5, 0, 1, 2, 3, 4, 5, 6, 7], [3, 5]), ([8, 7, 0, 1, 2, 3, 4, 5, 6, 7], [7, 8])])
def isa_machine_step.B16 : List Nat := [0, 1, 3, 7, 0, 16, 0, 64, 255, 511]
theorem isa_machine_step.tab16 : rtab .any (opsOf Tryd.f39 16) = isa_machine_step.T16 := by kernel_rfl
theorem isa_machine_step.bits16 : waitsOk isa_machine_step.T16.2 isa_machine_step.B16 = true := by kernel_rfl
def isa_machine_step.T18 : Bool × List (List Nat × List Nat) := (true, [([], []), ([], []), ([1], [1]), ([2], [2]), ([3], [3]), ([], []), ([5], [5]), ([6], [6]), ([4, 7], [4, 7]), ([0, 0, 1, 2, 3, 4, 5, 6, 7, 8], [0]), ([9, 0, 1, 2, 3, 4, 5, 6, 7, 8], [9]), ([10, 8, 8, 0, 1, 2, 3, 4, 5, 6, 7, 8], [8, 10])])
def isa_machine_step.B18 : List Nat := [0, 0, 2, 6, 14, 0, 32, 96, 254, 511, 1023, 2047]
theorem isa_machine_step.tab18 : rtab .any (opsOf Tryd.f39 18) = isa_machine_step.T18 := by kernel_rfl
theorem isa_machine_step.bits18 : waitsOk isa_machine_step.T18.2 isa_machine_step.B18 = true := by kernel_rfl
/-- What a step does: whether it could be done, the processor, the memory, what was printed. -/
def isa_machine_step.f (cs mem out : List Int) : Option (Bool × List Int × List Int × List Int) :=
  if 0 ≤ cs.getD 16 0 ∧ cs.getD 16 0 < (mem.length : Int) then (isa_Decode.f (mem.getD (cs.getD 16 0).toNat 0)).bind fun d =>
    if d.2.2.2.2.2 = 0 then (isa_Reads.f cs d.1 d.2.1 d.2.2.1 d.2.2.2.1 d.2.2.2.2.1).bind fun q =>
      if q.2 = true ∧ ¬ (0 ≤ q.1 ∧ q.1 < (mem.length : Int)) then some (false, cs, mem, out)
      else (isa_Execute.f cs d.1 d.2.1 d.2.2.1 d.2.2.2.1 d.2.2.2.2.1 (if q.2 = true then mem.getD q.1.toNat 0 else 0)).bind fun x =>
        if x.2.2.2.2.2.2 = 0 ∧ (x.2.1 = true → 0 ≤ x.2.2.1 ∧ x.2.2.1 < (mem.length : Int)) then some (true, x.1, if x.2.1 = true then mem.set x.2.2.1.toNat x.2.2.2.1 else mem, if x.2.2.2.2.1 = true then out ++ [x.2.2.2.2.2.1] else out)
        else some (false, cs, mem, out)
    else some (false, cs, mem, out)
  else some (false, cs, mem, out)
theorem exec1_len {comp : Int → Int → Int → Int} {cs : List Int} {i0 i1 i2 i3 i4 ld : Int} (hc : cs.length = 17) : (exec1 comp cs i0 i1 i2 i3 i4 ld).1.length = 17 := by
  unfold exec1
  by_cases h3 : i0 = 3
  · rw [if_pos h3]
    (repeat rw [List.length_set])
    exact hc
  rw [if_neg h3]
  by_cases h4 : i0 = 4
  · rw [if_pos h4]
    (repeat rw [List.length_set])
    exact hc
  rw [if_neg h4]
  by_cases h19 : i0 = 19
  · rw [if_pos h19]
    (repeat rw [List.length_set])
    exact hc
  rw [if_neg h19]
  by_cases h5 : i0 = 5
  · rw [if_pos h5]
    (repeat rw [List.length_set])
    exact hc
  rw [if_neg h5]
  by_cases h18 : i0 = 18
  · rw [if_pos h18]
    (repeat rw [List.length_set])
    exact hc
  rw [if_neg h18]
  by_cases h20 : i0 = 20
  · rw [if_pos h20]
    (repeat rw [List.length_set])
    exact hc
  rw [if_neg h20]
  by_cases h21 : i0 = 21
  · rw [if_pos h21]
    (repeat rw [List.length_set])
    exact hc
  rw [if_neg h21]
  by_cases h22 : i0 = 22
  · rw [if_pos h22]
    by_cases hz : cs.getD i1.toNat 0 = 0
    · rw [if_pos hz]
      (repeat rw [List.length_set])
      exact hc
    · rw [if_neg hz]
      (repeat rw [List.length_set])
      exact hc
  rw [if_neg h22]
  by_cases h23 : i0 = 23
  · rw [if_pos h23]
    (repeat rw [List.length_set])
    exact hc
  rw [if_neg h23]
  by_cases h24 : i0 = 24
  · rw [if_pos h24]
    (repeat rw [List.length_set])
    exact hc
  rw [if_neg h24]
  by_cases h25 : i0 = 25
  · rw [if_pos h25]
    (repeat rw [List.length_set])
    exact hc
  rw [if_neg h25]
  by_cases h1 : i0 = 1
  · rw [if_pos h1]
    (repeat rw [List.length_set])
    exact hc
  rw [if_neg h1]
  (repeat rw [List.length_set])
  exact hc
theorem isa_Execute.len {cs : List Int} {i0 i1 i2 i3 i4 ld : Int} {r1 : List Int} {r2 : Bool} {r3 r4 : Int} {r5 : Bool} {r6 r7 : Int} (hc : cs.length = 17) (h : isa_Execute.f cs i0 i1 i2 i3 i4 ld = some (r1, r2, r3, r4, r5, r6, r7)) : r1.length = 17 := by
  unfold isa_Execute.f at h
  by_cases c2 : i0 = 2
  · rw [if_pos c2] at h
    simp only [Option.some.injEq, Prod.mk.injEq] at h
    rw [← h.1]
    rfl
  · rw [if_neg c2] at h
    by_cases ce : enc1 i0 i1 i2 i3 i4 = true
    · rw [if_pos ce] at h
      simp only [Option.some.injEq, Prod.mk.injEq] at h
      rw [← h.1]
      exact exec1_len hc
    · rw [if_neg ce] at h
      simp only [Option.some.injEq, Prod.mk.injEq] at h
      rw [← h.1]
      rfl
set_option maxHeartbeats 8000000 in
set_option maxRecDepth 100000 in
theorem isa_machine_step.calls (gb1 gb2 : Nat) (cs mem out : List Int) (vo : Value) (r : Bool) (cs' mem' out' : List Int) (w u : World) (hGl : Aside0 (Glob w)) (hI : IsM w.heap.size u gb1 gb2 cs mem out vo) (hB : Below w.heap.size w u) (hol : out.length ≤ 1000000) (h : isa_machine_step.f cs mem out = some (r, cs', mem', out')) :
    Calls Tryd.prog 39 #[.pointer (some ⟨gb1, 0, none⟩)] u fun e w' => e = .returned (.bool r) ∧ (∃ vo', IsM w.heap.size w' gb1 gb2 cs' mem' out' vo') ∧ Below w.heap.size w w' := by
  have hu72 := Tryd.underlying72
  have hu35 := Tryd.underlying35
  have hu23 := Tryd.underlying23
  have hu40 := Tryd.underlying40
  have HB := Aside0.mk hB
  obtain ⟨hm1, hm2, hm3, hm4, hm5, hm6, hm7⟩ := hI
  have BK1 := Aside0.mk hm1
  have BK2 := Aside0.mk hm2
  have HO := Aside0.mk hm3
  have NE1_2 := Aside0.mk hm4
  have GE1 := Aside0.mk hm5
  have GE2 := Aside0.mk hm6
  have HC := Aside0.mk hm7
  have HOL := Aside0.mk hol
  clear hB hm1 hm2 hm3 hm4 hm5 hm6 hm7 hol
  unfold isa_machine_step.f at h
  obtain ⟨pc, hpc⟩ : ∃ x, cs.getD 16 0 = x := ⟨_, rfl⟩
  rw [hpc] at h
  have hc16 : u.cell? ⟨gb1, 16, none⟩ = some (.int .i64 pc) := (blk_cell BK1.out 16).trans ((cellsM_reg HC.out (by decide)).trans (by rw [hpc]))
  have hc17 : u.cell? ⟨gb1, 17, none⟩ = some (.slice (some ⟨gb2, 0, none⟩) mem.length mem.length) := (blk_cell BK1.out 17).trans (cellsM_mem HC.out)
  clear hpc
  by_cases ci : 0 ≤ pc ∧ pc < (mem.length : Int)
  case neg =>
    rw [if_neg ci] at h
    simp only [Option.some.injEq, Prod.mk.injEq] at h
    obtain ⟨rfl, rfl, rfl, rfl⟩ := h
    go_enter Tryd.func39, Tryd.ntmps39
    go_wp2_with (first | (go_at_call 47; refine (isa_machine_inside.calls gb1 mem.length mem.length (some ⟨gb2, 0, none⟩) pc false _ hc17 (congrArg some (decide_eq_false ci))).mono ?_; rintro e w' ⟨rfl, ⟨nd, rfl⟩⟩))
    go_ret
    exact ⟨rfl, ⟨vo, (by (with_reducible repeat (first | exact BK1.out | refine blk_drewN ?_ _ | refine blk_drew ?_ | refine blk_alloc ?_ _)); try exact BK1.out), (by (with_reducible repeat (first | exact BK2.out | refine blk_drewN ?_ _ | refine blk_drew ?_ | refine blk_alloc ?_ _)); try exact BK2.out), Kd.R_mono (by (with_reducible repeat (first | exact HO.out | apply Kd.R_drewN | apply Kd.R_drew | apply Kd.R_alloc))) (fun k_ (hk_ : k_ ≠ gb1 ∧ k_ ≠ gb2) => hk_), NE1_2.out, GE1.out, GE2.out, HC.out⟩, (by repeat (first | (with_reducible first | exact HB.out | apply below_alloc | apply pw_below_drewN | apply below_drew1) | exact HB.out))⟩
  rw [if_pos ci] at h
  have hci := decide_eq_true ci
  obtain ⟨ci0, ci1⟩ := ci
  obtain ⟨wd, hwd⟩ : ∃ x, mem.getD pc.toNat 0 = x := ⟨_, rfl⟩
  have hcw : u.cell? ⟨gb2, pc.toNat, none⟩ = some (.int .i64 wd) := (blk_cell BK2.out _).trans ((cellsI_get (by omega)).trans (by rw [hwd]))
  rw [hwd] at h
  clear hwd
  obtain ⟨⟨d0, d1, d2, d3, d4, de⟩, hd, h⟩ := Option.bind_eq_some_iff.mp h
  have AD := Aside0.mk hd
  clear hd
  have H := Aside0.mk h
  clear h
  go_enter Tryd.func39, Tryd.ntmps39
  go_upto_region 3 with (first | (go_at_call 47; refine (isa_machine_inside.calls gb1 mem.length mem.length (some ⟨gb2, 0, none⟩) pc true _ hc17 (congrArg some hci)).mono ?_; rintro e w' ⟨rfl, ⟨nd, rfl⟩⟩))
  clear hci
  have hpc16 : Aside0 (some (Value.int .i64 (cs.getD 16 0)) = some (.int .i64 pc)) := ⟨((cellsM_reg HC.out (by decide)).symm.trans (blk_cell BK1.out 16).symm).trans hc16⟩
  have hpw : Aside0 ((cellsI mem)[pc.toNat]? = some (.int .i64 wd)) := ⟨(blk_cell BK2.out _).symm.trans hcw⟩
  refine start_ (n := 18) (S := fun w' => w'.cell? ⟨gb1, 17, none⟩ = some (.slice (some ⟨gb2, 0, none⟩) mem.length mem.length) ∧ w'.cell? ⟨gb1, 16, none⟩ = some (.int .i64 pc) ∧ w'.cell? ⟨gb2, pc.toNat, none⟩ = some (.int .i64 wd)) (ds := []) #[false, false, false, false, false, false, false, false, false, false, false, false, false, false, false, false, false, false] (by kernel_rfl) rfl rfl ⟨hc17, hc16, hcw⟩ (fun hHeld => ?_); refine with_tabW isa_machine_step.tab3 isa_machine_step.bits3 (fun HT_ HW_ => ?_)
  refine pure_ (i := 0) (N := some 18) (v := ?_) (a' := ?_) #[true, false, false, false, false, false, false, false, false, false, false, false, false, false, false, false, false, false] rfl rfl (any_of HT_.out (by kernel_rfl)) (fun _ _ _ h => h) (Or.inl ⟨by rfl, ?_⟩) ?_ ?_
  rotate_left
  · intro w'
    go_simp
    (try with_reducible rfl)
  rotate_left
  · simp only [Act.put, List.setIfInBounds_toArray, List.set_cons_zero, List.set_cons_succ, i64_w, i32_w]
    rfl
  refine pure_ (i := 1) (N := some 19) (v := ?_) (a' := ?_) #[true, true, false, false, false, false, false, false, false, false, false, false, false, false, false, false, false, false] rfl rfl (any_of HT_.out (by kernel_rfl)) (fun _ _ _ h => h) (Or.inl ⟨by rfl, ?_⟩) ?_ ?_
  rotate_left
  · intro w'
    go_simp
    (try with_reducible rfl)
  rotate_left
  · simp only [Act.put, List.setIfInBounds_toArray, List.set_cons_zero, List.set_cons_succ, i64_w, i32_w]
    rfl
  refine pure_ (i := 2) (N := some 20) (v := ?_) (a' := ?_) #[true, true, true, false, false, false, false, false, false, false, false, false, false, false, false, false, false, false] rfl rfl (any_of HT_.out (by kernel_rfl)) (fun _ _ _ h => h) (Or.inl ⟨by rfl, ?_⟩) ?_ ?_
  rotate_left
  · intro w'
    go_simp
    (try with_reducible rfl)
  rotate_left
  · simp only [Act.put, List.setIfInBounds_toArray, List.set_cons_zero, List.set_cons_succ, i64_w, i32_w]
    rfl
  refine take_ (i := 3) (N := some 21) (v := ?_) (a' := ?_) #[true, true, true, true, false, false, false, false, false, false, false, false, false, false, false, false, false, false] rfl rfl (take_ofW HT_.out HW_.out (by kernel_rfl)) (fun _ _ _ h => h) (Or.inl ⟨by rfl, ?_⟩) hHeld ?_ ?_
  rotate_left
  · rintro w' ⟨s0, s1, s2⟩
    go_simp
    (try with_reducible rfl)
  rotate_left
  · simp only [Act.put, List.setIfInBounds_toArray, List.set_cons_zero, List.set_cons_succ, i64_w, i32_w]
    rfl
  refine pure_ (i := 4) (N := some 22) (v := ?_) (a' := ?_) #[true, true, true, true, true, false, false, false, false, false, false, false, false, false, false, false, false, false] rfl rfl (any_of HT_.out (by kernel_rfl)) (fun _ _ _ h => h) (Or.inl ⟨by rfl, ?_⟩) ?_ ?_
  rotate_left
  · intro w'
    go_simp
    (try with_reducible rfl)
  rotate_left
  · simp only [Act.put, List.setIfInBounds_toArray, List.set_cons_zero, List.set_cons_succ, i64_w, i32_w]
    rfl
  refine pure_ (i := 5) (N := some 23) (v := ?_) (a' := ?_) #[true, true, true, true, true, true, false, false, false, false, false, false, false, false, false, false, false, false] rfl rfl (any_of HT_.out (by kernel_rfl)) (fun _ _ _ h => h) (Or.inl ⟨by rfl, ?_⟩) ?_ ?_
  rotate_left
  · intro w'
    go_simp
    (try with_reducible rfl)
  rotate_left
  · simp only [Act.put, List.setIfInBounds_toArray, List.set_cons_zero, List.set_cons_succ, i64_w, i32_w]
    rfl
  refine pure_ (i := 6) (N := some 24) (v := ?_) (a' := ?_) #[true, true, true, true, true, true, true, false, false, false, false, false, false, false, false, false, false, false] rfl rfl (any_of HT_.out (by kernel_rfl)) (fun _ _ _ h => h) (Or.inl ⟨by rfl, ?_⟩) ?_ ?_
  rotate_left
  · intro w'
    go_simp
    (try with_reducible rfl)
  rotate_left
  · simp only [Act.put, List.setIfInBounds_toArray, List.set_cons_zero, List.set_cons_succ, i64_w, i32_w]
    rfl
  refine pure_ (i := 7) (N := some 25) (v := ?_) (a' := ?_) #[true, true, true, true, true, true, true, true, false, false, false, false, false, false, false, false, false, false] rfl rfl (any_of HT_.out (by kernel_rfl)) (fun _ _ _ h => h) (Or.inl ⟨by rfl, ?_⟩) ?_ ?_
  rotate_left
  · intro w'
    go_simp
    (try with_reducible rfl)
  rotate_left
  · simp only [Act.put, List.setIfInBounds_toArray, List.set_cons_zero, List.set_cons_succ, i64_w, i32_w]
    rfl
  refine take_ (i := 8) (N := some 26) (v := ?_) (a' := ?_) #[true, true, true, true, true, true, true, true, true, false, false, false, false, false, false, false, false, false] rfl rfl (take_ofW HT_.out HW_.out (by kernel_rfl)) (fun _ _ _ h => h) (Or.inl ⟨by rfl, ?_⟩) hHeld ?_ ?_
  rotate_left
  · rintro w' ⟨s0, s1, s2⟩
    go_simp
    (try with_reducible rfl)
  rotate_left
  · simp only [Act.put, List.setIfInBounds_toArray, List.set_cons_zero, List.set_cons_succ, i64_w, i32_w]
    rfl
  refine pure_ (i := 9) (N := some 27) (v := ?_) (a' := ?_) #[true, true, true, true, true, true, true, true, true, true, false, false, false, false, false, false, false, false] rfl rfl (any_of HT_.out (by kernel_rfl)) (fun _ _ _ h => h) (Or.inl ⟨by rfl, ?_⟩) ?_ ?_
  rotate_left
  · intro w'
    go_simp
    (try with_reducible rfl)
  rotate_left
  · simp only [Act.put, List.setIfInBounds_toArray, List.set_cons_zero, List.set_cons_succ, i64_w, i32_w]
    rfl
  refine take_ (i := 10) (N := some 28) (v := ?_) (a' := ?_) #[true, true, true, true, true, true, true, true, true, true, true, false, false, false, false, false, false, false] rfl rfl (take_ofW HT_.out HW_.out (by kernel_rfl)) (fun _ _ _ h => h) (Or.inl ⟨by rfl, ?_⟩) hHeld ?_ ?_
  rotate_left
  · rintro w' ⟨s0, s1, s2⟩
    go_simp
    (try with_reducible rfl)
  rotate_left
  · simp only [Act.put, List.setIfInBounds_toArray, List.set_cons_zero, List.set_cons_succ, i64_w, i32_w]
    rfl
  refine join_ (σ := Nat) 2 #[true, true, true, true, true, true, true, true, true, true, true, true, true, true, true, true, false, false] (fun gq => [(29, .tuple #[.agg #[.int .i64 d0, .int .i64 d1, .int .i64 d2, .int .i64 d3, .int .i64 d4], .int .i64 de]), (17, .tuple #[.agg #[.int .i64 d0, .int .i64 d1, .int .i64 d2, .int .i64 d3, .int .i64 d4], .int .i64 de]), (30, .agg #[.int .i64 d0, .int .i64 d1, .int .i64 d2, .int .i64 d3, .int .i64 d4]), (31, .int .i64 de), (3, .pointer (some ⟨gq, 0, none⟩))]) (fun gq w' => Below w.heap.size w w' ∧ w.heap.size ≤ gq ∧ w'.heap[gb1]? = some (.cells (cellsM cs (.slice (some ⟨gb2, 0, none⟩) mem.length mem.length) vo) 72 (0, 0)) ∧ w'.heap[gb2]? = some (.cells (cellsI mem) 3 (0, 0)) ∧ w'.heap[gq]? = some (.cells #[.int .i64 0, .int .i64 0, .int .i64 0, .int .i64 0, .int .i64 0] 23 (0, 0)) ∧ (Kd.int .i64).R 3 w' w.heap.size (fun k_ => (k_ ≠ gb1 ∧ k_ ≠ gb2) ∧ k_ ≠ gq) vo out ∧ gb1 ≠ gq ∧ gb2 ≠ gq) ?_ ?_
  rotate_left
  · intro hJ
    refine two_ (i := 11) (j := 15) (Ni := some 29) (Nj := some 3) #[true, true, true, true, true, true, true, true, true, true, true, true, false, false, false, false, false, false] #[true, true, true, true, true, true, true, true, true, true, true, false, false, false, false, true, false, false] rfl rfl rfl rfl (by kernel_rfl) (by decide) (by decide) (fun K hK => ?_) (fun K hK => ?_)
    · skip
      refine goes_ Tryd.func12 (by kernel_rfl) rfl #[.int .i64 wd] (by rfl) rfl rfl (by (try simp only [List.map_toArray, List.map_cons, List.map_nil]); first | done | rfl) ?_
      with_reducible refine (isa_Decode.calls wd d0 d1 d2 d3 d4 de _ AD.out).mono ?_
      rintro e wc ⟨rfl, hb⟩
      refine ⟨_, rfl, ?_⟩
      have r0_ := Aside0.mk (Kd.R_below (by (with_reducible repeat (first | exact HO.out | apply Kd.R_drewN | apply Kd.R_drew | apply Kd.R_alloc))) hb); clear HO; have HO := r0_; clear r0_; have n0_ := Aside0.mk (below_step (by repeat (first | (with_reducible first | exact HB.out | apply below_alloc | apply pw_below_drewN | apply below_drew1) | exact HB.out)) hb); have m1_ := Aside0.mk (blk_below (by (with_reducible repeat (first | exact BK1.out | refine blk_drewN ?_ _ | refine blk_drew ?_ | refine blk_alloc ?_ _)); try exact BK1.out) hb); have m2_ := Aside0.mk (blk_below (by (with_reducible repeat (first | exact BK2.out | refine blk_drewN ?_ _ | refine blk_drew ?_ | refine blk_alloc ?_ _)); try exact BK2.out) hb); clear HB; have HB := n0_; clear n0_; clear BK1; have BK1 := m1_; clear m1_; clear BK2; have BK2 := m2_; clear m2_; clear hb
      refine hK.out _ _ ⟨(blk_cell (by (with_reducible repeat (first | exact BK1.out | refine blk_drewN ?_ _ | refine blk_drew ?_ | refine blk_alloc ?_ _)); try exact BK1.out) 17).trans (cellsM_mem HC.out), (blk_cell (by (with_reducible repeat (first | exact BK1.out | refine blk_drewN ?_ _ | refine blk_drew ?_ | refine blk_alloc ?_ _)); try exact BK1.out) 16).trans ((cellsM_reg HC.out (by decide)).trans hpc16.out), (blk_cell (by (with_reducible repeat (first | exact BK2.out | refine blk_drewN ?_ _ | refine blk_drew ?_ | refine blk_alloc ?_ _)); try exact BK2.out) _).trans hpw.out⟩ (fun hHeld => ?_)
      clear hK K
      refine norm_ (a' := ?_) ?_ ?_
      rotate_left
      · show Act.put _ (some 29) _ = _
        simp only [Act.put, List.setIfInBounds_toArray, List.set_cons_zero, List.set_cons_succ, i64_w, i32_w]
        rfl
      refine pure_ (i := 12) (N := some 17) (v := ?_) (a' := ?_) #[true, true, true, true, true, true, true, true, true, true, true, true, true, false, false, false, false, false] rfl rfl (any_of HT_.out (by kernel_rfl)) (fun _ _ _ h => h) (Or.inl ⟨by rfl, ?_⟩) ?_ ?_
      rotate_left
      · intro w'
        go_simp
        (try with_reducible rfl)
      rotate_left
      · simp only [Act.put, List.setIfInBounds_toArray, List.set_cons_zero, List.set_cons_succ, i64_w, i32_w]
        rfl
      refine pure_ (i := 13) (N := some 30) (v := ?_) (a' := ?_) #[true, true, true, true, true, true, true, true, true, true, true, true, true, true, false, false, false, false] rfl rfl (any_of HT_.out (by kernel_rfl)) (fun _ _ _ h => h) (Or.inl ⟨by rfl, ?_⟩) ?_ ?_
      rotate_left
      · intro w'
        go_simp
        (try with_reducible rfl)
      rotate_left
      · simp only [Act.put, List.setIfInBounds_toArray, List.set_cons_zero, List.set_cons_succ, i64_w, i32_w]
        rfl
      refine pure_ (i := 14) (N := some 31) (v := ?_) (a' := ?_) #[true, true, true, true, true, true, true, true, true, true, true, true, true, true, true, false, false, false] rfl rfl (any_of HT_.out (by kernel_rfl)) (fun _ _ _ h => h) (Or.inl ⟨by rfl, ?_⟩) ?_ ?_
      rotate_left
      · intro w'
        go_simp
        (try with_reducible rfl)
      rotate_left
      · simp only [Act.put, List.setIfInBounds_toArray, List.set_cons_zero, List.set_cons_succ, i64_w, i32_w]
        rfl
      refine one_ (i := 15) (N := some 3) #[true, true, true, true, true, true, true, true, true, true, true, true, true, true, true, true, false, false] rfl rfl (one_of HT_.out (by kernel_rfl)) (by decide) (fun K hK => ?_)
      refine box_step (by rfl) (N := 3) rfl (cs := #[.int .i64 0, .int .i64 0, .int .i64 0, .int .i64 0, .int .i64 0]) (t := 23) (by first | (go_simp; done) | (go_simp; rfl)) ?_
      intro gq hg wq hbox hb
      have r0_ := Aside0.mk (Kd.R_below (Kd.R_mono (Kd.R_bound (by (with_reducible repeat (first | exact HO.out | apply Kd.R_drewN | apply Kd.R_drew | apply Kd.R_alloc)))) (fun k_ hk_ => (⟨hk_.1, by have := hk_.2.2.1; rw [hg]; omega⟩ : (k_ ≠ gb1 ∧ k_ ≠ gb2) ∧ k_ ≠ gq))) hb)
      have n0_ := Aside0.mk (below_step (by repeat (first | (with_reducible first | exact HB.out | apply below_alloc | apply pw_below_drewN | apply below_drew1) | exact HB.out)) hb)
      have BKq := Aside0.mk hbox
      have GEq := Aside0.mk ((by rw [hg]; exact (below_size (by repeat (first | (with_reducible first | exact HB.out | apply below_alloc | apply pw_below_drewN | apply below_drew1) | exact HB.out)))) : w.heap.size ≤ gq)
      have m1_ := Aside0.mk (blk_below (by (with_reducible repeat (first | exact BK1.out | refine blk_drewN ?_ _ | refine blk_drew ?_ | refine blk_alloc ?_ _)); try exact BK1.out) hb)
      have NE1_q := Aside0.mk (show gb1 ≠ gq from by rw [hg]; exact Nat.ne_of_lt (blk_lt (by (with_reducible repeat (first | exact BK1.out | refine blk_drewN ?_ _ | refine blk_drew ?_ | refine blk_alloc ?_ _)); try exact BK1.out)))
      have m2_ := Aside0.mk (blk_below (by (with_reducible repeat (first | exact BK2.out | refine blk_drewN ?_ _ | refine blk_drew ?_ | refine blk_alloc ?_ _)); try exact BK2.out) hb)
      have NE2_q := Aside0.mk (show gb2 ≠ gq from by rw [hg]; exact Nat.ne_of_lt (blk_lt (by (with_reducible repeat (first | exact BK2.out | refine blk_drewN ?_ _ | refine blk_drew ?_ | refine blk_alloc ?_ _)); try exact BK2.out)))
      clear HB HO
      have HB := n0_
      have HO := r0_
      clear n0_ r0_
      clear BK1
      have BK1 := m1_
      clear m1_
      clear BK2
      have BK2 := m2_
      clear m2_
      clear hb hbox hg
      refine hK.out _ _ ⟨(blk_cell (by (with_reducible repeat (first | exact BK1.out | refine blk_drewN ?_ _ | refine blk_drew ?_ | refine blk_alloc ?_ _)); try exact BK1.out) 17).trans (cellsM_mem HC.out), (blk_cell (by (with_reducible repeat (first | exact BK1.out | refine blk_drewN ?_ _ | refine blk_drew ?_ | refine blk_alloc ?_ _)); try exact BK1.out) 16).trans ((cellsM_reg HC.out (by decide)).trans hpc16.out), (blk_cell (by (with_reducible repeat (first | exact BK2.out | refine blk_drewN ?_ _ | refine blk_drew ?_ | refine blk_alloc ?_ _)); try exact BK2.out) _).trans hpw.out⟩ (fun hHeld => ?_)
      clear hK K
      refine norm_ (a' := ?_) ?_ ?_
      rotate_left
      · show Act.put _ (some 3) _ = _
        simp only [Act.put, List.setIfInBounds_toArray, List.set_cons_zero, List.set_cons_succ, i64_w, i32_w]
        rfl
      exact norm_ (by first | (simp only [putAll, Act.put, List.setIfInBounds_toArray, List.set_cons_zero, List.set_cons_succ]; done) | (simp only [putAll, Act.put, List.setIfInBounds_toArray, List.set_cons_zero, List.set_cons_succ]; rfl)) (hJ _ _ ⟨(by repeat (first | (with_reducible first | exact HB.out | apply below_alloc | apply pw_below_drewN | apply below_drew1) | exact HB.out)), GEq.out, (by (with_reducible repeat (first | exact BK1.out | refine blk_drewN ?_ _ | refine blk_drew ?_ | refine blk_alloc ?_ _)); try exact BK1.out), (by (with_reducible repeat (first | exact BK2.out | refine blk_drewN ?_ _ | refine blk_drew ?_ | refine blk_alloc ?_ _)); try exact BK2.out), (by (with_reducible repeat (first | exact BKq.out | refine blk_drewN ?_ _ | refine blk_drew ?_ | refine blk_alloc ?_ _)); try exact BKq.out), (by (with_reducible repeat (first | exact HO.out | apply Kd.R_drewN | apply Kd.R_drew | apply Kd.R_alloc))), NE1_q.out, NE2_q.out⟩)
    · skip
      refine box_step (by rfl) (N := 3) rfl (cs := #[.int .i64 0, .int .i64 0, .int .i64 0, .int .i64 0, .int .i64 0]) (t := 23) (by first | (go_simp; done) | (go_simp; rfl)) ?_
      intro gq hg wq hbox hb
      have r0_ := Aside0.mk (Kd.R_below (Kd.R_mono (Kd.R_bound (by (with_reducible repeat (first | exact HO.out | apply Kd.R_drewN | apply Kd.R_drew | apply Kd.R_alloc)))) (fun k_ hk_ => (⟨hk_.1, by have := hk_.2.2.1; rw [hg]; omega⟩ : (k_ ≠ gb1 ∧ k_ ≠ gb2) ∧ k_ ≠ gq))) hb)
      have n0_ := Aside0.mk (below_step (by repeat (first | (with_reducible first | exact HB.out | apply below_alloc | apply pw_below_drewN | apply below_drew1) | exact HB.out)) hb)
      have BKq := Aside0.mk hbox
      have GEq := Aside0.mk ((by rw [hg]; exact (below_size (by repeat (first | (with_reducible first | exact HB.out | apply below_alloc | apply pw_below_drewN | apply below_drew1) | exact HB.out)))) : w.heap.size ≤ gq)
      have m1_ := Aside0.mk (blk_below (by (with_reducible repeat (first | exact BK1.out | refine blk_drewN ?_ _ | refine blk_drew ?_ | refine blk_alloc ?_ _)); try exact BK1.out) hb)
      have NE1_q := Aside0.mk (show gb1 ≠ gq from by rw [hg]; exact Nat.ne_of_lt (blk_lt (by (with_reducible repeat (first | exact BK1.out | refine blk_drewN ?_ _ | refine blk_drew ?_ | refine blk_alloc ?_ _)); try exact BK1.out)))
      have m2_ := Aside0.mk (blk_below (by (with_reducible repeat (first | exact BK2.out | refine blk_drewN ?_ _ | refine blk_drew ?_ | refine blk_alloc ?_ _)); try exact BK2.out) hb)
      have NE2_q := Aside0.mk (show gb2 ≠ gq from by rw [hg]; exact Nat.ne_of_lt (blk_lt (by (with_reducible repeat (first | exact BK2.out | refine blk_drewN ?_ _ | refine blk_drew ?_ | refine blk_alloc ?_ _)); try exact BK2.out)))
      clear HB HO
      have HB := n0_
      have HO := r0_
      clear n0_ r0_
      clear BK1
      have BK1 := m1_
      clear m1_
      clear BK2
      have BK2 := m2_
      clear m2_
      clear hb hbox hg
      refine hK.out _ _ ⟨(blk_cell (by (with_reducible repeat (first | exact BK1.out | refine blk_drewN ?_ _ | refine blk_drew ?_ | refine blk_alloc ?_ _)); try exact BK1.out) 17).trans (cellsM_mem HC.out), (blk_cell (by (with_reducible repeat (first | exact BK1.out | refine blk_drewN ?_ _ | refine blk_drew ?_ | refine blk_alloc ?_ _)); try exact BK1.out) 16).trans ((cellsM_reg HC.out (by decide)).trans hpc16.out), (blk_cell (by (with_reducible repeat (first | exact BK2.out | refine blk_drewN ?_ _ | refine blk_drew ?_ | refine blk_alloc ?_ _)); try exact BK2.out) _).trans hpw.out⟩ (fun hHeld => ?_)
      clear hK K
      refine norm_ (a' := ?_) ?_ ?_
      rotate_left
      · show Act.put _ (some 3) _ = _
        simp only [Act.put, List.setIfInBounds_toArray, List.set_cons_zero, List.set_cons_succ, i64_w, i32_w]
        rfl
      refine one_ (i := 11) (N := some 29) #[true, true, true, true, true, true, true, true, true, true, true, true, false, false, false, true, false, false] rfl rfl (one_of HT_.out (by kernel_rfl)) (by decide) (fun K hK => ?_)
      refine goes_ Tryd.func12 (by kernel_rfl) rfl #[.int .i64 wd] (by rfl) rfl rfl (by (try simp only [List.map_toArray, List.map_cons, List.map_nil]); first | done | rfl) ?_
      with_reducible refine (isa_Decode.calls wd d0 d1 d2 d3 d4 de _ AD.out).mono ?_
      rintro e wc ⟨rfl, hb⟩
      refine ⟨_, rfl, ?_⟩
      have r0_ := Aside0.mk (Kd.R_below (by (with_reducible repeat (first | exact HO.out | apply Kd.R_drewN | apply Kd.R_drew | apply Kd.R_alloc))) hb); clear HO; have HO := r0_; clear r0_; have n0_ := Aside0.mk (below_step (by repeat (first | (with_reducible first | exact HB.out | apply below_alloc | apply pw_below_drewN | apply below_drew1) | exact HB.out)) hb); have m1_ := Aside0.mk (blk_below (by (with_reducible repeat (first | exact BK1.out | refine blk_drewN ?_ _ | refine blk_drew ?_ | refine blk_alloc ?_ _)); try exact BK1.out) hb); have m2_ := Aside0.mk (blk_below (by (with_reducible repeat (first | exact BK2.out | refine blk_drewN ?_ _ | refine blk_drew ?_ | refine blk_alloc ?_ _)); try exact BK2.out) hb); have mq_ := Aside0.mk (blk_below (by (with_reducible repeat (first | exact BKq.out | refine blk_drewN ?_ _ | refine blk_drew ?_ | refine blk_alloc ?_ _)); try exact BKq.out) hb); clear HB; have HB := n0_; clear n0_; clear BK1; have BK1 := m1_; clear m1_; clear BK2; have BK2 := m2_; clear m2_; clear BKq; have BKq := mq_; clear mq_; clear hb
      refine hK.out _ _ ⟨(blk_cell (by (with_reducible repeat (first | exact BK1.out | refine blk_drewN ?_ _ | refine blk_drew ?_ | refine blk_alloc ?_ _)); try exact BK1.out) 17).trans (cellsM_mem HC.out), (blk_cell (by (with_reducible repeat (first | exact BK1.out | refine blk_drewN ?_ _ | refine blk_drew ?_ | refine blk_alloc ?_ _)); try exact BK1.out) 16).trans ((cellsM_reg HC.out (by decide)).trans hpc16.out), (blk_cell (by (with_reducible repeat (first | exact BK2.out | refine blk_drewN ?_ _ | refine blk_drew ?_ | refine blk_alloc ?_ _)); try exact BK2.out) _).trans hpw.out⟩ (fun hHeld => ?_)
      clear hK K
      refine norm_ (a' := ?_) ?_ ?_
      rotate_left
      · show Act.put _ (some 29) _ = _
        simp only [Act.put, List.setIfInBounds_toArray, List.set_cons_zero, List.set_cons_succ, i64_w, i32_w]
        rfl
      refine pure_ (i := 12) (N := some 17) (v := ?_) (a' := ?_) #[true, true, true, true, true, true, true, true, true, true, true, true, true, false, false, true, false, false] rfl rfl (any_of HT_.out (by kernel_rfl)) (fun _ _ _ h => h) (Or.inl ⟨by rfl, ?_⟩) ?_ ?_
      rotate_left
      · intro w'
        go_simp
        (try with_reducible rfl)
      rotate_left
      · simp only [Act.put, List.setIfInBounds_toArray, List.set_cons_zero, List.set_cons_succ, i64_w, i32_w]
        rfl
      refine pure_ (i := 13) (N := some 30) (v := ?_) (a' := ?_) #[true, true, true, true, true, true, true, true, true, true, true, true, true, true, false, true, false, false] rfl rfl (any_of HT_.out (by kernel_rfl)) (fun _ _ _ h => h) (Or.inl ⟨by rfl, ?_⟩) ?_ ?_
      rotate_left
      · intro w'
        go_simp
        (try with_reducible rfl)
      rotate_left
      · simp only [Act.put, List.setIfInBounds_toArray, List.set_cons_zero, List.set_cons_succ, i64_w, i32_w]
        rfl
      refine pure_ (i := 14) (N := some 31) (v := ?_) (a' := ?_) #[true, true, true, true, true, true, true, true, true, true, true, true, true, true, true, true, false, false] rfl rfl (any_of HT_.out (by kernel_rfl)) (fun _ _ _ h => h) (Or.inl ⟨by rfl, ?_⟩) ?_ ?_
      rotate_left
      · intro w'
        go_simp
        (try with_reducible rfl)
      rotate_left
      · simp only [Act.put, List.setIfInBounds_toArray, List.set_cons_zero, List.set_cons_succ, i64_w, i32_w]
        rfl
      exact norm_ (by first | (simp only [putAll, Act.put, List.setIfInBounds_toArray, List.set_cons_zero, List.set_cons_succ]; done) | (simp only [putAll, Act.put, List.setIfInBounds_toArray, List.set_cons_zero, List.set_cons_succ]; rfl)) (hJ _ _ ⟨(by repeat (first | (with_reducible first | exact HB.out | apply below_alloc | apply pw_below_drewN | apply below_drew1) | exact HB.out)), GEq.out, (by (with_reducible repeat (first | exact BK1.out | refine blk_drewN ?_ _ | refine blk_drew ?_ | refine blk_alloc ?_ _)); try exact BK1.out), (by (with_reducible repeat (first | exact BK2.out | refine blk_drewN ?_ _ | refine blk_drew ?_ | refine blk_alloc ?_ _)); try exact BK2.out), (by (with_reducible repeat (first | exact BKq.out | refine blk_drewN ?_ _ | refine blk_drew ?_ | refine blk_alloc ?_ _)); try exact BKq.out), (by (with_reducible repeat (first | exact HO.out | apply Kd.R_drewN | apply Kd.R_drew | apply Kd.R_alloc))), NE1_q.out, NE2_q.out⟩)
  rintro gb3 W3 ⟨hb, hge, h1, h2, h3, hr, hn1, hn2⟩
  clear HB BK1 BK2 HO hc16 hc17 hcw
  have HB := Aside0.mk hb
  have GE3 := Aside0.mk hge
  have BK1 := Aside0.mk h1
  have BK2 := Aside0.mk h2
  have BK3 := Aside0.mk h3
  have HO := Aside0.mk hr
  have NE1_3 := Aside0.mk hn1
  have NE2_3 := Aside0.mk hn2
  clear hb hge h1 h2 h3 hr hn1 hn2
  refine norm_ (a' := ?_) ?_ ?_
  rotate_left
  · simp only [putAll, Act.put, List.setIfInBounds_toArray, List.set_cons_zero, List.set_cons_succ]
    rfl
  refine one_ (i := 16) (N := none) #[true, true, true, true, true, true, true, true, true, true, true, true, true, true, true, true, true, false] rfl rfl (one_of HT_.out (by kernel_rfl)) (by decide) (fun K hK => ?_)
  refine row_step (by rfl) 23 _ _ rfl gb3 (#[.int .i64 d0, .int .i64 d1, .int .i64 d2, .int .i64 d3, .int .i64 d4]) _ _ (by (with_reducible repeat (first | exact BK3.out | refine blk_drewN ?_ _ | refine blk_drew ?_ | refine blk_alloc ?_ _)); try exact BK3.out) (by rfl) (by rfl) (by kernel_rfl) (by rfl) (cellsI_one [d0, d1, d2, d3, d4]) ?_
  intro W4 hbox hg
  have r0_ := Aside0.mk (Kd.R_grown (by (with_reducible repeat (first | exact HO.out | apply Kd.R_drewN | apply Kd.R_drew | apply Kd.R_alloc))) hg (fun k_ (hk_ : (k_ ≠ gb1 ∧ k_ ≠ gb2) ∧ k_ ≠ gb3) e_ => by injection e_ with e_; omega)); clear HO; have HO := r0_; clear r0_; have n0_ := Aside0.mk (pw_below_grown (by repeat (first | (with_reducible first | exact HB.out | apply below_alloc | apply pw_below_drewN | apply below_drew1) | exact HB.out)) (some gb3) (below_size (by repeat (first | (with_reducible first | exact HB.out | apply below_alloc | apply pw_below_drewN | apply below_drew1) | exact HB.out))) hg (by rintro k_ e_; injection e_ with e_; rw [← e_]; exact GE3.out)); have n1_ := Aside0.mk hbox; have m1_ := Aside0.mk (blk_grown (by (with_reducible repeat (first | exact BK1.out | refine blk_drewN ?_ _ | refine blk_drew ?_ | refine blk_alloc ?_ _)); try exact BK1.out) hg (fun e_ => by injection e_ with e_; exact NE1_3.out e_)); have m2_ := Aside0.mk (blk_grown (by (with_reducible repeat (first | exact BK2.out | refine blk_drewN ?_ _ | refine blk_drew ?_ | refine blk_alloc ?_ _)); try exact BK2.out) hg (fun e_ => by injection e_ with e_; exact NE2_3.out e_)); clear HB BK1 BK2 BK3; have HB := n0_; have BK3 := n1_; have BK1 := m1_; have BK2 := m2_; clear n0_ n1_ m1_ m2_ hbox hg
  refine hK.out _ _ ⟨(blk_cell (by (with_reducible repeat (first | exact BK1.out | refine blk_drewN ?_ _ | refine blk_drew ?_ | refine blk_alloc ?_ _)); try exact BK1.out) 17).trans (cellsM_mem HC.out), (blk_cell (by (with_reducible repeat (first | exact BK1.out | refine blk_drewN ?_ _ | refine blk_drew ?_ | refine blk_alloc ?_ _)); try exact BK1.out) 16).trans ((cellsM_reg HC.out (by decide)).trans hpc16.out), (blk_cell (by (with_reducible repeat (first | exact BK2.out | refine blk_drewN ?_ _ | refine blk_drew ?_ | refine blk_alloc ?_ _)); try exact BK2.out) _).trans hpw.out⟩ (fun hHeld => ?_)
  clear hK K
  refine norm_ (a' := ?_) ?_ ?_
  rotate_left
  · show Act.put _ (none) _ = _
    simp only [Act.put, List.setIfInBounds_toArray, List.set_cons_zero, List.set_cons_succ, i64_w, i32_w]
    rfl
  refine pure_ (i := 17) (N := some 4) (v := ?_) (a' := ?_) #[true, true, true, true, true, true, true, true, true, true, true, true, true, true, true, true, true, true] rfl rfl (any_of HT_.out (by kernel_rfl)) (fun _ _ _ h => h) (Or.inl ⟨by rfl, ?_⟩) ?_ ?_
  rotate_left
  · intro w'
    go_simp
    (try with_reducible rfl)
  rotate_left
  · simp only [Act.put, List.setIfInBounds_toArray, List.set_cons_zero, List.set_cons_succ, i64_w, i32_w]
    rfl
  refine done_ (done_of HT_.out (by kernel_rfl)) ?_
  have hci_0 : W4.cell? ⟨gb3, 0, none⟩ = some (.int .i64 d0) := (blk_cell BK3.out 0).trans (rfl)
  have hci_1 : W4.cell? ⟨gb3, 1, none⟩ = some (.int .i64 d1) := (blk_cell BK3.out 1).trans (rfl)
  have hci_2 : W4.cell? ⟨gb3, 2, none⟩ = some (.int .i64 d2) := (blk_cell BK3.out 2).trans (rfl)
  have hci_3 : W4.cell? ⟨gb3, 3, none⟩ = some (.int .i64 d3) := (blk_cell BK3.out 3).trans (rfl)
  have hci_4 : W4.cell? ⟨gb3, 4, none⟩ = some (.int .i64 d4) := (blk_cell BK3.out 4).trans (rfl)
  have hfi_0 := blk_frozen BK3.out 0
  have hfi_1 := blk_frozen BK3.out 1
  have hfi_2 := blk_frozen BK3.out 2
  have hfi_3 := blk_frozen BK3.out 3
  have hfi_4 := blk_frozen BK3.out 4
  have h := H.out
  clear H
  by_cases ce : de = 0
  case neg =>
    rw [if_neg ce] at h
    replace h : some (false, cs, mem, out) = some (r, cs', mem', out') := h
    simp only [Option.some.injEq, Prod.mk.injEq] at h
    obtain ⟨rfl, rfl, rfl, rfl⟩ := h
    have ceb : (de != 0) = true := by simpa using ce
    clear ce
    go_wp2
    go_ret
    exact ⟨rfl, ⟨vo, (by (with_reducible repeat (first | exact BK1.out | refine blk_drewN ?_ _ | refine blk_drew ?_ | refine blk_alloc ?_ _)); try exact BK1.out), (by (with_reducible repeat (first | exact BK2.out | refine blk_drewN ?_ _ | refine blk_drew ?_ | refine blk_alloc ?_ _)); try exact BK2.out), Kd.R_mono (by (with_reducible repeat (first | exact HO.out | apply Kd.R_drewN | apply Kd.R_drew | apply Kd.R_alloc))) (fun k_ (hk_ : (k_ ≠ gb1 ∧ k_ ≠ gb2) ∧ k_ ≠ gb3) => (⟨by omega, by omega⟩ : k_ ≠ gb1 ∧ k_ ≠ gb2)), NE1_2.out, GE1.out, GE2.out, HC.out⟩, (by repeat (first | (with_reducible first | exact HB.out | apply below_alloc | apply pw_below_drewN | apply below_drew1) | exact HB.out))⟩
  rw [if_pos ce] at h
  subst ce
  obtain ⟨⟨at_, rq⟩, hq, h⟩ := Option.bind_eq_some_iff.mp h
  have AQ := Aside0.mk hq
  clear hq
  have H := Aside0.mk h
  clear h
  go_upto_region 7 with (fail)
  have hrg : W4.rangeAt gb1 0 (cs.map (Value.int .i64)) := rangeM BK1.out
  refine start_ (n := 11) (S := fun w' => w'.rangeAt gb1 0 (cs.map (Value.int .i64)) ∧ w'.cell? ⟨gb3, 0, none⟩ = some (.int .i64 d0) ∧ w'.cell? ⟨gb3, 1, none⟩ = some (.int .i64 d1) ∧ w'.cell? ⟨gb3, 2, none⟩ = some (.int .i64 d2) ∧ w'.cell? ⟨gb3, 3, none⟩ = some (.int .i64 d3) ∧ w'.cell? ⟨gb3, 4, none⟩ = some (.int .i64 d4)) (ds := []) #[false, false, false, false, false, false, false, false, false, false, false] (by kernel_rfl) rfl rfl ⟨hrg, hci_0, hci_1, hci_2, hci_3, hci_4⟩ (fun hHeld => ?_); refine with_tabW isa_machine_step.tab7 isa_machine_step.bits7 (fun HT_ HW_ => ?_)
  refine pure_ (i := 0) (N := some 35) (v := ?_) (a' := ?_) #[true, false, false, false, false, false, false, false, false, false, false] rfl rfl (any_of HT_.out (by kernel_rfl)) (fun _ _ _ h => h) (Or.inl ⟨by rfl, ?_⟩) ?_ ?_
  rotate_left
  · intro w'
    go_simp
    (try with_reducible rfl)
  rotate_left
  · simp only [Act.put, List.setIfInBounds_toArray, List.set_cons_zero, List.set_cons_succ, i64_w, i32_w]
    rfl
  refine pure_ (i := 1) (N := some 36) (v := ?_) (a' := ?_) #[true, true, false, false, false, false, false, false, false, false, false] rfl rfl (any_of HT_.out (by kernel_rfl)) (fun _ _ _ h => h) (Or.inl ⟨by rfl, ?_⟩) ?_ ?_
  rotate_left
  · intro w'
    go_simp
    (try with_reducible rfl)
  rotate_left
  · simp only [Act.put, List.setIfInBounds_toArray, List.set_cons_zero, List.set_cons_succ, i64_w, i32_w]
    rfl
  refine pure_ (i := 2) (N := some 37) (v := ?_) (a' := ?_) #[true, true, true, false, false, false, false, false, false, false, false] rfl rfl (any_of HT_.out (by kernel_rfl)) (fun _ _ _ h => h) (Or.inl ⟨by rfl, ?_⟩) ?_ ?_
  rotate_left
  · intro w'
    go_simp
    (try with_reducible rfl)
  rotate_left
  · simp only [Act.put, List.setIfInBounds_toArray, List.set_cons_zero, List.set_cons_succ, i64_w, i32_w]
    rfl
  refine take_ (i := 3) (N := some 38) (v := .agg (cellsI cs)) (a' := ?_) #[true, true, true, true, false, false, false, false, false, false, false] rfl rfl (take_ofW HT_.out HW_.out (by kernel_rfl)) (fun _ _ _ h => h) (yieldsIf_load_mid (by rfl) 35 _ rfl gb1 0 (by rfl) (cs.map (Value.int .i64)) _ (fun _ s => s.1) Tryd.underlying35 rfl (infoR HC.out)) hHeld ?_ ?_
  rotate_left
  · simp only [Act.put, List.setIfInBounds_toArray, List.set_cons_zero, List.set_cons_succ, i64_w, i32_w]
    rfl
  refine take_ (i := 4) (N := some 39) (v := ?_) (a' := ?_) #[true, true, true, true, true, false, false, false, false, false, false] rfl rfl (take_ofW HT_.out HW_.out (by kernel_rfl)) (fun _ _ _ h => h) (Or.inl ⟨by rfl, ?_⟩) hHeld ?_ ?_
  rotate_left
  · rintro w' ⟨s0, s1, s2, s3, s4, s5⟩
    go_simp
    (try with_reducible rfl)
  rotate_left
  · simp only [Act.put, List.setIfInBounds_toArray, List.set_cons_zero, List.set_cons_succ, i64_w, i32_w]
    rfl
  refine one_ (i := 5) (N := some 40) #[true, true, true, true, true, true, false, false, false, false, false] rfl rfl (one_of HT_.out (by kernel_rfl)) (by decide) (fun K hK => ?_)
  refine goes_ Tryd.func18 (by kernel_rfl) rfl #[.agg (cellsI cs), .agg #[.int .i64 d0, .int .i64 d1, .int .i64 d2, .int .i64 d3, .int .i64 d4]] (by rfl) rfl rfl (by (try simp only [List.map_toArray, List.map_cons, List.map_nil]); first | done | rfl | (simp only [List.length_drop, List.length_take]; rfl)) ?_
  with_reducible refine (isa_Reads.calls cs d0 d1 d2 d3 d4 at_ rq _ HC.out AQ.out).mono ?_
  rintro e wc ⟨rfl, hb⟩
  refine ⟨_, rfl, ?_⟩
  have r0_ := Aside0.mk (Kd.R_below (by (with_reducible repeat (first | exact HO.out | apply Kd.R_drewN | apply Kd.R_drew | apply Kd.R_alloc))) hb); clear HO; have HO := r0_; clear r0_; have n0_ := Aside0.mk (below_step (by repeat (first | (with_reducible first | exact HB.out | apply below_alloc | apply pw_below_drewN | apply below_drew1) | exact HB.out)) hb); have m1_ := Aside0.mk (blk_below (by (with_reducible repeat (first | exact BK1.out | refine blk_drewN ?_ _ | refine blk_drew ?_ | refine blk_alloc ?_ _)); try exact BK1.out) hb); have m2_ := Aside0.mk (blk_below (by (with_reducible repeat (first | exact BK2.out | refine blk_drewN ?_ _ | refine blk_drew ?_ | refine blk_alloc ?_ _)); try exact BK2.out) hb); have m3_ := Aside0.mk (blk_below (by (with_reducible repeat (first | exact BK3.out | refine blk_drewN ?_ _ | refine blk_drew ?_ | refine blk_alloc ?_ _)); try exact BK3.out) hb); clear HB; have HB := n0_; clear n0_; clear BK1; have BK1 := m1_; clear m1_; clear BK2; have BK2 := m2_; clear m2_; clear BK3; have BK3 := m3_; clear m3_; clear hb
  clear hrg hci_0 hfi_0 hci_1 hfi_1 hci_2 hfi_2 hci_3 hfi_3 hci_4 hfi_4
  refine hK.out _ _ ⟨rangeM (by (with_reducible repeat (first | exact BK1.out | refine blk_drewN ?_ _ | refine blk_drew ?_ | refine blk_alloc ?_ _)); try exact BK1.out), (blk_cell (by (with_reducible repeat (first | exact BK3.out | refine blk_drewN ?_ _ | refine blk_drew ?_ | refine blk_alloc ?_ _)); try exact BK3.out) 0).trans rfl, (blk_cell (by (with_reducible repeat (first | exact BK3.out | refine blk_drewN ?_ _ | refine blk_drew ?_ | refine blk_alloc ?_ _)); try exact BK3.out) 1).trans rfl, (blk_cell (by (with_reducible repeat (first | exact BK3.out | refine blk_drewN ?_ _ | refine blk_drew ?_ | refine blk_alloc ?_ _)); try exact BK3.out) 2).trans rfl, (blk_cell (by (with_reducible repeat (first | exact BK3.out | refine blk_drewN ?_ _ | refine blk_drew ?_ | refine blk_alloc ?_ _)); try exact BK3.out) 3).trans rfl, (blk_cell (by (with_reducible repeat (first | exact BK3.out | refine blk_drewN ?_ _ | refine blk_drew ?_ | refine blk_alloc ?_ _)); try exact BK3.out) 4).trans rfl⟩ (fun hHeld => ?_)
  clear hK K
  refine norm_ (a' := ?_) ?_ ?_
  rotate_left
  · show Act.put _ (some 40) _ = _
    simp only [Act.put, List.setIfInBounds_toArray, List.set_cons_zero, List.set_cons_succ, i64_w, i32_w]
    rfl
  refine pure_ (i := 6) (N := some 34) (v := ?_) (a' := ?_) #[true, true, true, true, true, true, true, false, false, false, false] rfl rfl (any_of HT_.out (by kernel_rfl)) (fun _ _ _ h => h) (Or.inl ⟨by rfl, ?_⟩) ?_ ?_
  rotate_left
  · intro w'
    go_simp
    (try with_reducible rfl)
  rotate_left
  · simp only [Act.put, List.setIfInBounds_toArray, List.set_cons_zero, List.set_cons_succ, i64_w, i32_w]
    rfl
  refine pure_ (i := 7) (N := some 41) (v := ?_) (a' := ?_) #[true, true, true, true, true, true, true, true, false, false, false] rfl rfl (any_of HT_.out (by kernel_rfl)) (fun _ _ _ h => h) (Or.inl ⟨by rfl, ?_⟩) ?_ ?_
  rotate_left
  · intro w'
    go_simp
    (try with_reducible rfl)
  rotate_left
  · simp only [Act.put, List.setIfInBounds_toArray, List.set_cons_zero, List.set_cons_succ, i64_w, i32_w]
    rfl
  refine pure_ (i := 8) (N := some 42) (v := ?_) (a' := ?_) #[true, true, true, true, true, true, true, true, true, false, false] rfl rfl (any_of HT_.out (by kernel_rfl)) (fun _ _ _ h => h) (Or.inl ⟨by rfl, ?_⟩) ?_ ?_
  rotate_left
  · intro w'
    go_simp
    (try with_reducible rfl)
  rotate_left
  · simp only [Act.put, List.setIfInBounds_toArray, List.set_cons_zero, List.set_cons_succ, i64_w, i32_w]
    rfl
  refine pure_ (i := 9) (N := some 6) (v := ?_) (a' := ?_) #[true, true, true, true, true, true, true, true, true, true, false] rfl rfl (any_of HT_.out (by kernel_rfl)) (fun _ _ _ h => h) (Or.inl ⟨by rfl, ?_⟩) ?_ ?_
  rotate_left
  · intro w'
    go_simp
    (try with_reducible rfl)
  rotate_left
  · simp only [Act.put, List.setIfInBounds_toArray, List.set_cons_zero, List.set_cons_succ, i64_w, i32_w]
    rfl
  refine pure_ (i := 10) (N := some 7) (v := ?_) (a' := ?_) #[true, true, true, true, true, true, true, true, true, true, true] rfl rfl (any_of HT_.out (by kernel_rfl)) (fun _ _ _ h => h) (Or.inl ⟨by rfl, ?_⟩) ?_ ?_
  rotate_left
  · intro w'
    go_simp
    (try with_reducible rfl)
  rotate_left
  · simp only [Act.put, List.setIfInBounds_toArray, List.set_cons_zero, List.set_cons_succ, i64_w, i32_w]
    rfl
  refine done_ (done_of HT_.out (by kernel_rfl)) ?_
  cases rq with
  | true =>
    have h := H.out
    clear H
    have hc17 : wc.cell? ⟨gb1, 17, none⟩ = some (.slice (some ⟨gb2, 0, none⟩) mem.length mem.length) := (blk_cell BK1.out 17).trans (cellsM_mem HC.out)
    by_cases ci : 0 ≤ at_ ∧ at_ < (mem.length : Int)
    case neg =>
      rw [if_pos (show _ ∧ _ from ⟨rfl, ci⟩)] at h
      replace h : some (false, cs, mem, out) = some (r, cs', mem', out') := h
      simp only [Option.some.injEq, Prod.mk.injEq] at h
      obtain ⟨rfl, rfl, rfl, rfl⟩ := h
      go_wp2_with (first | (go_at_call 47; refine (isa_machine_inside.calls gb1 mem.length mem.length (some ⟨gb2, 0, none⟩) at_ false _ hc17 (congrArg some (decide_eq_false ci))).mono ?_; rintro e w' ⟨rfl, ⟨nd, rfl⟩⟩))
      go_ret
      exact ⟨rfl, ⟨vo, (by (with_reducible repeat (first | exact BK1.out | refine blk_drewN ?_ _ | refine blk_drew ?_ | refine blk_alloc ?_ _)); try exact BK1.out), (by (with_reducible repeat (first | exact BK2.out | refine blk_drewN ?_ _ | refine blk_drew ?_ | refine blk_alloc ?_ _)); try exact BK2.out), Kd.R_mono (by (with_reducible repeat (first | exact HO.out | apply Kd.R_drewN | apply Kd.R_drew | apply Kd.R_alloc))) (fun k_ (hk_ : (k_ ≠ gb1 ∧ k_ ≠ gb2) ∧ k_ ≠ gb3) => (⟨by omega, by omega⟩ : k_ ≠ gb1 ∧ k_ ≠ gb2)), NE1_2.out, GE1.out, GE2.out, HC.out⟩, (by repeat (first | (with_reducible first | exact HB.out | apply below_alloc | apply pw_below_drewN | apply below_drew1) | exact HB.out))⟩
    rw [if_neg (show ¬ _ from fun z => z.2 ci)] at h
    have hci := decide_eq_true ci
    obtain ⟨ca0, ca1⟩ := ci
    obtain ⟨lw, hlw⟩ : ∃ x, mem.getD at_.toNat 0 = x := ⟨_, rfl⟩
    have hcl : wc.cell? ⟨gb2, at_.toNat, none⟩ = some (.int .i64 lw) := (blk_cell BK2.out _).trans ((cellsI_get (by omega)).trans (by rw [hlw]))
    simp only [if_true, hlw] at h
    clear hlw
    have H := Aside0.mk h
    clear h
    go_upto_region 12 with (first | (go_at_call 47; refine (isa_machine_inside.calls gb1 mem.length mem.length (some ⟨gb2, 0, none⟩) at_ true _ hc17 (congrArg some hci)).mono ?_; rintro e w' ⟨rfl, ⟨nd, rfl⟩⟩))
    clear hci hcl hc17 ca0 ca1
    obtain ⟨⟨x0, x1, x2, x3, x4, x5, x6⟩, hx, h⟩ := Option.bind_eq_some_iff.mp H.out
    clear H
    have AX := Aside0.mk hx
    have HL := Aside0.mk (isa_Execute.len HC.out hx)
    clear hx
    have H := Aside0.mk h
    clear h
    have hrg : wc.rangeAt gb1 0 (cs.map (Value.int .i64)) := rangeM BK1.out
    have hci_0 : wc.cell? ⟨gb3, 0, none⟩ = some (.int .i64 d0) := (blk_cell BK3.out 0).trans (rfl)
    have hci_1 : wc.cell? ⟨gb3, 1, none⟩ = some (.int .i64 d1) := (blk_cell BK3.out 1).trans (rfl)
    have hci_2 : wc.cell? ⟨gb3, 2, none⟩ = some (.int .i64 d2) := (blk_cell BK3.out 2).trans (rfl)
    have hci_3 : wc.cell? ⟨gb3, 3, none⟩ = some (.int .i64 d3) := (blk_cell BK3.out 3).trans (rfl)
    have hci_4 : wc.cell? ⟨gb3, 4, none⟩ = some (.int .i64 d4) := (blk_cell BK3.out 4).trans (rfl)
    have hfi_0 := blk_frozen BK3.out 0
    have hfi_1 := blk_frozen BK3.out 1
    have hfi_2 := blk_frozen BK3.out 2
    have hfi_3 := blk_frozen BK3.out 3
    have hfi_4 := blk_frozen BK3.out 4
    refine start_ (n := 13) (S := fun w' => w'.rangeAt gb1 0 (cs.map (Value.int .i64)) ∧ w'.cell? ⟨gb3, 0, none⟩ = some (.int .i64 d0) ∧ w'.cell? ⟨gb3, 1, none⟩ = some (.int .i64 d1) ∧ w'.cell? ⟨gb3, 2, none⟩ = some (.int .i64 d2) ∧ w'.cell? ⟨gb3, 3, none⟩ = some (.int .i64 d3) ∧ w'.cell? ⟨gb3, 4, none⟩ = some (.int .i64 d4)) (ds := []) #[false, false, false, false, false, false, false, false, false, false, false, false, false] (by kernel_rfl) rfl rfl ⟨hrg, hci_0, hci_1, hci_2, hci_3, hci_4⟩ (fun hHeld => ?_); refine with_tabW isa_machine_step.tab12 isa_machine_step.bits12 (fun HT_ HW_ => ?_)
    refine pure_ (i := 0) (N := some 56) (v := ?_) (a' := ?_) #[true, false, false, false, false, false, false, false, false, false, false, false, false] rfl rfl (any_of HT_.out (by kernel_rfl)) (fun _ _ _ h => h) (Or.inl ⟨by rfl, ?_⟩) ?_ ?_
    rotate_left
    · intro w'
      go_simp
      (try with_reducible rfl)
    rotate_left
    · simp only [Act.put, List.setIfInBounds_toArray, List.set_cons_zero, List.set_cons_succ, i64_w, i32_w]
      rfl
    refine pure_ (i := 1) (N := some 57) (v := ?_) (a' := ?_) #[true, true, false, false, false, false, false, false, false, false, false, false, false] rfl rfl (any_of HT_.out (by kernel_rfl)) (fun _ _ _ h => h) (Or.inl ⟨by rfl, ?_⟩) ?_ ?_
    rotate_left
    · intro w'
      go_simp
      (try with_reducible rfl)
    rotate_left
    · simp only [Act.put, List.setIfInBounds_toArray, List.set_cons_zero, List.set_cons_succ, i64_w, i32_w]
      rfl
    refine pure_ (i := 2) (N := some 58) (v := ?_) (a' := ?_) #[true, true, true, false, false, false, false, false, false, false, false, false, false] rfl rfl (any_of HT_.out (by kernel_rfl)) (fun _ _ _ h => h) (Or.inl ⟨by rfl, ?_⟩) ?_ ?_
    rotate_left
    · intro w'
      go_simp
      (try with_reducible rfl)
    rotate_left
    · simp only [Act.put, List.setIfInBounds_toArray, List.set_cons_zero, List.set_cons_succ, i64_w, i32_w]
      rfl
    refine take_ (i := 3) (N := some 59) (v := .agg (cellsI cs)) (a' := ?_) #[true, true, true, true, false, false, false, false, false, false, false, false, false] rfl rfl (take_ofW HT_.out HW_.out (by kernel_rfl)) (fun _ _ _ h => h) (yieldsIf_load_mid (by rfl) 35 _ rfl gb1 0 (by rfl) (cs.map (Value.int .i64)) _ (fun _ s => s.1) Tryd.underlying35 rfl (infoR HC.out)) hHeld ?_ ?_
    rotate_left
    · simp only [Act.put, List.setIfInBounds_toArray, List.set_cons_zero, List.set_cons_succ, i64_w, i32_w]
      rfl
    refine take_ (i := 4) (N := some 60) (v := ?_) (a' := ?_) #[true, true, true, true, true, false, false, false, false, false, false, false, false] rfl rfl (take_ofW HT_.out HW_.out (by kernel_rfl)) (fun _ _ _ h => h) (Or.inl ⟨by rfl, ?_⟩) hHeld ?_ ?_
    rotate_left
    · rintro w' ⟨s0, s1, s2, s3, s4, s5⟩
      go_simp
      (try with_reducible rfl)
    rotate_left
    · simp only [Act.put, List.setIfInBounds_toArray, List.set_cons_zero, List.set_cons_succ, i64_w, i32_w]
      rfl
    refine pure_ (i := 5) (N := some 61) (v := ?_) (a' := ?_) #[true, true, true, true, true, true, false, false, false, false, false, false, false] rfl rfl (any_of HT_.out (by kernel_rfl)) (fun _ _ _ h => h) (Or.inl ⟨by rfl, ?_⟩) ?_ ?_
    rotate_left
    · intro w'
      go_simp
      (try with_reducible rfl)
    rotate_left
    · simp only [Act.put, List.setIfInBounds_toArray, List.set_cons_zero, List.set_cons_succ, i64_w, i32_w]
      rfl
    refine join_ (σ := Nat) 2 #[true, true, true, true, true, true, true, true, true, true, true, false, false] (fun gq => [(62, .tuple #[.agg (cellsE x0 x1 x2 x3 x4 x5), .int .i64 x6]), (55, .tuple #[.agg (cellsE x0 x1 x2 x3 x4 x5), .int .i64 x6]), (63, .agg (cellsE x0 x1 x2 x3 x4 x5)), (64, .int .i64 x6), (8, .pointer (some ⟨gq, 0, none⟩))]) (fun gq w' => Below w.heap.size w w' ∧ w.heap.size ≤ gq ∧ w'.heap[gb1]? = some (.cells (cellsM cs (.slice (some ⟨gb2, 0, none⟩) mem.length mem.length) vo) 72 (0, 0)) ∧ w'.heap[gb2]? = some (.cells (cellsI mem) 3 (0, 0)) ∧ w'.heap[gb3]? = some (.cells #[.int .i64 d0, .int .i64 d1, .int .i64 d2, .int .i64 d3, .int .i64 d4] 23 (0, 0)) ∧ w'.heap[gq]? = some (.cells (cellsE zeros17 false 0 0 false 0) 40 (0, 0)) ∧ (Kd.int .i64).R 3 w' w.heap.size (fun k_ => ((k_ ≠ gb1 ∧ k_ ≠ gb2) ∧ k_ ≠ gb3) ∧ k_ ≠ gq) vo out ∧ gb1 ≠ gq ∧ gb2 ≠ gq ∧ gb3 ≠ gq) ?_ ?_
    rotate_left
    · intro hJ
      refine two_ (i := 6) (j := 10) (Ni := some 62) (Nj := some 8) #[true, true, true, true, true, true, true, false, false, false, false, false, false] #[true, true, true, true, true, true, false, false, false, false, true, false, false] rfl rfl rfl rfl (by kernel_rfl) (by decide) (by decide) (fun K hK => ?_) (fun K hK => ?_)
      · skip
        refine goes_ Tryd.func20 (by kernel_rfl) rfl #[.agg (cellsI cs), .agg #[.int .i64 d0, .int .i64 d1, .int .i64 d2, .int .i64 d3, .int .i64 d4], .int .i64 lw] (by rfl) rfl rfl (by (try simp only [List.map_toArray, List.map_cons, List.map_nil]); first | done | rfl) ?_
        with_reducible refine (isa_Execute.calls cs d0 d1 d2 d3 d4 lw x0 x1 x2 x3 x4 x5 x6 _ ⟨Glob.below hGl.out (by repeat (first | (with_reducible first | exact HB.out | apply below_alloc | apply pw_below_drewN | apply below_drew1) | exact HB.out))⟩ HC.out AX.out).mono ?_
        rintro e we ⟨rfl, hb⟩
        refine ⟨_, rfl, ?_⟩
        have r0_ := Aside0.mk (Kd.R_below (by (with_reducible repeat (first | exact HO.out | apply Kd.R_drewN | apply Kd.R_drew | apply Kd.R_alloc))) hb); clear HO; have HO := r0_; clear r0_; have n0_ := Aside0.mk (below_step (by repeat (first | (with_reducible first | exact HB.out | apply below_alloc | apply pw_below_drewN | apply below_drew1) | exact HB.out)) hb); have m1_ := Aside0.mk (blk_below (by (with_reducible repeat (first | exact BK1.out | refine blk_drewN ?_ _ | refine blk_drew ?_ | refine blk_alloc ?_ _)); try exact BK1.out) hb); have m2_ := Aside0.mk (blk_below (by (with_reducible repeat (first | exact BK2.out | refine blk_drewN ?_ _ | refine blk_drew ?_ | refine blk_alloc ?_ _)); try exact BK2.out) hb); have m3_ := Aside0.mk (blk_below (by (with_reducible repeat (first | exact BK3.out | refine blk_drewN ?_ _ | refine blk_drew ?_ | refine blk_alloc ?_ _)); try exact BK3.out) hb); clear HB; have HB := n0_; clear n0_; clear BK1; have BK1 := m1_; clear m1_; clear BK2; have BK2 := m2_; clear m2_; clear BK3; have BK3 := m3_; clear m3_; clear hb
        refine hK.out _ _ ⟨rangeM (by (with_reducible repeat (first | exact BK1.out | refine blk_drewN ?_ _ | refine blk_drew ?_ | refine blk_alloc ?_ _)); try exact BK1.out), (blk_cell (by (with_reducible repeat (first | exact BK3.out | refine blk_drewN ?_ _ | refine blk_drew ?_ | refine blk_alloc ?_ _)); try exact BK3.out) 0).trans rfl, (blk_cell (by (with_reducible repeat (first | exact BK3.out | refine blk_drewN ?_ _ | refine blk_drew ?_ | refine blk_alloc ?_ _)); try exact BK3.out) 1).trans rfl, (blk_cell (by (with_reducible repeat (first | exact BK3.out | refine blk_drewN ?_ _ | refine blk_drew ?_ | refine blk_alloc ?_ _)); try exact BK3.out) 2).trans rfl, (blk_cell (by (with_reducible repeat (first | exact BK3.out | refine blk_drewN ?_ _ | refine blk_drew ?_ | refine blk_alloc ?_ _)); try exact BK3.out) 3).trans rfl, (blk_cell (by (with_reducible repeat (first | exact BK3.out | refine blk_drewN ?_ _ | refine blk_drew ?_ | refine blk_alloc ?_ _)); try exact BK3.out) 4).trans rfl⟩ (fun hHeld => ?_)
        clear hK K
        refine norm_ (a' := ?_) ?_ ?_
        rotate_left
        · show Act.put _ (some 62) _ = _
          simp only [Act.put, List.setIfInBounds_toArray, List.set_cons_zero, List.set_cons_succ, i64_w, i32_w]
          rfl
        refine pure_ (i := 7) (N := some 55) (v := ?_) (a' := ?_) #[true, true, true, true, true, true, true, true, false, false, false, false, false] rfl rfl (any_of HT_.out (by kernel_rfl)) (fun _ _ _ h => h) (Or.inl ⟨by rfl, ?_⟩) ?_ ?_
        rotate_left
        · intro w'
          go_simp
          (try with_reducible rfl)
        rotate_left
        · simp only [Act.put, List.setIfInBounds_toArray, List.set_cons_zero, List.set_cons_succ, i64_w, i32_w]
          rfl
        refine pure_ (i := 8) (N := some 63) (v := ?_) (a' := ?_) #[true, true, true, true, true, true, true, true, true, false, false, false, false] rfl rfl (any_of HT_.out (by kernel_rfl)) (fun _ _ _ h => h) (Or.inl ⟨by rfl, ?_⟩) ?_ ?_
        rotate_left
        · intro w'
          go_simp
          (try with_reducible rfl)
        rotate_left
        · simp only [Act.put, List.setIfInBounds_toArray, List.set_cons_zero, List.set_cons_succ, i64_w, i32_w]
          rfl
        refine pure_ (i := 9) (N := some 64) (v := ?_) (a' := ?_) #[true, true, true, true, true, true, true, true, true, true, false, false, false] rfl rfl (any_of HT_.out (by kernel_rfl)) (fun _ _ _ h => h) (Or.inl ⟨by rfl, ?_⟩) ?_ ?_
        rotate_left
        · intro w'
          go_simp
          (try with_reducible rfl)
        rotate_left
        · simp only [Act.put, List.setIfInBounds_toArray, List.set_cons_zero, List.set_cons_succ, i64_w, i32_w]
          rfl
        refine one_ (i := 10) (N := some 8) #[true, true, true, true, true, true, true, true, true, true, true, false, false] rfl rfl (one_of HT_.out (by kernel_rfl)) (by decide) (fun K hK => ?_)
        refine box_step (by rfl) (N := 8) rfl (cs := cellsE zeros17 false 0 0 false 0) (t := 40) (by first | (go_simp; done) | (go_simp; rfl)) ?_
        intro gq hg wq hbox hb
        have r0_ := Aside0.mk (Kd.R_below (Kd.R_mono (Kd.R_bound (by (with_reducible repeat (first | exact HO.out | apply Kd.R_drewN | apply Kd.R_drew | apply Kd.R_alloc)))) (fun k_ hk_ => (⟨hk_.1, by have := hk_.2.2.1; rw [hg]; omega⟩ : ((k_ ≠ gb1 ∧ k_ ≠ gb2) ∧ k_ ≠ gb3) ∧ k_ ≠ gq))) hb)
        have n0_ := Aside0.mk (below_step (by repeat (first | (with_reducible first | exact HB.out | apply below_alloc | apply pw_below_drewN | apply below_drew1) | exact HB.out)) hb)
        have BKq := Aside0.mk hbox
        have GEq := Aside0.mk ((by rw [hg]; exact (below_size (by repeat (first | (with_reducible first | exact HB.out | apply below_alloc | apply pw_below_drewN | apply below_drew1) | exact HB.out)))) : w.heap.size ≤ gq)
        have m1_ := Aside0.mk (blk_below (by (with_reducible repeat (first | exact BK1.out | refine blk_drewN ?_ _ | refine blk_drew ?_ | refine blk_alloc ?_ _)); try exact BK1.out) hb)
        have NE1_q := Aside0.mk (show gb1 ≠ gq from by rw [hg]; exact Nat.ne_of_lt (blk_lt (by (with_reducible repeat (first | exact BK1.out | refine blk_drewN ?_ _ | refine blk_drew ?_ | refine blk_alloc ?_ _)); try exact BK1.out)))
        have m2_ := Aside0.mk (blk_below (by (with_reducible repeat (first | exact BK2.out | refine blk_drewN ?_ _ | refine blk_drew ?_ | refine blk_alloc ?_ _)); try exact BK2.out) hb)
        have NE2_q := Aside0.mk (show gb2 ≠ gq from by rw [hg]; exact Nat.ne_of_lt (blk_lt (by (with_reducible repeat (first | exact BK2.out | refine blk_drewN ?_ _ | refine blk_drew ?_ | refine blk_alloc ?_ _)); try exact BK2.out)))
        have m3_ := Aside0.mk (blk_below (by (with_reducible repeat (first | exact BK3.out | refine blk_drewN ?_ _ | refine blk_drew ?_ | refine blk_alloc ?_ _)); try exact BK3.out) hb)
        have NE3_q := Aside0.mk (show gb3 ≠ gq from by rw [hg]; exact Nat.ne_of_lt (blk_lt (by (with_reducible repeat (first | exact BK3.out | refine blk_drewN ?_ _ | refine blk_drew ?_ | refine blk_alloc ?_ _)); try exact BK3.out)))
        clear HB HO
        have HB := n0_
        have HO := r0_
        clear n0_ r0_
        clear BK1
        have BK1 := m1_
        clear m1_
        clear BK2
        have BK2 := m2_
        clear m2_
        clear BK3
        have BK3 := m3_
        clear m3_
        clear hb hbox hg
        refine hK.out _ _ ⟨rangeM (by (with_reducible repeat (first | exact BK1.out | refine blk_drewN ?_ _ | refine blk_drew ?_ | refine blk_alloc ?_ _)); try exact BK1.out), (blk_cell (by (with_reducible repeat (first | exact BK3.out | refine blk_drewN ?_ _ | refine blk_drew ?_ | refine blk_alloc ?_ _)); try exact BK3.out) 0).trans rfl, (blk_cell (by (with_reducible repeat (first | exact BK3.out | refine blk_drewN ?_ _ | refine blk_drew ?_ | refine blk_alloc ?_ _)); try exact BK3.out) 1).trans rfl, (blk_cell (by (with_reducible repeat (first | exact BK3.out | refine blk_drewN ?_ _ | refine blk_drew ?_ | refine blk_alloc ?_ _)); try exact BK3.out) 2).trans rfl, (blk_cell (by (with_reducible repeat (first | exact BK3.out | refine blk_drewN ?_ _ | refine blk_drew ?_ | refine blk_alloc ?_ _)); try exact BK3.out) 3).trans rfl, (blk_cell (by (with_reducible repeat (first | exact BK3.out | refine blk_drewN ?_ _ | refine blk_drew ?_ | refine blk_alloc ?_ _)); try exact BK3.out) 4).trans rfl⟩ (fun hHeld => ?_)
        clear hK K
        refine norm_ (a' := ?_) ?_ ?_
        rotate_left
        · show Act.put _ (some 8) _ = _
          simp only [Act.put, List.setIfInBounds_toArray, List.set_cons_zero, List.set_cons_succ, i64_w, i32_w]
          rfl
        exact norm_ (by first | (simp only [putAll, Act.put, List.setIfInBounds_toArray, List.set_cons_zero, List.set_cons_succ]; done) | (simp only [putAll, Act.put, List.setIfInBounds_toArray, List.set_cons_zero, List.set_cons_succ]; rfl)) (hJ _ _ ⟨(by repeat (first | (with_reducible first | exact HB.out | apply below_alloc | apply pw_below_drewN | apply below_drew1) | exact HB.out)), GEq.out, (by (with_reducible repeat (first | exact BK1.out | refine blk_drewN ?_ _ | refine blk_drew ?_ | refine blk_alloc ?_ _)); try exact BK1.out), (by (with_reducible repeat (first | exact BK2.out | refine blk_drewN ?_ _ | refine blk_drew ?_ | refine blk_alloc ?_ _)); try exact BK2.out), (by (with_reducible repeat (first | exact BK3.out | refine blk_drewN ?_ _ | refine blk_drew ?_ | refine blk_alloc ?_ _)); try exact BK3.out), (by (with_reducible repeat (first | exact BKq.out | refine blk_drewN ?_ _ | refine blk_drew ?_ | refine blk_alloc ?_ _)); try exact BKq.out), (by (with_reducible repeat (first | exact HO.out | apply Kd.R_drewN | apply Kd.R_drew | apply Kd.R_alloc))), NE1_q.out, NE2_q.out, NE3_q.out⟩)
      · skip
        refine box_step (by rfl) (N := 8) rfl (cs := cellsE zeros17 false 0 0 false 0) (t := 40) (by first | (go_simp; done) | (go_simp; rfl)) ?_
        intro gq hg wq hbox hb
        have r0_ := Aside0.mk (Kd.R_below (Kd.R_mono (Kd.R_bound (by (with_reducible repeat (first | exact HO.out | apply Kd.R_drewN | apply Kd.R_drew | apply Kd.R_alloc)))) (fun k_ hk_ => (⟨hk_.1, by have := hk_.2.2.1; rw [hg]; omega⟩ : ((k_ ≠ gb1 ∧ k_ ≠ gb2) ∧ k_ ≠ gb3) ∧ k_ ≠ gq))) hb)
        have n0_ := Aside0.mk (below_step (by repeat (first | (with_reducible first | exact HB.out | apply below_alloc | apply pw_below_drewN | apply below_drew1) | exact HB.out)) hb)
        have BKq := Aside0.mk hbox
        have GEq := Aside0.mk ((by rw [hg]; exact (below_size (by repeat (first | (with_reducible first | exact HB.out | apply below_alloc | apply pw_below_drewN | apply below_drew1) | exact HB.out)))) : w.heap.size ≤ gq)
        have m1_ := Aside0.mk (blk_below (by (with_reducible repeat (first | exact BK1.out | refine blk_drewN ?_ _ | refine blk_drew ?_ | refine blk_alloc ?_ _)); try exact BK1.out) hb)
        have NE1_q := Aside0.mk (show gb1 ≠ gq from by rw [hg]; exact Nat.ne_of_lt (blk_lt (by (with_reducible repeat (first | exact BK1.out | refine blk_drewN ?_ _ | refine blk_drew ?_ | refine blk_alloc ?_ _)); try exact BK1.out)))
        have m2_ := Aside0.mk (blk_below (by (with_reducible repeat (first | exact BK2.out | refine blk_drewN ?_ _ | refine blk_drew ?_ | refine blk_alloc ?_ _)); try exact BK2.out) hb)
        have NE2_q := Aside0.mk (show gb2 ≠ gq from by rw [hg]; exact Nat.ne_of_lt (blk_lt (by (with_reducible repeat (first | exact BK2.out | refine blk_drewN ?_ _ | refine blk_drew ?_ | refine blk_alloc ?_ _)); try exact BK2.out)))
        have m3_ := Aside0.mk (blk_below (by (with_reducible repeat (first | exact BK3.out | refine blk_drewN ?_ _ | refine blk_drew ?_ | refine blk_alloc ?_ _)); try exact BK3.out) hb)
        have NE3_q := Aside0.mk (show gb3 ≠ gq from by rw [hg]; exact Nat.ne_of_lt (blk_lt (by (with_reducible repeat (first | exact BK3.out | refine blk_drewN ?_ _ | refine blk_drew ?_ | refine blk_alloc ?_ _)); try exact BK3.out)))
        clear HB HO
        have HB := n0_
        have HO := r0_
        clear n0_ r0_
        clear BK1
        have BK1 := m1_
        clear m1_
        clear BK2
        have BK2 := m2_
        clear m2_
        clear BK3
        have BK3 := m3_
        clear m3_
        clear hb hbox hg
        refine hK.out _ _ ⟨rangeM (by (with_reducible repeat (first | exact BK1.out | refine blk_drewN ?_ _ | refine blk_drew ?_ | refine blk_alloc ?_ _)); try exact BK1.out), (blk_cell (by (with_reducible repeat (first | exact BK3.out | refine blk_drewN ?_ _ | refine blk_drew ?_ | refine blk_alloc ?_ _)); try exact BK3.out) 0).trans rfl, (blk_cell (by (with_reducible repeat (first | exact BK3.out | refine blk_drewN ?_ _ | refine blk_drew ?_ | refine blk_alloc ?_ _)); try exact BK3.out) 1).trans rfl, (blk_cell (by (with_reducible repeat (first | exact BK3.out | refine blk_drewN ?_ _ | refine blk_drew ?_ | refine blk_alloc ?_ _)); try exact BK3.out) 2).trans rfl, (blk_cell (by (with_reducible repeat (first | exact BK3.out | refine blk_drewN ?_ _ | refine blk_drew ?_ | refine blk_alloc ?_ _)); try exact BK3.out) 3).trans rfl, (blk_cell (by (with_reducible repeat (first | exact BK3.out | refine blk_drewN ?_ _ | refine blk_drew ?_ | refine blk_alloc ?_ _)); try exact BK3.out) 4).trans rfl⟩ (fun hHeld => ?_)
        clear hK K
        refine norm_ (a' := ?_) ?_ ?_
        rotate_left
        · show Act.put _ (some 8) _ = _
          simp only [Act.put, List.setIfInBounds_toArray, List.set_cons_zero, List.set_cons_succ, i64_w, i32_w]
          rfl
        refine one_ (i := 6) (N := some 62) #[true, true, true, true, true, true, true, false, false, false, true, false, false] rfl rfl (one_of HT_.out (by kernel_rfl)) (by decide) (fun K hK => ?_)
        refine goes_ Tryd.func20 (by kernel_rfl) rfl #[.agg (cellsI cs), .agg #[.int .i64 d0, .int .i64 d1, .int .i64 d2, .int .i64 d3, .int .i64 d4], .int .i64 lw] (by rfl) rfl rfl (by (try simp only [List.map_toArray, List.map_cons, List.map_nil]); first | done | rfl) ?_
        with_reducible refine (isa_Execute.calls cs d0 d1 d2 d3 d4 lw x0 x1 x2 x3 x4 x5 x6 _ ⟨Glob.below hGl.out (by repeat (first | (with_reducible first | exact HB.out | apply below_alloc | apply pw_below_drewN | apply below_drew1) | exact HB.out))⟩ HC.out AX.out).mono ?_
        rintro e we ⟨rfl, hb⟩
        refine ⟨_, rfl, ?_⟩
        have r0_ := Aside0.mk (Kd.R_below (by (with_reducible repeat (first | exact HO.out | apply Kd.R_drewN | apply Kd.R_drew | apply Kd.R_alloc))) hb); clear HO; have HO := r0_; clear r0_; have n0_ := Aside0.mk (below_step (by repeat (first | (with_reducible first | exact HB.out | apply below_alloc | apply pw_below_drewN | apply below_drew1) | exact HB.out)) hb); have m1_ := Aside0.mk (blk_below (by (with_reducible repeat (first | exact BK1.out | refine blk_drewN ?_ _ | refine blk_drew ?_ | refine blk_alloc ?_ _)); try exact BK1.out) hb); have m2_ := Aside0.mk (blk_below (by (with_reducible repeat (first | exact BK2.out | refine blk_drewN ?_ _ | refine blk_drew ?_ | refine blk_alloc ?_ _)); try exact BK2.out) hb); have m3_ := Aside0.mk (blk_below (by (with_reducible repeat (first | exact BK3.out | refine blk_drewN ?_ _ | refine blk_drew ?_ | refine blk_alloc ?_ _)); try exact BK3.out) hb); have mq_ := Aside0.mk (blk_below (by (with_reducible repeat (first | exact BKq.out | refine blk_drewN ?_ _ | refine blk_drew ?_ | refine blk_alloc ?_ _)); try exact BKq.out) hb); clear HB; have HB := n0_; clear n0_; clear BK1; have BK1 := m1_; clear m1_; clear BK2; have BK2 := m2_; clear m2_; clear BK3; have BK3 := m3_; clear m3_; clear BKq; have BKq := mq_; clear mq_; clear hb
        refine hK.out _ _ ⟨rangeM (by (with_reducible repeat (first | exact BK1.out | refine blk_drewN ?_ _ | refine blk_drew ?_ | refine blk_alloc ?_ _)); try exact BK1.out), (blk_cell (by (with_reducible repeat (first | exact BK3.out | refine blk_drewN ?_ _ | refine blk_drew ?_ | refine blk_alloc ?_ _)); try exact BK3.out) 0).trans rfl, (blk_cell (by (with_reducible repeat (first | exact BK3.out | refine blk_drewN ?_ _ | refine blk_drew ?_ | refine blk_alloc ?_ _)); try exact BK3.out) 1).trans rfl, (blk_cell (by (with_reducible repeat (first | exact BK3.out | refine blk_drewN ?_ _ | refine blk_drew ?_ | refine blk_alloc ?_ _)); try exact BK3.out) 2).trans rfl, (blk_cell (by (with_reducible repeat (first | exact BK3.out | refine blk_drewN ?_ _ | refine blk_drew ?_ | refine blk_alloc ?_ _)); try exact BK3.out) 3).trans rfl, (blk_cell (by (with_reducible repeat (first | exact BK3.out | refine blk_drewN ?_ _ | refine blk_drew ?_ | refine blk_alloc ?_ _)); try exact BK3.out) 4).trans rfl⟩ (fun hHeld => ?_)
        clear hK K
        refine norm_ (a' := ?_) ?_ ?_
        rotate_left
        · show Act.put _ (some 62) _ = _
          simp only [Act.put, List.setIfInBounds_toArray, List.set_cons_zero, List.set_cons_succ, i64_w, i32_w]
          rfl
        refine pure_ (i := 7) (N := some 55) (v := ?_) (a' := ?_) #[true, true, true, true, true, true, true, true, false, false, true, false, false] rfl rfl (any_of HT_.out (by kernel_rfl)) (fun _ _ _ h => h) (Or.inl ⟨by rfl, ?_⟩) ?_ ?_
        rotate_left
        · intro w'
          go_simp
          (try with_reducible rfl)
        rotate_left
        · simp only [Act.put, List.setIfInBounds_toArray, List.set_cons_zero, List.set_cons_succ, i64_w, i32_w]
          rfl
        refine pure_ (i := 8) (N := some 63) (v := ?_) (a' := ?_) #[true, true, true, true, true, true, true, true, true, false, true, false, false] rfl rfl (any_of HT_.out (by kernel_rfl)) (fun _ _ _ h => h) (Or.inl ⟨by rfl, ?_⟩) ?_ ?_
        rotate_left
        · intro w'
          go_simp
          (try with_reducible rfl)
        rotate_left
        · simp only [Act.put, List.setIfInBounds_toArray, List.set_cons_zero, List.set_cons_succ, i64_w, i32_w]
          rfl
        refine pure_ (i := 9) (N := some 64) (v := ?_) (a' := ?_) #[true, true, true, true, true, true, true, true, true, true, true, false, false] rfl rfl (any_of HT_.out (by kernel_rfl)) (fun _ _ _ h => h) (Or.inl ⟨by rfl, ?_⟩) ?_ ?_
        rotate_left
        · intro w'
          go_simp
          (try with_reducible rfl)
        rotate_left
        · simp only [Act.put, List.setIfInBounds_toArray, List.set_cons_zero, List.set_cons_succ, i64_w, i32_w]
          rfl
        exact norm_ (by first | (simp only [putAll, Act.put, List.setIfInBounds_toArray, List.set_cons_zero, List.set_cons_succ]; done) | (simp only [putAll, Act.put, List.setIfInBounds_toArray, List.set_cons_zero, List.set_cons_succ]; rfl)) (hJ _ _ ⟨(by repeat (first | (with_reducible first | exact HB.out | apply below_alloc | apply pw_below_drewN | apply below_drew1) | exact HB.out)), GEq.out, (by (with_reducible repeat (first | exact BK1.out | refine blk_drewN ?_ _ | refine blk_drew ?_ | refine blk_alloc ?_ _)); try exact BK1.out), (by (with_reducible repeat (first | exact BK2.out | refine blk_drewN ?_ _ | refine blk_drew ?_ | refine blk_alloc ?_ _)); try exact BK2.out), (by (with_reducible repeat (first | exact BK3.out | refine blk_drewN ?_ _ | refine blk_drew ?_ | refine blk_alloc ?_ _)); try exact BK3.out), (by (with_reducible repeat (first | exact BKq.out | refine blk_drewN ?_ _ | refine blk_drew ?_ | refine blk_alloc ?_ _)); try exact BKq.out), (by (with_reducible repeat (first | exact HO.out | apply Kd.R_drewN | apply Kd.R_drew | apply Kd.R_alloc))), NE1_q.out, NE2_q.out, NE3_q.out⟩)
    rintro gb8 W8 ⟨hb, hge, h1, h2, h3, h8, hr, hn1, hn2, hn3⟩
    clear HB BK1 BK2 BK3 HO hrg hci_0 hfi_0 hci_1 hfi_1 hci_2 hfi_2 hci_3 hfi_3 hci_4 hfi_4
    have HB := Aside0.mk hb
    have GE8 := Aside0.mk hge
    have BK1 := Aside0.mk h1
    have BK2 := Aside0.mk h2
    have BK3 := Aside0.mk h3
    have BK8 := Aside0.mk h8
    have HO := Aside0.mk hr
    have NE1_8 := Aside0.mk hn1
    have NE2_8 := Aside0.mk hn2
    have NE3_8 := Aside0.mk hn3
    clear hb hge h1 h2 h3 h8 hr hn1 hn2 hn3
    refine norm_ (a' := ?_) ?_ ?_
    rotate_left
    · simp only [putAll, Act.put, List.setIfInBounds_toArray, List.set_cons_zero, List.set_cons_succ]
      rfl
    refine one_ (i := 11) (N := none) #[true, true, true, true, true, true, true, true, true, true, true, true, false] rfl rfl (one_of HT_.out (by kernel_rfl)) (by decide) (fun K hK => ?_)
    refine row_step (by rfl) 40 _ _ rfl gb8 (cellsE x0 x1 x2 x3 x4 x5) _ _ (by (with_reducible repeat (first | exact BK8.out | refine blk_drewN ?_ _ | refine blk_drew ?_ | refine blk_alloc ?_ _)); try exact BK8.out) (by rfl) (by rfl) (info40 HL.out) (by exact (cellsE_size rfl).trans (cellsE_size HL.out).symm) cellsE_one ?_
    intro W9 hbox hg
    have r0_ := Aside0.mk (Kd.R_grown (by (with_reducible repeat (first | exact HO.out | apply Kd.R_drewN | apply Kd.R_drew | apply Kd.R_alloc))) hg (fun k_ (hk_ : ((k_ ≠ gb1 ∧ k_ ≠ gb2) ∧ k_ ≠ gb3) ∧ k_ ≠ gb8) e_ => by injection e_ with e_; omega)); clear HO; have HO := r0_; clear r0_; have n0_ := Aside0.mk (pw_below_grown (by repeat (first | (with_reducible first | exact HB.out | apply below_alloc | apply pw_below_drewN | apply below_drew1) | exact HB.out)) (some gb8) (below_size (by repeat (first | (with_reducible first | exact HB.out | apply below_alloc | apply pw_below_drewN | apply below_drew1) | exact HB.out))) hg (by rintro k_ e_; injection e_ with e_; rw [← e_]; exact GE8.out)); have n1_ := Aside0.mk hbox; have m1_ := Aside0.mk (blk_grown (by (with_reducible repeat (first | exact BK1.out | refine blk_drewN ?_ _ | refine blk_drew ?_ | refine blk_alloc ?_ _)); try exact BK1.out) hg (fun e_ => by injection e_ with e_; exact NE1_8.out e_)); have m2_ := Aside0.mk (blk_grown (by (with_reducible repeat (first | exact BK2.out | refine blk_drewN ?_ _ | refine blk_drew ?_ | refine blk_alloc ?_ _)); try exact BK2.out) hg (fun e_ => by injection e_ with e_; exact NE2_8.out e_)); have m3_ := Aside0.mk (blk_grown (by (with_reducible repeat (first | exact BK3.out | refine blk_drewN ?_ _ | refine blk_drew ?_ | refine blk_alloc ?_ _)); try exact BK3.out) hg (fun e_ => by injection e_ with e_; exact NE3_8.out e_)); clear HB BK1 BK2 BK3 BK8; have HB := n0_; have BK8 := n1_; have BK1 := m1_; have BK2 := m2_; have BK3 := m3_; clear n0_ n1_ m1_ m2_ m3_ hbox hg
    refine hK.out _ _ ⟨rangeM (by (with_reducible repeat (first | exact BK1.out | refine blk_drewN ?_ _ | refine blk_drew ?_ | refine blk_alloc ?_ _)); try exact BK1.out), (blk_cell (by (with_reducible repeat (first | exact BK3.out | refine blk_drewN ?_ _ | refine blk_drew ?_ | refine blk_alloc ?_ _)); try exact BK3.out) 0).trans rfl, (blk_cell (by (with_reducible repeat (first | exact BK3.out | refine blk_drewN ?_ _ | refine blk_drew ?_ | refine blk_alloc ?_ _)); try exact BK3.out) 1).trans rfl, (blk_cell (by (with_reducible repeat (first | exact BK3.out | refine blk_drewN ?_ _ | refine blk_drew ?_ | refine blk_alloc ?_ _)); try exact BK3.out) 2).trans rfl, (blk_cell (by (with_reducible repeat (first | exact BK3.out | refine blk_drewN ?_ _ | refine blk_drew ?_ | refine blk_alloc ?_ _)); try exact BK3.out) 3).trans rfl, (blk_cell (by (with_reducible repeat (first | exact BK3.out | refine blk_drewN ?_ _ | refine blk_drew ?_ | refine blk_alloc ?_ _)); try exact BK3.out) 4).trans rfl⟩ (fun hHeld => ?_)
    clear hK K
    refine norm_ (a' := ?_) ?_ ?_
    rotate_left
    · show Act.put _ (none) _ = _
      simp only [Act.put, List.setIfInBounds_toArray, List.set_cons_zero, List.set_cons_succ, i64_w, i32_w]
      rfl
    refine pure_ (i := 12) (N := some 4) (v := ?_) (a' := ?_) #[true, true, true, true, true, true, true, true, true, true, true, true, true] rfl rfl (any_of HT_.out (by kernel_rfl)) (fun _ _ _ h => h) (Or.inl ⟨by rfl, ?_⟩) ?_ ?_
    rotate_left
    · intro w'
      go_simp
      (try with_reducible rfl)
    rotate_left
    · simp only [Act.put, List.setIfInBounds_toArray, List.set_cons_zero, List.set_cons_succ, i64_w, i32_w]
      rfl
    refine done_ (done_of HT_.out (by kernel_rfl)) ?_
    have h := H.out
    clear H
    have hc17 : W9.cell? ⟨gb1, 17, none⟩ = some (.slice (some ⟨gb2, 0, none⟩) mem.length mem.length) := (blk_cell BK1.out 17).trans (cellsM_mem HC.out)
    have he17 : W9.cell? ⟨gb8, 17, none⟩ = some (.bool x1) := (blk_cell BK8.out 17).trans (cellsE_at17 HL.out)
    have he18 : W9.cell? ⟨gb8, 18, none⟩ = some (.int .i64 x2) := (blk_cell BK8.out 18).trans (cellsE_at18 HL.out)
    have he19 : W9.cell? ⟨gb8, 19, none⟩ = some (.int .i64 x3) := (blk_cell BK8.out 19).trans (cellsE_at19 HL.out)
    have he20 : W9.cell? ⟨gb8, 20, none⟩ = some (.bool x4) := (blk_cell BK8.out 20).trans (cellsE_at20 HL.out)
    have he21 : W9.cell? ⟨gb8, 21, none⟩ = some (.int .i64 x5) := (blk_cell BK8.out 21).trans (cellsE_at21 HL.out)
    by_cases ce : x6 = 0
    case neg =>
      rw [if_neg (show ¬ _ from fun z => ce z.1)] at h
      replace h : some (false, cs, mem, out) = some (r, cs', mem', out') := h
      simp only [Option.some.injEq, Prod.mk.injEq] at h
      obtain ⟨rfl, rfl, rfl, rfl⟩ := h
      have ceb : (x6 != 0) = true := by simpa using ce
      clear ce
      go_wp2
      go_ret
      exact ⟨rfl, ⟨vo, (by (with_reducible repeat (first | exact BK1.out | refine blk_drewN ?_ _ | refine blk_drew ?_ | refine blk_alloc ?_ _)); try exact BK1.out), (by (with_reducible repeat (first | exact BK2.out | refine blk_drewN ?_ _ | refine blk_drew ?_ | refine blk_alloc ?_ _)); try exact BK2.out), Kd.R_mono (by (with_reducible repeat (first | exact HO.out | apply Kd.R_drewN | apply Kd.R_drew | apply Kd.R_alloc))) (fun k_ (hk_ : ((k_ ≠ gb1 ∧ k_ ≠ gb2) ∧ k_ ≠ gb3) ∧ k_ ≠ gb8) => (⟨by omega, by omega⟩ : k_ ≠ gb1 ∧ k_ ≠ gb2)), NE1_2.out, GE1.out, GE2.out, HC.out⟩, (by repeat (first | (with_reducible first | exact HB.out | apply below_alloc | apply pw_below_drewN | apply below_drew1) | exact HB.out))⟩
    subst ce
    cases x1 with
    | false =>
      rw [if_pos (show _ ∧ _ from ⟨rfl, fun z => Bool.noConfusion z⟩)] at h
      go_upto_region 17 with (fail)
      cases x4 with
      | false =>
        go_upto_region 19 with (fail)
        replace h : some (true, x0, mem, out) = some (r, cs', mem', out') := h
        simp only [Option.some.injEq, Prod.mk.injEq] at h
        obtain ⟨rfl, rfl, rfl, rfl⟩ := h
        go_wp2_with (first | ((with_reducible refine gate_dst (N := 104) rfl ?_); refine wpList_load_mid (by rfl) 35 _ rfl gb8 0 (by rfl) (x0.map (Value.int .i64)) _ (rangeE HL.out (by (with_reducible repeat (first | exact BK8.out | refine blk_drewN ?_ _ | refine blk_drew ?_ | refine blk_alloc ?_ _)); try exact BK8.out)) Tryd.underlying35 rfl (infoR HL.out) ?_) | ((with_reducible refine gate_store (t := 35) (p := 106) rfl ?_); refine head_event (by rfl) 35 _ _ rfl gb1 (x0.map (Value.int .i64)) (cs.map (Value.int .i64)) [(.slice (some ⟨gb2, 0, none⟩) mem.length mem.length), vo] _ (by (with_reducible repeat (first | exact BK1.out | refine blk_drewN ?_ _ | refine blk_drew ?_ | refine blk_alloc ?_ _)); try exact BK1.out) (by rfl) (by first | rfl | (go_simp; done) | (go_simp; rfl)) (infoR HL.out) (by rw [List.length_map, List.length_map, HL.out, HC.out]) (by intro v_ hv_; simp only [List.mem_map] at hv_; obtain ⟨_, _, rfl⟩ := hv_; rfl) ?_; intro Wz hbox hg; have r0_ := Aside0.mk (Kd.R_grown (by (with_reducible repeat (first | exact HO.out | apply Kd.R_drewN | apply Kd.R_drew | apply Kd.R_alloc))) hg (fun k_ (hk_ : ((k_ ≠ gb1 ∧ k_ ≠ gb2) ∧ k_ ≠ gb3) ∧ k_ ≠ gb8) e_ => by injection e_ with e_; omega)); have n0_ := Aside0.mk (pw_below_grown (by repeat (first | (with_reducible first | exact HB.out | apply below_alloc | apply pw_below_drewN | apply below_drew1) | exact HB.out)) (some gb1) (below_size (by repeat (first | (with_reducible first | exact HB.out | apply below_alloc | apply pw_below_drewN | apply below_drew1) | exact HB.out))) hg (by rintro k_ e_; injection e_ with e_; rw [← e_]; exact GE1.out)); have n1_ := Aside0.mk hbox; have m2_ := Aside0.mk (blk_grown (by (with_reducible repeat (first | exact BK2.out | refine blk_drewN ?_ _ | refine blk_drew ?_ | refine blk_alloc ?_ _)); try exact BK2.out) hg (fun e_ => by injection e_ with e_; exact NE1_2.out e_.symm)); clear HB HO BK1 BK2; have HB := n0_; have HO := r0_; have BK1 := n1_; have BK2 := m2_; clear n0_ n1_ m2_ r0_ hbox hg))
        go_ret
        exact ⟨rfl, ⟨vo, (by (with_reducible repeat (first | exact BK1.out | refine blk_drewN ?_ _ | refine blk_drew ?_ | refine blk_alloc ?_ _)); try exact BK1.out), (by (with_reducible repeat (first | exact BK2.out | refine blk_drewN ?_ _ | refine blk_drew ?_ | refine blk_alloc ?_ _)); try exact BK2.out), Kd.R_mono (by (with_reducible repeat (first | exact HO.out | apply Kd.R_drewN | apply Kd.R_drew | apply Kd.R_alloc))) (fun k_ (hk_ : ((k_ ≠ gb1 ∧ k_ ≠ gb2) ∧ k_ ≠ gb3) ∧ k_ ≠ gb8) => (⟨by omega, by omega⟩ : k_ ≠ gb1 ∧ k_ ≠ gb2)), NE1_2.out, GE1.out, GE2.out, HL.out⟩, (by repeat (first | (with_reducible first | exact HB.out | apply below_alloc | apply pw_below_drewN | apply below_drew1) | exact HB.out))⟩
      | true =>
        go_upto_region 18 with (fail)
        have hv18 : W9.cell? ⟨gb1, 18, none⟩ = some vo := (blk_cell BK1.out 18).trans (cellsM_out HC.out)
        refine start_ (n := 12) (S := fun w' => w'.cell? ⟨gb1, 18, none⟩ = some vo ∧ w'.cell? ⟨gb8, 21, none⟩ = some (.int .i64 x5)) (ds := [11]) #[false, false, false, false, false, false, false, false, false, false, false, false] (by kernel_rfl) rfl rfl ⟨hv18, he21⟩ (fun hHeld => ?_); refine with_tabW isa_machine_step.tab18 isa_machine_step.bits18 (fun HT_ HW_ => ?_)
        refine pure_ (i := 0) (N := some 91) (v := ?_) (a' := ?_) #[true, false, false, false, false, false, false, false, false, false, false, false] rfl rfl (any_of HT_.out (by kernel_rfl)) (fun _ _ _ h => h) (Or.inl ⟨by rfl, ?_⟩) ?_ ?_
        rotate_left
        · intro w'
          go_simp
          (try with_reducible rfl)
        rotate_left
        · simp only [Act.put, List.setIfInBounds_toArray, List.set_cons_zero, List.set_cons_succ, i64_w, i32_w]
          rfl
        refine pure_ (i := 1) (N := some 92) (v := ?_) (a' := ?_) #[true, true, false, false, false, false, false, false, false, false, false, false] rfl rfl (any_of HT_.out (by kernel_rfl)) (fun _ _ _ h => h) (Or.inl ⟨by rfl, ?_⟩) ?_ ?_
        rotate_left
        · intro w'
          go_simp
          (try with_reducible rfl)
        rotate_left
        · simp only [Act.put, List.setIfInBounds_toArray, List.set_cons_zero, List.set_cons_succ, i64_w, i32_w]
          rfl
        refine pure_ (i := 2) (N := some 93) (v := ?_) (a' := ?_) #[true, true, true, false, false, false, false, false, false, false, false, false] rfl rfl (any_of HT_.out (by kernel_rfl)) (fun _ _ _ h => h) (Or.inl ⟨by rfl, ?_⟩) ?_ ?_
        rotate_left
        · intro w'
          go_simp
          (try with_reducible rfl)
        rotate_left
        · simp only [Act.put, List.setIfInBounds_toArray, List.set_cons_zero, List.set_cons_succ, i64_w, i32_w]
          rfl
        refine pure_ (i := 3) (N := some 94) (v := ?_) (a' := ?_) #[true, true, true, true, false, false, false, false, false, false, false, false] rfl rfl (any_of HT_.out (by kernel_rfl)) (fun _ _ _ h => h) (Or.inl ⟨by rfl, ?_⟩) ?_ ?_
        rotate_left
        · intro w'
          go_simp
          (try with_reducible rfl)
        rotate_left
        · simp only [Act.put, List.setIfInBounds_toArray, List.set_cons_zero, List.set_cons_succ, i64_w, i32_w]
          rfl
        refine pure_ (i := 5) (N := some 96) (v := ?_) (a' := ?_) #[true, true, true, true, false, true, false, false, false, false, false, false] rfl rfl (any_of HT_.out (by kernel_rfl)) (fun _ _ _ h => h) (Or.inl ⟨by rfl, ?_⟩) ?_ ?_
        rotate_left
        · intro w'
          go_simp
          (try with_reducible rfl)
        rotate_left
        · simp only [Act.put, List.setIfInBounds_toArray, List.set_cons_zero, List.set_cons_succ, i64_w, i32_w]
          rfl
        refine take_ (i := 4) (N := some 95) (v := ?_) (a' := ?_) #[true, true, true, true, true, true, false, false, false, false, false, false] rfl rfl (take_ofW HT_.out HW_.out (by kernel_rfl)) (fun _ _ _ h => h) (Or.inl ⟨by rfl, ?_⟩) hHeld ?_ ?_
        rotate_left
        · rintro w' ⟨s0, s1⟩
          go_simp
          (try with_reducible rfl)
        rotate_left
        · simp only [Act.put, List.setIfInBounds_toArray, List.set_cons_zero, List.set_cons_succ, i64_w, i32_w]
          rfl
        refine take_ (i := 6) (N := some 97) (v := ?_) (a' := ?_) #[true, true, true, true, true, true, true, false, false, false, false, false] rfl rfl (take_ofW HT_.out HW_.out (by kernel_rfl)) (fun _ _ _ h => h) (Or.inl ⟨by rfl, ?_⟩) hHeld ?_ ?_
        rotate_left
        · rintro w' ⟨s0, s1⟩
          go_simp
          (try with_reducible rfl)
        rotate_left
        · simp only [Act.put, List.setIfInBounds_toArray, List.set_cons_zero, List.set_cons_succ, i64_w, i32_w]
          rfl
        refine one_ (i := 7) (N := some 98) #[true, true, true, true, true, true, true, true, false, false, false, false] rfl rfl (one_of HT_.out (by kernel_rfl)) (by decide) (fun K hK => ?_)
        refine event_step (by rfl) (v := .slice (some ⟨W9.drew.heap.size, 0, none⟩) 1 1) (w1 := W9.drew.alloc (.cells #[.int .i64 x5] 3)) (by first | (go_simp; done) | (go_simp; rfl)) ?_
        refine hK.out _ _ ⟨(blk_cell (by (with_reducible repeat (first | exact BK1.out | refine blk_drewN ?_ _ | refine blk_drew ?_ | refine blk_alloc ?_ _)); try exact BK1.out) 18).trans (cellsM_out HC.out), (blk_cell (by (with_reducible repeat (first | exact BK8.out | refine blk_drewN ?_ _ | refine blk_drew ?_ | refine blk_alloc ?_ _)); try exact BK8.out) 21).trans (cellsE_at21 HL.out)⟩ (fun hHeld => ?_)
        clear hK K
        refine norm_ (a' := ?_) ?_ ?_
        rotate_left
        · show Act.put _ (some 98) _ = _
          simp only [Act.put, List.setIfInBounds_toArray, List.set_cons_zero, List.set_cons_succ, i64_w, i32_w]
          rfl
        refine one_ (i := 8) (N := some 99) #[true, true, true, true, true, true, true, true, true, false, false, false] rfl rfl (one_of HT_.out (by kernel_rfl)) (by decide) (fun K hK => ?_)
        refine Kd.R_append_step (Kd.int .i64) (w0 := w) (W := W9.drew) w.heap.size (by rfl) (.tmp 95) (.tmp 98) 44 3 (.int .i64 0) 8 rfl Tryd.underlying44 (by kernel_rfl) rfl (by decide) (by omega) vo out x5 [.int .i64 x5] (fun k_ => k_ ≠ gb1 ∧ k_ ≠ gb2) (fun _ => False) rfl rfl ?aP (fun _ hk => hk.elim) ?aF ?aO ?aB ?aS ?aL ?_
        case aP => exact rfl
        case aF => exact fun k_ hk_ => ⟨fun e_ => by have := blk_lt (by (with_reducible repeat (first | exact BK1.out | refine blk_drewN ?_ _ | refine blk_drew ?_ | refine blk_alloc ?_ _)); try exact BK1.out); subst e_; exact absurd this (Nat.not_lt.mpr hk_), fun e_ => by have := blk_lt (by (with_reducible repeat (first | exact BK2.out | refine blk_drewN ?_ _ | refine blk_drew ?_ | refine blk_alloc ?_ _)); try exact BK2.out); subst e_; exact absurd this (Nat.not_lt.mpr hk_)⟩
        case aO => exact Kd.R_mono (by (with_reducible repeat (first | exact HO.out | apply Kd.R_drewN | apply Kd.R_drew | apply Kd.R_alloc))) (fun k_ (hk_ : ((k_ ≠ gb1 ∧ k_ ≠ gb2) ∧ k_ ≠ gb3) ∧ k_ ≠ gb8) => (⟨by omega, by omega⟩ : k_ ≠ gb1 ∧ k_ ≠ gb2))
        case aB => exact by repeat (first | (with_reducible first | exact HB.out | apply below_alloc | apply pw_below_drewN | apply below_drew1) | exact HB.out)
        case aS => exact below_size (by repeat (first | (with_reducible first | exact HB.out | apply below_alloc | apply pw_below_drewN | apply below_drew1) | exact HB.out))
        case aL => have := HOL.out; omega
        intro vo1 Wp hr hb hg hat
        obtain ⟨Av, cv, hvv⟩ := Kd.R_slice hr
        generalize (out ++ [x5]).length = nv at hvv
        subst hvv
        have m1_ := Aside0.mk (blk_grown (by (with_reducible repeat (first | exact BK1.out | refine blk_drewN ?_ _ | refine blk_drew ?_ | refine blk_alloc ?_ _)); try exact BK1.out) hg (fun e_ => (HO.out.1 gb1 e_.symm).1.1.1 rfl))
        have m2_ := Aside0.mk (blk_grown (by (with_reducible repeat (first | exact BK2.out | refine blk_drewN ?_ _ | refine blk_drew ?_ | refine blk_alloc ?_ _)); try exact BK2.out) hg (fun e_ => (HO.out.1 gb2 e_.symm).1.1.2 rfl))
        have m8_ := Aside0.mk (blk_grown (by (with_reducible repeat (first | exact BK8.out | refine blk_drewN ?_ _ | refine blk_drew ?_ | refine blk_alloc ?_ _)); try exact BK8.out) hg (fun e_ => (HO.out.1 gb8 e_.symm).2 rfl))
        clear HB HO BK1 BK2 BK8 hv18 he20 he21 hc17 he17 he18 he19
        have HB := Aside0.mk hb
        have HO := Aside0.mk hr
        have BK1 := m1_
        have BK2 := m2_
        have BK8 := m8_
        clear hb hr hg hat m1_ m2_ m8_
        have hv18 : Wp.cell? ⟨gb1, 18, none⟩ = some vo := (blk_cell BK1.out 18).trans (cellsM_out HC.out)
        have hvf := blk_frozen BK1.out 18
        refine hK.out _ _ ⟨(blk_cell (by (with_reducible repeat (first | exact BK1.out | refine blk_drewN ?_ _ | refine blk_drew ?_ | refine blk_alloc ?_ _)); try exact BK1.out) 18).trans (cellsM_out HC.out), (blk_cell (by (with_reducible repeat (first | exact BK8.out | refine blk_drewN ?_ _ | refine blk_drew ?_ | refine blk_alloc ?_ _)); try exact BK8.out) 21).trans (cellsE_at21 HL.out)⟩ (fun hHeld => ?_)
        clear hK K
        refine norm_ (a' := ?_) ?_ ?_
        rotate_left
        · show Act.put _ (some 99) _ = _
          simp only [Act.put, List.setIfInBounds_toArray, List.set_cons_zero, List.set_cons_succ, i64_w, i32_w]
          rfl
        refine pure_ (i := 9) (N := some 100) (v := ?_) (a' := ?_) #[true, true, true, true, true, true, true, true, true, true, false, false] rfl rfl (any_of HT_.out (by kernel_rfl)) (fun _ _ _ h => h) (Or.inl ⟨by rfl, ?_⟩) ?_ ?_
        rotate_left
        · intro w'
          go_simp
          (try with_reducible rfl)
        rotate_left
        · simp only [Act.put, List.setIfInBounds_toArray, List.set_cons_zero, List.set_cons_succ, i64_w, i32_w]
          rfl
        refine pure_ (i := 10) (N := some 101) (v := ?_) (a' := ?_) #[true, true, true, true, true, true, true, true, true, true, true, false] rfl rfl (any_of HT_.out (by kernel_rfl)) (fun _ _ _ h => h) (Or.inl ⟨by rfl, ?_⟩) ?_ ?_
        rotate_left
        · intro w'
          go_simp
          (try with_reducible rfl)
        rotate_left
        · simp only [Act.put, List.setIfInBounds_toArray, List.set_cons_zero, List.set_cons_succ, i64_w, i32_w]
          rfl
        refine last_ (i := 11) (N := none) #[true, true, true, true, true, true, true, true, true, true, true, true] rfl rfl (one_of HT_.out (by kernel_rfl)) (by decide) (fun K hK => ?_)
        refine skip_ (w1 := ?_) (by rfl) rfl ?_ ?_
        rotate_left
        · go_simp
          rfl
        refine hK.out _ _ ?_
        clear hK K
        refine done_ (done_of HT_.out (by kernel_rfl)) ?_
        go_upto_region 19 with (fail)
        refine gen_w (P := Code.wp _ _ _) (F := fun W => Below w.heap.size w W ∧ W.heap[gb1]? = some (.cells (cellsM cs (.slice (some ⟨gb2, 0, none⟩) mem.length mem.length) (.slice Av nv cv)) 72 (0, 0)) ∧ W.heap[gb2]? = some (.cells (cellsI mem) 3 (0, 0)) ∧ W.heap[gb8]? = some (.cells (cellsE x0 false x2 x3 true x5) 40 (0, 0)) ∧ (Kd.int .i64).R 3 W w.heap.size (fun k_ => k_ ≠ gb1 ∧ k_ ≠ gb2) (.slice Av nv cv) (out ++ [x5])) ⟨?_, ?_, ?_, ?_, ?_⟩ ?_
        · repeat (first | (with_reducible first | exact HB.out | apply pw_below_drewN | apply below_drew1 | refine below_set ?_ GE1.out) | exact HB.out)
        · (with_reducible repeat (first | refine blk_drewN ?_ _ | refine blk_drew ?_)); refine blk_put (cs := cellsM cs (.slice (some ⟨gb2, 0, none⟩) mem.length mem.length) vo) ?_ 18 _ (cellsM_setOut HC.out _); (with_reducible repeat (first | refine blk_drewN ?_ _ | refine blk_drew ?_)); exact BK1.out
        · (with_reducible repeat (first | refine blk_drewN ?_ _ | refine blk_drew ?_)); refine blk_far ?_ (Ne.symm NE1_2.out) _; (with_reducible repeat (first | refine blk_drewN ?_ _ | refine blk_drew ?_)); exact BK2.out
        · (with_reducible repeat (first | refine blk_drewN ?_ _ | refine blk_drew ?_)); refine blk_far ?_ (Ne.symm NE1_8.out) _; (with_reducible repeat (first | refine blk_drewN ?_ _ | refine blk_drew ?_)); exact BK8.out
        · (with_reducible repeat (first | apply Kd.R_drewN | apply Kd.R_drew)); refine Kd.R_far ?_ (fun k_ (hk_ : k_ ≠ gb1 ∧ k_ ≠ gb2) => hk_.1) _; exact (by (with_reducible repeat (first | exact HO.out | apply Kd.R_drewN | apply Kd.R_drew | apply Kd.R_alloc)))
        clear hv18 hvf HB BK1 BK2 BK8 HO
        rintro Wn ⟨hb, h1, h2, h8, hr⟩
        have HB := Aside0.mk hb
        have BK1 := Aside0.mk h1
        have BK2 := Aside0.mk h2
        have BK8 := Aside0.mk h8
        have HO := Aside0.mk hr
        clear hb h1 h2 h8 hr
        replace h : some (true, x0, mem, (out ++ [x5])) = some (r, cs', mem', out') := h
        simp only [Option.some.injEq, Prod.mk.injEq] at h
        obtain ⟨rfl, rfl, rfl, rfl⟩ := h
        go_wp2_with (first | ((with_reducible refine gate_dst (N := 104) rfl ?_); refine wpList_load_mid (by rfl) 35 _ rfl gb8 0 (by rfl) (x0.map (Value.int .i64)) _ (rangeE HL.out (by (with_reducible repeat (first | exact BK8.out | refine blk_drewN ?_ _ | refine blk_drew ?_ | refine blk_alloc ?_ _)); try exact BK8.out)) Tryd.underlying35 rfl (infoR HL.out) ?_) | ((with_reducible refine gate_store (t := 35) (p := 106) rfl ?_); refine head_event (by rfl) 35 _ _ rfl gb1 (x0.map (Value.int .i64)) (cs.map (Value.int .i64)) [(.slice (some ⟨gb2, 0, none⟩) mem.length mem.length), (.slice Av nv cv)] _ (by (with_reducible repeat (first | exact BK1.out | refine blk_drewN ?_ _ | refine blk_drew ?_ | refine blk_alloc ?_ _)); try exact BK1.out) (by rfl) (by first | rfl | (go_simp; done) | (go_simp; rfl)) (infoR HL.out) (by rw [List.length_map, List.length_map, HL.out, HC.out]) (by intro v_ hv_; simp only [List.mem_map] at hv_; obtain ⟨_, _, rfl⟩ := hv_; rfl) ?_; intro Wz hbox hg; have r0_ := Aside0.mk (Kd.R_grown (by (with_reducible repeat (first | exact HO.out | apply Kd.R_drewN | apply Kd.R_drew | apply Kd.R_alloc))) hg (fun k_ (hk_ : k_ ≠ gb1 ∧ k_ ≠ gb2) e_ => by injection e_ with e_; omega)); have n0_ := Aside0.mk (pw_below_grown (by repeat (first | (with_reducible first | exact HB.out | apply below_alloc | apply pw_below_drewN | apply below_drew1) | exact HB.out)) (some gb1) (below_size (by repeat (first | (with_reducible first | exact HB.out | apply below_alloc | apply pw_below_drewN | apply below_drew1) | exact HB.out))) hg (by rintro k_ e_; injection e_ with e_; rw [← e_]; exact GE1.out)); have n1_ := Aside0.mk hbox; have m2_ := Aside0.mk (blk_grown (by (with_reducible repeat (first | exact BK2.out | refine blk_drewN ?_ _ | refine blk_drew ?_ | refine blk_alloc ?_ _)); try exact BK2.out) hg (fun e_ => by injection e_ with e_; exact NE1_2.out e_.symm)); clear HB HO BK1 BK2; have HB := n0_; have HO := r0_; have BK1 := n1_; have BK2 := m2_; clear n0_ n1_ m2_ r0_ hbox hg))
        go_ret
        exact ⟨rfl, ⟨(.slice Av nv cv), (by (with_reducible repeat (first | exact BK1.out | refine blk_drewN ?_ _ | refine blk_drew ?_ | refine blk_alloc ?_ _)); try exact BK1.out), (by (with_reducible repeat (first | exact BK2.out | refine blk_drewN ?_ _ | refine blk_drew ?_ | refine blk_alloc ?_ _)); try exact BK2.out), Kd.R_mono (by (with_reducible repeat (first | exact HO.out | apply Kd.R_drewN | apply Kd.R_drew | apply Kd.R_alloc))) (fun k_ (hk_ : k_ ≠ gb1 ∧ k_ ≠ gb2) => (⟨by omega, by omega⟩ : k_ ≠ gb1 ∧ k_ ≠ gb2)), NE1_2.out, GE1.out, GE2.out, HL.out⟩, (by repeat (first | (with_reducible first | exact HB.out | apply below_alloc | apply pw_below_drewN | apply below_drew1) | exact HB.out))⟩
    | true =>
      by_cases ci : 0 ≤ x2 ∧ x2 < (mem.length : Int)
      case neg =>
        rw [if_neg (show ¬ _ from fun z => ci (z.2 rfl))] at h
        replace h : some (false, cs, mem, out) = some (r, cs', mem', out') := h
        simp only [Option.some.injEq, Prod.mk.injEq] at h
        obtain ⟨rfl, rfl, rfl, rfl⟩ := h
        go_wp2_with (first | (go_at_call 47; refine (isa_machine_inside.calls gb1 mem.length mem.length (some ⟨gb2, 0, none⟩) x2 false _ hc17 (congrArg some (decide_eq_false ci))).mono ?_; rintro e w' ⟨rfl, ⟨nd, rfl⟩⟩))
        go_ret
        exact ⟨rfl, ⟨vo, (by (with_reducible repeat (first | exact BK1.out | refine blk_drewN ?_ _ | refine blk_drew ?_ | refine blk_alloc ?_ _)); try exact BK1.out), (by (with_reducible repeat (first | exact BK2.out | refine blk_drewN ?_ _ | refine blk_drew ?_ | refine blk_alloc ?_ _)); try exact BK2.out), Kd.R_mono (by (with_reducible repeat (first | exact HO.out | apply Kd.R_drewN | apply Kd.R_drew | apply Kd.R_alloc))) (fun k_ (hk_ : ((k_ ≠ gb1 ∧ k_ ≠ gb2) ∧ k_ ≠ gb3) ∧ k_ ≠ gb8) => (⟨by omega, by omega⟩ : k_ ≠ gb1 ∧ k_ ≠ gb2)), NE1_2.out, GE1.out, GE2.out, HC.out⟩, (by repeat (first | (with_reducible first | exact HB.out | apply below_alloc | apply pw_below_drewN | apply below_drew1) | exact HB.out))⟩
      rw [if_pos (show _ ∧ _ from ⟨rfl, fun _ => ci⟩)] at h
      have hci := decide_eq_true ci
      obtain ⟨cm0, cm1⟩ := ci
      go_upto_region 16 with (first | (go_at_call 47; refine (isa_machine_inside.calls gb1 mem.length mem.length (some ⟨gb2, 0, none⟩) x2 true _ hc17 (congrArg some hci)).mono ?_; rintro e w' ⟨rfl, ⟨nd, rfl⟩⟩))
      clear hci
      obtain ⟨old, hold⟩ : ∃ x, (cellsI mem)[x2.toNat]? = some x := ⟨_, cellsI_get (by omega)⟩
      have hmx : W9.cell? ⟨gb2, x2.toNat, none⟩ = some old := (blk_cell BK2.out _).trans hold
      have hmf := blk_frozen BK2.out x2.toNat
      clear hold
      refine start_ (n := 10) (S := fun w' => w'.cell? ⟨gb1, 17, none⟩ = some (.slice (some ⟨gb2, 0, none⟩) mem.length mem.length) ∧ w'.cell? ⟨gb8, 18, none⟩ = some (.int .i64 x2) ∧ w'.cell? ⟨gb8, 19, none⟩ = some (.int .i64 x3)) (ds := [9]) #[false, false, false, false, false, false, false, false, false, false] (by kernel_rfl) rfl rfl ⟨hc17, he18, he19⟩ (fun hHeld => ?_); refine with_tabW isa_machine_step.tab16 isa_machine_step.bits16 (fun HT_ HW_ => ?_)
      refine pure_ (i := 0) (N := some 80) (v := ?_) (a' := ?_) #[true, false, false, false, false, false, false, false, false, false] rfl rfl (any_of HT_.out (by kernel_rfl)) (fun _ _ _ h => h) (Or.inl ⟨by rfl, ?_⟩) ?_ ?_
      rotate_left
      · intro w'
        go_simp
        (try with_reducible rfl)
      rotate_left
      · simp only [Act.put, List.setIfInBounds_toArray, List.set_cons_zero, List.set_cons_succ, i64_w, i32_w]
        rfl
      refine pure_ (i := 1) (N := some 81) (v := ?_) (a' := ?_) #[true, true, false, false, false, false, false, false, false, false] rfl rfl (any_of HT_.out (by kernel_rfl)) (fun _ _ _ h => h) (Or.inl ⟨by rfl, ?_⟩) ?_ ?_
      rotate_left
      · intro w'
        go_simp
        (try with_reducible rfl)
      rotate_left
      · simp only [Act.put, List.setIfInBounds_toArray, List.set_cons_zero, List.set_cons_succ, i64_w, i32_w]
        rfl
      refine pure_ (i := 2) (N := some 82) (v := ?_) (a' := ?_) #[true, true, true, false, false, false, false, false, false, false] rfl rfl (any_of HT_.out (by kernel_rfl)) (fun _ _ _ h => h) (Or.inl ⟨by rfl, ?_⟩) ?_ ?_
      rotate_left
      · intro w'
        go_simp
        (try with_reducible rfl)
      rotate_left
      · simp only [Act.put, List.setIfInBounds_toArray, List.set_cons_zero, List.set_cons_succ, i64_w, i32_w]
        rfl
      refine pure_ (i := 4) (N := some 84) (v := ?_) (a' := ?_) #[true, true, true, false, true, false, false, false, false, false] rfl rfl (any_of HT_.out (by kernel_rfl)) (fun _ _ _ h => h) (Or.inl ⟨by rfl, ?_⟩) ?_ ?_
      rotate_left
      · intro w'
        go_simp
        (try with_reducible rfl)
      rotate_left
      · simp only [Act.put, List.setIfInBounds_toArray, List.set_cons_zero, List.set_cons_succ, i64_w, i32_w]
        rfl
      refine pure_ (i := 6) (N := some 86) (v := ?_) (a' := ?_) #[true, true, true, false, true, false, true, false, false, false] rfl rfl (any_of HT_.out (by kernel_rfl)) (fun _ _ _ h => h) (Or.inl ⟨by rfl, ?_⟩) ?_ ?_
      rotate_left
      · intro w'
        go_simp
        (try with_reducible rfl)
      rotate_left
      · simp only [Act.put, List.setIfInBounds_toArray, List.set_cons_zero, List.set_cons_succ, i64_w, i32_w]
        rfl
      refine take_ (i := 3) (N := some 83) (v := ?_) (a' := ?_) #[true, true, true, true, true, false, true, false, false, false] rfl rfl (take_ofW HT_.out HW_.out (by kernel_rfl)) (fun _ _ _ h => h) (Or.inl ⟨by rfl, ?_⟩) hHeld ?_ ?_
      rotate_left
      · rintro w' ⟨s0, s1, s2⟩
        go_simp
        (try with_reducible rfl)
      rotate_left
      · simp only [Act.put, List.setIfInBounds_toArray, List.set_cons_zero, List.set_cons_succ, i64_w, i32_w]
        rfl
      refine take_ (i := 5) (N := some 85) (v := ?_) (a' := ?_) #[true, true, true, true, true, true, true, false, false, false] rfl rfl (take_ofW HT_.out HW_.out (by kernel_rfl)) (fun _ _ _ h => h) (Or.inl ⟨by rfl, ?_⟩) hHeld ?_ ?_
      rotate_left
      · rintro w' ⟨s0, s1, s2⟩
        go_simp
        (try with_reducible rfl)
      rotate_left
      · simp only [Act.put, List.setIfInBounds_toArray, List.set_cons_zero, List.set_cons_succ, i64_w, i32_w]
        rfl
      refine take_ (i := 7) (N := some 87) (v := ?_) (a' := ?_) #[true, true, true, true, true, true, true, true, false, false] rfl rfl (take_ofW HT_.out HW_.out (by kernel_rfl)) (fun _ _ _ h => h) (Or.inl ⟨by rfl, ?_⟩) hHeld ?_ ?_
      rotate_left
      · rintro w' ⟨s0, s1, s2⟩
        go_simp
        (try with_reducible rfl)
      rotate_left
      · simp only [Act.put, List.setIfInBounds_toArray, List.set_cons_zero, List.set_cons_succ, i64_w, i32_w]
        rfl
      refine pure_ (i := 8) (N := some 88) (v := ?_) (a' := ?_) #[true, true, true, true, true, true, true, true, true, false] rfl rfl (any_of HT_.out (by kernel_rfl)) (fun _ _ _ h => h) (Or.inl ⟨by rfl, ?_⟩) ?_ ?_
      rotate_left
      · intro w'
        go_simp
        (try with_reducible rfl)
      rotate_left
      · simp only [Act.put, List.setIfInBounds_toArray, List.set_cons_zero, List.set_cons_succ, i64_w, i32_w]
        rfl
      refine last_ (i := 9) (N := none) #[true, true, true, true, true, true, true, true, true, true] rfl rfl (one_of HT_.out (by kernel_rfl)) (by decide) (fun K hK => ?_)
      refine skip_ (w1 := ?_) (by rfl) rfl ?_ ?_
      rotate_left
      · go_simp
        rfl
      refine hK.out _ _ ?_
      clear hK K
      refine done_ (done_of HT_.out (by kernel_rfl)) ?_
      go_upto_region 17 with (fail)
      refine gen_w (P := Code.wp _ _ _) (F := fun W => Below w.heap.size w W ∧ W.heap[gb1]? = some (.cells (cellsM cs (.slice (some ⟨gb2, 0, none⟩) (mem.set x2.toNat x3).length (mem.set x2.toNat x3).length) vo) 72 (0, 0)) ∧ W.heap[gb2]? = some (.cells (cellsI (mem.set x2.toNat x3)) 3 (0, 0)) ∧ W.heap[gb8]? = some (.cells (cellsE x0 true x2 x3 x4 x5) 40 (0, 0)) ∧ (Kd.int .i64).R 3 W w.heap.size (fun k_ => ((k_ ≠ gb1 ∧ k_ ≠ gb2) ∧ k_ ≠ gb3) ∧ k_ ≠ gb8) vo out) ⟨?_, ?_, ?_, ?_, ?_⟩ ?_
      · repeat (first | (with_reducible first | exact HB.out | apply pw_below_drewN | apply below_drew1 | refine below_set ?_ GE2.out) | exact HB.out)
      · rw [List.length_set]; (with_reducible repeat (first | refine blk_drewN ?_ _ | refine blk_drew ?_)); refine blk_far ?_ NE1_2.out _; (with_reducible repeat (first | refine blk_drewN ?_ _ | refine blk_drew ?_)); exact BK1.out
      · (with_reducible repeat (first | refine blk_drewN ?_ _ | refine blk_drew ?_)); refine blk_put (cs := cellsI mem) ?_ x2.toNat _ (cellsI_set _ _ _); (with_reducible repeat (first | refine blk_drewN ?_ _ | refine blk_drew ?_)); exact BK2.out
      · (with_reducible repeat (first | refine blk_drewN ?_ _ | refine blk_drew ?_)); refine blk_far ?_ (Ne.symm NE2_8.out) _; (with_reducible repeat (first | refine blk_drewN ?_ _ | refine blk_drew ?_)); exact BK8.out
      · (with_reducible repeat (first | apply Kd.R_drewN | apply Kd.R_drew)); refine Kd.R_far ?_ (fun k_ (hk_ : ((k_ ≠ gb1 ∧ k_ ≠ gb2) ∧ k_ ≠ gb3) ∧ k_ ≠ gb8) => (by omega : k_ ≠ gb2)) _; exact (by (with_reducible repeat (first | exact HO.out | apply Kd.R_drewN | apply Kd.R_drew | apply Kd.R_alloc)))
      clear hc17 he17 he18 he19 he20 he21 hmx hmf HB BK1 BK2 BK8 HO
      rintro Wm ⟨hb, h1, h2, h8, hr⟩
      have HB := Aside0.mk hb
      have BK1 := Aside0.mk h1
      have BK2 := Aside0.mk h2
      have BK8 := Aside0.mk h8
      have HO := Aside0.mk hr
      clear hb h1 h2 h8 hr
      have he20 : Wm.cell? ⟨gb8, 20, none⟩ = some (.bool x4) := (blk_cell BK8.out 20).trans (cellsE_at20 HL.out)
      have he21 : Wm.cell? ⟨gb8, 21, none⟩ = some (.int .i64 x5) := (blk_cell BK8.out 21).trans (cellsE_at21 HL.out)
      cases x4 with
      | false =>
        go_upto_region 19 with (fail)
        replace h : some (true, x0, (mem.set x2.toNat x3), out) = some (r, cs', mem', out') := h
        simp only [Option.some.injEq, Prod.mk.injEq] at h
        obtain ⟨rfl, rfl, rfl, rfl⟩ := h
        go_wp2_with (first | ((with_reducible refine gate_dst (N := 104) rfl ?_); refine wpList_load_mid (by rfl) 35 _ rfl gb8 0 (by rfl) (x0.map (Value.int .i64)) _ (rangeE HL.out (by (with_reducible repeat (first | exact BK8.out | refine blk_drewN ?_ _ | refine blk_drew ?_ | refine blk_alloc ?_ _)); try exact BK8.out)) Tryd.underlying35 rfl (infoR HL.out) ?_) | ((with_reducible refine gate_store (t := 35) (p := 106) rfl ?_); refine head_event (by rfl) 35 _ _ rfl gb1 (x0.map (Value.int .i64)) (cs.map (Value.int .i64)) [(.slice (some ⟨gb2, 0, none⟩) (mem.set x2.toNat x3).length (mem.set x2.toNat x3).length), vo] _ (by (with_reducible repeat (first | exact BK1.out | refine blk_drewN ?_ _ | refine blk_drew ?_ | refine blk_alloc ?_ _)); try exact BK1.out) (by rfl) (by first | rfl | (go_simp; done) | (go_simp; rfl)) (infoR HL.out) (by rw [List.length_map, List.length_map, HL.out, HC.out]) (by intro v_ hv_; simp only [List.mem_map] at hv_; obtain ⟨_, _, rfl⟩ := hv_; rfl) ?_; intro Wz hbox hg; have r0_ := Aside0.mk (Kd.R_grown (by (with_reducible repeat (first | exact HO.out | apply Kd.R_drewN | apply Kd.R_drew | apply Kd.R_alloc))) hg (fun k_ (hk_ : ((k_ ≠ gb1 ∧ k_ ≠ gb2) ∧ k_ ≠ gb3) ∧ k_ ≠ gb8) e_ => by injection e_ with e_; omega)); have n0_ := Aside0.mk (pw_below_grown (by repeat (first | (with_reducible first | exact HB.out | apply below_alloc | apply pw_below_drewN | apply below_drew1) | exact HB.out)) (some gb1) (below_size (by repeat (first | (with_reducible first | exact HB.out | apply below_alloc | apply pw_below_drewN | apply below_drew1) | exact HB.out))) hg (by rintro k_ e_; injection e_ with e_; rw [← e_]; exact GE1.out)); have n1_ := Aside0.mk hbox; have m2_ := Aside0.mk (blk_grown (by (with_reducible repeat (first | exact BK2.out | refine blk_drewN ?_ _ | refine blk_drew ?_ | refine blk_alloc ?_ _)); try exact BK2.out) hg (fun e_ => by injection e_ with e_; exact NE1_2.out e_.symm)); clear HB HO BK1 BK2; have HB := n0_; have HO := r0_; have BK1 := n1_; have BK2 := m2_; clear n0_ n1_ m2_ r0_ hbox hg))
        go_ret
        exact ⟨rfl, ⟨vo, (by (with_reducible repeat (first | exact BK1.out | refine blk_drewN ?_ _ | refine blk_drew ?_ | refine blk_alloc ?_ _)); try exact BK1.out), (by (with_reducible repeat (first | exact BK2.out | refine blk_drewN ?_ _ | refine blk_drew ?_ | refine blk_alloc ?_ _)); try exact BK2.out), Kd.R_mono (by (with_reducible repeat (first | exact HO.out | apply Kd.R_drewN | apply Kd.R_drew | apply Kd.R_alloc))) (fun k_ (hk_ : ((k_ ≠ gb1 ∧ k_ ≠ gb2) ∧ k_ ≠ gb3) ∧ k_ ≠ gb8) => (⟨by omega, by omega⟩ : k_ ≠ gb1 ∧ k_ ≠ gb2)), NE1_2.out, GE1.out, GE2.out, HL.out⟩, (by repeat (first | (with_reducible first | exact HB.out | apply below_alloc | apply pw_below_drewN | apply below_drew1) | exact HB.out))⟩
      | true =>
        go_upto_region 18 with (fail)
        have hv18 : Wm.cell? ⟨gb1, 18, none⟩ = some vo := (blk_cell BK1.out 18).trans (cellsM_out HC.out)
        refine start_ (n := 12) (S := fun w' => w'.cell? ⟨gb1, 18, none⟩ = some vo ∧ w'.cell? ⟨gb8, 21, none⟩ = some (.int .i64 x5)) (ds := [11]) #[false, false, false, false, false, false, false, false, false, false, false, false] (by kernel_rfl) rfl rfl ⟨hv18, he21⟩ (fun hHeld => ?_); refine with_tabW isa_machine_step.tab18 isa_machine_step.bits18 (fun HT_ HW_ => ?_)
        refine pure_ (i := 0) (N := some 91) (v := ?_) (a' := ?_) #[true, false, false, false, false, false, false, false, false, false, false, false] rfl rfl (any_of HT_.out (by kernel_rfl)) (fun _ _ _ h => h) (Or.inl ⟨by rfl, ?_⟩) ?_ ?_
        rotate_left
        · intro w'
          go_simp
          (try with_reducible rfl)
        rotate_left
        · simp only [Act.put, List.setIfInBounds_toArray, List.set_cons_zero, List.set_cons_succ, i64_w, i32_w]
          rfl
        refine pure_ (i := 1) (N := some 92) (v := ?_) (a' := ?_) #[true, true, false, false, false, false, false, false, false, false, false, false] rfl rfl (any_of HT_.out (by kernel_rfl)) (fun _ _ _ h => h) (Or.inl ⟨by rfl, ?_⟩) ?_ ?_
        rotate_left
        · intro w'
          go_simp
          (try with_reducible rfl)
        rotate_left
        · simp only [Act.put, List.setIfInBounds_toArray, List.set_cons_zero, List.set_cons_succ, i64_w, i32_w]
          rfl
        refine pure_ (i := 2) (N := some 93) (v := ?_) (a' := ?_) #[true, true, true, false, false, false, false, false, false, false, false, false] rfl rfl (any_of HT_.out (by kernel_rfl)) (fun _ _ _ h => h) (Or.inl ⟨by rfl, ?_⟩) ?_ ?_
        rotate_left
        · intro w'
          go_simp
          (try with_reducible rfl)
        rotate_left
        · simp only [Act.put, List.setIfInBounds_toArray, List.set_cons_zero, List.set_cons_succ, i64_w, i32_w]
          rfl
        refine pure_ (i := 3) (N := some 94) (v := ?_) (a' := ?_) #[true, true, true, true, false, false, false, false, false, false, false, false] rfl rfl (any_of HT_.out (by kernel_rfl)) (fun _ _ _ h => h) (Or.inl ⟨by rfl, ?_⟩) ?_ ?_
        rotate_left
        · intro w'
          go_simp
          (try with_reducible rfl)
        rotate_left
        · simp only [Act.put, List.setIfInBounds_toArray, List.set_cons_zero, List.set_cons_succ, i64_w, i32_w]
          rfl
        refine pure_ (i := 5) (N := some 96) (v := ?_) (a' := ?_) #[true, true, true, true, false, true, false, false, false, false, false, false] rfl rfl (any_of HT_.out (by kernel_rfl)) (fun _ _ _ h => h) (Or.inl ⟨by rfl, ?_⟩) ?_ ?_
        rotate_left
        · intro w'
          go_simp
          (try with_reducible rfl)
        rotate_left
        · simp only [Act.put, List.setIfInBounds_toArray, List.set_cons_zero, List.set_cons_succ, i64_w, i32_w]
          rfl
        refine take_ (i := 4) (N := some 95) (v := ?_) (a' := ?_) #[true, true, true, true, true, true, false, false, false, false, false, false] rfl rfl (take_ofW HT_.out HW_.out (by kernel_rfl)) (fun _ _ _ h => h) (Or.inl ⟨by rfl, ?_⟩) hHeld ?_ ?_
        rotate_left
        · rintro w' ⟨s0, s1⟩
          go_simp
          (try with_reducible rfl)
        rotate_left
        · simp only [Act.put, List.setIfInBounds_toArray, List.set_cons_zero, List.set_cons_succ, i64_w, i32_w]
          rfl
        refine take_ (i := 6) (N := some 97) (v := ?_) (a' := ?_) #[true, true, true, true, true, true, true, false, false, false, false, false] rfl rfl (take_ofW HT_.out HW_.out (by kernel_rfl)) (fun _ _ _ h => h) (Or.inl ⟨by rfl, ?_⟩) hHeld ?_ ?_
        rotate_left
        · rintro w' ⟨s0, s1⟩
          go_simp
          (try with_reducible rfl)
        rotate_left
        · simp only [Act.put, List.setIfInBounds_toArray, List.set_cons_zero, List.set_cons_succ, i64_w, i32_w]
          rfl
        refine one_ (i := 7) (N := some 98) #[true, true, true, true, true, true, true, true, false, false, false, false] rfl rfl (one_of HT_.out (by kernel_rfl)) (by decide) (fun K hK => ?_)
        refine event_step (by rfl) (v := .slice (some ⟨Wm.drew.heap.size, 0, none⟩) 1 1) (w1 := Wm.drew.alloc (.cells #[.int .i64 x5] 3)) (by first | (go_simp; done) | (go_simp; rfl)) ?_
        refine hK.out _ _ ⟨(blk_cell (by (with_reducible repeat (first | exact BK1.out | refine blk_drewN ?_ _ | refine blk_drew ?_ | refine blk_alloc ?_ _)); try exact BK1.out) 18).trans (cellsM_out HC.out), (blk_cell (by (with_reducible repeat (first | exact BK8.out | refine blk_drewN ?_ _ | refine blk_drew ?_ | refine blk_alloc ?_ _)); try exact BK8.out) 21).trans (cellsE_at21 HL.out)⟩ (fun hHeld => ?_)
        clear hK K
        refine norm_ (a' := ?_) ?_ ?_
        rotate_left
        · show Act.put _ (some 98) _ = _
          simp only [Act.put, List.setIfInBounds_toArray, List.set_cons_zero, List.set_cons_succ, i64_w, i32_w]
          rfl
        refine one_ (i := 8) (N := some 99) #[true, true, true, true, true, true, true, true, true, false, false, false] rfl rfl (one_of HT_.out (by kernel_rfl)) (by decide) (fun K hK => ?_)
        refine Kd.R_append_step (Kd.int .i64) (w0 := w) (W := Wm.drew) w.heap.size (by rfl) (.tmp 95) (.tmp 98) 44 3 (.int .i64 0) 8 rfl Tryd.underlying44 (by kernel_rfl) rfl (by decide) (by omega) vo out x5 [.int .i64 x5] (fun k_ => k_ ≠ gb1 ∧ k_ ≠ gb2) (fun _ => False) rfl rfl ?aP (fun _ hk => hk.elim) ?aF ?aO ?aB ?aS ?aL ?_
        case aP => exact rfl
        case aF => exact fun k_ hk_ => ⟨fun e_ => by have := blk_lt (by (with_reducible repeat (first | exact BK1.out | refine blk_drewN ?_ _ | refine blk_drew ?_ | refine blk_alloc ?_ _)); try exact BK1.out); subst e_; exact absurd this (Nat.not_lt.mpr hk_), fun e_ => by have := blk_lt (by (with_reducible repeat (first | exact BK2.out | refine blk_drewN ?_ _ | refine blk_drew ?_ | refine blk_alloc ?_ _)); try exact BK2.out); subst e_; exact absurd this (Nat.not_lt.mpr hk_)⟩
        case aO => exact Kd.R_mono (by (with_reducible repeat (first | exact HO.out | apply Kd.R_drewN | apply Kd.R_drew | apply Kd.R_alloc))) (fun k_ (hk_ : ((k_ ≠ gb1 ∧ k_ ≠ gb2) ∧ k_ ≠ gb3) ∧ k_ ≠ gb8) => (⟨by omega, by omega⟩ : k_ ≠ gb1 ∧ k_ ≠ gb2))
        case aB => exact by repeat (first | (with_reducible first | exact HB.out | apply below_alloc | apply pw_below_drewN | apply below_drew1) | exact HB.out)
        case aS => exact below_size (by repeat (first | (with_reducible first | exact HB.out | apply below_alloc | apply pw_below_drewN | apply below_drew1) | exact HB.out))
        case aL => have := HOL.out; omega
        intro vo1 Wp hr hb hg hat
        obtain ⟨Av, cv, hvv⟩ := Kd.R_slice hr
        generalize (out ++ [x5]).length = nv at hvv
        subst hvv
        have m1_ := Aside0.mk (blk_grown (by (with_reducible repeat (first | exact BK1.out | refine blk_drewN ?_ _ | refine blk_drew ?_ | refine blk_alloc ?_ _)); try exact BK1.out) hg (fun e_ => (HO.out.1 gb1 e_.symm).1.1.1 rfl))
        have m2_ := Aside0.mk (blk_grown (by (with_reducible repeat (first | exact BK2.out | refine blk_drewN ?_ _ | refine blk_drew ?_ | refine blk_alloc ?_ _)); try exact BK2.out) hg (fun e_ => (HO.out.1 gb2 e_.symm).1.1.2 rfl))
        have m8_ := Aside0.mk (blk_grown (by (with_reducible repeat (first | exact BK8.out | refine blk_drewN ?_ _ | refine blk_drew ?_ | refine blk_alloc ?_ _)); try exact BK8.out) hg (fun e_ => (HO.out.1 gb8 e_.symm).2 rfl))
        clear HB HO BK1 BK2 BK8 hv18 he20 he21
        have HB := Aside0.mk hb
        have HO := Aside0.mk hr
        have BK1 := m1_
        have BK2 := m2_
        have BK8 := m8_
        clear hb hr hg hat m1_ m2_ m8_
        have hv18 : Wp.cell? ⟨gb1, 18, none⟩ = some vo := (blk_cell BK1.out 18).trans (cellsM_out HC.out)
        have hvf := blk_frozen BK1.out 18
        refine hK.out _ _ ⟨(blk_cell (by (with_reducible repeat (first | exact BK1.out | refine blk_drewN ?_ _ | refine blk_drew ?_ | refine blk_alloc ?_ _)); try exact BK1.out) 18).trans (cellsM_out HC.out), (blk_cell (by (with_reducible repeat (first | exact BK8.out | refine blk_drewN ?_ _ | refine blk_drew ?_ | refine blk_alloc ?_ _)); try exact BK8.out) 21).trans (cellsE_at21 HL.out)⟩ (fun hHeld => ?_)
        clear hK K
        refine norm_ (a' := ?_) ?_ ?_
        rotate_left
        · show Act.put _ (some 99) _ = _
          simp only [Act.put, List.setIfInBounds_toArray, List.set_cons_zero, List.set_cons_succ, i64_w, i32_w]
          rfl
        refine pure_ (i := 9) (N := some 100) (v := ?_) (a' := ?_) #[true, true, true, true, true, true, true, true, true, true, false, false] rfl rfl (any_of HT_.out (by kernel_rfl)) (fun _ _ _ h => h) (Or.inl ⟨by rfl, ?_⟩) ?_ ?_
        rotate_left
        · intro w'
          go_simp
          (try with_reducible rfl)
        rotate_left
        · simp only [Act.put, List.setIfInBounds_toArray, List.set_cons_zero, List.set_cons_succ, i64_w, i32_w]
          rfl
        refine pure_ (i := 10) (N := some 101) (v := ?_) (a' := ?_) #[true, true, true, true, true, true, true, true, true, true, true, false] rfl rfl (any_of HT_.out (by kernel_rfl)) (fun _ _ _ h => h) (Or.inl ⟨by rfl, ?_⟩) ?_ ?_
        rotate_left
        · intro w'
          go_simp
          (try with_reducible rfl)
        rotate_left
        · simp only [Act.put, List.setIfInBounds_toArray, List.set_cons_zero, List.set_cons_succ, i64_w, i32_w]
          rfl
        refine last_ (i := 11) (N := none) #[true, true, true, true, true, true, true, true, true, true, true, true] rfl rfl (one_of HT_.out (by kernel_rfl)) (by decide) (fun K hK => ?_)
        refine skip_ (w1 := ?_) (by rfl) rfl ?_ ?_
        rotate_left
        · go_simp
          rfl
        refine hK.out _ _ ?_
        clear hK K
        refine done_ (done_of HT_.out (by kernel_rfl)) ?_
        go_upto_region 19 with (fail)
        refine gen_w (P := Code.wp _ _ _) (F := fun W => Below w.heap.size w W ∧ W.heap[gb1]? = some (.cells (cellsM cs (.slice (some ⟨gb2, 0, none⟩) (mem.set x2.toNat x3).length (mem.set x2.toNat x3).length) (.slice Av nv cv)) 72 (0, 0)) ∧ W.heap[gb2]? = some (.cells (cellsI (mem.set x2.toNat x3)) 3 (0, 0)) ∧ W.heap[gb8]? = some (.cells (cellsE x0 true x2 x3 true x5) 40 (0, 0)) ∧ (Kd.int .i64).R 3 W w.heap.size (fun k_ => k_ ≠ gb1 ∧ k_ ≠ gb2) (.slice Av nv cv) (out ++ [x5])) ⟨?_, ?_, ?_, ?_, ?_⟩ ?_
        · repeat (first | (with_reducible first | exact HB.out | apply pw_below_drewN | apply below_drew1 | refine below_set ?_ GE1.out) | exact HB.out)
        · (with_reducible repeat (first | refine blk_drewN ?_ _ | refine blk_drew ?_)); refine blk_put (cs := cellsM cs (.slice (some ⟨gb2, 0, none⟩) (mem.set x2.toNat x3).length (mem.set x2.toNat x3).length) vo) ?_ 18 _ (cellsM_setOut HC.out _); (with_reducible repeat (first | refine blk_drewN ?_ _ | refine blk_drew ?_)); exact BK1.out
        · (with_reducible repeat (first | refine blk_drewN ?_ _ | refine blk_drew ?_)); refine blk_far ?_ (Ne.symm NE1_2.out) _; (with_reducible repeat (first | refine blk_drewN ?_ _ | refine blk_drew ?_)); exact BK2.out
        · (with_reducible repeat (first | refine blk_drewN ?_ _ | refine blk_drew ?_)); refine blk_far ?_ (Ne.symm NE1_8.out) _; (with_reducible repeat (first | refine blk_drewN ?_ _ | refine blk_drew ?_)); exact BK8.out
        · (with_reducible repeat (first | apply Kd.R_drewN | apply Kd.R_drew)); refine Kd.R_far ?_ (fun k_ (hk_ : k_ ≠ gb1 ∧ k_ ≠ gb2) => hk_.1) _; exact (by (with_reducible repeat (first | exact HO.out | apply Kd.R_drewN | apply Kd.R_drew | apply Kd.R_alloc)))
        clear hv18 hvf HB BK1 BK2 BK8 HO
        rintro Wn ⟨hb, h1, h2, h8, hr⟩
        have HB := Aside0.mk hb
        have BK1 := Aside0.mk h1
        have BK2 := Aside0.mk h2
        have BK8 := Aside0.mk h8
        have HO := Aside0.mk hr
        clear hb h1 h2 h8 hr
        replace h : some (true, x0, (mem.set x2.toNat x3), (out ++ [x5])) = some (r, cs', mem', out') := h
        simp only [Option.some.injEq, Prod.mk.injEq] at h
        obtain ⟨rfl, rfl, rfl, rfl⟩ := h
        go_wp2_with (first | ((with_reducible refine gate_dst (N := 104) rfl ?_); refine wpList_load_mid (by rfl) 35 _ rfl gb8 0 (by rfl) (x0.map (Value.int .i64)) _ (rangeE HL.out (by (with_reducible repeat (first | exact BK8.out | refine blk_drewN ?_ _ | refine blk_drew ?_ | refine blk_alloc ?_ _)); try exact BK8.out)) Tryd.underlying35 rfl (infoR HL.out) ?_) | ((with_reducible refine gate_store (t := 35) (p := 106) rfl ?_); refine head_event (by rfl) 35 _ _ rfl gb1 (x0.map (Value.int .i64)) (cs.map (Value.int .i64)) [(.slice (some ⟨gb2, 0, none⟩) (mem.set x2.toNat x3).length (mem.set x2.toNat x3).length), (.slice Av nv cv)] _ (by (with_reducible repeat (first | exact BK1.out | refine blk_drewN ?_ _ | refine blk_drew ?_ | refine blk_alloc ?_ _)); try exact BK1.out) (by rfl) (by first | rfl | (go_simp; done) | (go_simp; rfl)) (infoR HL.out) (by rw [List.length_map, List.length_map, HL.out, HC.out]) (by intro v_ hv_; simp only [List.mem_map] at hv_; obtain ⟨_, _, rfl⟩ := hv_; rfl) ?_; intro Wz hbox hg; have r0_ := Aside0.mk (Kd.R_grown (by (with_reducible repeat (first | exact HO.out | apply Kd.R_drewN | apply Kd.R_drew | apply Kd.R_alloc))) hg (fun k_ (hk_ : k_ ≠ gb1 ∧ k_ ≠ gb2) e_ => by injection e_ with e_; omega)); have n0_ := Aside0.mk (pw_below_grown (by repeat (first | (with_reducible first | exact HB.out | apply below_alloc | apply pw_below_drewN | apply below_drew1) | exact HB.out)) (some gb1) (below_size (by repeat (first | (with_reducible first | exact HB.out | apply below_alloc | apply pw_below_drewN | apply below_drew1) | exact HB.out))) hg (by rintro k_ e_; injection e_ with e_; rw [← e_]; exact GE1.out)); have n1_ := Aside0.mk hbox; have m2_ := Aside0.mk (blk_grown (by (with_reducible repeat (first | exact BK2.out | refine blk_drewN ?_ _ | refine blk_drew ?_ | refine blk_alloc ?_ _)); try exact BK2.out) hg (fun e_ => by injection e_ with e_; exact NE1_2.out e_.symm)); clear HB HO BK1 BK2; have HB := n0_; have HO := r0_; have BK1 := n1_; have BK2 := m2_; clear n0_ n1_ m2_ r0_ hbox hg))
        go_ret
        exact ⟨rfl, ⟨(.slice Av nv cv), (by (with_reducible repeat (first | exact BK1.out | refine blk_drewN ?_ _ | refine blk_drew ?_ | refine blk_alloc ?_ _)); try exact BK1.out), (by (with_reducible repeat (first | exact BK2.out | refine blk_drewN ?_ _ | refine blk_drew ?_ | refine blk_alloc ?_ _)); try exact BK2.out), Kd.R_mono (by (with_reducible repeat (first | exact HO.out | apply Kd.R_drewN | apply Kd.R_drew | apply Kd.R_alloc))) (fun k_ (hk_ : k_ ≠ gb1 ∧ k_ ≠ gb2) => (⟨by omega, by omega⟩ : k_ ≠ gb1 ∧ k_ ≠ gb2)), NE1_2.out, GE1.out, GE2.out, HL.out⟩, (by repeat (first | (with_reducible first | exact HB.out | apply below_alloc | apply pw_below_drewN | apply below_drew1) | exact HB.out))⟩
  | false =>
    have h := H.out
    clear H
    rw [if_neg (show ¬ _ from fun z => Bool.noConfusion z.1)] at h
    simp only [Bool.false_eq_true, if_false] at h
    have H := Aside0.mk h
    clear h
    go_upto_region 12 with (fail)
    obtain ⟨⟨x0, x1, x2, x3, x4, x5, x6⟩, hx, h⟩ := Option.bind_eq_some_iff.mp H.out
    clear H
    have AX := Aside0.mk hx
    have HL := Aside0.mk (isa_Execute.len HC.out hx)
    clear hx
    have H := Aside0.mk h
    clear h
    have hrg : wc.rangeAt gb1 0 (cs.map (Value.int .i64)) := rangeM BK1.out
    have hci_0 : wc.cell? ⟨gb3, 0, none⟩ = some (.int .i64 d0) := (blk_cell BK3.out 0).trans (rfl)
    have hci_1 : wc.cell? ⟨gb3, 1, none⟩ = some (.int .i64 d1) := (blk_cell BK3.out 1).trans (rfl)
    have hci_2 : wc.cell? ⟨gb3, 2, none⟩ = some (.int .i64 d2) := (blk_cell BK3.out 2).trans (rfl)
    have hci_3 : wc.cell? ⟨gb3, 3, none⟩ = some (.int .i64 d3) := (blk_cell BK3.out 3).trans (rfl)
    have hci_4 : wc.cell? ⟨gb3, 4, none⟩ = some (.int .i64 d4) := (blk_cell BK3.out 4).trans (rfl)
    have hfi_0 := blk_frozen BK3.out 0
    have hfi_1 := blk_frozen BK3.out 1
    have hfi_2 := blk_frozen BK3.out 2
    have hfi_3 := blk_frozen BK3.out 3
    have hfi_4 := blk_frozen BK3.out 4
    refine start_ (n := 13) (S := fun w' => w'.rangeAt gb1 0 (cs.map (Value.int .i64)) ∧ w'.cell? ⟨gb3, 0, none⟩ = some (.int .i64 d0) ∧ w'.cell? ⟨gb3, 1, none⟩ = some (.int .i64 d1) ∧ w'.cell? ⟨gb3, 2, none⟩ = some (.int .i64 d2) ∧ w'.cell? ⟨gb3, 3, none⟩ = some (.int .i64 d3) ∧ w'.cell? ⟨gb3, 4, none⟩ = some (.int .i64 d4)) (ds := []) #[false, false, false, false, false, false, false, false, false, false, false, false, false] (by kernel_rfl) rfl rfl ⟨hrg, hci_0, hci_1, hci_2, hci_3, hci_4⟩ (fun hHeld => ?_); refine with_tabW isa_machine_step.tab12 isa_machine_step.bits12 (fun HT_ HW_ => ?_)
    refine pure_ (i := 0) (N := some 56) (v := ?_) (a' := ?_) #[true, false, false, false, false, false, false, false, false, false, false, false, false] rfl rfl (any_of HT_.out (by kernel_rfl)) (fun _ _ _ h => h) (Or.inl ⟨by rfl, ?_⟩) ?_ ?_
    rotate_left
    · intro w'
      go_simp
      (try with_reducible rfl)
    rotate_left
    · simp only [Act.put, List.setIfInBounds_toArray, List.set_cons_zero, List.set_cons_succ, i64_w, i32_w]
      rfl
    refine pure_ (i := 1) (N := some 57) (v := ?_) (a' := ?_) #[true, true, false, false, false, false, false, false, false, false, false, false, false] rfl rfl (any_of HT_.out (by kernel_rfl)) (fun _ _ _ h => h) (Or.inl ⟨by rfl, ?_⟩) ?_ ?_
    rotate_left
    · intro w'
      go_simp
      (try with_reducible rfl)
    rotate_left
    · simp only [Act.put, List.setIfInBounds_toArray, List.set_cons_zero, List.set_cons_succ, i64_w, i32_w]
      rfl
    refine pure_ (i := 2) (N := some 58) (v := ?_) (a' := ?_) #[true, true, true, false, false, false, false, false, false, false, false, false, false] rfl rfl (any_of HT_.out (by kernel_rfl)) (fun _ _ _ h => h) (Or.inl ⟨by rfl, ?_⟩) ?_ ?_
    rotate_left
    · intro w'
      go_simp
      (try with_reducible rfl)
    rotate_left
    · simp only [Act.put, List.setIfInBounds_toArray, List.set_cons_zero, List.set_cons_succ, i64_w, i32_w]
      rfl
    refine take_ (i := 3) (N := some 59) (v := .agg (cellsI cs)) (a' := ?_) #[true, true, true, true, false, false, false, false, false, false, false, false, false] rfl rfl (take_ofW HT_.out HW_.out (by kernel_rfl)) (fun _ _ _ h => h) (yieldsIf_load_mid (by rfl) 35 _ rfl gb1 0 (by rfl) (cs.map (Value.int .i64)) _ (fun _ s => s.1) Tryd.underlying35 rfl (infoR HC.out)) hHeld ?_ ?_
    rotate_left
    · simp only [Act.put, List.setIfInBounds_toArray, List.set_cons_zero, List.set_cons_succ, i64_w, i32_w]
      rfl
    refine take_ (i := 4) (N := some 60) (v := ?_) (a' := ?_) #[true, true, true, true, true, false, false, false, false, false, false, false, false] rfl rfl (take_ofW HT_.out HW_.out (by kernel_rfl)) (fun _ _ _ h => h) (Or.inl ⟨by rfl, ?_⟩) hHeld ?_ ?_
    rotate_left
    · rintro w' ⟨s0, s1, s2, s3, s4, s5⟩
      go_simp
      (try with_reducible rfl)
    rotate_left
    · simp only [Act.put, List.setIfInBounds_toArray, List.set_cons_zero, List.set_cons_succ, i64_w, i32_w]
      rfl
    refine pure_ (i := 5) (N := some 61) (v := ?_) (a' := ?_) #[true, true, true, true, true, true, false, false, false, false, false, false, false] rfl rfl (any_of HT_.out (by kernel_rfl)) (fun _ _ _ h => h) (Or.inl ⟨by rfl, ?_⟩) ?_ ?_
    rotate_left
    · intro w'
      go_simp
      (try with_reducible rfl)
    rotate_left
    · simp only [Act.put, List.setIfInBounds_toArray, List.set_cons_zero, List.set_cons_succ, i64_w, i32_w]
      rfl
    refine join_ (σ := Nat) 2 #[true, true, true, true, true, true, true, true, true, true, true, false, false] (fun gq => [(62, .tuple #[.agg (cellsE x0 x1 x2 x3 x4 x5), .int .i64 x6]), (55, .tuple #[.agg (cellsE x0 x1 x2 x3 x4 x5), .int .i64 x6]), (63, .agg (cellsE x0 x1 x2 x3 x4 x5)), (64, .int .i64 x6), (8, .pointer (some ⟨gq, 0, none⟩))]) (fun gq w' => Below w.heap.size w w' ∧ w.heap.size ≤ gq ∧ w'.heap[gb1]? = some (.cells (cellsM cs (.slice (some ⟨gb2, 0, none⟩) mem.length mem.length) vo) 72 (0, 0)) ∧ w'.heap[gb2]? = some (.cells (cellsI mem) 3 (0, 0)) ∧ w'.heap[gb3]? = some (.cells #[.int .i64 d0, .int .i64 d1, .int .i64 d2, .int .i64 d3, .int .i64 d4] 23 (0, 0)) ∧ w'.heap[gq]? = some (.cells (cellsE zeros17 false 0 0 false 0) 40 (0, 0)) ∧ (Kd.int .i64).R 3 w' w.heap.size (fun k_ => ((k_ ≠ gb1 ∧ k_ ≠ gb2) ∧ k_ ≠ gb3) ∧ k_ ≠ gq) vo out ∧ gb1 ≠ gq ∧ gb2 ≠ gq ∧ gb3 ≠ gq) ?_ ?_
    rotate_left
    · intro hJ
      refine two_ (i := 6) (j := 10) (Ni := some 62) (Nj := some 8) #[true, true, true, true, true, true, true, false, false, false, false, false, false] #[true, true, true, true, true, true, false, false, false, false, true, false, false] rfl rfl rfl rfl (by kernel_rfl) (by decide) (by decide) (fun K hK => ?_) (fun K hK => ?_)
      · skip
        refine goes_ Tryd.func20 (by kernel_rfl) rfl #[.agg (cellsI cs), .agg #[.int .i64 d0, .int .i64 d1, .int .i64 d2, .int .i64 d3, .int .i64 d4], .int .i64 0] (by rfl) rfl rfl (by (try simp only [List.map_toArray, List.map_cons, List.map_nil]); first | done | rfl) ?_
        with_reducible refine (isa_Execute.calls cs d0 d1 d2 d3 d4 0 x0 x1 x2 x3 x4 x5 x6 _ ⟨Glob.below hGl.out (by repeat (first | (with_reducible first | exact HB.out | apply below_alloc | apply pw_below_drewN | apply below_drew1) | exact HB.out))⟩ HC.out AX.out).mono ?_
        rintro e we ⟨rfl, hb⟩
        refine ⟨_, rfl, ?_⟩
        have r0_ := Aside0.mk (Kd.R_below (by (with_reducible repeat (first | exact HO.out | apply Kd.R_drewN | apply Kd.R_drew | apply Kd.R_alloc))) hb); clear HO; have HO := r0_; clear r0_; have n0_ := Aside0.mk (below_step (by repeat (first | (with_reducible first | exact HB.out | apply below_alloc | apply pw_below_drewN | apply below_drew1) | exact HB.out)) hb); have m1_ := Aside0.mk (blk_below (by (with_reducible repeat (first | exact BK1.out | refine blk_drewN ?_ _ | refine blk_drew ?_ | refine blk_alloc ?_ _)); try exact BK1.out) hb); have m2_ := Aside0.mk (blk_below (by (with_reducible repeat (first | exact BK2.out | refine blk_drewN ?_ _ | refine blk_drew ?_ | refine blk_alloc ?_ _)); try exact BK2.out) hb); have m3_ := Aside0.mk (blk_below (by (with_reducible repeat (first | exact BK3.out | refine blk_drewN ?_ _ | refine blk_drew ?_ | refine blk_alloc ?_ _)); try exact BK3.out) hb); clear HB; have HB := n0_; clear n0_; clear BK1; have BK1 := m1_; clear m1_; clear BK2; have BK2 := m2_; clear m2_; clear BK3; have BK3 := m3_; clear m3_; clear hb
        refine hK.out _ _ ⟨rangeM (by (with_reducible repeat (first | exact BK1.out | refine blk_drewN ?_ _ | refine blk_drew ?_ | refine blk_alloc ?_ _)); try exact BK1.out), (blk_cell (by (with_reducible repeat (first | exact BK3.out | refine blk_drewN ?_ _ | refine blk_drew ?_ | refine blk_alloc ?_ _)); try exact BK3.out) 0).trans rfl, (blk_cell (by (with_reducible repeat (first | exact BK3.out | refine blk_drewN ?_ _ | refine blk_drew ?_ | refine blk_alloc ?_ _)); try exact BK3.out) 1).trans rfl, (blk_cell (by (with_reducible repeat (first | exact BK3.out | refine blk_drewN ?_ _ | refine blk_drew ?_ | refine blk_alloc ?_ _)); try exact BK3.out) 2).trans rfl, (blk_cell (by (with_reducible repeat (first | exact BK3.out | refine blk_drewN ?_ _ | refine blk_drew ?_ | refine blk_alloc ?_ _)); try exact BK3.out) 3).trans rfl, (blk_cell (by (with_reducible repeat (first | exact BK3.out | refine blk_drewN ?_ _ | refine blk_drew ?_ | refine blk_alloc ?_ _)); try exact BK3.out) 4).trans rfl⟩ (fun hHeld => ?_)
        clear hK K
        refine norm_ (a' := ?_) ?_ ?_
        rotate_left
        · show Act.put _ (some 62) _ = _
          simp only [Act.put, List.setIfInBounds_toArray, List.set_cons_zero, List.set_cons_succ, i64_w, i32_w]
          rfl
        refine pure_ (i := 7) (N := some 55) (v := ?_) (a' := ?_) #[true, true, true, true, true, true, true, true, false, false, false, false, false] rfl rfl (any_of HT_.out (by kernel_rfl)) (fun _ _ _ h => h) (Or.inl ⟨by rfl, ?_⟩) ?_ ?_
        rotate_left
        · intro w'
          go_simp
          (try with_reducible rfl)
        rotate_left
        · simp only [Act.put, List.setIfInBounds_toArray, List.set_cons_zero, List.set_cons_succ, i64_w, i32_w]
          rfl
        refine pure_ (i := 8) (N := some 63) (v := ?_) (a' := ?_) #[true, true, true, true, true, true, true, true, true, false, false, false, false] rfl rfl (any_of HT_.out (by kernel_rfl)) (fun _ _ _ h => h) (Or.inl ⟨by rfl, ?_⟩) ?_ ?_
        rotate_left
        · intro w'
          go_simp
          (try with_reducible rfl)
        rotate_left
        · simp only [Act.put, List.setIfInBounds_toArray, List.set_cons_zero, List.set_cons_succ, i64_w, i32_w]
          rfl
        refine pure_ (i := 9) (N := some 64) (v := ?_) (a' := ?_) #[true, true, true, true, true, true, true, true, true, true, false, false, false] rfl rfl (any_of HT_.out (by kernel_rfl)) (fun _ _ _ h => h) (Or.inl ⟨by rfl, ?_⟩) ?_ ?_
        rotate_left
        · intro w'
          go_simp
          (try with_reducible rfl)
        rotate_left
        · simp only [Act.put, List.setIfInBounds_toArray, List.set_cons_zero, List.set_cons_succ, i64_w, i32_w]
          rfl
        refine one_ (i := 10) (N := some 8) #[true, true, true, true, true, true, true, true, true, true, true, false, false] rfl rfl (one_of HT_.out (by kernel_rfl)) (by decide) (fun K hK => ?_)
        refine box_step (by rfl) (N := 8) rfl (cs := cellsE zeros17 false 0 0 false 0) (t := 40) (by first | (go_simp; done) | (go_simp; rfl)) ?_
        intro gq hg wq hbox hb
        have r0_ := Aside0.mk (Kd.R_below (Kd.R_mono (Kd.R_bound (by (with_reducible repeat (first | exact HO.out | apply Kd.R_drewN | apply Kd.R_drew | apply Kd.R_alloc)))) (fun k_ hk_ => (⟨hk_.1, by have := hk_.2.2.1; rw [hg]; omega⟩ : ((k_ ≠ gb1 ∧ k_ ≠ gb2) ∧ k_ ≠ gb3) ∧ k_ ≠ gq))) hb)
        have n0_ := Aside0.mk (below_step (by repeat (first | (with_reducible first | exact HB.out | apply below_alloc | apply pw_below_drewN | apply below_drew1) | exact HB.out)) hb)
        have BKq := Aside0.mk hbox
        have GEq := Aside0.mk ((by rw [hg]; exact (below_size (by repeat (first | (with_reducible first | exact HB.out | apply below_alloc | apply pw_below_drewN | apply below_drew1) | exact HB.out)))) : w.heap.size ≤ gq)
        have m1_ := Aside0.mk (blk_below (by (with_reducible repeat (first | exact BK1.out | refine blk_drewN ?_ _ | refine blk_drew ?_ | refine blk_alloc ?_ _)); try exact BK1.out) hb)
        have NE1_q := Aside0.mk (show gb1 ≠ gq from by rw [hg]; exact Nat.ne_of_lt (blk_lt (by (with_reducible repeat (first | exact BK1.out | refine blk_drewN ?_ _ | refine blk_drew ?_ | refine blk_alloc ?_ _)); try exact BK1.out)))
        have m2_ := Aside0.mk (blk_below (by (with_reducible repeat (first | exact BK2.out | refine blk_drewN ?_ _ | refine blk_drew ?_ | refine blk_alloc ?_ _)); try exact BK2.out) hb)
        have NE2_q := Aside0.mk (show gb2 ≠ gq from by rw [hg]; exact Nat.ne_of_lt (blk_lt (by (with_reducible repeat (first | exact BK2.out | refine blk_drewN ?_ _ | refine blk_drew ?_ | refine blk_alloc ?_ _)); try exact BK2.out)))
        have m3_ := Aside0.mk (blk_below (by (with_reducible repeat (first | exact BK3.out | refine blk_drewN ?_ _ | refine blk_drew ?_ | refine blk_alloc ?_ _)); try exact BK3.out) hb)
        have NE3_q := Aside0.mk (show gb3 ≠ gq from by rw [hg]; exact Nat.ne_of_lt (blk_lt (by (with_reducible repeat (first | exact BK3.out | refine blk_drewN ?_ _ | refine blk_drew ?_ | refine blk_alloc ?_ _)); try exact BK3.out)))
        clear HB HO
        have HB := n0_
        have HO := r0_
        clear n0_ r0_
        clear BK1
        have BK1 := m1_
        clear m1_
        clear BK2
        have BK2 := m2_
        clear m2_
        clear BK3
        have BK3 := m3_
        clear m3_
        clear hb hbox hg
        refine hK.out _ _ ⟨rangeM (by (with_reducible repeat (first | exact BK1.out | refine blk_drewN ?_ _ | refine blk_drew ?_ | refine blk_alloc ?_ _)); try exact BK1.out), (blk_cell (by (with_reducible repeat (first | exact BK3.out | refine blk_drewN ?_ _ | refine blk_drew ?_ | refine blk_alloc ?_ _)); try exact BK3.out) 0).trans rfl, (blk_cell (by (with_reducible repeat (first | exact BK3.out | refine blk_drewN ?_ _ | refine blk_drew ?_ | refine blk_alloc ?_ _)); try exact BK3.out) 1).trans rfl, (blk_cell (by (with_reducible repeat (first | exact BK3.out | refine blk_drewN ?_ _ | refine blk_drew ?_ | refine blk_alloc ?_ _)); try exact BK3.out) 2).trans rfl, (blk_cell (by (with_reducible repeat (first | exact BK3.out | refine blk_drewN ?_ _ | refine blk_drew ?_ | refine blk_alloc ?_ _)); try exact BK3.out) 3).trans rfl, (blk_cell (by (with_reducible repeat (first | exact BK3.out | refine blk_drewN ?_ _ | refine blk_drew ?_ | refine blk_alloc ?_ _)); try exact BK3.out) 4).trans rfl⟩ (fun hHeld => ?_)
        clear hK K
        refine norm_ (a' := ?_) ?_ ?_
        rotate_left
        · show Act.put _ (some 8) _ = _
          simp only [Act.put, List.setIfInBounds_toArray, List.set_cons_zero, List.set_cons_succ, i64_w, i32_w]
          rfl
        exact norm_ (by first | (simp only [putAll, Act.put, List.setIfInBounds_toArray, List.set_cons_zero, List.set_cons_succ]; done) | (simp only [putAll, Act.put, List.setIfInBounds_toArray, List.set_cons_zero, List.set_cons_succ]; rfl)) (hJ _ _ ⟨(by repeat (first | (with_reducible first | exact HB.out | apply below_alloc | apply pw_below_drewN | apply below_drew1) | exact HB.out)), GEq.out, (by (with_reducible repeat (first | exact BK1.out | refine blk_drewN ?_ _ | refine blk_drew ?_ | refine blk_alloc ?_ _)); try exact BK1.out), (by (with_reducible repeat (first | exact BK2.out | refine blk_drewN ?_ _ | refine blk_drew ?_ | refine blk_alloc ?_ _)); try exact BK2.out), (by (with_reducible repeat (first | exact BK3.out | refine blk_drewN ?_ _ | refine blk_drew ?_ | refine blk_alloc ?_ _)); try exact BK3.out), (by (with_reducible repeat (first | exact BKq.out | refine blk_drewN ?_ _ | refine blk_drew ?_ | refine blk_alloc ?_ _)); try exact BKq.out), (by (with_reducible repeat (first | exact HO.out | apply Kd.R_drewN | apply Kd.R_drew | apply Kd.R_alloc))), NE1_q.out, NE2_q.out, NE3_q.out⟩)
      · skip
        refine box_step (by rfl) (N := 8) rfl (cs := cellsE zeros17 false 0 0 false 0) (t := 40) (by first | (go_simp; done) | (go_simp; rfl)) ?_
        intro gq hg wq hbox hb
        have r0_ := Aside0.mk (Kd.R_below (Kd.R_mono (Kd.R_bound (by (with_reducible repeat (first | exact HO.out | apply Kd.R_drewN | apply Kd.R_drew | apply Kd.R_alloc)))) (fun k_ hk_ => (⟨hk_.1, by have := hk_.2.2.1; rw [hg]; omega⟩ : ((k_ ≠ gb1 ∧ k_ ≠ gb2) ∧ k_ ≠ gb3) ∧ k_ ≠ gq))) hb)
        have n0_ := Aside0.mk (below_step (by repeat (first | (with_reducible first | exact HB.out | apply below_alloc | apply pw_below_drewN | apply below_drew1) | exact HB.out)) hb)
        have BKq := Aside0.mk hbox
        have GEq := Aside0.mk ((by rw [hg]; exact (below_size (by repeat (first | (with_reducible first | exact HB.out | apply below_alloc | apply pw_below_drewN | apply below_drew1) | exact HB.out)))) : w.heap.size ≤ gq)
        have m1_ := Aside0.mk (blk_below (by (with_reducible repeat (first | exact BK1.out | refine blk_drewN ?_ _ | refine blk_drew ?_ | refine blk_alloc ?_ _)); try exact BK1.out) hb)
        have NE1_q := Aside0.mk (show gb1 ≠ gq from by rw [hg]; exact Nat.ne_of_lt (blk_lt (by (with_reducible repeat (first | exact BK1.out | refine blk_drewN ?_ _ | refine blk_drew ?_ | refine blk_alloc ?_ _)); try exact BK1.out)))
        have m2_ := Aside0.mk (blk_below (by (with_reducible repeat (first | exact BK2.out | refine blk_drewN ?_ _ | refine blk_drew ?_ | refine blk_alloc ?_ _)); try exact BK2.out) hb)
        have NE2_q := Aside0.mk (show gb2 ≠ gq from by rw [hg]; exact Nat.ne_of_lt (blk_lt (by (with_reducible repeat (first | exact BK2.out | refine blk_drewN ?_ _ | refine blk_drew ?_ | refine blk_alloc ?_ _)); try exact BK2.out)))
        have m3_ := Aside0.mk (blk_below (by (with_reducible repeat (first | exact BK3.out | refine blk_drewN ?_ _ | refine blk_drew ?_ | refine blk_alloc ?_ _)); try exact BK3.out) hb)
        have NE3_q := Aside0.mk (show gb3 ≠ gq from by rw [hg]; exact Nat.ne_of_lt (blk_lt (by (with_reducible repeat (first | exact BK3.out | refine blk_drewN ?_ _ | refine blk_drew ?_ | refine blk_alloc ?_ _)); try exact BK3.out)))
        clear HB HO
        have HB := n0_
        have HO := r0_
        clear n0_ r0_
        clear BK1
        have BK1 := m1_
        clear m1_
        clear BK2
        have BK2 := m2_
        clear m2_
        clear BK3
        have BK3 := m3_
        clear m3_
        clear hb hbox hg
        refine hK.out _ _ ⟨rangeM (by (with_reducible repeat (first | exact BK1.out | refine blk_drewN ?_ _ | refine blk_drew ?_ | refine blk_alloc ?_ _)); try exact BK1.out), (blk_cell (by (with_reducible repeat (first | exact BK3.out | refine blk_drewN ?_ _ | refine blk_drew ?_ | refine blk_alloc ?_ _)); try exact BK3.out) 0).trans rfl, (blk_cell (by (with_reducible repeat (first | exact BK3.out | refine blk_drewN ?_ _ | refine blk_drew ?_ | refine blk_alloc ?_ _)); try exact BK3.out) 1).trans rfl, (blk_cell (by (with_reducible repeat (first | exact BK3.out | refine blk_drewN ?_ _ | refine blk_drew ?_ | refine blk_alloc ?_ _)); try exact BK3.out) 2).trans rfl, (blk_cell (by (with_reducible repeat (first | exact BK3.out | refine blk_drewN ?_ _ | refine blk_drew ?_ | refine blk_alloc ?_ _)); try exact BK3.out) 3).trans rfl, (blk_cell (by (with_reducible repeat (first | exact BK3.out | refine blk_drewN ?_ _ | refine blk_drew ?_ | refine blk_alloc ?_ _)); try exact BK3.out) 4).trans rfl⟩ (fun hHeld => ?_)
        clear hK K
        refine norm_ (a' := ?_) ?_ ?_
        rotate_left
        · show Act.put _ (some 8) _ = _
          simp only [Act.put, List.setIfInBounds_toArray, List.set_cons_zero, List.set_cons_succ, i64_w, i32_w]
          rfl
        refine one_ (i := 6) (N := some 62) #[true, true, true, true, true, true, true, false, false, false, true, false, false] rfl rfl (one_of HT_.out (by kernel_rfl)) (by decide) (fun K hK => ?_)
        refine goes_ Tryd.func20 (by kernel_rfl) rfl #[.agg (cellsI cs), .agg #[.int .i64 d0, .int .i64 d1, .int .i64 d2, .int .i64 d3, .int .i64 d4], .int .i64 0] (by rfl) rfl rfl (by (try simp only [List.map_toArray, List.map_cons, List.map_nil]); first | done | rfl) ?_
        with_reducible refine (isa_Execute.calls cs d0 d1 d2 d3 d4 0 x0 x1 x2 x3 x4 x5 x6 _ ⟨Glob.below hGl.out (by repeat (first | (with_reducible first | exact HB.out | apply below_alloc | apply pw_below_drewN | apply below_drew1) | exact HB.out))⟩ HC.out AX.out).mono ?_
        rintro e we ⟨rfl, hb⟩
        refine ⟨_, rfl, ?_⟩
        have r0_ := Aside0.mk (Kd.R_below (by (with_reducible repeat (first | exact HO.out | apply Kd.R_drewN | apply Kd.R_drew | apply Kd.R_alloc))) hb); clear HO; have HO := r0_; clear r0_; have n0_ := Aside0.mk (below_step (by repeat (first | (with_reducible first | exact HB.out | apply below_alloc | apply pw_below_drewN | apply below_drew1) | exact HB.out)) hb); have m1_ := Aside0.mk (blk_below (by (with_reducible repeat (first | exact BK1.out | refine blk_drewN ?_ _ | refine blk_drew ?_ | refine blk_alloc ?_ _)); try exact BK1.out) hb); have m2_ := Aside0.mk (blk_below (by (with_reducible repeat (first | exact BK2.out | refine blk_drewN ?_ _ | refine blk_drew ?_ | refine blk_alloc ?_ _)); try exact BK2.out) hb); have m3_ := Aside0.mk (blk_below (by (with_reducible repeat (first | exact BK3.out | refine blk_drewN ?_ _ | refine blk_drew ?_ | refine blk_alloc ?_ _)); try exact BK3.out) hb); have mq_ := Aside0.mk (blk_below (by (with_reducible repeat (first | exact BKq.out | refine blk_drewN ?_ _ | refine blk_drew ?_ | refine blk_alloc ?_ _)); try exact BKq.out) hb); clear HB; have HB := n0_; clear n0_; clear BK1; have BK1 := m1_; clear m1_; clear BK2; have BK2 := m2_; clear m2_; clear BK3; have BK3 := m3_; clear m3_; clear BKq; have BKq := mq_; clear mq_; clear hb
        refine hK.out _ _ ⟨rangeM (by (with_reducible repeat (first | exact BK1.out | refine blk_drewN ?_ _ | refine blk_drew ?_ | refine blk_alloc ?_ _)); try exact BK1.out), (blk_cell (by (with_reducible repeat (first | exact BK3.out | refine blk_drewN ?_ _ | refine blk_drew ?_ | refine blk_alloc ?_ _)); try exact BK3.out) 0).trans rfl, (blk_cell (by (with_reducible repeat (first | exact BK3.out | refine blk_drewN ?_ _ | refine blk_drew ?_ | refine blk_alloc ?_ _)); try exact BK3.out) 1).trans rfl, (blk_cell (by (with_reducible repeat (first | exact BK3.out | refine blk_drewN ?_ _ | refine blk_drew ?_ | refine blk_alloc ?_ _)); try exact BK3.out) 2).trans rfl, (blk_cell (by (with_reducible repeat (first | exact BK3.out | refine blk_drewN ?_ _ | refine blk_drew ?_ | refine blk_alloc ?_ _)); try exact BK3.out) 3).trans rfl, (blk_cell (by (with_reducible repeat (first | exact BK3.out | refine blk_drewN ?_ _ | refine blk_drew ?_ | refine blk_alloc ?_ _)); try exact BK3.out) 4).trans rfl⟩ (fun hHeld => ?_)
        clear hK K
        refine norm_ (a' := ?_) ?_ ?_
        rotate_left
        · show Act.put _ (some 62) _ = _
          simp only [Act.put, List.setIfInBounds_toArray, List.set_cons_zero, List.set_cons_succ, i64_w, i32_w]
          rfl
        refine pure_ (i := 7) (N := some 55) (v := ?_) (a' := ?_) #[true, true, true, true, true, true, true, true, false, false, true, false, false] rfl rfl (any_of HT_.out (by kernel_rfl)) (fun _ _ _ h => h) (Or.inl ⟨by rfl, ?_⟩) ?_ ?_
        rotate_left
        · intro w'
          go_simp
          (try with_reducible rfl)
        rotate_left
        · simp only [Act.put, List.setIfInBounds_toArray, List.set_cons_zero, List.set_cons_succ, i64_w, i32_w]
          rfl
        refine pure_ (i := 8) (N := some 63) (v := ?_) (a' := ?_) #[true, true, true, true, true, true, true, true, true, false, true, false, false] rfl rfl (any_of HT_.out (by kernel_rfl)) (fun _ _ _ h => h) (Or.inl ⟨by rfl, ?_⟩) ?_ ?_
        rotate_left
        · intro w'
          go_simp
          (try with_reducible rfl)
        rotate_left
        · simp only [Act.put, List.setIfInBounds_toArray, List.set_cons_zero, List.set_cons_succ, i64_w, i32_w]
          rfl
        refine pure_ (i := 9) (N := some 64) (v := ?_) (a' := ?_) #[true, true, true, true, true, true, true, true, true, true, true, false, false] rfl rfl (any_of HT_.out (by kernel_rfl)) (fun _ _ _ h => h) (Or.inl ⟨by rfl, ?_⟩) ?_ ?_
        rotate_left
        · intro w'
          go_simp
          (try with_reducible rfl)
        rotate_left
        · simp only [Act.put, List.setIfInBounds_toArray, List.set_cons_zero, List.set_cons_succ, i64_w, i32_w]
          rfl
        exact norm_ (by first | (simp only [putAll, Act.put, List.setIfInBounds_toArray, List.set_cons_zero, List.set_cons_succ]; done) | (simp only [putAll, Act.put, List.setIfInBounds_toArray, List.set_cons_zero, List.set_cons_succ]; rfl)) (hJ _ _ ⟨(by repeat (first | (with_reducible first | exact HB.out | apply below_alloc | apply pw_below_drewN | apply below_drew1) | exact HB.out)), GEq.out, (by (with_reducible repeat (first | exact BK1.out | refine blk_drewN ?_ _ | refine blk_drew ?_ | refine blk_alloc ?_ _)); try exact BK1.out), (by (with_reducible repeat (first | exact BK2.out | refine blk_drewN ?_ _ | refine blk_drew ?_ | refine blk_alloc ?_ _)); try exact BK2.out), (by (with_reducible repeat (first | exact BK3.out | refine blk_drewN ?_ _ | refine blk_drew ?_ | refine blk_alloc ?_ _)); try exact BK3.out), (by (with_reducible repeat (first | exact BKq.out | refine blk_drewN ?_ _ | refine blk_drew ?_ | refine blk_alloc ?_ _)); try exact BKq.out), (by (with_reducible repeat (first | exact HO.out | apply Kd.R_drewN | apply Kd.R_drew | apply Kd.R_alloc))), NE1_q.out, NE2_q.out, NE3_q.out⟩)
    rintro gb8 W8 ⟨hb, hge, h1, h2, h3, h8, hr, hn1, hn2, hn3⟩
    clear HB BK1 BK2 BK3 HO hrg hci_0 hfi_0 hci_1 hfi_1 hci_2 hfi_2 hci_3 hfi_3 hci_4 hfi_4
    have HB := Aside0.mk hb
    have GE8 := Aside0.mk hge
    have BK1 := Aside0.mk h1
    have BK2 := Aside0.mk h2
    have BK3 := Aside0.mk h3
    have BK8 := Aside0.mk h8
    have HO := Aside0.mk hr
    have NE1_8 := Aside0.mk hn1
    have NE2_8 := Aside0.mk hn2
    have NE3_8 := Aside0.mk hn3
    clear hb hge h1 h2 h3 h8 hr hn1 hn2 hn3
    refine norm_ (a' := ?_) ?_ ?_
    rotate_left
    · simp only [putAll, Act.put, List.setIfInBounds_toArray, List.set_cons_zero, List.set_cons_succ]
      rfl
    refine one_ (i := 11) (N := none) #[true, true, true, true, true, true, true, true, true, true, true, true, false] rfl rfl (one_of HT_.out (by kernel_rfl)) (by decide) (fun K hK => ?_)
    refine row_step (by rfl) 40 _ _ rfl gb8 (cellsE x0 x1 x2 x3 x4 x5) _ _ (by (with_reducible repeat (first | exact BK8.out | refine blk_drewN ?_ _ | refine blk_drew ?_ | refine blk_alloc ?_ _)); try exact BK8.out) (by rfl) (by rfl) (info40 HL.out) (by exact (cellsE_size rfl).trans (cellsE_size HL.out).symm) cellsE_one ?_
    intro W9 hbox hg
    have r0_ := Aside0.mk (Kd.R_grown (by (with_reducible repeat (first | exact HO.out | apply Kd.R_drewN | apply Kd.R_drew | apply Kd.R_alloc))) hg (fun k_ (hk_ : ((k_ ≠ gb1 ∧ k_ ≠ gb2) ∧ k_ ≠ gb3) ∧ k_ ≠ gb8) e_ => by injection e_ with e_; omega)); clear HO; have HO := r0_; clear r0_; have n0_ := Aside0.mk (pw_below_grown (by repeat (first | (with_reducible first | exact HB.out | apply below_alloc | apply pw_below_drewN | apply below_drew1) | exact HB.out)) (some gb8) (below_size (by repeat (first | (with_reducible first | exact HB.out | apply below_alloc | apply pw_below_drewN | apply below_drew1) | exact HB.out))) hg (by rintro k_ e_; injection e_ with e_; rw [← e_]; exact GE8.out)); have n1_ := Aside0.mk hbox; have m1_ := Aside0.mk (blk_grown (by (with_reducible repeat (first | exact BK1.out | refine blk_drewN ?_ _ | refine blk_drew ?_ | refine blk_alloc ?_ _)); try exact BK1.out) hg (fun e_ => by injection e_ with e_; exact NE1_8.out e_)); have m2_ := Aside0.mk (blk_grown (by (with_reducible repeat (first | exact BK2.out | refine blk_drewN ?_ _ | refine blk_drew ?_ | refine blk_alloc ?_ _)); try exact BK2.out) hg (fun e_ => by injection e_ with e_; exact NE2_8.out e_)); have m3_ := Aside0.mk (blk_grown (by (with_reducible repeat (first | exact BK3.out | refine blk_drewN ?_ _ | refine blk_drew ?_ | refine blk_alloc ?_ _)); try exact BK3.out) hg (fun e_ => by injection e_ with e_; exact NE3_8.out e_)); clear HB BK1 BK2 BK3 BK8; have HB := n0_; have BK8 := n1_; have BK1 := m1_; have BK2 := m2_; have BK3 := m3_; clear n0_ n1_ m1_ m2_ m3_ hbox hg
    refine hK.out _ _ ⟨rangeM (by (with_reducible repeat (first | exact BK1.out | refine blk_drewN ?_ _ | refine blk_drew ?_ | refine blk_alloc ?_ _)); try exact BK1.out), (blk_cell (by (with_reducible repeat (first | exact BK3.out | refine blk_drewN ?_ _ | refine blk_drew ?_ | refine blk_alloc ?_ _)); try exact BK3.out) 0).trans rfl, (blk_cell (by (with_reducible repeat (first | exact BK3.out | refine blk_drewN ?_ _ | refine blk_drew ?_ | refine blk_alloc ?_ _)); try exact BK3.out) 1).trans rfl, (blk_cell (by (with_reducible repeat (first | exact BK3.out | refine blk_drewN ?_ _ | refine blk_drew ?_ | refine blk_alloc ?_ _)); try exact BK3.out) 2).trans rfl, (blk_cell (by (with_reducible repeat (first | exact BK3.out | refine blk_drewN ?_ _ | refine blk_drew ?_ | refine blk_alloc ?_ _)); try exact BK3.out) 3).trans rfl, (blk_cell (by (with_reducible repeat (first | exact BK3.out | refine blk_drewN ?_ _ | refine blk_drew ?_ | refine blk_alloc ?_ _)); try exact BK3.out) 4).trans rfl⟩ (fun hHeld => ?_)
    clear hK K
    refine norm_ (a' := ?_) ?_ ?_
    rotate_left
    · show Act.put _ (none) _ = _
      simp only [Act.put, List.setIfInBounds_toArray, List.set_cons_zero, List.set_cons_succ, i64_w, i32_w]
      rfl
    refine pure_ (i := 12) (N := some 4) (v := ?_) (a' := ?_) #[true, true, true, true, true, true, true, true, true, true, true, true, true] rfl rfl (any_of HT_.out (by kernel_rfl)) (fun _ _ _ h => h) (Or.inl ⟨by rfl, ?_⟩) ?_ ?_
    rotate_left
    · intro w'
      go_simp
      (try with_reducible rfl)
    rotate_left
    · simp only [Act.put, List.setIfInBounds_toArray, List.set_cons_zero, List.set_cons_succ, i64_w, i32_w]
      rfl
    refine done_ (done_of HT_.out (by kernel_rfl)) ?_
    have h := H.out
    clear H
    have hc17 : W9.cell? ⟨gb1, 17, none⟩ = some (.slice (some ⟨gb2, 0, none⟩) mem.length mem.length) := (blk_cell BK1.out 17).trans (cellsM_mem HC.out)
    have he17 : W9.cell? ⟨gb8, 17, none⟩ = some (.bool x1) := (blk_cell BK8.out 17).trans (cellsE_at17 HL.out)
    have he18 : W9.cell? ⟨gb8, 18, none⟩ = some (.int .i64 x2) := (blk_cell BK8.out 18).trans (cellsE_at18 HL.out)
    have he19 : W9.cell? ⟨gb8, 19, none⟩ = some (.int .i64 x3) := (blk_cell BK8.out 19).trans (cellsE_at19 HL.out)
    have he20 : W9.cell? ⟨gb8, 20, none⟩ = some (.bool x4) := (blk_cell BK8.out 20).trans (cellsE_at20 HL.out)
    have he21 : W9.cell? ⟨gb8, 21, none⟩ = some (.int .i64 x5) := (blk_cell BK8.out 21).trans (cellsE_at21 HL.out)
    by_cases ce : x6 = 0
    case neg =>
      rw [if_neg (show ¬ _ from fun z => ce z.1)] at h
      replace h : some (false, cs, mem, out) = some (r, cs', mem', out') := h
      simp only [Option.some.injEq, Prod.mk.injEq] at h
      obtain ⟨rfl, rfl, rfl, rfl⟩ := h
      have ceb : (x6 != 0) = true := by simpa using ce
      clear ce
      go_wp2
      go_ret
      exact ⟨rfl, ⟨vo, (by (with_reducible repeat (first | exact BK1.out | refine blk_drewN ?_ _ | refine blk_drew ?_ | refine blk_alloc ?_ _)); try exact BK1.out), (by (with_reducible repeat (first | exact BK2.out | refine blk_drewN ?_ _ | refine blk_drew ?_ | refine blk_alloc ?_ _)); try exact BK2.out), Kd.R_mono (by (with_reducible repeat (first | exact HO.out | apply Kd.R_drewN | apply Kd.R_drew | apply Kd.R_alloc))) (fun k_ (hk_ : ((k_ ≠ gb1 ∧ k_ ≠ gb2) ∧ k_ ≠ gb3) ∧ k_ ≠ gb8) => (⟨by omega, by omega⟩ : k_ ≠ gb1 ∧ k_ ≠ gb2)), NE1_2.out, GE1.out, GE2.out, HC.out⟩, (by repeat (first | (with_reducible first | exact HB.out | apply below_alloc | apply pw_below_drewN | apply below_drew1) | exact HB.out))⟩
    subst ce
    cases x1 with
    | false =>
      rw [if_pos (show _ ∧ _ from ⟨rfl, fun z => Bool.noConfusion z⟩)] at h
      go_upto_region 17 with (fail)
      cases x4 with
      | false =>
        go_upto_region 19 with (fail)
        replace h : some (true, x0, mem, out) = some (r, cs', mem', out') := h
        simp only [Option.some.injEq, Prod.mk.injEq] at h
        obtain ⟨rfl, rfl, rfl, rfl⟩ := h
        go_wp2_with (first | ((with_reducible refine gate_dst (N := 104) rfl ?_); refine wpList_load_mid (by rfl) 35 _ rfl gb8 0 (by rfl) (x0.map (Value.int .i64)) _ (rangeE HL.out (by (with_reducible repeat (first | exact BK8.out | refine blk_drewN ?_ _ | refine blk_drew ?_ | refine blk_alloc ?_ _)); try exact BK8.out)) Tryd.underlying35 rfl (infoR HL.out) ?_) | ((with_reducible refine gate_store (t := 35) (p := 106) rfl ?_); refine head_event (by rfl) 35 _ _ rfl gb1 (x0.map (Value.int .i64)) (cs.map (Value.int .i64)) [(.slice (some ⟨gb2, 0, none⟩) mem.length mem.length), vo] _ (by (with_reducible repeat (first | exact BK1.out | refine blk_drewN ?_ _ | refine blk_drew ?_ | refine blk_alloc ?_ _)); try exact BK1.out) (by rfl) (by first | rfl | (go_simp; done) | (go_simp; rfl)) (infoR HL.out) (by rw [List.length_map, List.length_map, HL.out, HC.out]) (by intro v_ hv_; simp only [List.mem_map] at hv_; obtain ⟨_, _, rfl⟩ := hv_; rfl) ?_; intro Wz hbox hg; have r0_ := Aside0.mk (Kd.R_grown (by (with_reducible repeat (first | exact HO.out | apply Kd.R_drewN | apply Kd.R_drew | apply Kd.R_alloc))) hg (fun k_ (hk_ : ((k_ ≠ gb1 ∧ k_ ≠ gb2) ∧ k_ ≠ gb3) ∧ k_ ≠ gb8) e_ => by injection e_ with e_; omega)); have n0_ := Aside0.mk (pw_below_grown (by repeat (first | (with_reducible first | exact HB.out | apply below_alloc | apply pw_below_drewN | apply below_drew1) | exact HB.out)) (some gb1) (below_size (by repeat (first | (with_reducible first | exact HB.out | apply below_alloc | apply pw_below_drewN | apply below_drew1) | exact HB.out))) hg (by rintro k_ e_; injection e_ with e_; rw [← e_]; exact GE1.out)); have n1_ := Aside0.mk hbox; have m2_ := Aside0.mk (blk_grown (by (with_reducible repeat (first | exact BK2.out | refine blk_drewN ?_ _ | refine blk_drew ?_ | refine blk_alloc ?_ _)); try exact BK2.out) hg (fun e_ => by injection e_ with e_; exact NE1_2.out e_.symm)); clear HB HO BK1 BK2; have HB := n0_; have HO := r0_; have BK1 := n1_; have BK2 := m2_; clear n0_ n1_ m2_ r0_ hbox hg))
        go_ret
        exact ⟨rfl, ⟨vo, (by (with_reducible repeat (first | exact BK1.out | refine blk_drewN ?_ _ | refine blk_drew ?_ | refine blk_alloc ?_ _)); try exact BK1.out), (by (with_reducible repeat (first | exact BK2.out | refine blk_drewN ?_ _ | refine blk_drew ?_ | refine blk_alloc ?_ _)); try exact BK2.out), Kd.R_mono (by (with_reducible repeat (first | exact HO.out | apply Kd.R_drewN | apply Kd.R_drew | apply Kd.R_alloc))) (fun k_ (hk_ : ((k_ ≠ gb1 ∧ k_ ≠ gb2) ∧ k_ ≠ gb3) ∧ k_ ≠ gb8) => (⟨by omega, by omega⟩ : k_ ≠ gb1 ∧ k_ ≠ gb2)), NE1_2.out, GE1.out, GE2.out, HL.out⟩, (by repeat (first | (with_reducible first | exact HB.out | apply below_alloc | apply pw_below_drewN | apply below_drew1) | exact HB.out))⟩
      | true =>
        go_upto_region 18 with (fail)
        have hv18 : W9.cell? ⟨gb1, 18, none⟩ = some vo := (blk_cell BK1.out 18).trans (cellsM_out HC.out)
        refine start_ (n := 12) (S := fun w' => w'.cell? ⟨gb1, 18, none⟩ = some vo ∧ w'.cell? ⟨gb8, 21, none⟩ = some (.int .i64 x5)) (ds := [11]) #[false, false, false, false, false, false, false, false, false, false, false, false] (by kernel_rfl) rfl rfl ⟨hv18, he21⟩ (fun hHeld => ?_); refine with_tabW isa_machine_step.tab18 isa_machine_step.bits18 (fun HT_ HW_ => ?_)
        refine pure_ (i := 0) (N := some 91) (v := ?_) (a' := ?_) #[true, false, false, false, false, false, false, false, false, false, false, false] rfl rfl (any_of HT_.out (by kernel_rfl)) (fun _ _ _ h => h) (Or.inl ⟨by rfl, ?_⟩) ?_ ?_
        rotate_left
        · intro w'
          go_simp
          (try with_reducible rfl)
        rotate_left
        · simp only [Act.put, List.setIfInBounds_toArray, List.set_cons_zero, List.set_cons_succ, i64_w, i32_w]
          rfl
        refine pure_ (i := 1) (N := some 92) (v := ?_) (a' := ?_) #[true, true, false, false, false, false, false, false, false, false, false, false] rfl rfl (any_of HT_.out (by kernel_rfl)) (fun _ _ _ h => h) (Or.inl ⟨by rfl, ?_⟩) ?_ ?_
        rotate_left
        · intro w'
          go_simp
          (try with_reducible rfl)
        rotate_left
        · simp only [Act.put, List.setIfInBounds_toArray, List.set_cons_zero, List.set_cons_succ, i64_w, i32_w]
          rfl
        refine pure_ (i := 2) (N := some 93) (v := ?_) (a' := ?_) #[true, true, true, false, false, false, false, false, false, false, false, false] rfl rfl (any_of HT_.out (by kernel_rfl)) (fun _ _ _ h => h) (Or.inl ⟨by rfl, ?_⟩) ?_ ?_
        rotate_left
        · intro w'
          go_simp
          (try with_reducible rfl)
        rotate_left
        · simp only [Act.put, List.setIfInBounds_toArray, List.set_cons_zero, List.set_cons_succ, i64_w, i32_w]
          rfl
        refine pure_ (i := 3) (N := some 94) (v := ?_) (a' := ?_) #[true, true, true, true, false, false, false, false, false, false, false, false] rfl rfl (any_of HT_.out (by kernel_rfl)) (fun _ _ _ h => h) (Or.inl ⟨by rfl, ?_⟩) ?_ ?_
        rotate_left
        · intro w'
          go_simp
          (try with_reducible rfl)
        rotate_left
        · simp only [Act.put, List.setIfInBounds_toArray, List.set_cons_zero, List.set_cons_succ, i64_w, i32_w]
          rfl
        refine pure_ (i := 5) (N := some 96) (v := ?_) (a' := ?_) #[true, true, true, true, false, true, false, false, false, false, false, false] rfl rfl (any_of HT_.out (by kernel_rfl)) (fun _ _ _ h => h) (Or.inl ⟨by rfl, ?_⟩) ?_ ?_
        rotate_left
        · intro w'
          go_simp
          (try with_reducible rfl)
        rotate_left
        · simp only [Act.put, List.setIfInBounds_toArray, List.set_cons_zero, List.set_cons_succ, i64_w, i32_w]
          rfl
        refine take_ (i := 4) (N := some 95) (v := ?_) (a' := ?_) #[true, true, true, true, true, true, false, false, false, false, false, false] rfl rfl (take_ofW HT_.out HW_.out (by kernel_rfl)) (fun _ _ _ h => h) (Or.inl ⟨by rfl, ?_⟩) hHeld ?_ ?_
        rotate_left
        · rintro w' ⟨s0, s1⟩
          go_simp
          (try with_reducible rfl)
        rotate_left
        · simp only [Act.put, List.setIfInBounds_toArray, List.set_cons_zero, List.set_cons_succ, i64_w, i32_w]
          rfl
        refine take_ (i := 6) (N := some 97) (v := ?_) (a' := ?_) #[true, true, true, true, true, true, true, false, false, false, false, false] rfl rfl (take_ofW HT_.out HW_.out (by kernel_rfl)) (fun _ _ _ h => h) (Or.inl ⟨by rfl, ?_⟩) hHeld ?_ ?_
        rotate_left
        · rintro w' ⟨s0, s1⟩
          go_simp
          (try with_reducible rfl)
        rotate_left
        · simp only [Act.put, List.setIfInBounds_toArray, List.set_cons_zero, List.set_cons_succ, i64_w, i32_w]
          rfl
        refine one_ (i := 7) (N := some 98) #[true, true, true, true, true, true, true, true, false, false, false, false] rfl rfl (one_of HT_.out (by kernel_rfl)) (by decide) (fun K hK => ?_)
        refine event_step (by rfl) (v := .slice (some ⟨W9.drew.heap.size, 0, none⟩) 1 1) (w1 := W9.drew.alloc (.cells #[.int .i64 x5] 3)) (by first | (go_simp; done) | (go_simp; rfl)) ?_
        refine hK.out _ _ ⟨(blk_cell (by (with_reducible repeat (first | exact BK1.out | refine blk_drewN ?_ _ | refine blk_drew ?_ | refine blk_alloc ?_ _)); try exact BK1.out) 18).trans (cellsM_out HC.out), (blk_cell (by (with_reducible repeat (first | exact BK8.out | refine blk_drewN ?_ _ | refine blk_drew ?_ | refine blk_alloc ?_ _)); try exact BK8.out) 21).trans (cellsE_at21 HL.out)⟩ (fun hHeld => ?_)
        clear hK K
        refine norm_ (a' := ?_) ?_ ?_
        rotate_left
        · show Act.put _ (some 98) _ = _
          simp only [Act.put, List.setIfInBounds_toArray, List.set_cons_zero, List.set_cons_succ, i64_w, i32_w]
          rfl
        refine one_ (i := 8) (N := some 99) #[true, true, true, true, true, true, true, true, true, false, false, false] rfl rfl (one_of HT_.out (by kernel_rfl)) (by decide) (fun K hK => ?_)
        refine Kd.R_append_step (Kd.int .i64) (w0 := w) (W := W9.drew) w.heap.size (by rfl) (.tmp 95) (.tmp 98) 44 3 (.int .i64 0) 8 rfl Tryd.underlying44 (by kernel_rfl) rfl (by decide) (by omega) vo out x5 [.int .i64 x5] (fun k_ => k_ ≠ gb1 ∧ k_ ≠ gb2) (fun _ => False) rfl rfl ?aP (fun _ hk => hk.elim) ?aF ?aO ?aB ?aS ?aL ?_
        case aP => exact rfl
        case aF => exact fun k_ hk_ => ⟨fun e_ => by have := blk_lt (by (with_reducible repeat (first | exact BK1.out | refine blk_drewN ?_ _ | refine blk_drew ?_ | refine blk_alloc ?_ _)); try exact BK1.out); subst e_; exact absurd this (Nat.not_lt.mpr hk_), fun e_ => by have := blk_lt (by (with_reducible repeat (first | exact BK2.out | refine blk_drewN ?_ _ | refine blk_drew ?_ | refine blk_alloc ?_ _)); try exact BK2.out); subst e_; exact absurd this (Nat.not_lt.mpr hk_)⟩
        case aO => exact Kd.R_mono (by (with_reducible repeat (first | exact HO.out | apply Kd.R_drewN | apply Kd.R_drew | apply Kd.R_alloc))) (fun k_ (hk_ : ((k_ ≠ gb1 ∧ k_ ≠ gb2) ∧ k_ ≠ gb3) ∧ k_ ≠ gb8) => (⟨by omega, by omega⟩ : k_ ≠ gb1 ∧ k_ ≠ gb2))
        case aB => exact by repeat (first | (with_reducible first | exact HB.out | apply below_alloc | apply pw_below_drewN | apply below_drew1) | exact HB.out)
        case aS => exact below_size (by repeat (first | (with_reducible first | exact HB.out | apply below_alloc | apply pw_below_drewN | apply below_drew1) | exact HB.out))
        case aL => have := HOL.out; omega
        intro vo1 Wp hr hb hg hat
        obtain ⟨Av, cv, hvv⟩ := Kd.R_slice hr
        generalize (out ++ [x5]).length = nv at hvv
        subst hvv
        have m1_ := Aside0.mk (blk_grown (by (with_reducible repeat (first | exact BK1.out | refine blk_drewN ?_ _ | refine blk_drew ?_ | refine blk_alloc ?_ _)); try exact BK1.out) hg (fun e_ => (HO.out.1 gb1 e_.symm).1.1.1 rfl))
        have m2_ := Aside0.mk (blk_grown (by (with_reducible repeat (first | exact BK2.out | refine blk_drewN ?_ _ | refine blk_drew ?_ | refine blk_alloc ?_ _)); try exact BK2.out) hg (fun e_ => (HO.out.1 gb2 e_.symm).1.1.2 rfl))
        have m8_ := Aside0.mk (blk_grown (by (with_reducible repeat (first | exact BK8.out | refine blk_drewN ?_ _ | refine blk_drew ?_ | refine blk_alloc ?_ _)); try exact BK8.out) hg (fun e_ => (HO.out.1 gb8 e_.symm).2 rfl))
        clear HB HO BK1 BK2 BK8 hv18 he20 he21 hc17 he17 he18 he19
        have HB := Aside0.mk hb
        have HO := Aside0.mk hr
        have BK1 := m1_
        have BK2 := m2_
        have BK8 := m8_
        clear hb hr hg hat m1_ m2_ m8_
        have hv18 : Wp.cell? ⟨gb1, 18, none⟩ = some vo := (blk_cell BK1.out 18).trans (cellsM_out HC.out)
        have hvf := blk_frozen BK1.out 18
        refine hK.out _ _ ⟨(blk_cell (by (with_reducible repeat (first | exact BK1.out | refine blk_drewN ?_ _ | refine blk_drew ?_ | refine blk_alloc ?_ _)); try exact BK1.out) 18).trans (cellsM_out HC.out), (blk_cell (by (with_reducible repeat (first | exact BK8.out | refine blk_drewN ?_ _ | refine blk_drew ?_ | refine blk_alloc ?_ _)); try exact BK8.out) 21).trans (cellsE_at21 HL.out)⟩ (fun hHeld => ?_)
        clear hK K
        refine norm_ (a' := ?_) ?_ ?_
        rotate_left
        · show Act.put _ (some 99) _ = _
          simp only [Act.put, List.setIfInBounds_toArray, List.set_cons_zero, List.set_cons_succ, i64_w, i32_w]
          rfl
        refine pure_ (i := 9) (N := some 100) (v := ?_) (a' := ?_) #[true, true, true, true, true, true, true, true, true, true, false, false] rfl rfl (any_of HT_.out (by kernel_rfl)) (fun _ _ _ h => h) (Or.inl ⟨by rfl, ?_⟩) ?_ ?_
        rotate_left
        · intro w'
          go_simp
          (try with_reducible rfl)
        rotate_left
        · simp only [Act.put, List.setIfInBounds_toArray, List.set_cons_zero, List.set_cons_succ, i64_w, i32_w]
          rfl
        refine pure_ (i := 10) (N := some 101) (v := ?_) (a' := ?_) #[true, true, true, true, true, true, true, true, true, true, true, false] rfl rfl (any_of HT_.out (by kernel_rfl)) (fun _ _ _ h => h) (Or.inl ⟨by rfl, ?_⟩) ?_ ?_
        rotate_left
        · intro w'
          go_simp
          (try with_reducible rfl)
        rotate_left
        · simp only [Act.put, List.setIfInBounds_toArray, List.set_cons_zero, List.set_cons_succ, i64_w, i32_w]
          rfl
        refine last_ (i := 11) (N := none) #[true, true, true, true, true, true, true, true, true, true, true, true] rfl rfl (one_of HT_.out (by kernel_rfl)) (by decide) (fun K hK => ?_)
        refine skip_ (w1 := ?_) (by rfl) rfl ?_ ?_
        rotate_left
        · go_simp
          rfl
        refine hK.out _ _ ?_
        clear hK K
        refine done_ (done_of HT_.out (by kernel_rfl)) ?_
        go_upto_region 19 with (fail)
        refine gen_w (P := Code.wp _ _ _) (F := fun W => Below w.heap.size w W ∧ W.heap[gb1]? = some (.cells (cellsM cs (.slice (some ⟨gb2, 0, none⟩) mem.length mem.length) (.slice Av nv cv)) 72 (0, 0)) ∧ W.heap[gb2]? = some (.cells (cellsI mem) 3 (0, 0)) ∧ W.heap[gb8]? = some (.cells (cellsE x0 false x2 x3 true x5) 40 (0, 0)) ∧ (Kd.int .i64).R 3 W w.heap.size (fun k_ => k_ ≠ gb1 ∧ k_ ≠ gb2) (.slice Av nv cv) (out ++ [x5])) ⟨?_, ?_, ?_, ?_, ?_⟩ ?_
        · repeat (first | (with_reducible first | exact HB.out | apply pw_below_drewN | apply below_drew1 | refine below_set ?_ GE1.out) | exact HB.out)
        · (with_reducible repeat (first | refine blk_drewN ?_ _ | refine blk_drew ?_)); refine blk_put (cs := cellsM cs (.slice (some ⟨gb2, 0, none⟩) mem.length mem.length) vo) ?_ 18 _ (cellsM_setOut HC.out _); (with_reducible repeat (first | refine blk_drewN ?_ _ | refine blk_drew ?_)); exact BK1.out
        · (with_reducible repeat (first | refine blk_drewN ?_ _ | refine blk_drew ?_)); refine blk_far ?_ (Ne.symm NE1_2.out) _; (with_reducible repeat (first | refine blk_drewN ?_ _ | refine blk_drew ?_)); exact BK2.out
        · (with_reducible repeat (first | refine blk_drewN ?_ _ | refine blk_drew ?_)); refine blk_far ?_ (Ne.symm NE1_8.out) _; (with_reducible repeat (first | refine blk_drewN ?_ _ | refine blk_drew ?_)); exact BK8.out
        · (with_reducible repeat (first | apply Kd.R_drewN | apply Kd.R_drew)); refine Kd.R_far ?_ (fun k_ (hk_ : k_ ≠ gb1 ∧ k_ ≠ gb2) => hk_.1) _; exact (by (with_reducible repeat (first | exact HO.out | apply Kd.R_drewN | apply Kd.R_drew | apply Kd.R_alloc)))
        clear hv18 hvf HB BK1 BK2 BK8 HO
        rintro Wn ⟨hb, h1, h2, h8, hr⟩
        have HB := Aside0.mk hb
        have BK1 := Aside0.mk h1
        have BK2 := Aside0.mk h2
        have BK8 := Aside0.mk h8
        have HO := Aside0.mk hr
        clear hb h1 h2 h8 hr
        replace h : some (true, x0, mem, (out ++ [x5])) = some (r, cs', mem', out') := h
        simp only [Option.some.injEq, Prod.mk.injEq] at h
        obtain ⟨rfl, rfl, rfl, rfl⟩ := h
        go_wp2_with (first | ((with_reducible refine gate_dst (N := 104) rfl ?_); refine wpList_load_mid (by rfl) 35 _ rfl gb8 0 (by rfl) (x0.map (Value.int .i64)) _ (rangeE HL.out (by (with_reducible repeat (first | exact BK8.out | refine blk_drewN ?_ _ | refine blk_drew ?_ | refine blk_alloc ?_ _)); try exact BK8.out)) Tryd.underlying35 rfl (infoR HL.out) ?_) | ((with_reducible refine gate_store (t := 35) (p := 106) rfl ?_); refine head_event (by rfl) 35 _ _ rfl gb1 (x0.map (Value.int .i64)) (cs.map (Value.int .i64)) [(.slice (some ⟨gb2, 0, none⟩) mem.length mem.length), (.slice Av nv cv)] _ (by (with_reducible repeat (first | exact BK1.out | refine blk_drewN ?_ _ | refine blk_drew ?_ | refine blk_alloc ?_ _)); try exact BK1.out) (by rfl) (by first | rfl | (go_simp; done) | (go_simp; rfl)) (infoR HL.out) (by rw [List.length_map, List.length_map, HL.out, HC.out]) (by intro v_ hv_; simp only [List.mem_map] at hv_; obtain ⟨_, _, rfl⟩ := hv_; rfl) ?_; intro Wz hbox hg; have r0_ := Aside0.mk (Kd.R_grown (by (with_reducible repeat (first | exact HO.out | apply Kd.R_drewN | apply Kd.R_drew | apply Kd.R_alloc))) hg (fun k_ (hk_ : k_ ≠ gb1 ∧ k_ ≠ gb2) e_ => by injection e_ with e_; omega)); have n0_ := Aside0.mk (pw_below_grown (by repeat (first | (with_reducible first | exact HB.out | apply below_alloc | apply pw_below_drewN | apply below_drew1) | exact HB.out)) (some gb1) (below_size (by repeat (first | (with_reducible first | exact HB.out | apply below_alloc | apply pw_below_drewN | apply below_drew1) | exact HB.out))) hg (by rintro k_ e_; injection e_ with e_; rw [← e_]; exact GE1.out)); have n1_ := Aside0.mk hbox; have m2_ := Aside0.mk (blk_grown (by (with_reducible repeat (first | exact BK2.out | refine blk_drewN ?_ _ | refine blk_drew ?_ | refine blk_alloc ?_ _)); try exact BK2.out) hg (fun e_ => by injection e_ with e_; exact NE1_2.out e_.symm)); clear HB HO BK1 BK2; have HB := n0_; have HO := r0_; have BK1 := n1_; have BK2 := m2_; clear n0_ n1_ m2_ r0_ hbox hg))
        go_ret
        exact ⟨rfl, ⟨(.slice Av nv cv), (by (with_reducible repeat (first | exact BK1.out | refine blk_drewN ?_ _ | refine blk_drew ?_ | refine blk_alloc ?_ _)); try exact BK1.out), (by (with_reducible repeat (first | exact BK2.out | refine blk_drewN ?_ _ | refine blk_drew ?_ | refine blk_alloc ?_ _)); try exact BK2.out), Kd.R_mono (by (with_reducible repeat (first | exact HO.out | apply Kd.R_drewN | apply Kd.R_drew | apply Kd.R_alloc))) (fun k_ (hk_ : k_ ≠ gb1 ∧ k_ ≠ gb2) => (⟨by omega, by omega⟩ : k_ ≠ gb1 ∧ k_ ≠ gb2)), NE1_2.out, GE1.out, GE2.out, HL.out⟩, (by repeat (first | (with_reducible first | exact HB.out | apply below_alloc | apply pw_below_drewN | apply below_drew1) | exact HB.out))⟩
    | true =>
      by_cases ci : 0 ≤ x2 ∧ x2 < (mem.length : Int)
      case neg =>
        rw [if_neg (show ¬ _ from fun z => ci (z.2 rfl))] at h
        replace h : some (false, cs, mem, out) = some (r, cs', mem', out') := h
        simp only [Option.some.injEq, Prod.mk.injEq] at h
        obtain ⟨rfl, rfl, rfl, rfl⟩ := h
        go_wp2_with (first | (go_at_call 47; refine (isa_machine_inside.calls gb1 mem.length mem.length (some ⟨gb2, 0, none⟩) x2 false _ hc17 (congrArg some (decide_eq_false ci))).mono ?_; rintro e w' ⟨rfl, ⟨nd, rfl⟩⟩))
        go_ret
        exact ⟨rfl, ⟨vo, (by (with_reducible repeat (first | exact BK1.out | refine blk_drewN ?_ _ | refine blk_drew ?_ | refine blk_alloc ?_ _)); try exact BK1.out), (by (with_reducible repeat (first | exact BK2.out | refine blk_drewN ?_ _ | refine blk_drew ?_ | refine blk_alloc ?_ _)); try exact BK2.out), Kd.R_mono (by (with_reducible repeat (first | exact HO.out | apply Kd.R_drewN | apply Kd.R_drew | apply Kd.R_alloc))) (fun k_ (hk_ : ((k_ ≠ gb1 ∧ k_ ≠ gb2) ∧ k_ ≠ gb3) ∧ k_ ≠ gb8) => (⟨by omega, by omega⟩ : k_ ≠ gb1 ∧ k_ ≠ gb2)), NE1_2.out, GE1.out, GE2.out, HC.out⟩, (by repeat (first | (with_reducible first | exact HB.out | apply below_alloc | apply pw_below_drewN | apply below_drew1) | exact HB.out))⟩
      rw [if_pos (show _ ∧ _ from ⟨rfl, fun _ => ci⟩)] at h
      have hci := decide_eq_true ci
      obtain ⟨cm0, cm1⟩ := ci
      go_upto_region 16 with (first | (go_at_call 47; refine (isa_machine_inside.calls gb1 mem.length mem.length (some ⟨gb2, 0, none⟩) x2 true _ hc17 (congrArg some hci)).mono ?_; rintro e w' ⟨rfl, ⟨nd, rfl⟩⟩))
      clear hci
      obtain ⟨old, hold⟩ : ∃ x, (cellsI mem)[x2.toNat]? = some x := ⟨_, cellsI_get (by omega)⟩
      have hmx : W9.cell? ⟨gb2, x2.toNat, none⟩ = some old := (blk_cell BK2.out _).trans hold
      have hmf := blk_frozen BK2.out x2.toNat
      clear hold
      refine start_ (n := 10) (S := fun w' => w'.cell? ⟨gb1, 17, none⟩ = some (.slice (some ⟨gb2, 0, none⟩) mem.length mem.length) ∧ w'.cell? ⟨gb8, 18, none⟩ = some (.int .i64 x2) ∧ w'.cell? ⟨gb8, 19, none⟩ = some (.int .i64 x3)) (ds := [9]) #[false, false, false, false, false, false, false, false, false, false] (by kernel_rfl) rfl rfl ⟨hc17, he18, he19⟩ (fun hHeld => ?_); refine with_tabW isa_machine_step.tab16 isa_machine_step.bits16 (fun HT_ HW_ => ?_)
      refine pure_ (i := 0) (N := some 80) (v := ?_) (a' := ?_) #[true, false, false, false, false, false, false, false, false, false] rfl rfl (any_of HT_.out (by kernel_rfl)) (fun _ _ _ h => h) (Or.inl ⟨by rfl, ?_⟩) ?_ ?_
      rotate_left
      · intro w'
        go_simp
        (try with_reducible rfl)
      rotate_left
      · simp only [Act.put, List.setIfInBounds_toArray, List.set_cons_zero, List.set_cons_succ, i64_w, i32_w]
        rfl
      refine pure_ (i := 1) (N := some 81) (v := ?_) (a' := ?_) #[true, true, false, false, false, false, false, false, false, false] rfl rfl (any_of HT_.out (by kernel_rfl)) (fun _ _ _ h => h) (Or.inl ⟨by rfl, ?_⟩) ?_ ?_
      rotate_left
      · intro w'
        go_simp
        (try with_reducible rfl)
      rotate_left
      · simp only [Act.put, List.setIfInBounds_toArray, List.set_cons_zero, List.set_cons_succ, i64_w, i32_w]
        rfl
      refine pure_ (i := 2) (N := some 82) (v := ?_) (a' := ?_) #[true, true, true, false, false, false, false, false, false, false] rfl rfl (any_of HT_.out (by kernel_rfl)) (fun _ _ _ h => h) (Or.inl ⟨by rfl, ?_⟩) ?_ ?_
      rotate_left
      · intro w'
        go_simp
        (try with_reducible rfl)
      rotate_left
      · simp only [Act.put, List.setIfInBounds_toArray, List.set_cons_zero, List.set_cons_succ, i64_w, i32_w]
        rfl
      refine pure_ (i := 4) (N := some 84) (v := ?_) (a' := ?_) #[true, true, true, false, true, false, false, false, false, false] rfl rfl (any_of HT_.out (by kernel_rfl)) (fun _ _ _ h => h) (Or.inl ⟨by rfl, ?_⟩) ?_ ?_
      rotate_left
      · intro w'
        go_simp
        (try with_reducible rfl)
      rotate_left
      · simp only [Act.put, List.setIfInBounds_toArray, List.set_cons_zero, List.set_cons_succ, i64_w, i32_w]
        rfl
      refine pure_ (i := 6) (N := some 86) (v := ?_) (a' := ?_) #[true, true, true, false, true, false, true, false, false, false] rfl rfl (any_of HT_.out (by kernel_rfl)) (fun _ _ _ h => h) (Or.inl ⟨by rfl, ?_⟩) ?_ ?_
      rotate_left
      · intro w'
        go_simp
        (try with_reducible rfl)
      rotate_left
      · simp only [Act.put, List.setIfInBounds_toArray, List.set_cons_zero, List.set_cons_succ, i64_w, i32_w]
        rfl
      refine take_ (i := 3) (N := some 83) (v := ?_) (a' := ?_) #[true, true, true, true, true, false, true, false, false, false] rfl rfl (take_ofW HT_.out HW_.out (by kernel_rfl)) (fun _ _ _ h => h) (Or.inl ⟨by rfl, ?_⟩) hHeld ?_ ?_
      rotate_left
      · rintro w' ⟨s0, s1, s2⟩
        go_simp
        (try with_reducible rfl)
      rotate_left
      · simp only [Act.put, List.setIfInBounds_toArray, List.set_cons_zero, List.set_cons_succ, i64_w, i32_w]
        rfl
      refine take_ (i := 5) (N := some 85) (v := ?_) (a' := ?_) #[true, true, true, true, true, true, true, false, false, false] rfl rfl (take_ofW HT_.out HW_.out (by kernel_rfl)) (fun _ _ _ h => h) (Or.inl ⟨by rfl, ?_⟩) hHeld ?_ ?_
      rotate_left
      · rintro w' ⟨s0, s1, s2⟩
        go_simp
        (try with_reducible rfl)
      rotate_left
      · simp only [Act.put, List.setIfInBounds_toArray, List.set_cons_zero, List.set_cons_succ, i64_w, i32_w]
        rfl
      refine take_ (i := 7) (N := some 87) (v := ?_) (a' := ?_) #[true, true, true, true, true, true, true, true, false, false] rfl rfl (take_ofW HT_.out HW_.out (by kernel_rfl)) (fun _ _ _ h => h) (Or.inl ⟨by rfl, ?_⟩) hHeld ?_ ?_
      rotate_left
      · rintro w' ⟨s0, s1, s2⟩
        go_simp
        (try with_reducible rfl)
      rotate_left
      · simp only [Act.put, List.setIfInBounds_toArray, List.set_cons_zero, List.set_cons_succ, i64_w, i32_w]
        rfl
      refine pure_ (i := 8) (N := some 88) (v := ?_) (a' := ?_) #[true, true, true, true, true, true, true, true, true, false] rfl rfl (any_of HT_.out (by kernel_rfl)) (fun _ _ _ h => h) (Or.inl ⟨by rfl, ?_⟩) ?_ ?_
      rotate_left
      · intro w'
        go_simp
        (try with_reducible rfl)
      rotate_left
      · simp only [Act.put, List.setIfInBounds_toArray, List.set_cons_zero, List.set_cons_succ, i64_w, i32_w]
        rfl
      refine last_ (i := 9) (N := none) #[true, true, true, true, true, true, true, true, true, true] rfl rfl (one_of HT_.out (by kernel_rfl)) (by decide) (fun K hK => ?_)
      refine skip_ (w1 := ?_) (by rfl) rfl ?_ ?_
      rotate_left
      · go_simp
        rfl
      refine hK.out _ _ ?_
      clear hK K
      refine done_ (done_of HT_.out (by kernel_rfl)) ?_
      go_upto_region 17 with (fail)
      refine gen_w (P := Code.wp _ _ _) (F := fun W => Below w.heap.size w W ∧ W.heap[gb1]? = some (.cells (cellsM cs (.slice (some ⟨gb2, 0, none⟩) (mem.set x2.toNat x3).length (mem.set x2.toNat x3).length) vo) 72 (0, 0)) ∧ W.heap[gb2]? = some (.cells (cellsI (mem.set x2.toNat x3)) 3 (0, 0)) ∧ W.heap[gb8]? = some (.cells (cellsE x0 true x2 x3 x4 x5) 40 (0, 0)) ∧ (Kd.int .i64).R 3 W w.heap.size (fun k_ => ((k_ ≠ gb1 ∧ k_ ≠ gb2) ∧ k_ ≠ gb3) ∧ k_ ≠ gb8) vo out) ⟨?_, ?_, ?_, ?_, ?_⟩ ?_
      · repeat (first | (with_reducible first | exact HB.out | apply pw_below_drewN | apply below_drew1 | refine below_set ?_ GE2.out) | exact HB.out)
      · rw [List.length_set]; (with_reducible repeat (first | refine blk_drewN ?_ _ | refine blk_drew ?_)); refine blk_far ?_ NE1_2.out _; (with_reducible repeat (first | refine blk_drewN ?_ _ | refine blk_drew ?_)); exact BK1.out
      · (with_reducible repeat (first | refine blk_drewN ?_ _ | refine blk_drew ?_)); refine blk_put (cs := cellsI mem) ?_ x2.toNat _ (cellsI_set _ _ _); (with_reducible repeat (first | refine blk_drewN ?_ _ | refine blk_drew ?_)); exact BK2.out
      · (with_reducible repeat (first | refine blk_drewN ?_ _ | refine blk_drew ?_)); refine blk_far ?_ (Ne.symm NE2_8.out) _; (with_reducible repeat (first | refine blk_drewN ?_ _ | refine blk_drew ?_)); exact BK8.out
      · (with_reducible repeat (first | apply Kd.R_drewN | apply Kd.R_drew)); refine Kd.R_far ?_ (fun k_ (hk_ : ((k_ ≠ gb1 ∧ k_ ≠ gb2) ∧ k_ ≠ gb3) ∧ k_ ≠ gb8) => (by omega : k_ ≠ gb2)) _; exact (by (with_reducible repeat (first | exact HO.out | apply Kd.R_drewN | apply Kd.R_drew | apply Kd.R_alloc)))
      clear hc17 he17 he18 he19 he20 he21 hmx hmf HB BK1 BK2 BK8 HO
      rintro Wm ⟨hb, h1, h2, h8, hr⟩
      have HB := Aside0.mk hb
      have BK1 := Aside0.mk h1
      have BK2 := Aside0.mk h2
      have BK8 := Aside0.mk h8
      have HO := Aside0.mk hr
      clear hb h1 h2 h8 hr
      have he20 : Wm.cell? ⟨gb8, 20, none⟩ = some (.bool x4) := (blk_cell BK8.out 20).trans (cellsE_at20 HL.out)
      have he21 : Wm.cell? ⟨gb8, 21, none⟩ = some (.int .i64 x5) := (blk_cell BK8.out 21).trans (cellsE_at21 HL.out)
      cases x4 with
      | false =>
        go_upto_region 19 with (fail)
        replace h : some (true, x0, (mem.set x2.toNat x3), out) = some (r, cs', mem', out') := h
        simp only [Option.some.injEq, Prod.mk.injEq] at h
        obtain ⟨rfl, rfl, rfl, rfl⟩ := h
        go_wp2_with (first | ((with_reducible refine gate_dst (N := 104) rfl ?_); refine wpList_load_mid (by rfl) 35 _ rfl gb8 0 (by rfl) (x0.map (Value.int .i64)) _ (rangeE HL.out (by (with_reducible repeat (first | exact BK8.out | refine blk_drewN ?_ _ | refine blk_drew ?_ | refine blk_alloc ?_ _)); try exact BK8.out)) Tryd.underlying35 rfl (infoR HL.out) ?_) | ((with_reducible refine gate_store (t := 35) (p := 106) rfl ?_); refine head_event (by rfl) 35 _ _ rfl gb1 (x0.map (Value.int .i64)) (cs.map (Value.int .i64)) [(.slice (some ⟨gb2, 0, none⟩) (mem.set x2.toNat x3).length (mem.set x2.toNat x3).length), vo] _ (by (with_reducible repeat (first | exact BK1.out | refine blk_drewN ?_ _ | refine blk_drew ?_ | refine blk_alloc ?_ _)); try exact BK1.out) (by rfl) (by first | rfl | (go_simp; done) | (go_simp; rfl)) (infoR HL.out) (by rw [List.length_map, List.length_map, HL.out, HC.out]) (by intro v_ hv_; simp only [List.mem_map] at hv_; obtain ⟨_, _, rfl⟩ := hv_; rfl) ?_; intro Wz hbox hg; have r0_ := Aside0.mk (Kd.R_grown (by (with_reducible repeat (first | exact HO.out | apply Kd.R_drewN | apply Kd.R_drew | apply Kd.R_alloc))) hg (fun k_ (hk_ : ((k_ ≠ gb1 ∧ k_ ≠ gb2) ∧ k_ ≠ gb3) ∧ k_ ≠ gb8) e_ => by injection e_ with e_; omega)); have n0_ := Aside0.mk (pw_below_grown (by repeat (first | (with_reducible first | exact HB.out | apply below_alloc | apply pw_below_drewN | apply below_drew1) | exact HB.out)) (some gb1) (below_size (by repeat (first | (with_reducible first | exact HB.out | apply below_alloc | apply pw_below_drewN | apply below_drew1) | exact HB.out))) hg (by rintro k_ e_; injection e_ with e_; rw [← e_]; exact GE1.out)); have n1_ := Aside0.mk hbox; have m2_ := Aside0.mk (blk_grown (by (with_reducible repeat (first | exact BK2.out | refine blk_drewN ?_ _ | refine blk_drew ?_ | refine blk_alloc ?_ _)); try exact BK2.out) hg (fun e_ => by injection e_ with e_; exact NE1_2.out e_.symm)); clear HB HO BK1 BK2; have HB := n0_; have HO := r0_; have BK1 := n1_; have BK2 := m2_; clear n0_ n1_ m2_ r0_ hbox hg))
        go_ret
        exact ⟨rfl, ⟨vo, (by (with_reducible repeat (first | exact BK1.out | refine blk_drewN ?_ _ | refine blk_drew ?_ | refine blk_alloc ?_ _)); try exact BK1.out), (by (with_reducible repeat (first | exact BK2.out | refine blk_drewN ?_ _ | refine blk_drew ?_ | refine blk_alloc ?_ _)); try exact BK2.out), Kd.R_mono (by (with_reducible repeat (first | exact HO.out | apply Kd.R_drewN | apply Kd.R_drew | apply Kd.R_alloc))) (fun k_ (hk_ : ((k_ ≠ gb1 ∧ k_ ≠ gb2) ∧ k_ ≠ gb3) ∧ k_ ≠ gb8) => (⟨by omega, by omega⟩ : k_ ≠ gb1 ∧ k_ ≠ gb2)), NE1_2.out, GE1.out, GE2.out, HL.out⟩, (by repeat (first | (with_reducible first | exact HB.out | apply below_alloc | apply pw_below_drewN | apply below_drew1) | exact HB.out))⟩
      | true =>
        go_upto_region 18 with (fail)
        have hv18 : Wm.cell? ⟨gb1, 18, none⟩ = some vo := (blk_cell BK1.out 18).trans (cellsM_out HC.out)
        refine start_ (n := 12) (S := fun w' => w'.cell? ⟨gb1, 18, none⟩ = some vo ∧ w'.cell? ⟨gb8, 21, none⟩ = some (.int .i64 x5)) (ds := [11]) #[false, false, false, false, false, false, false, false, false, false, false, false] (by kernel_rfl) rfl rfl ⟨hv18, he21⟩ (fun hHeld => ?_); refine with_tabW isa_machine_step.tab18 isa_machine_step.bits18 (fun HT_ HW_ => ?_)
        refine pure_ (i := 0) (N := some 91) (v := ?_) (a' := ?_) #[true, false, false, false, false, false, false, false, false, false, false, false] rfl rfl (any_of HT_.out (by kernel_rfl)) (fun _ _ _ h => h) (Or.inl ⟨by rfl, ?_⟩) ?_ ?_
        rotate_left
        · intro w'
          go_simp
          (try with_reducible rfl)
        rotate_left
        · simp only [Act.put, List.setIfInBounds_toArray, List.set_cons_zero, List.set_cons_succ, i64_w, i32_w]
          rfl
        refine pure_ (i := 1) (N := some 92) (v := ?_) (a' := ?_) #[true, true, false, false, false, false, false, false, false, false, false, false] rfl rfl (any_of HT_.out (by kernel_rfl)) (fun _ _ _ h => h) (Or.inl ⟨by rfl, ?_⟩) ?_ ?_
        rotate_left
        · intro w'
          go_simp
          (try with_reducible rfl)
        rotate_left
        · simp only [Act.put, List.setIfInBounds_toArray, List.set_cons_zero, List.set_cons_succ, i64_w, i32_w]
          rfl
        refine pure_ (i := 2) (N := some 93) (v := ?_) (a' := ?_) #[true, true, true, false, false, false, false, false, false, false, false, false] rfl rfl (any_of HT_.out (by kernel_rfl)) (fun _ _ _ h => h) (Or.inl ⟨by rfl, ?_⟩) ?_ ?_
        rotate_left
        · intro w'
          go_simp
          (try with_reducible rfl)
        rotate_left
        · simp only [Act.put, List.setIfInBounds_toArray, List.set_cons_zero, List.set_cons_succ, i64_w, i32_w]
          rfl
        refine pure_ (i := 3) (N := some 94) (v := ?_) (a' := ?_) #[true, true, true, true, false, false, false, false, false, false, false, false] rfl rfl (any_of HT_.out (by kernel_rfl)) (fun _ _ _ h => h) (Or.inl ⟨by rfl, ?_⟩) ?_ ?_
        rotate_left
        · intro w'
          go_simp
          (try with_reducible rfl)
        rotate_left
        · simp only [Act.put, List.setIfInBounds_toArray, List.set_cons_zero, List.set_cons_succ, i64_w, i32_w]
          rfl
        refine pure_ (i := 5) (N := some 96) (v := ?_) (a' := ?_) #[true, true, true, true, false, true, false, false, false, false, false, false] rfl rfl (any_of HT_.out (by kernel_rfl)) (fun _ _ _ h => h) (Or.inl ⟨by rfl, ?_⟩) ?_ ?_
        rotate_left
        · intro w'
          go_simp
          (try with_reducible rfl)
        rotate_left
        · simp only [Act.put, List.setIfInBounds_toArray, List.set_cons_zero, List.set_cons_succ, i64_w, i32_w]
          rfl
        refine take_ (i := 4) (N := some 95) (v := ?_) (a' := ?_) #[true, true, true, true, true, true, false, false, false, false, false, false] rfl rfl (take_ofW HT_.out HW_.out (by kernel_rfl)) (fun _ _ _ h => h) (Or.inl ⟨by rfl, ?_⟩) hHeld ?_ ?_
        rotate_left
        · rintro w' ⟨s0, s1⟩
          go_simp
          (try with_reducible rfl)
        rotate_left
        · simp only [Act.put, List.setIfInBounds_toArray, List.set_cons_zero, List.set_cons_succ, i64_w, i32_w]
          rfl
        refine take_ (i := 6) (N := some 97) (v := ?_) (a' := ?_) #[true, true, true, true, true, true, true, false, false, false, false, false] rfl rfl (take_ofW HT_.out HW_.out (by kernel_rfl)) (fun _ _ _ h => h) (Or.inl ⟨by rfl, ?_⟩) hHeld ?_ ?_
        rotate_left
        · rintro w' ⟨s0, s1⟩
          go_simp
          (try with_reducible rfl)
        rotate_left
        · simp only [Act.put, List.setIfInBounds_toArray, List.set_cons_zero, List.set_cons_succ, i64_w, i32_w]
          rfl
        refine one_ (i := 7) (N := some 98) #[true, true, true, true, true, true, true, true, false, false, false, false] rfl rfl (one_of HT_.out (by kernel_rfl)) (by decide) (fun K hK => ?_)
        refine event_step (by rfl) (v := .slice (some ⟨Wm.drew.heap.size, 0, none⟩) 1 1) (w1 := Wm.drew.alloc (.cells #[.int .i64 x5] 3)) (by first | (go_simp; done) | (go_simp; rfl)) ?_
        refine hK.out _ _ ⟨(blk_cell (by (with_reducible repeat (first | exact BK1.out | refine blk_drewN ?_ _ | refine blk_drew ?_ | refine blk_alloc ?_ _)); try exact BK1.out) 18).trans (cellsM_out HC.out), (blk_cell (by (with_reducible repeat (first | exact BK8.out | refine blk_drewN ?_ _ | refine blk_drew ?_ | refine blk_alloc ?_ _)); try exact BK8.out) 21).trans (cellsE_at21 HL.out)⟩ (fun hHeld => ?_)
        clear hK K
        refine norm_ (a' := ?_) ?_ ?_
        rotate_left
        · show Act.put _ (some 98) _ = _
          simp only [Act.put, List.setIfInBounds_toArray, List.set_cons_zero, List.set_cons_succ, i64_w, i32_w]
          rfl
        refine one_ (i := 8) (N := some 99) #[true, true, true, true, true, true, true, true, true, false, false, false] rfl rfl (one_of HT_.out (by kernel_rfl)) (by decide) (fun K hK => ?_)
        refine Kd.R_append_step (Kd.int .i64) (w0 := w) (W := Wm.drew) w.heap.size (by rfl) (.tmp 95) (.tmp 98) 44 3 (.int .i64 0) 8 rfl Tryd.underlying44 (by kernel_rfl) rfl (by decide) (by omega) vo out x5 [.int .i64 x5] (fun k_ => k_ ≠ gb1 ∧ k_ ≠ gb2) (fun _ => False) rfl rfl ?aP (fun _ hk => hk.elim) ?aF ?aO ?aB ?aS ?aL ?_
        case aP => exact rfl
        case aF => exact fun k_ hk_ => ⟨fun e_ => by have := blk_lt (by (with_reducible repeat (first | exact BK1.out | refine blk_drewN ?_ _ | refine blk_drew ?_ | refine blk_alloc ?_ _)); try exact BK1.out); subst e_; exact absurd this (Nat.not_lt.mpr hk_), fun e_ => by have := blk_lt (by (with_reducible repeat (first | exact BK2.out | refine blk_drewN ?_ _ | refine blk_drew ?_ | refine blk_alloc ?_ _)); try exact BK2.out); subst e_; exact absurd this (Nat.not_lt.mpr hk_)⟩
        case aO => exact Kd.R_mono (by (with_reducible repeat (first | exact HO.out | apply Kd.R_drewN | apply Kd.R_drew | apply Kd.R_alloc))) (fun k_ (hk_ : ((k_ ≠ gb1 ∧ k_ ≠ gb2) ∧ k_ ≠ gb3) ∧ k_ ≠ gb8) => (⟨by omega, by omega⟩ : k_ ≠ gb1 ∧ k_ ≠ gb2))
        case aB => exact by repeat (first | (with_reducible first | exact HB.out | apply below_alloc | apply pw_below_drewN | apply below_drew1) | exact HB.out)
        case aS => exact below_size (by repeat (first | (with_reducible first | exact HB.out | apply below_alloc | apply pw_below_drewN | apply below_drew1) | exact HB.out))
        case aL => have := HOL.out; omega
        intro vo1 Wp hr hb hg hat
        obtain ⟨Av, cv, hvv⟩ := Kd.R_slice hr
        generalize (out ++ [x5]).length = nv at hvv
        subst hvv
        have m1_ := Aside0.mk (blk_grown (by (with_reducible repeat (first | exact BK1.out | refine blk_drewN ?_ _ | refine blk_drew ?_ | refine blk_alloc ?_ _)); try exact BK1.out) hg (fun e_ => (HO.out.1 gb1 e_.symm).1.1.1 rfl))
        have m2_ := Aside0.mk (blk_grown (by (with_reducible repeat (first | exact BK2.out | refine blk_drewN ?_ _ | refine blk_drew ?_ | refine blk_alloc ?_ _)); try exact BK2.out) hg (fun e_ => (HO.out.1 gb2 e_.symm).1.1.2 rfl))
        have m8_ := Aside0.mk (blk_grown (by (with_reducible repeat (first | exact BK8.out | refine blk_drewN ?_ _ | refine blk_drew ?_ | refine blk_alloc ?_ _)); try exact BK8.out) hg (fun e_ => (HO.out.1 gb8 e_.symm).2 rfl))
        clear HB HO BK1 BK2 BK8 hv18 he20 he21
        have HB := Aside0.mk hb
        have HO := Aside0.mk hr
        have BK1 := m1_
        have BK2 := m2_
        have BK8 := m8_
        clear hb hr hg hat m1_ m2_ m8_
        have hv18 : Wp.cell? ⟨gb1, 18, none⟩ = some vo := (blk_cell BK1.out 18).trans (cellsM_out HC.out)
        have hvf := blk_frozen BK1.out 18
        refine hK.out _ _ ⟨(blk_cell (by (with_reducible repeat (first | exact BK1.out | refine blk_drewN ?_ _ | refine blk_drew ?_ | refine blk_alloc ?_ _)); try exact BK1.out) 18).trans (cellsM_out HC.out), (blk_cell (by (with_reducible repeat (first | exact BK8.out | refine blk_drewN ?_ _ | refine blk_drew ?_ | refine blk_alloc ?_ _)); try exact BK8.out) 21).trans (cellsE_at21 HL.out)⟩ (fun hHeld => ?_)
        clear hK K
        refine norm_ (a' := ?_) ?_ ?_
        rotate_left
        · show Act.put _ (some 99) _ = _
          simp only [Act.put, List.setIfInBounds_toArray, List.set_cons_zero, List.set_cons_succ, i64_w, i32_w]
          rfl
        refine pure_ (i := 9) (N := some 100) (v := ?_) (a' := ?_) #[true, true, true, true, true, true, true, true, true, true, false, false] rfl rfl (any_of HT_.out (by kernel_rfl)) (fun _ _ _ h => h) (Or.inl ⟨by rfl, ?_⟩) ?_ ?_
        rotate_left
        · intro w'
          go_simp
          (try with_reducible rfl)
        rotate_left
        · simp only [Act.put, List.setIfInBounds_toArray, List.set_cons_zero, List.set_cons_succ, i64_w, i32_w]
          rfl
        refine pure_ (i := 10) (N := some 101) (v := ?_) (a' := ?_) #[true, true, true, true, true, true, true, true, true, true, true, false] rfl rfl (any_of HT_.out (by kernel_rfl)) (fun _ _ _ h => h) (Or.inl ⟨by rfl, ?_⟩) ?_ ?_
        rotate_left
        · intro w'
          go_simp
          (try with_reducible rfl)
        rotate_left
        · simp only [Act.put, List.setIfInBounds_toArray, List.set_cons_zero, List.set_cons_succ, i64_w, i32_w]
          rfl
        refine last_ (i := 11) (N := none) #[true, true, true, true, true, true, true, true, true, true, true, true] rfl rfl (one_of HT_.out (by kernel_rfl)) (by decide) (fun K hK => ?_)
        refine skip_ (w1 := ?_) (by rfl) rfl ?_ ?_
        rotate_left
        · go_simp
          rfl
        refine hK.out _ _ ?_
        clear hK K
        refine done_ (done_of HT_.out (by kernel_rfl)) ?_
        go_upto_region 19 with (fail)
        refine gen_w (P := Code.wp _ _ _) (F := fun W => Below w.heap.size w W ∧ W.heap[gb1]? = some (.cells (cellsM cs (.slice (some ⟨gb2, 0, none⟩) (mem.set x2.toNat x3).length (mem.set x2.toNat x3).length) (.slice Av nv cv)) 72 (0, 0)) ∧ W.heap[gb2]? = some (.cells (cellsI (mem.set x2.toNat x3)) 3 (0, 0)) ∧ W.heap[gb8]? = some (.cells (cellsE x0 true x2 x3 true x5) 40 (0, 0)) ∧ (Kd.int .i64).R 3 W w.heap.size (fun k_ => k_ ≠ gb1 ∧ k_ ≠ gb2) (.slice Av nv cv) (out ++ [x5])) ⟨?_, ?_, ?_, ?_, ?_⟩ ?_
        · repeat (first | (with_reducible first | exact HB.out | apply pw_below_drewN | apply below_drew1 | refine below_set ?_ GE1.out) | exact HB.out)
        · (with_reducible repeat (first | refine blk_drewN ?_ _ | refine blk_drew ?_)); refine blk_put (cs := cellsM cs (.slice (some ⟨gb2, 0, none⟩) (mem.set x2.toNat x3).length (mem.set x2.toNat x3).length) vo) ?_ 18 _ (cellsM_setOut HC.out _); (with_reducible repeat (first | refine blk_drewN ?_ _ | refine blk_drew ?_)); exact BK1.out
        · (with_reducible repeat (first | refine blk_drewN ?_ _ | refine blk_drew ?_)); refine blk_far ?_ (Ne.symm NE1_2.out) _; (with_reducible repeat (first | refine blk_drewN ?_ _ | refine blk_drew ?_)); exact BK2.out
        · (with_reducible repeat (first | refine blk_drewN ?_ _ | refine blk_drew ?_)); refine blk_far ?_ (Ne.symm NE1_8.out) _; (with_reducible repeat (first | refine blk_drewN ?_ _ | refine blk_drew ?_)); exact BK8.out
        · (with_reducible repeat (first | apply Kd.R_drewN | apply Kd.R_drew)); refine Kd.R_far ?_ (fun k_ (hk_ : k_ ≠ gb1 ∧ k_ ≠ gb2) => hk_.1) _; exact (by (with_reducible repeat (first | exact HO.out | apply Kd.R_drewN | apply Kd.R_drew | apply Kd.R_alloc)))
        clear hv18 hvf HB BK1 BK2 BK8 HO
        rintro Wn ⟨hb, h1, h2, h8, hr⟩
        have HB := Aside0.mk hb
        have BK1 := Aside0.mk h1
        have BK2 := Aside0.mk h2
        have BK8 := Aside0.mk h8
        have HO := Aside0.mk hr
        clear hb h1 h2 h8 hr
        replace h : some (true, x0, (mem.set x2.toNat x3), (out ++ [x5])) = some (r, cs', mem', out') := h
        simp only [Option.some.injEq, Prod.mk.injEq] at h
        obtain ⟨rfl, rfl, rfl, rfl⟩ := h
        go_wp2_with (first | ((with_reducible refine gate_dst (N := 104) rfl ?_); refine wpList_load_mid (by rfl) 35 _ rfl gb8 0 (by rfl) (x0.map (Value.int .i64)) _ (rangeE HL.out (by (with_reducible repeat (first | exact BK8.out | refine blk_drewN ?_ _ | refine blk_drew ?_ | refine blk_alloc ?_ _)); try exact BK8.out)) Tryd.underlying35 rfl (infoR HL.out) ?_) | ((with_reducible refine gate_store (t := 35) (p := 106) rfl ?_); refine head_event (by rfl) 35 _ _ rfl gb1 (x0.map (Value.int .i64)) (cs.map (Value.int .i64)) [(.slice (some ⟨gb2, 0, none⟩) (mem.set x2.toNat x3).length (mem.set x2.toNat x3).length), (.slice Av nv cv)] _ (by (with_reducible repeat (first | exact BK1.out | refine blk_drewN ?_ _ | refine blk_drew ?_ | refine blk_alloc ?_ _)); try exact BK1.out) (by rfl) (by first | rfl | (go_simp; done) | (go_simp; rfl)) (infoR HL.out) (by rw [List.length_map, List.length_map, HL.out, HC.out]) (by intro v_ hv_; simp only [List.mem_map] at hv_; obtain ⟨_, _, rfl⟩ := hv_; rfl) ?_; intro Wz hbox hg; have r0_ := Aside0.mk (Kd.R_grown (by (with_reducible repeat (first | exact HO.out | apply Kd.R_drewN | apply Kd.R_drew | apply Kd.R_alloc))) hg (fun k_ (hk_ : k_ ≠ gb1 ∧ k_ ≠ gb2) e_ => by injection e_ with e_; omega)); have n0_ := Aside0.mk (pw_below_grown (by repeat (first | (with_reducible first | exact HB.out | apply below_alloc | apply pw_below_drewN | apply below_drew1) | exact HB.out)) (some gb1) (below_size (by repeat (first | (with_reducible first | exact HB.out | apply below_alloc | apply pw_below_drewN | apply below_drew1) | exact HB.out))) hg (by rintro k_ e_; injection e_ with e_; rw [← e_]; exact GE1.out)); have n1_ := Aside0.mk hbox; have m2_ := Aside0.mk (blk_grown (by (with_reducible repeat (first | exact BK2.out | refine blk_drewN ?_ _ | refine blk_drew ?_ | refine blk_alloc ?_ _)); try exact BK2.out) hg (fun e_ => by injection e_ with e_; exact NE1_2.out e_.symm)); clear HB HO BK1 BK2; have HB := n0_; have HO := r0_; have BK1 := n1_; have BK2 := m2_; clear n0_ n1_ m2_ r0_ hbox hg))
        go_ret
        exact ⟨rfl, ⟨(.slice Av nv cv), (by (with_reducible repeat (first | exact BK1.out | refine blk_drewN ?_ _ | refine blk_drew ?_ | refine blk_alloc ?_ _)); try exact BK1.out), (by (with_reducible repeat (first | exact BK2.out | refine blk_drewN ?_ _ | refine blk_drew ?_ | refine blk_alloc ?_ _)); try exact BK2.out), Kd.R_mono (by (with_reducible repeat (first | exact HO.out | apply Kd.R_drewN | apply Kd.R_drew | apply Kd.R_alloc))) (fun k_ (hk_ : k_ ≠ gb1 ∧ k_ ≠ gb2) => (⟨by omega, by omega⟩ : k_ ≠ gb1 ∧ k_ ≠ gb2)), NE1_2.out, GE1.out, GE2.out, HL.out⟩, (by repeat (first | (with_reducible first | exact HB.out | apply below_alloc | apply pw_below_drewN | apply below_drew1) | exact HB.out))⟩

end Go.Proofs.YtoakfejpmlgbcaaDoor.PIsa
