-- By wip/xprint.py (a driver of this session's over the kit's print), for this claim.
import Derived.Test.YtpifepaflljolaaPMemx0
namespace Go.Proofs.Ytpifepaflljolaa.PMem
open Go.RowKit Go.Proofs.YtpifepaflljolaaW.PrintWords Go.Proofs.YtpifepaflljolaaW.PrintLast Go.Proofs.YtpifepaflljolaaW.PrintMore
attribute [local go_sem] max2_int min2_int max_two min_two max_three min_three max_four min_four   -- for this text's walks alone
set_option linter.unusedVariables false
set_option linter.unusedSimpArgs false

/-! ### debuggerlaw25_small: function 10 -/
mutual
def debuggerlaw25_small.l0 : Nat → Int → List (S31) → Option (Bool)
 | 0, _, _ => none
 | k + 1, x3, x578000 => if x3 < (x578000.length : Int) then (debuggerlaw25_small.j1 k x3 (decide (x3 < 10)) x578000) else (debuggerlaw25_small.j1 k x3 false x578000)
def debuggerlaw25_small.j1 : Nat → Int → Bool → List (S31) → Option (Bool)
 | 0, _, _, _ => none
 | k + 1, x3, x12, x578000 => if x12 = true then (if 0 ≤ x3 then (if x3 < (x578000.length : Int) then (if (((rd_T31 x578000 x3).f1).length : Int) > 200 then (some false) else (debuggerlaw25_small.l0 k (wrap64 (x3 + 1)) x578000)) else (none)) else (none)) else (some (decide ((x578000.length : Int) ≤ 10)))
end
def debuggerlaw25_small.f (k : Nat) (l0_0 : List (S31)) : Option (Bool) := debuggerlaw25_small.l0 k 0 l0_0
theorem debuggerlaw25_small.mono_l : ∀ k, (∀ y0 y1, LeO (debuggerlaw25_small.l0 k y0 y1) (debuggerlaw25_small.l0 (k + 1) y0 y1)) ∧ (∀ y0 y1 y2, LeO (debuggerlaw25_small.j1 k y0 y1 y2) (debuggerlaw25_small.j1 (k + 1) y0 y1 y2))
 | 0 => ⟨fun _ _ r h => by simp [debuggerlaw25_small.l0] at h, fun _ _ _ r h => by simp [debuggerlaw25_small.j1] at h⟩
 | k + 1 => by
  obtain ⟨ih0, ih1⟩ := debuggerlaw25_small.mono_l k
  refine ⟨?_, ?_⟩
  ·intro y0 y1
   unfold debuggerlaw25_small.l0
   repeat' first
   | (with_reducible exact ih0 _ _)
   | (with_reducible exact ih1 _ _ _)
   | (with_reducible exact LeO.refl _)
   | (with_reducible exact LeO.none _)
   | (with_reducible refine LeO.ite ?_ ?_)
   | (with_reducible refine LeO.bind ?_ (fun _ => ?_))
   | exact ih0 _ _
   | exact ih1 _ _ _
   | exact LeO.none _
   | refine LeO.ite ?_ ?_
   | refine LeO.bind ?_ (fun _ => ?_)
  ·intro y0 y1 y2
   unfold debuggerlaw25_small.j1
   repeat' first
   | (with_reducible exact ih0 _ _)
   | (with_reducible exact ih1 _ _ _)
   | (with_reducible exact LeO.refl _)
   | (with_reducible exact LeO.none _)
   | (with_reducible refine LeO.ite ?_ ?_)
   | (with_reducible refine LeO.bind ?_ (fun _ => ?_))
   | exact ih0 _ _
   | exact ih1 _ _ _
   | exact LeO.none _
   | refine LeO.ite ?_ ?_
   | refine LeO.bind ?_ (fun _ => ?_)
theorem debuggerlaw25_small.mono : ∀ a0 k, LeO (debuggerlaw25_small.f k a0) (debuggerlaw25_small.f (k + 1) a0) := by
 intro a0 k
 obtain ⟨ih0, ih1⟩ := debuggerlaw25_small.mono_l k
 unfold debuggerlaw25_small.f
 repeat' first
   | (with_reducible exact ih0 _ _)
   | (with_reducible exact ih1 _ _ _)
   | (with_reducible exact LeO.refl _)
   | (with_reducible exact LeO.none _)
   | (with_reducible refine LeO.ite ?_ ?_)
   | (with_reducible refine LeO.bind ?_ (fun _ => ?_))
   | exact ih0 _ _
   | exact ih1 _ _ _
   | exact LeO.none _
   | refine LeO.ite ?_ ?_
   | refine LeO.bind ?_ (fun _ => ?_)
set_option maxHeartbeats 8000000 in
set_option maxRecDepth 100000 in
theorem debuggerlaw25_small.calls (k : Nat) (A0_0 : Option Addr) (c0_0 : Nat) (l0_0 : List (S31)) (r : Bool) (w : World) (hr0_0 : Kd.C k31 w A0_0 l0_0.length l0_0) (hc0_0 : l0_0.length ≤ c0_0) (h : debuggerlaw25_small.f k l0_0 = some r) :
  Calls Try.prog 10 #[.agg #[.slice A0_0 l0_0.length c0_0]] w fun e w' => e = .returned (.bool r) ∧ Below w.heap.size w w' := by
 have hu24 := Try.underlying24
 have HR0_0 := Aside0.mk hr0_0
 have HC0_0 := Aside0.mk hc0_0
 clear hr0_0 hc0_0
 have HB := Zw (Below.refl w.heap.size w)
 have H : (debuggerlaw25_small.l0 k 0 l0_0) = some r := h
 clear h
 have H' := Aside0.mk H
 clear H
 go_enter Try.func10, Try.ntmps10
 go_wp2_with (first | ((with_reducible refine gate_dst (N := 1) rfl ?_); refine box_event ?hg (N := 1) ?hd (cs := #[.slice A0_0 l0_0.length c0_0]) (t := 24) ?hr ?_; (case hd => rfl); (case hg => rfl); (case hr => first | (go_simp; done) | (go_simp; rfl)); intro gb577 hg w2 hbox hb; have n0_ := Zw (below_step (Zh HB.out) hb); have n1_ := Zw (hbox); have n2_ := Zw ((by rw [hg]; exact (below_size (Zh HB.out)) : w.heap.size ≤ gb577)); have n3_ := Zw ((by rw [hg]; exact (below_size (Zh HB.out)) : w.heap.size ≤ gb577)); clear HB; have HB := n0_; have BK577 := n1_; have GW577 := n2_; have GE577 := n3_; clear n0_ n1_ n2_ n3_; clear hb hbox hg))
 go_loopg [3] k (fun kq v3 w' => ∃ (x3_1 : Int), v3 = .int .i64 x3_1 ∧ Aside0 (debuggerlaw25_small.l0 kq x3_1 l0_0 = some r) ∧ Aside0 (kq ≤ k) ∧ Aside0 (w'.heap[gb577]? = some (.cells #[(.slice A0_0 l0_0.length c0_0)] 24 (0, 0))) ∧ Aside0 (Below w.heap.size w w'))
 case atStart => exact ⟨(0), (by first | rfl | (simp; done) | (simp [*]; done)), H', ⟨Nat.le_refl _⟩, ⟨Zb BK577.out⟩, ⟨Zh1 HB.out GE577.out⟩⟩
 case round =>
  clear H'
  try clear c1
  try clear p2
  obtain ⟨x3_1, rfl, HA, HK1, BK577, HB⟩ := hrel
  cases gk with
  | zero => exact absurd HA.out (by simp [debuggerlaw25_small.l0])
  | succ k1 =>
   have H := HA.out
   clear HA
   simp only [debuggerlaw25_small.l0] at H
   have HC3 := Aside0.mk H
   clear H
   go_upto_region 2 with (fail)
   go_cut [12] (fun v12 wc => ∃ (kq : Nat) (x12_2 : Bool), v12 = .bool x12_2 ∧ Aside0 (debuggerlaw25_small.j1 kq x3_1 x12_2 l0_0 = some r) ∧ Aside0 (kq ≤ k1) ∧ Aside0 (wc.heap[gb577]? = some (.cells #[(.slice A0_0 l0_0.length c0_0)] 24 (0, 0))) ∧ Aside0 (Below w.heap.size w wc))
   case first =>
    have H := HC3.out
    clear HC3
    by_cases c4 : x3_1 < (l0_0.length : Int)
    ·rw [if_pos c4] at H
     have c4b0 : decide (x3_1 < (l0_0.length : Int)) = true := decide_eq_true c4
     clear c4
     (first | rw [c4b0] | (simp only [i64_w, i32_w]; rw [c4b0]) | skip)
     have H' := Aside0.mk H
     clear H
     have hcz5_0 := Zcl BK577.out 0 rfl
     have hfz5_0 := blk_frozen BK577.out 0
     go_wp2
     go_meet
     case rel => exact ⟨_, (decide (x3_1 < 10)), (by first | rfl | (simp; done) | (simp [*]; done)), H', ⟨by have := HK1.out; first | omega | exact Nat.le_refl _⟩, ⟨Zb BK577.out⟩, ⟨Zh1 HB.out GE577.out⟩⟩
    ·rw [if_neg c4] at H
     have c4b0 : decide (x3_1 < (l0_0.length : Int)) = false := decide_eq_false c4
     clear c4
     (first | rw [c4b0] | (simp only [i64_w, i32_w]; rw [c4b0]) | skip)
     have H' := Aside0.mk H
     clear H
     have hcz6_0 := Zcl BK577.out 0 rfl
     have hfz6_0 := blk_frozen BK577.out 0
     go_wp2
     go_meet
     case rel => exact ⟨_, (false), (by first | rfl | (simp; done) | (simp [*]; done)), H', ⟨by have := HK1.out; first | omega | exact Nat.le_refl _⟩, ⟨Zb BK577.out⟩, ⟨Zh1 HB.out GE577.out⟩⟩
   case rest =>
    clear HC3
    try clear c1
    try clear p2
    try clear c4
    try clear c4b0
    try clear hcz5_0
    try clear hcz6_0
    try clear hfz5_0
    try clear hfz6_0
    try clear p2
    obtain ⟨kq, x12_2, rfl, HA, HJ2, BK577, HB⟩ := hcut
    cases kq with
    | zero => exact absurd HA.out (by simp [debuggerlaw25_small.j1])
    | succ kj2 =>
     have H := HA.out
     clear HA
     simp only [debuggerlaw25_small.j1] at H
     by_cases c7 : x12_2 = true
     ·subst c7
      have H1 : (if 0 ≤ x3_1 then (if x3_1 < (l0_0.length : Int) then (if (((rd_T31 l0_0 x3_1).f1).length : Int) > 200 then (some false) else (debuggerlaw25_small.l0 kj2 (wrap64 (x3_1 + 1)) l0_0)) else (none)) else (none)) = some r := by rw [if_pos rfl] at H; exact H
      clear H
      have H := H1
      clear H1
      by_cases c8 : 0 ≤ x3_1
      ·rw [if_pos c8] at H
       have c8b0 : decide (0 ≤ x3_1) = true := decide_eq_true c8
       clear c8
       by_cases c9 : x3_1 < (l0_0.length : Int)
       ·rw [if_pos c9] at H
        have c9b0 : decide (x3_1 < (l0_0.length : Int)) = true := decide_eq_true c9
        clear c9
        by_cases c10 : (((rd_T31 l0_0 x3_1).f1).length : Int) > 200
        ·rw [if_pos c10] at H
         have c10b0 : decide (200 < (((rd_T31 l0_0 x3_1).f1).length : Int)) = true := decide_eq_true c10
         have c10b1 : decide (200 < ((rd_T31 l0_0 x3_1).f1).length) = true := decide_eq_true (by omega)
         clear c10
         obtain rfl := Option.some.inj H
         have hcz11_0 := Zcl BK577.out 0 rfl
         have hfz11_0 := blk_frozen BK577.out 0
         have p578 : 0 ≤ (x3_1 : Int) := of_decide_eq_true Za
         have q578 : x3_1 < (l0_0.length : Int) := of_decide_eq_true Za
         obtain ⟨ad578, A578_1, c578_1, e578, hx578_0, hx578_1, hl578_1, hi578_1⟩ := at_T31 HR0_0.out x3_1 p578 q578
         cases e578
         replace hx578_0 := Zl HB.out hx578_0
         replace hx578_1 := Zl HB.out hx578_1
         have HR578_1 := Aside0.mk hi578_1
         have HC578_1 := Aside0.mk hl578_1
         clear hi578_1 hl578_1
         replace p578 := eq_true p578
         replace q578 := eq_true q578
         go_wp2
         go_ret
         exact ⟨by first | rfl | (simp [errW_none, errW_some] <;> rfl) | (simp [*, errW_none, errW_some] <;> rfl), Zh1 HB.out GE577.out⟩
        ·rw [if_neg c10] at H
         have c10b0 : decide (200 < (((rd_T31 l0_0 x3_1).f1).length : Int)) = false := decide_eq_false c10
         have c10b1 : decide (200 < ((rd_T31 l0_0 x3_1).f1).length) = false := decide_eq_false (by omega)
         clear c10
         have H' := Aside0.mk H
         clear H
         have hcz12_0 := Zcl BK577.out 0 rfl
         have hfz12_0 := blk_frozen BK577.out 0
         have p578 : 0 ≤ (x3_1 : Int) := of_decide_eq_true Za
         have q578 : x3_1 < (l0_0.length : Int) := of_decide_eq_true Za
         obtain ⟨ad578, A578_1, c578_1, e578, hx578_0, hx578_1, hl578_1, hi578_1⟩ := at_T31 HR0_0.out x3_1 p578 q578
         cases e578
         replace hx578_0 := Zl HB.out hx578_0
         replace hx578_1 := Zl HB.out hx578_1
         have HR578_1 := Aside0.mk hi578_1
         have HC578_1 := Aside0.mk hl578_1
         clear hi578_1 hl578_1
         replace p578 := eq_true p578
         replace q578 := eq_true q578
         go_wp2
         go_roundg kj2
         case measure => have := HK1.out; have := HJ2.out; omega
         case rel => exact ⟨(wrap64 (x3_1 + 1)), (by first | rfl | (simp; done) | (simp [*]; done)), H', ⟨by have := HK1.out; have := HJ2.out; omega⟩, ⟨Zb BK577.out⟩, ⟨Zh1 HB.out GE577.out⟩⟩
       ·rw [if_neg c9] at H
        exact absurd H (by simp)
      ·rw [if_neg c8] at H
       exact absurd H (by simp)
     ·replace c7 := Bool.eq_false_iff.mpr c7
      subst c7
      have H1 : (some (decide ((l0_0.length : Int) ≤ 10))) = some r := by rw [if_neg (show ¬ (false = true) by decide)] at H; exact H
      clear H
      have H := H1
      clear H1
      obtain rfl := Option.some.inj H
      have hcz13_0 := Zcl BK577.out 0 rfl
      have hfz13_0 := blk_frozen BK577.out 0
      go_wp2
      go_ret
      exact ⟨by first | rfl | (simp [errW_none, errW_some] <;> rfl) | (simp [*, errW_none, errW_some] <;> rfl), Zh1 HB.out GE577.out⟩

end Go.Proofs.Ytpifepaflljolaa.PMem
