-- By wip/xprint.py (a driver of this session's over the kit's print), for this claim.
import Derived.Test.YtoflkheiidhblaaDoorPLexx0
import Derived.Test.YtoflkheiidhblaaDoorPLexx3
import Derived.Test.YtoflkheiidhblaaDoorPLexx4
namespace Go.Proofs.YtoflkheiidhblaaDoor.PLex
open Go.RowKit Go.Proofs.YtoflkheiidhblaaDoorW.PrintWords Go.Proofs.YtoflkheiidhblaaDoorW.PrintLast Go.Proofs.YtoflkheiidhblaaDoorW.PrintMore
attribute [local go_sem] max2_int min2_int max_two min_two max_three min_three max_four min_four   -- for this text's walks alone
set_option linter.unusedVariables false
set_option linter.unusedSimpArgs false

/-! ### lexer_scanner_sign: function 36, by hand: a loop over a global array -/
def sgn_words : List ByteArray := [⟨#[60, 61]⟩, ⟨#[61, 61]⟩, ⟨#[33, 61]⟩, ⟨#[40]⟩, ⟨#[41]⟩, ⟨#[123]⟩, ⟨#[125]⟩, ⟨#[91]⟩, ⟨#[93]⟩, ⟨#[44]⟩, ⟨#[59]⟩, ⟨#[58]⟩, ⟨#[46]⟩, ⟨#[43]⟩, ⟨#[45]⟩, ⟨#[42]⟩, ⟨#[47]⟩, ⟨#[37]⟩, ⟨#[38]⟩, ⟨#[124]⟩, ⟨#[94]⟩, ⟨#[60]⟩, ⟨#[61]⟩, ⟨#[33]⟩]
/-- The global array's block (block 0: the program's first global). -/
def Glob (w : World) : Prop := ∃ t, w.heap[0]? = some (.cells (sgn_words.map Value.string).toArray t (0, 0))
theorem Glob.below {w0 w : World} (h : Glob w0) (hb : Below w0.heap.size w0 w) : Glob w := h.elim fun t h => ⟨t, blk_below h hb⟩
theorem run_index_str (xs : List ByteArray) (n : Nat) (x : ByteArray) (hn : n < 24) (h : xs[n]? = some x) (w : World) : (Instr.index 91 (.agg (xs.map Value.string).toArray) (.int .i64 (n : Int))).run Tryd.prog w = .ok (.string x) w := by
 have hu : Tryd.prog.underlying 91 = some (.array 24 9) := by kernel_rfl
 have hs : ∀ w' : World, (sizeOf 9).run Tryd.prog w' = .ok 1 w' := fun _ => by kernel_rfl
 have h1 : (0 : Int) ≤ (n : Int) ∧ (n : Int) < ((24 : Nat) : Int) := by omega
 simp only [Instr.index, asIntOf, Sem.run_bind, Sem.run_pure, Result.andThen, run_underlying hu]
 rw [if_pos h1]
 simp only [Sem.run_bind, hs, Result.andThen]
 have hn' : n < (xs.map Value.string).toArray.size := by
  have := (List.getElem?_eq_some_iff.1 h).1
  simpa using this
 have hx : ((xs.map Value.string).toArray)[n]? = some (.string x) := by simp [h]
 simp [part, hs, hx]
def lexer_scanner_sign.g (s0_0 : ByteArray) (s0_1 : Int) (s0_2 : Int) : List ByteArray → Option (Int × Int × ByteArray × Int × Int × ByteArray × Int × Int)
 | [] => some (0, 0, (⟨#[]⟩ : ByteArray), 0, 6, s0_0, s0_1, s0_2)
 | x :: xs => if 0 ≤ s0_1 then (if s0_1 ≤ (s0_0.size : Int) then ((strings_HasPrefix.f (s0_0.extract s0_1.toNat s0_0.size) x).bind fun t => if t = true then some (4, s0_2, x, 0, 0, s0_0, wrap64 (s0_1 + (x.size : Int)), s0_2) else lexer_scanner_sign.g s0_0 s0_1 s0_2 xs) else none) else none
def lexer_scanner_sign.f (k : Nat) (s0_0 : ByteArray) (s0_1 : Int) (s0_2 : Int) (s0_3 : Value) : Option (Int × Int × ByteArray × Int × Int × ByteArray × Int × Int) := lexer_scanner_sign.g s0_0 s0_1 s0_2 sgn_words
theorem lexer_scanner_sign.mono : ∀ a0 a1 a2 a3 k, LeO (lexer_scanner_sign.f k a0 a1 a2 a3) (lexer_scanner_sign.f (k + 1) a0 a1 a2 a3) := fun _ _ _ _ _ => LeO.refl _
set_option maxHeartbeats 8000000 in
set_option maxRecDepth 100000 in
theorem lexer_scanner_sign.calls (k : Nat) (g : Nat) (s0_0 : ByteArray) (s0_1 : Int) (s0_2 : Int) (s0_3 : Value) (r1 : Int) (r2 : Int) (r3 : ByteArray) (r4 : Int) (r5 : Int) (r6 : ByteArray) (r7 : Int) (r8 : Int) (w0 w : World) (hGl : Aside0 (Glob w0)) (hI : IsS51 w0 w g s0_0 s0_1 s0_2 s0_3) (hB : Below w0.heap.size w0 w) (h : lexer_scanner_sign.f k s0_0 s0_1 s0_2 s0_3 = some (r1, r2, r3, r4, r5, r6, r7, r8)) :
  Calls Tryd.prog 36 #[.pointer (some ⟨g, 0, none⟩)] w fun e w' => e = .returned (.tuple #[.agg #[.int .i64 r1, .int .i64 r2, .string r3, .int .i64 r4], .int .i64 r5]) ∧ IsS51 w0 w' g r6 r7 r8 s0_3 ∧ Below w0.heap.size w0 w' ∧ KeepBut w w' g none := by
 have hu := Tryd.underlying36
 have hgw : g < w.heap.size := IsS51.lt hI
 have hwg := Aside0.mk (IsS51.ge hI)
 have hwr0 : w0.heap.size ≤ w.heap.size := hB.size
 have HI1 := Aside0.mk (IsS51.alloc hI (.cells #[.int .i64 0, .int .i64 0, .string (⟨#[]⟩ : ByteArray), .int .i64 0] 36))
 have HB1 := Aside0.mk (below_alloc hB (.cells #[.int .i64 0, .int .i64 0, .string (⟨#[]⟩ : ByteArray), .int .i64 0] 36))
 have HK1 := Aside0.mk (keep_alloc (KeepBut.refl w g none) (.cells #[.int .i64 0, .int .i64 0, .string (⟨#[]⟩ : ByteArray), .int .i64 0] 36))
 have HR := Aside0.mk (show (w.alloc (.cells #[.int .i64 0, .int .i64 0, .string (⟨#[]⟩ : ByteArray), .int .i64 0] 36)).heap[w.heap.size]? = some (.cells #[.int .i64 0, .int .i64 0, .string (⟨#[]⟩ : ByteArray), .int .i64 0] 36 (0, 0)) from heap_alloc_new w _)
 have hGw : Glob (w.alloc (.cells #[.int .i64 0, .int .i64 0, .string (⟨#[]⟩ : ByteArray), .int .i64 0] 36)) := (hGl.out.below hB).below (below_alloc (Below.refl _ _) _)
 obtain ⟨tG, hGw⟩ := hGw
 obtain ⟨arr, harr⟩ : ∃ arr : Array Value, arr = (sgn_words.map Value.string).toArray := ⟨_, rfl⟩
 have HIX := Aside0.mk (show ∀ (n : Nat) (x : ByteArray), n < 24 → sgn_words[n]? = some x → ∀ w : World, (Instr.index 91 (.agg arr) (.int .i64 (n : Int))).run Tryd.prog w = .ok (.string x) w from fun n x hn hx w => by rw [harr]; exact run_index_str sgn_words n x hn hx w)
 have HRG := Aside0.mk (show (w.alloc (.cells #[.int .i64 0, .int .i64 0, .string (⟨#[]⟩ : ByteArray), .int .i64 0] 36)).rangeAt 0 0 arr.toList from by
  have := World.rangeAt_of_block hGw 0 24
  rw [harr]
  have e : (sgn_words.map Value.string).toArray.extract 0 (0 + 24) = (sgn_words.map Value.string).toArray := by rfl
  rw [e] at this
  exact this)
 have HSZ := Aside0.mk (show (Tryd.prog.info? 91).map (·.size) = some arr.toList.length from by rw [harr]; kernel_rfl)
 have HLEN := Aside0.mk (show sgn_words.length = 24 from rfl)
 have hua : Tryd.prog.underlying 91 = some (.array 24 9) := by kernel_rfl
 have HUA := Aside0.mk hua
 clear hGw hua hI hB harr
 have H0 := Aside0.mk (show lexer_scanner_sign.g s0_0 s0_1 s0_2 (sgn_words.drop 0) = some (r1, r2, r3, r4, r5, r6, r7, r8) from h)
 clear h
 generalize hW1 : w.alloc (.cells #[.int .i64 0, .int .i64 0, .string (⟨#[]⟩ : ByteArray), .int .i64 0] 36) = w1 at *
 have hal : w.alloc (.cells #[.int .i64 0, .int .i64 0, .string (⟨#[]⟩ : ByteArray), .int .i64 0] 36) = w1 := hW1
 clear hW1
 go_enter Tryd.func36, Tryd.ntmps36
 go_wp2_with (first | (refine wpList_load_mid (by rfl) 91 _ (by rfl) 0 0 (by rfl) arr.toList (.array 24 9) HRG.out HUA.out rfl HSZ.out ?_))
 have hgr := Aside0.mk (show g ≠ w.heap.size from Nat.ne_of_lt hgw)
 have hkr0 : w.heap.size ≤ w.heap.size := Nat.le_refl _
 clear hgw hGl hal
 generalize hG : w.heap.size = gr at *
 have hfar := Aside0.mk (show g ≠ (⟨gr, 0, none⟩ : Addr).block from hgr.out)
 have hfr := Aside0.mk (show gr ≠ (⟨g, 1, none⟩ : Addr).block from Ne.symm hgr.out)
 have hkr := Aside0.mk (show w.heap.size ≤ (⟨gr, 0, none⟩ : Addr).block from Nat.le_of_eq hG)
 have hwr : Aside0 (w0.heap.size ≤ gr) := ⟨hwr0⟩
 clear hkr0 hwr0 hG
 go_loopg [7] 24 (fun kq v7 wc => ∃ (n q : Nat), v7 = .int .i64 n ∧ n ≤ 24 ∧ 24 - n ≤ kq ∧ wc = w1.drewN q ∧ Aside0 (lexer_scanner_sign.g s0_0 s0_1 s0_2 (sgn_words.drop n) = some (r1, r2, r3, r4, r5, r6, r7, r8)))
 case atStart => exact ⟨0, 0, rfl, by omega, by omega, rfl, H0⟩
 case round =>
  clear H0
  obtain ⟨n, q, rfl, hn, hkq, rfl, H⟩ := hrel
  by_cases hlt : n < 24
  ·have hl : n < sgn_words.length := by rw [HLEN.out]; exact hlt
   obtain ⟨x, hx⟩ : ∃ x, sgn_words[n]? = some x := ⟨_, List.getElem?_eq_getElem hl⟩
   have hd : sgn_words.drop n = x :: sgn_words.drop (n + 1) := by
    rw [List.drop_eq_getElem_cons hl]
    rw [List.getElem?_eq_getElem hl] at hx
    rw [Option.some.inj hx]
   have H1 := H.out
   rw [hd] at H1
   unfold lexer_scanner_sign.g at H1
   by_cases p1 : 0 ≤ s0_1
   case neg => rw [if_neg p1] at H1; cases H1
   rw [if_pos p1] at H1
   by_cases p2 : s0_1 ≤ (s0_0.size : Int)
   case neg => rw [if_neg p2] at H1; cases H1
   rw [if_pos p2] at H1
   obtain ⟨t, ht, H2⟩ := Option.bind_eq_some_iff.mp H1
   have AT := Aside0.mk ht
   have HXX := Aside0.mk hx
   have hidx := HIX.out n x hlt hx
   have c0 : decide ((n : Int) < 24) = true := decide_eq_true (by omega)
   have p1' := eq_true p1
   have p2' := eq_true p2
   have p1'' : decide (0 ≤ s0_1) = true := decide_eq_true p1
   have p2'' : decide (s0_1 ≤ (s0_0.size : Int)) = true := decide_eq_true p2
   obtain ⟨_, _, hGz, _, _⟩ := HI1.out
   have hcz0 := cellS51_0 hGz
   have hcz1 := cellS51_1 hGz
   have hcz2 := cellS51_2 hGz
   have hfz1 := blk_frozen hGz 1
   have hbr := HR.out
   clear hGz hx hd H1 ht H p1 p2
   have hb0 : w1.cell? ⟨gr, 0, none⟩ = some (.int .i64 0) := (blk_cell hbr 0).trans rfl
   have hy0 := blk_frozen hbr 0
   have hb1 : w1.cell? ⟨gr, 1, none⟩ = some (.int .i64 0) := (blk_cell hbr 1).trans rfl
   have hy1 := blk_frozen hbr 1
   have hb2 : w1.cell? ⟨gr, 2, none⟩ = some (.string (⟨#[]⟩ : ByteArray)) := (blk_cell hbr 2).trans rfl
   have hy2 := blk_frozen hbr 2
   have hb3 : w1.cell? ⟨gr, 3, none⟩ = some (.int .i64 0) := (blk_cell hbr 3).trans rfl
   have hy3 := blk_frozen hbr 3
   clear hbr
   have hnb := hgr.out
   have hnc := Ne.symm hgr.out
   cases t with
   | true =>
    replace H2 : (if true = true then _ else _) = some _ := H2
    rw [if_pos rfl] at H2
    simp only [Option.some.injEq, Prod.mk.injEq] at H2
    obtain ⟨rfl, rfl, rfl, rfl, rfl, rfl, rfl, rfl⟩ := H2
    go_wp2_with (first | (go_at_call 31; (with_reducible refine (strings_HasPrefix.calls _ x true _ AT.out).mono ?_); rintro e w' ⟨rfl, ⟨nd, rfl⟩⟩; (try first | exact ⟨rfl, _, World.drewN_drewN _ _ _⟩ | exact ⟨rfl, _, Eq.trans (World.drewN_drewN _ _ _) (congrArg (World.drewN _) (Nat.add_assoc _ _ _))⟩)))
    repeat (go_quiet (first | (go_at_call 31; (with_reducible refine (strings_HasPrefix.calls _ x true _ AT.out).mono ?_); rintro e w' ⟨rfl, ⟨nd, rfl⟩⟩; (try first | exact ⟨rfl, _, World.drewN_drewN _ _ _⟩ | exact ⟨rfl, _, Eq.trans (World.drewN_drewN _ _ _) (congrArg (World.drewN _) (Nat.add_assoc _ _ _))⟩))); try go_wp2_with (first | (go_at_call 31; (with_reducible refine (strings_HasPrefix.calls _ x true _ AT.out).mono ?_); rintro e w' ⟨rfl, ⟨nd, rfl⟩⟩; (try first | exact ⟨rfl, _, World.drewN_drewN _ _ _⟩ | exact ⟨rfl, _, Eq.trans (World.drewN_drewN _ _ _) (congrArg (World.drewN _) (Nat.add_assoc _ _ _))⟩))))
    refine bodyPost_ret (results_ct rfl _ _ gr 36 #[.int .i64 4, .int .i64 s0_2, .string x, .int .i64 0] (0, 0) _ rfl (by refine blk_put (cs := #[.int .i64 4, .int .i64 s0_2, .string x, .int .i64 0]) ?_ 3 _ rfl; refine blk_put (cs := #[.int .i64 4, .int .i64 s0_2, .string (⟨#[]⟩ : ByteArray), .int .i64 0]) ?_ 2 _ rfl; refine blk_put (cs := #[.int .i64 4, .int .i64 0, .string (⟨#[]⟩ : ByteArray), .int .i64 0]) ?_ 1 _ rfl; refine blk_put (cs := #[.int .i64 0, .int .i64 0, .string (⟨#[]⟩ : ByteArray), .int .i64 0]) ?_ 0 _ rfl; repeat (first | (with_reducible exact HR.out) | (with_reducible refine blk_far ?_ hfr.out _) | (with_reducible refine blk_drewN ?_ _) | (with_reducible refine blk_drew ?_))) hu rfl (by kernel_rfl)) rfl ?_
    exact ⟨rfl, by repeat (first | (with_reducible exact HI1.out) | (with_reducible refine IsS51.far ?_ hfar.out _) | (with_reducible apply IsS51.drewN) | (with_reducible apply IsS51.drew) | (with_reducible apply IsS51.set_1)), by repeat (first | (with_reducible exact HB1.out) | (with_reducible refine below_set ?_ hwr.out) | (with_reducible refine below_set ?_ hwg.out) | (with_reducible refine pw_below_drewN ?_ _) | (with_reducible refine below_drew1 ?_)), by repeat (first | (with_reducible exact HK1.out) | (with_reducible refine keep_far ?_ hkr.out _) | (with_reducible refine KeepBut.set_ ?_ _ _) | (with_reducible refine keep_drewN ?_ _) | (with_reducible refine keep_drew ?_))⟩
   | false =>
    replace H2 : (if false = true then _ else _) = some _ := H2
    rw [if_neg (by decide)] at H2
    have HN := Aside0.mk H2
    clear H2
    go_wp2_with (first | (go_at_call 31; (with_reducible refine (strings_HasPrefix.calls _ x false _ AT.out).mono ?_); rintro e w' ⟨rfl, ⟨nd, rfl⟩⟩; (try first | exact ⟨rfl, _, World.drewN_drewN _ _ _⟩ | exact ⟨rfl, _, Eq.trans (World.drewN_drewN _ _ _) (congrArg (World.drewN _) (Nat.add_assoc _ _ _))⟩)))
    repeat (go_quiet (first | (go_at_call 31; (with_reducible refine (strings_HasPrefix.calls _ x false _ AT.out).mono ?_); rintro e w' ⟨rfl, ⟨nd, rfl⟩⟩; (try first | exact ⟨rfl, _, World.drewN_drewN _ _ _⟩ | exact ⟨rfl, _, Eq.trans (World.drewN_drewN _ _ _) (congrArg (World.drewN _) (Nat.add_assoc _ _ _))⟩))); try go_wp2_with (first | (go_at_call 31; (with_reducible refine (strings_HasPrefix.calls _ x false _ AT.out).mono ?_); rintro e w' ⟨rfl, ⟨nd, rfl⟩⟩; (try first | exact ⟨rfl, _, World.drewN_drewN _ _ _⟩ | exact ⟨rfl, _, Eq.trans (World.drewN_drewN _ _ _) (congrArg (World.drewN _) (Nat.add_assoc _ _ _))⟩))))
    go_roundg (24 - (n + 1))
    case measure => omega
    case rel => exact ⟨n + 1, _, rfl, by omega, Nat.le_refl _, rfl, HN⟩
  ·obtain rfl : n = 24 := by omega
   have H1 := H.out
   rw [List.drop_eq_nil_of_le (by rw [HLEN.out]; exact Nat.le_refl _)] at H1
   unfold lexer_scanner_sign.g at H1
   simp only [Option.some.injEq, Prod.mk.injEq] at H1
   obtain ⟨rfl, rfl, rfl, rfl, rfl, rfl, rfl, rfl⟩ := H1
   have hbr := HR.out
   have hb0 : w1.cell? ⟨gr, 0, none⟩ = some (.int .i64 0) := (blk_cell hbr 0).trans rfl
   have hy0 := blk_frozen hbr 0
   have hb1 : w1.cell? ⟨gr, 1, none⟩ = some (.int .i64 0) := (blk_cell hbr 1).trans rfl
   have hy1 := blk_frozen hbr 1
   have hb2 : w1.cell? ⟨gr, 2, none⟩ = some (.string (⟨#[]⟩ : ByteArray)) := (blk_cell hbr 2).trans rfl
   have hy2 := blk_frozen hbr 2
   have hb3 : w1.cell? ⟨gr, 3, none⟩ = some (.int .i64 0) := (blk_cell hbr 3).trans rfl
   have hy3 := blk_frozen hbr 3
   clear hbr
   go_wp2
   refine bodyPost_ret (results_ct rfl _ _ gr 36 #[.int .i64 0, .int .i64 0, .string (⟨#[]⟩ : ByteArray), .int .i64 0] (0, 0) _ rfl (by refine blk_put (cs := #[.int .i64 0, .int .i64 0, .string (⟨#[]⟩ : ByteArray), .int .i64 0]) ?_ 3 _ rfl; refine blk_put (cs := #[.int .i64 0, .int .i64 0, .string (⟨#[]⟩ : ByteArray), .int .i64 0]) ?_ 2 _ rfl; refine blk_put (cs := #[.int .i64 0, .int .i64 0, .string (⟨#[]⟩ : ByteArray), .int .i64 0]) ?_ 1 _ rfl; refine blk_put (cs := #[.int .i64 0, .int .i64 0, .string (⟨#[]⟩ : ByteArray), .int .i64 0]) ?_ 0 _ rfl; repeat (first | (with_reducible exact HR.out) | (with_reducible refine blk_far ?_ hfr.out _) | (with_reducible refine blk_drewN ?_ _) | (with_reducible refine blk_drew ?_))) hu rfl (by kernel_rfl)) rfl ?_
   exact ⟨rfl, by repeat (first | (with_reducible exact HI1.out) | (with_reducible refine IsS51.far ?_ hfar.out _) | (with_reducible apply IsS51.drewN) | (with_reducible apply IsS51.drew) | (with_reducible apply IsS51.set_1)), by repeat (first | (with_reducible exact HB1.out) | (with_reducible refine below_set ?_ hwr.out) | (with_reducible refine below_set ?_ hwg.out) | (with_reducible refine pw_below_drewN ?_ _) | (with_reducible refine below_drew1 ?_)), by repeat (first | (with_reducible exact HK1.out) | (with_reducible refine keep_far ?_ hkr.out _) | (with_reducible refine KeepBut.set_ ?_ _ _) | (with_reducible refine keep_drewN ?_ _) | (with_reducible refine keep_drew ?_))⟩

end Go.Proofs.YtoflkheiidhblaaDoor.PLex
