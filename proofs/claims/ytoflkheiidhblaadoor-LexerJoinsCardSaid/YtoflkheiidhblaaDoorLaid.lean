/- From the premise on the listed variable (the signs of the lexer) to the walks' hypothesis Glob; and a world that meets the premise. -/
import Derived.Test.YtoflkheiidhblaaDoorPLexx14
import Derived.Test.YtoflkheiidhblaaDoorRows
import Derived.Test.YtoflkheiidhblaaDoorChecked
import Derived.ProofKit
import Derived.LaidMore
import Derived.OpenShut
import Derived.MakeChecks
import Derived.Stop.Joined
namespace Go.Proofs.YtoflkheiidhblaaDoor.PLex
open Go.ChangeShapes Go.WideShapes Go.ChangeAt Go.RowKit
def laidL : List (String × DataW Unit) := [("debugger/lexer.signs", Rows.laid_debugger_lexer_signs)]
theorem gSigns : Tryd.prog.globalNamed "debugger/lexer.signs" = some 0 := by kernel_rfl
theorem tSigns : (Tryd.prog.globals[0]?).map (·.type) = some 91 := by kernel_rfl
theorem door_met (os : Os) (args : Array Value) : laidMetH Tryd.prog laidL ((World.doorLaid Tryd.prog 400 os).forCall (fun _ _ => 0) ⟨#[], args, []⟩).memory :=
  laidMetH_of_parts3 (fuel := 8) (laidMet_of_run' 8 (by kernel_rfl) (by kernel_rfl)) (by kernel_rfl) (by kernel_rfl)
theorem glob_of_laid {W : World} (h : laidMetH Tryd.prog laidL W) : Glob W := by
  rw [MakeChecks.laidMetH_plain _ _ _ (by kernel_rfl)] at h
  obtain ⟨ps, ⟨g0, t0, cs0, f0, p0, q0, hg0, ht0, hv0, hd0, _, hps⟩, _, hb⟩ := h
  obtain rfl := Option.some.inj (gSigns.symm.trans hg0)
  obtain rfl := Option.some.inj (tSigns.symm.trans ht0)
  obtain ⟨xs, m1, rfl, hx1, hlen, hn3, hel⟩ := DataW.trod_array Tryd.underlying91 hd0
  have c1 : Tryd.prog.cellsOf 9 = 1 := by kernel_rfl
  have c2 : Tryd.prog.cellsOf 91 = 24 := by kernel_rfl
  rw [c2] at hlen
  have hsz : cs0.size = 24 := by simpa using hlen
  have hx : xs.map (·.1) = sgn_words.map fun s => (DataW.lit (.string s.data.toList) : DataW Unit) := by
    have := congrArg Prod.fst hx1
    simp only at this
    injection this with e
    rw [← e]
    rfl
  have hat : ∀ i (hi : i < 24), cs0.toList[i]? = (sgn_words.map Value.string)[i]? := by
    intro i hi
    have h0 := hel i hi
    rw [c1, Nat.mul_one] at h0
    obtain ⟨y, hy⟩ : ∃ y, xs[i]? = some y := ⟨xs[i]'(by omega), List.getElem?_eq_getElem _⟩
    rw [hy] at h0
    obtain ⟨s, e1, e2, _⟩ := DataW.trod_string Tryd.underlying9 h0
    have e3 : (xs.map (·.1))[i]? = some (.lit (.string s.data.toList)) := by rw [List.getElem?_map, hy]; simp [e2]
    rw [hx, List.getElem?_map] at e3
    obtain ⟨u, hu, hs⟩ := Option.map_eq_some_iff.mp e3
    have hus : u = s := by
      injection hs with e
      injection e with e
      cases u; cases s
      simp only at e
      congr 1
      exact Array.toList_inj.mp e
    subst hus
    rw [List.getElem?_map, hu]
    have := congrArg (fun l => l[0]?) e1
    simpa [List.getElem?_take, List.getElem?_drop] using this
  have hl : cs0.toList = sgn_words.map Value.string := by
    apply List.ext_getElem?
    intro i
    by_cases hi : i < 24
    · exact hat i hi
    · rw [List.getElem?_eq_none (by simpa [hsz] using hi), List.getElem?_eq_none (by simpa using (show (sgn_words.map Value.string).length ≤ i from Nat.le_trans (by decide) (Nat.le_of_not_lt hi)))]
  have hcs : cs0 = (sgn_words.map Value.string).toArray := by rw [← hl]
  obtain ⟨⟨c, t, hh⟩, _⟩ := hb 0 0 (by
    rw [hps]
    refine List.mem_append_left _ (List.mem_append_left _ ?_)
    rw [hsz]
    decide)
  refine ⟨t, ?_⟩
  rw [hh]
  have hvv := hv0
  simp only [World.var?, gSigns, Option.bind_some, hh, Option.some.injEq] at hvv
  rw [hvv, hcs]
end Go.Proofs.YtoflkheiidhblaaDoor.PLex
