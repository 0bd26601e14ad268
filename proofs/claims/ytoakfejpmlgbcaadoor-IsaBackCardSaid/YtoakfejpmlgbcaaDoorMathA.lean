/- The sanity check returns true. -/
import Derived.Test.YtoakfejpmlgbcaaDoorPIsax43
namespace Go.Proofs.YtoakfejpmlgbcaaDoor.PIsa
open Go.RowKit Go.Proofs.YtoakfejpmlgbcaaDoorW.PrintWords Go.Proofs.YtoakfejpmlgbcaaDoorW.PrintLast
theorem itoa1 : Lib.itoa 1 = [49] := by
  unfold Lib.itoa
  rw [if_neg (by decide)]
  unfold Lib.decDigits
  rfl
theorem itoa2 : Lib.itoa 2 = [50] := by
  unfold Lib.itoa
  rw [if_neg (by decide)]
  unfold Lib.decDigits
  rfl
theorem enc_const : isa_Encode.f 20 3 0 0 0 7 = some (30064771075, 0) := by kernel_rfl
theorem enc_return : isa_Encode.f 20 24 0 0 0 0 = some (24, 0) := by kernel_rfl
theorem run_two : isa_Run.f 20 [30064771075, 24] 40 0 [] 9 = some (0, false, 7, []) := by kernel_rfl
theorem text_move : isa_Text.f 5 1 2 0 0 = some ⟨#[109, 111, 118, 101, 32, 114, 49, 32, 114, 50]⟩ := by
  show some (⟨(Lib.join ([(⟨#[109, 111, 118, 101]⟩ : ByteArray), opText (⟨#[114]⟩, 1), opText (⟨#[114]⟩, 2)].map (·.data.toList)) [32]).toArray⟩ : ByteArray) = _
  unfold opText
  simp only [itoa1, itoa2]
  rfl
theorem known_ev : debuggerlaw16_known.f 20 = some true := by
  unfold debuggerlaw16_known.f
  rw [enc_const, Option.bind_some, enc_return, Option.bind_some]
  rw [run_two, Option.bind_some, text_move, if_pos rfl, if_pos rfl, if_pos rfl, if_pos rfl, Option.bind_some, ByteArray.toList_eq]
  rfl
end Go.Proofs.YtoakfejpmlgbcaaDoor.PIsa
