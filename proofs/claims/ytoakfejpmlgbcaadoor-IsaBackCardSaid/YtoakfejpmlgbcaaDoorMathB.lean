/- Encode and Decode undo each other: words of bits. -/
import Derived.Test.YtoakfejpmlgbcaaDoorPIsax39
import Derived.Test.YtoakfejpmlgbcaaDoorPIsax7
import Derived.Laws.BitsLemmas
import Derived.Laws.BitsAllLaws
namespace Go.Proofs.YtoakfejpmlgbcaaDoor.PIsa
open Go.RowKit Go.Proofs.YtoakfejpmlgbcaaDoorW.PrintWords Go.Proofs.YtoakfejpmlgbcaaDoorW.PrintLast
theorem nat64 (w : Int) : (BitVec.ofInt 64 w).toNat = (w % 18446744073709551616).toNat := by
  rw [BitVec.toNat_ofInt]
  rfl
theorem and255 (w : Int) : Go.bits .and .i64 w 255 = w % 256 := by
  have h : Go.bits .and .i64 w 255 = IntKind.i64.wrap (((BitVec.ofInt 64 w &&& BitVec.ofInt 64 255).toNat : Nat) : Int) := rfl
  rw [h, BitVec.toNat_and, nat64, nat64]
  have h2 : ((255 : Int) % 18446744073709551616).toNat = 2 ^ 8 - 1 := rfl
  rw [h2, Nat.and_two_pow_sub_one_eq_mod, IntKind.wrap_i64]
  omega
theorem or_8 (a b : Int) (ha0 : 0 ≤ a) (ha : a < 256) (hb : b % 256 = 0) (hb0 : -9223372036854775808 ≤ b) (hb1 : b < 9223372036854775808) : Go.bits .or .i64 a b = a + b := by
  have h : Go.bits .or .i64 a b = IntKind.i64.wrap (((BitVec.ofInt 64 a ||| BitVec.ofInt 64 b).toNat : Nat) : Int) := rfl
  rw [h, BitVec.toNat_or, nat64, nat64, Nat.or_comm, nat_join 8 _ _ (by show (b % 18446744073709551616).toNat % 256 = 0; omega) (by show (a % 18446744073709551616).toNat < 256; omega), IntKind.wrap_i64]
  omega
theorem or_16 (a b : Int) (ha0 : 0 ≤ a) (ha : a < 65536) (hb : b % 65536 = 0) (hb0 : -9223372036854775808 ≤ b) (hb1 : b < 9223372036854775808) : Go.bits .or .i64 a b = a + b := by
  have h : Go.bits .or .i64 a b = IntKind.i64.wrap (((BitVec.ofInt 64 a ||| BitVec.ofInt 64 b).toNat : Nat) : Int) := rfl
  rw [h, BitVec.toNat_or, nat64, nat64, Nat.or_comm, nat_join 16 _ _ (by show (b % 18446744073709551616).toNat % 65536 = 0; omega) (by show (a % 18446744073709551616).toNat < 65536; omega), IntKind.wrap_i64]
  omega
theorem or_24 (a b : Int) (ha0 : 0 ≤ a) (ha : a < 16777216) (hb : b % 16777216 = 0) (hb0 : -9223372036854775808 ≤ b) (hb1 : b < 9223372036854775808) : Go.bits .or .i64 a b = a + b := by
  have h : Go.bits .or .i64 a b = IntKind.i64.wrap (((BitVec.ofInt 64 a ||| BitVec.ofInt 64 b).toNat : Nat) : Int) := rfl
  rw [h, BitVec.toNat_or, nat64, nat64, Nat.or_comm, nat_join 24 _ _ (by show (b % 18446744073709551616).toNat % 16777216 = 0; omega) (by show (a % 18446744073709551616).toNat < 16777216; omega), IntKind.wrap_i64]
  omega
theorem or_32 (a b : Int) (ha0 : 0 ≤ a) (ha : a < 4294967296) (hb : b % 4294967296 = 0) (hb0 : -9223372036854775808 ≤ b) (hb1 : b < 9223372036854775808) : Go.bits .or .i64 a b = a + b := by
  have h : Go.bits .or .i64 a b = IntKind.i64.wrap (((BitVec.ofInt 64 a ||| BitVec.ofInt 64 b).toNat : Nat) : Int) := rfl
  rw [h, BitVec.toNat_or, nat64, nat64, Nat.or_comm, nat_join 32 _ _ (by show (b % 18446744073709551616).toNat % 4294967296 = 0; omega) (by show (a % 18446744073709551616).toNat < 4294967296; omega), IntKind.wrap_i64]
  omega
theorem encW_sum (i0 i1 i2 i3 i4 : Int) (h0 : 0 ≤ i0) (h0' : i0 < 256) (h1 : 0 ≤ i1) (h1' : i1 < 256) (h2 : 0 ≤ i2) (h2' : i2 < 256) (h3 : 0 ≤ i3) (h3' : i3 < 256) (h4 : -2147483648 ≤ i4) (h4' : i4 < 2147483648) :
    encW i0 i1 i2 i3 i4 = i0 + i1 * 256 + i2 * 65536 + i3 * 16777216 + i4 * 4294967296 := by
  unfold encW
  rw [show wrap64 (i1 * 256) = i1 * 256 from by unfold wrap64; omega, show wrap64 (i2 * 65536) = i2 * 65536 from by unfold wrap64; omega, show wrap64 (i3 * 16777216) = i3 * 16777216 from by unfold wrap64; omega, show wrap64 (i4 * 4294967296) = i4 * 4294967296 from by unfold wrap64; omega]
  rw [or_8 i0 (i1 * 256) h0 h0' (by omega) (by omega) (by omega), or_16 (i0 + i1 * 256) (i2 * 65536) (by omega) (by omega) (by omega) (by omega) (by omega), or_24 (i0 + i1 * 256 + i2 * 65536) (i3 * 16777216) (by omega) (by omega) (by omega) (by omega) (by omega), or_32 (i0 + i1 * 256 + i2 * 65536 + i3 * 16777216) (i4 * 4294967296) (by omega) (by omega) (by omega) (by omega) (by omega)]
theorem decode_encW (i0 i1 i2 i3 i4 : Int) (h0 : 1 ≤ i0) (h0' : i0 < 26) (h1 : 0 ≤ i1) (h1' : i1 < 16) (h2 : 0 ≤ i2) (h2' : i2 < 16) (h3 : 0 ≤ i3) (h3' : i3 < 16) (h4 : -2147483648 ≤ i4) (h4' : i4 < 2147483648) :
    isa_Decode.f (encW i0 i1 i2 i3 i4) = some (i0, i1, i2, i3, i4, 0) := by
  rw [encW_sum i0 i1 i2 i3 i4 (by omega) (by omega) (by omega) (by omega) (by omega) (by omega) (by omega) (by omega) h4 h4']
  unfold isa_Decode.f
  simp only [and255]
  have e0 : (i0 + i1 * 256 + i2 * 65536 + i3 * 16777216 + i4 * 4294967296) % 256 = i0 := by omega
  have e1 : (i0 + i1 * 256 + i2 * 65536 + i3 * 16777216 + i4 * 4294967296) / 256 % 256 = i1 := by omega
  have e2 : (i0 + i1 * 256 + i2 * 65536 + i3 * 16777216 + i4 * 4294967296) / 65536 % 256 = i2 := by omega
  have e3 : (i0 + i1 * 256 + i2 * 65536 + i3 * 16777216 + i4 * 4294967296) / 16777216 % 256 = i3 := by omega
  have e4 : (i0 + i1 * 256 + i2 * 65536 + i3 * 16777216 + i4 * 4294967296) / 4294967296 = i4 := by omega
  rw [e0, e1, e2, e3, e4, if_pos (by omega)]
theorem encode_decode (w : Int) (hw0 : -9223372036854775808 ≤ w) (hw1 : w < 9223372036854775808) :
    (∃ o a b c d, isa_Decode.f w = some (o, a, b, c, d, 0) ∧ isa_Encode.f 1 o a b c d = some (w, 0)) ∨ isa_Decode.f w = some (0, 0, 0, 0, 0, 4) := by
  unfold isa_Decode.f
  simp only [and255]
  by_cases h : (1 ≤ w % 256 ∧ w % 256 < 26) ∧ (0 ≤ w / 256 % 256 ∧ w / 256 % 256 < 16) ∧ (0 ≤ w / 65536 % 256 ∧ w / 65536 % 256 < 16) ∧ (0 ≤ w / 16777216 % 256 ∧ w / 16777216 % 256 < 16)
  · refine .inl ⟨_, _, _, _, _, if_pos h, ?_⟩
    rw [isa_Encode.ev, if_pos (by omega), if_pos (by omega), encW_sum _ _ _ _ _ (by omega) (by omega) (by omega) (by omega) (by omega) (by omega) (by omega) (by omega) (by omega) (by omega)]
    congr 2
    omega
  · exact .inr (if_neg h)
end Go.Proofs.YtoakfejpmlgbcaaDoor.PIsa
