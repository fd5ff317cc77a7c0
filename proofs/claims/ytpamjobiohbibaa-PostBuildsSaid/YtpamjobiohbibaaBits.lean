/-
  Plain laws on Go's bit operations over numbers that are not below 0. No condition.
-/
import Derived.WalkKit
import Derived.Laws.BitsAllLaws
import Derived.Laws.BitsLemmas
namespace Go.Proofs.Ytpamjobiohbibaa

theorem ofInt_nat (n a : Nat) (ha : a < 2 ^ n) : (BitVec.ofInt n (a : Int)).toNat = a := by
  rw [BitVec.ofInt_natCast, BitVec.toNat_ofNat]; exact Nat.mod_eq_of_lt ha
theorem wrap_u8 (a : Nat) (h : a < 256) : IntKind.u8.wrap (a : Int) = (a : Int) := by
  show (a : Int) % 256 = a; omega
theorem wrap_u16 (a : Nat) (h : a < 65536) : IntKind.u16.wrap (a : Int) = (a : Int) := by
  show (a : Int) % 65536 = a; omega
theorem wrap_u64 (a : Nat) (h : a < 18446744073709551616) : IntKind.u64.wrap (a : Int) = (a : Int) := by
  show (a : Int) % 18446744073709551616 = a; omega
theorem wrap_i64 (a : Int) (h1 : -9223372036854775808 ≤ a) (h2 : a < 9223372036854775808) : IntKind.i64.wrap a = a := by
  rw [IntKind.wrap_i64]; omega
section
variable (a b : Nat)
theorem u8_and (ha : a < 256) (hb : b < 256) : bits .and .u8 (a : Int) (b : Int) = ((a &&& b : Nat) : Int) := by
  have hx : a &&& b < 256 := Nat.lt_of_le_of_lt Nat.and_le_left ha
  show IntKind.u8.wrap ((BitVec.ofInt 8 (a : Int) &&& BitVec.ofInt 8 (b : Int)).toNat : Int) = _
  rw [BitVec.toNat_and, ofInt_nat 8 a ha, ofInt_nat 8 b hb, wrap_u8 _ hx]
theorem u8_or (ha : a < 256) (hb : b < 256) : bits .or .u8 (a : Int) (b : Int) = ((a ||| b : Nat) : Int) := by
  have hx : a ||| b < 2 ^ 8 := Nat.or_lt_two_pow ha hb
  show IntKind.u8.wrap ((BitVec.ofInt 8 (a : Int) ||| BitVec.ofInt 8 (b : Int)).toNat : Int) = _
  rw [BitVec.toNat_or, ofInt_nat 8 a ha, ofInt_nat 8 b hb, wrap_u8 _ hx]
theorem u64_and (ha : a < 18446744073709551616) (hb : b < 18446744073709551616) : bits .and .u64 (a : Int) (b : Int) = ((a &&& b : Nat) : Int) := by
  have hx : a &&& b < 18446744073709551616 := Nat.lt_of_le_of_lt Nat.and_le_left ha
  show IntKind.u64.wrap ((BitVec.ofInt 64 (a : Int) &&& BitVec.ofInt 64 (b : Int)).toNat : Int) = _
  rw [BitVec.toNat_and, ofInt_nat 64 a ha, ofInt_nat 64 b hb, wrap_u64 _ hx]
theorem u64_or (ha : a < 18446744073709551616) (hb : b < 18446744073709551616) : bits .or .u64 (a : Int) (b : Int) = ((a ||| b : Nat) : Int) := by
  have hx : a ||| b < 2 ^ 64 := Nat.or_lt_two_pow ha hb
  show IntKind.u64.wrap ((BitVec.ofInt 64 (a : Int) ||| BitVec.ofInt 64 (b : Int)).toNat : Int) = _
  rw [BitVec.toNat_or, ofInt_nat 64 a ha, ofInt_nat 64 b hb, wrap_u64 _ hx]
theorem u64_xor (ha : a < 18446744073709551616) (hb : b < 18446744073709551616) : bits .xor .u64 (a : Int) (b : Int) = ((a ^^^ b : Nat) : Int) := by
  have hx : a ^^^ b < 2 ^ 64 := Nat.xor_lt_two_pow ha hb
  show IntKind.u64.wrap ((BitVec.ofInt 64 (a : Int) ^^^ BitVec.ofInt 64 (b : Int)).toNat : Int) = _
  rw [BitVec.toNat_xor, ofInt_nat 64 a ha, ofInt_nat 64 b hb, wrap_u64 _ hx]
theorem i64_and (ha : a < 9223372036854775808) (hb : b < 9223372036854775808) : bits .and .i64 (a : Int) (b : Int) = ((a &&& b : Nat) : Int) := by
  have hx : a &&& b < 2 ^ 63 := Nat.and_lt_two_pow _ (by omega)
  show IntKind.i64.wrap ((BitVec.ofInt 64 (a : Int) &&& BitVec.ofInt 64 (b : Int)).toNat : Int) = _
  rw [BitVec.toNat_and, ofInt_nat 64 a (by omega), ofInt_nat 64 b (by omega), wrap_i64] <;> omega
theorem i64_or (ha : a < 9223372036854775808) (hb : b < 9223372036854775808) : bits .or .i64 (a : Int) (b : Int) = ((a ||| b : Nat) : Int) := by
  have hx : a ||| b < 2 ^ 63 := Nat.or_lt_two_pow (by omega) (by omega)
  show IntKind.i64.wrap ((BitVec.ofInt 64 (a : Int) ||| BitVec.ofInt 64 (b : Int)).toNat : Int) = _
  rw [BitVec.toNat_or, ofInt_nat 64 a (by omega), ofInt_nat 64 b (by omega), wrap_i64] <;> omega
end
/-- setting the bit 128 of a byte -/
theorem or_128 (a : Nat) (h : a < 256) : a ||| 128 = 128 + a % 128 := by
  have : ∀ x : Fin 256, x.val ||| 128 = 128 + x.val % 128 := by decide +kernel
  exact this ⟨a, h⟩
end Go.Proofs.Ytpamjobiohbibaa
