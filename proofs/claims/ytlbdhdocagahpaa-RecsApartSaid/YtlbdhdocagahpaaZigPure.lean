/-
  Plain functions for signed numbers without a sign. Conditions: numbers fit 64 bits.
-/
import Derived.Test.YtlbdhdocagahpaaBits
namespace Go.Proofs.Ytlbdhdocagahpaa
def zig (d : Nat) : Nat := if d < 9223372036854775808 then 2 * d else 2 * (18446744073709551615 - d) + 1
def zag (z : Nat) : Nat := if z % 2 = 1 then 18446744073709551615 - z / 2 else z / 2
theorem zig_lt {d : Nat} (h : d < 18446744073709551616) : zig d < 18446744073709551616 := by unfold zig; split <;> omega
theorem zag_lt {z : Nat} (h : z < 18446744073709551616) : zag z < 18446744073709551616 := by unfold zag; split <;> omega
theorem zag_zig {d : Nat} (h : d < 18446744073709551616) : zag (zig d) = d := by
  unfold zig; split
  · unfold zag; rw [if_neg (by omega)]; omega
  · unfold zag; rw [if_pos (by omega)]; omega
theorem zig_zag {z : Nat} (h : z < 18446744073709551616) : zig (zag z) = z := by
  unfold zag; split
  · unfold zig; rw [if_neg (by omega)]; omega
  · unfold zig; rw [if_pos (by omega)]; omega
theorem xor_ones (a : Nat) (h : a < 18446744073709551616) : a ^^^ 18446744073709551615 = 18446744073709551615 - a := by
  have h1 : (BitVec.ofNat 64 a ^^^ BitVec.allOnes 64).toNat = (~~~ (BitVec.ofNat 64 a)).toNat := by rw [BitVec.xor_allOnes]
  rw [BitVec.toNat_xor, BitVec.toNat_not, BitVec.toNat_ofNat, BitVec.toNat_allOnes, Nat.mod_eq_of_lt (show a < 2 ^ 64 from h)] at h1
  exact h1
theorem zig_bits (x : Nat) (h : x < 18446744073709551616) :
    bits .xor .u64 (IntKind.u64.wrap ((x : Int) * 2)) (IntKind.u64.wrap (-((x : Int) / 9223372036854775808))) = ((zig x : Nat) : Int) := by
  unfold zig
  by_cases hx : x < 9223372036854775808
  · rw [if_pos hx]
    have e1 : IntKind.u64.wrap ((x : Int) * 2) = ((2 * x : Nat) : Int) := by show ((x : Int) * 2) % 18446744073709551616 = _; omega
    have e2 : IntKind.u64.wrap (-((x : Int) / 9223372036854775808)) = ((0 : Nat) : Int) := by show (-((x : Int) / 9223372036854775808)) % 18446744073709551616 = _; omega
    rw [e1, e2, u64_xor _ _ (by omega) (by omega), Nat.xor_zero]
  · rw [if_neg hx]
    have e1 : IntKind.u64.wrap ((x : Int) * 2) = ((2 * x - 18446744073709551616 : Nat) : Int) := by show ((x : Int) * 2) % 18446744073709551616 = _; omega
    have e2 : IntKind.u64.wrap (-((x : Int) / 9223372036854775808)) = ((18446744073709551615 : Nat) : Int) := by show (-((x : Int) / 9223372036854775808)) % 18446744073709551616 = _; omega
    rw [e1, e2, u64_xor _ _ (by omega) (by omega), xor_ones _ (by omega)]
    omega
theorem zag_bits (x : Nat) (h : x < 18446744073709551616) :
    bits .xor .u64 ((x : Int) / 2) (IntKind.u64.wrap (-(bits .and .u64 (x : Int) 1))) = ((zag x : Nat) : Int) := by
  have ea : bits .and .u64 (x : Int) 1 = ((x % 2 : Nat) : Int) := by
    have := u64_and x 1 h (by omega)
    rw [Nat.and_one_is_mod] at this
    exact this
  rw [ea]
  unfold zag
  by_cases hx : x % 2 = 1
  · rw [if_pos hx, hx]
    have e2 : IntKind.u64.wrap (-((1 : Nat) : Int)) = ((18446744073709551615 : Nat) : Int) := by decide +kernel
    rw [e2, show ((x : Int) / 2) = ((x / 2 : Nat) : Int) from by omega, u64_xor _ _ (by omega) (by omega), xor_ones _ (by omega)]
  · rw [if_neg hx, show x % 2 = 0 from by omega]
    have e2 : IntKind.u64.wrap (-((0 : Nat) : Int)) = ((0 : Nat) : Int) := by decide +kernel
    rw [e2, show ((x : Int) / 2) = ((x / 2 : Nat) : Int) from by omega, u64_xor _ _ (by omega) (by omega), Nat.xor_zero]
theorem rzig_hi (x : Nat) (h : x < 18446744073709551616) (h1 : 9223372036854775808 ≤ x) :
    IntKind.u64.wrap (IntKind.u64.wrap (2 * IntKind.u64.wrap (18446744073709551615 - (x : Int))) + 1) = ((zig x : Nat) : Int) := by
  unfold zig
  rw [if_neg (by omega)]
  have e1 : IntKind.u64.wrap (18446744073709551615 - (x : Int)) = ((18446744073709551615 - x : Nat) : Int) := by show (18446744073709551615 - (x : Int)) % 18446744073709551616 = _; omega
  rw [e1]
  show ((2 * ((18446744073709551615 - x : Nat) : Int)) % 18446744073709551616 + 1) % 18446744073709551616 = _
  omega
theorem rzig_lo (x : Nat) (h1 : x < 9223372036854775808) : IntKind.u64.wrap (2 * (x : Int)) = ((zig x : Nat) : Int) := by
  unfold zig
  rw [if_pos h1]
  show (2 * (x : Int)) % 18446744073709551616 = _
  omega
theorem zig_small (k : Nat) (h : k < 65536) : zig k = 2 * k := by unfold zig; rw [if_pos (by omega)]
/-- '-k' for a small k -/
def negk (k : Nat) : Nat := if k = 0 then 0 else 18446744073709551616 - k
theorem negk_lt {k : Nat} : negk k < 18446744073709551616 := by unfold negk; split <;> omega
theorem negk_wrap (k : Nat) (h : k < 65536) : IntKind.u64.wrap (-(k : Int)) = ((negk k : Nat) : Int) := by
  show (-(k : Int)) % 18446744073709551616 = _
  unfold negk; split <;> omega
theorem zig_neg (k : Nat) (h : k < 65536) : zig (negk k) ≤ 2 * k := by
  unfold negk; split
  · unfold zig; rw [if_pos (by omega)]; omega
  · unfold zig; rw [if_neg (by omega)]; omega
end Go.Proofs.Ytlbdhdocagahpaa
