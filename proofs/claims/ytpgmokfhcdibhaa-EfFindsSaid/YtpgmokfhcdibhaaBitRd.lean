/-
  Plain laws on reading rows of bits. No condition.
-/
import Derived.Test.YtpgmokfhcdibhaaBitPure
namespace Go.Proofs.Ytpgmokfhcdibhaa
set_option linter.unusedVariables false
set_option maxRecDepth 20000
/-- the bits of bytes -/
def unp (l : List UInt8) : List Bool := (List.range (8 * l.length)).map fun i => (l.getD (i / 8) 0).toNat.testBit (7 - i % 8)
theorem unp_length (l : List UInt8) : (unp l).length = 8 * l.length := by simp [unp]
theorem unp_bit (l : List UInt8) {i : Nat} (h : i < 8 * l.length) : bitn (unp l) i = (l.getD (i / 8) 0).toNat / 2 ^ (7 - i % 8) % 2 := by
  rw [bit_of, bitn, unp]
  congr 1
  simp [List.getD_eq_getElem?_getD, h]
theorem unp_part (l : List UInt8) {k : Nat} (h : k < l.length) : ∀ m, m ≤ 8 → part (unp l) (8 * k) m = (l.getD k 0).toNat / 2 ^ (8 - m)
  | 0, _ => by
    have := UInt8.toNat_lt (l.getD k 0)
    rw [part]
    exact (Nat.div_eq_of_lt (by omega)).symm
  | m + 1, hm => by
    rw [part, unp_part l h m (by omega), unp_bit l (by omega), show (8 * k + m) / 8 = k by omega, show 7 - (8 * k + m) % 8 = 7 - m by omega, show 8 - m = (7 - m) + 1 by omega, show 8 - (m + 1) = 7 - m by omega, Nat.pow_succ, ← Nat.div_div_eq_div_mul]
    omega
theorem unp_packed (l : List UInt8) : packed (unp l) = l := by
  apply List.ext_getElem
  · rw [packed_length, unp_length]; omega
  · intro k h1 h2
    have hk : k < l.length := h2
    have e : (packed (unp l)).getD k 0 = l.getD k 0 := by
      rw [packed, octets_get _ (by rw [unp_length]; omega), octet, unp_part l hk 8 (by omega)]
      simp
    rwa [List.getD_eq_getElem?_getD, List.getElem?_eq_getElem h1, List.getD_eq_getElem?_getD, List.getElem?_eq_getElem h2] at e
/-- the first bit 1 -/
def seek (q : List Bool) : Nat → Nat → Nat
  | i, 0 => i
  | i, f + 1 => if bitn q i = 1 then i else seek q (i + 1) f
def Z (q : List Bool) (p : Nat) : Nat := seek q p (q.length - p)
theorem z_hit {q : List Bool} {k : Nat} (h : bitn q k = 1) (hk : k < q.length) : Z q k = k := by
  rw [Z, show q.length - k = (q.length - (k + 1)) + 1 by omega, seek, if_pos h]
theorem z_step {q : List Bool} {k : Nat} (h : ¬ bitn q k = 1) (hk : k < q.length) : Z q k = Z q (k + 1) := by
  rw [Z, show q.length - k = (q.length - (k + 1)) + 1 by omega, seek, if_neg h]; rfl
theorem z_end {q : List Bool} {k : Nat} (hk : q.length ≤ k) : Z q k = k := by
  rw [Z, show q.length - k = 0 by omega]; rfl
theorem z_ge (q : List Bool) : ∀ f i, i ≤ seek q i f
  | 0, i => Nat.le_refl _
  | f + 1, i => by
    rw [seek]
    split
    · exact Nat.le_refl _
    · have := z_ge q f (i + 1); omega
theorem z_le (q : List Bool) : ∀ f i, seek q i f ≤ i + f
  | 0, i => Nat.le_refl _
  | f + 1, i => by
    rw [seek]
    split
    · omega
    · have := z_le q f (i + 1); omega
theorem zp_ge (q : List Bool) (p : Nat) : p ≤ Z q p := z_ge q _ p
theorem zp_le (q : List Bool) {p : Nat} (h : p ≤ q.length) : Z q p ≤ q.length := by have := z_le q (q.length - p) p; unfold Z; omega
/-- all bits are 0 just if the number is -/
theorem part_up (q : List Bool) : ∀ m i, part q i (m + 1) = bitn q i * 2 ^ m + part q (i + 1) m
  | 0, i => by simp [part]
  | m + 1, i => by
    rw [part, part_up q m i, part, show i + (m + 1) = i + 1 + m by omega, Nat.pow_succ]
    have : bitn q i * (2 ^ m * 2) = 2 * (bitn q i * 2 ^ m) := by rw [← Nat.mul_assoc, Nat.mul_comm]
    omega
theorem part_seek (q : List Bool) : ∀ f i, part q i f = 0 ↔ seek q i f = i + f
  | 0, i => by simp [part, seek]
  | f + 1, i => by
    rw [part_up, seek]
    have hb := bitn_le q i
    split
    · rename_i h
      rw [h]
      have := Nat.two_pow_pos f
      omega
    · rename_i h
      have h0 : bitn q i = 0 := by omega
      rw [h0, Nat.zero_mul, Nat.zero_add, part_seek q f (i + 1)]
      omega
theorem pad_iff (q : List Bool) {p : Nat} (h : p ≤ q.length) : part q p (q.length - p) = 0 ↔ Z q p = q.length := by
  rw [part_seek, Z, show p + (q.length - p) = q.length by omega]
/-- what a reader's calls answer -/
def skE (q : List Bool) (p : Nat) (n : Int) : Int := if n < 0 then 13 else if (q.length : Int) < p + n then 1 else 0
def skP (q : List Bool) (p : Nat) (n : Int) : Nat := if n < 0 then p else if (q.length : Int) < p + n then p else p + n.toNat
def gtE (q : List Bool) (p : Nat) (n : Int) : Int := if n < 0 ∨ 64 < n then 13 else if (q.length : Int) < p + n then 1 else 0
def gtV (q : List Bool) (p : Nat) (n : Int) : Nat := if n < 0 ∨ 64 < n then 0 else if (q.length : Int) < p + n then 0 else part q p n.toNat
def gtP (q : List Bool) (p : Nat) (n : Int) : Nat := if n < 0 ∨ 64 < n then p else if (q.length : Int) < p + n then p else p + n.toNat
def pkV (q : List Bool) (p : Nat) (n : Int) : Nat := if n < 0 ∨ 64 < n then 0 else part q p n.toNat
def pkN (q : List Bool) (p : Nat) (n : Int) : Int := if n < 0 ∨ 64 < n then 0 else min n (q.length - p)
def unV (q : List Bool) (p : Nat) : Int := if Z q p < q.length then Z q p - p else 0
def unR (q : List Bool) (p : Nat) : Int := if Z q p < q.length then 0 else 1
def unP (q : List Bool) (p : Nat) : Nat := if Z q p < q.length then Z q p + 1 else p
def paE (q : List Bool) (p : Nat) : Int := if (q.length : Int) - p < 8 ∧ Z q p = q.length then 0 else 2
theorem skP_le {q : List Bool} {p : Nat} (n : Int) (h : p ≤ q.length) : skP q p n ≤ q.length := by
  unfold skP; split; · exact h
  split <;> omega
theorem gtP_le {q : List Bool} {p : Nat} (n : Int) (h : p ≤ q.length) : gtP q p n ≤ q.length := by
  unfold gtP; split; · exact h
  split <;> omega
theorem unP_le {q : List Bool} {p : Nat} (h : p ≤ q.length) : unP q p ≤ q.length := by unfold unP; split <;> omega
end Go.Proofs.Ytpgmokfhcdibhaa
