/-
  Plain functions for numbers as bytes: what the document says of numbers, texts and fixed numbers. No condition.
-/
import Derived.Test.YtpamjobiohbibaaBase
import Derived.Test.YtpamjobiohbibaaBits
namespace Go.Proofs.Ytpamjobiohbibaa
/-- a number's bytes -/
def encN : Nat → List UInt8
  | x => if h : 128 ≤ x then UInt8.ofNat (128 + x % 128) :: encN (x / 128) else [UInt8.ofNat x]
  termination_by x => x
  decreasing_by omega
theorem encN_lt {x : Nat} (h : x < 128) : encN x = [UInt8.ofNat x] := by
  rw [encN]; simp; omega
theorem encN_ge {x : Nat} (h : 128 ≤ x) : encN x = UInt8.ofNat (128 + x % 128) :: encN (x / 128) := by
  rw [encN]; simp [h]
theorem encN_len (k : Nat) : ∀ x, x < 128 ^ (k + 1) → (encN x).length ≤ k + 1 := by
  induction k with
  | zero => intro x h; rw [encN_lt (by simpa using h)]; simp
  | succ k ih =>
    intro x h
    by_cases hx : 128 ≤ x
    · rw [encN_ge hx]
      have := ih (x / 128) (by rw [Nat.pow_succ] at h; omega)
      simp; omega
    · rw [encN_lt (by omega)]; simp
theorem encN_len10 {x : Nat} (h : x < 18446744073709551616) : (encN x).length ≤ 10 := by
  exact encN_len 9 x (by have : (128 : Nat) ^ 10 = 1180591620717411303424 := by decide +kernel
                         omega)
theorem u8n (x : Nat) (h : x < 256) : (UInt8.ofNat x).toNat = x := by simp; omega
theorem bv_one1 (x : Nat) (h : x < 256) : bv [UInt8.ofNat x] = [.int .u8 (x : Int)] := by simp only [bv, List.map_cons, List.map_nil, u8n x h]
/-- a text's bytes -/
def encT (l : List UInt8) : List UInt8 := encN l.length ++ l
/-- a fixed number's bytes -/
def fixL (x : Nat) : Nat → List UInt8
  | 0 => []
  | k + 1 => fixL x k ++ [UInt8.ofNat (x / 2 ^ (8 * k) % 256)]
@[simp] theorem fixL_length (x k : Nat) : (fixL x k).length = k := by induction k with
  | zero => rfl
  | succ k ih => simp [fixL, ih]
theorem div_step (x k : Nat) : x / 2 ^ (8 * k) / 256 = x / 2 ^ (8 * (k + 1)) := by
  rw [Nat.div_div_eq_div_mul, show 8 * (k + 1) = 8 * k + 8 by omega, Nat.pow_add]
theorem int_div_pow (x k : Nat) : (x : Int) / 2 ^ k = ((x / 2 ^ k : Nat) : Int) := by
  rw [Int.natCast_ediv]; congr 1
theorem fix_set {x n k : Nat} (h : k < n) (u : Value) (hu : u = .int .u8 ((x / 2 ^ (8 * k) % 256 : Nat) : Int)) :
    (bv (fixL x k) ++ List.replicate (n - k) (Value.int .u8 0)).set k u = bv (fixL x (k + 1)) ++ List.replicate (n - (k + 1)) (Value.int .u8 0) := by
  rw [rep_mid _ h, set_mid _ _ _ _ (by simp), hu, fixL, bv_append, bv_one1 _ (Nat.mod_lt _ (by omega))]
  simp
end Go.Proofs.Ytpamjobiohbibaa
