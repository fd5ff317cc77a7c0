/-
  Lengths of a code as plain functions: how many there are of each, their weight, whether they may be. No condition.
-/
import Derived.Test.YtpdnohllbijonaaEngF
namespace Go.Proofs.Ytpdnohllbijonaa
/-- how many there are of length k -/
def num (l : List UInt8) (k : Nat) : Nat := l.countP fun c => c.toNat == k
def cntL (l : List UInt8) : List Int := (List.range 16).map fun k => ((num l k : Nat) : Int)
@[simp] theorem cntL_length (l : List UInt8) : (cntL l).length = 16 := by simp [cntL]
theorem cntL_get (l : List UInt8) {k : Nat} (h : k < 16) : (cntL l).getD k 0 = (num l k : Int) := by
  simp [cntL, List.getD, h]
theorem num_le (l : List UInt8) (k : Nat) : num l k ≤ l.length := List.countP_le_length
theorem num_snoc (l : List UInt8) (c : UInt8) (k : Nat) : num (l ++ [c]) k = num l k + if c.toNat = k then 1 else 0 := by
  unfold num
  rw [List.countP_append, List.countP_cons, List.countP_nil]
  simp
theorem num_cons (l : List UInt8) (c : UInt8) (k : Nat) : num (c :: l) k = num l k + if c.toNat = k then 1 else 0 := by
  unfold num
  rw [List.countP_cons]
  simp
theorem cnt_snoc {l : List UInt8} {c : UInt8} (hc : c.toNat < 16) : (cntL l).set c.toNat ((cntL l).getD c.toNat 0 + 1) = cntL (l ++ [c]) := by
  rw [cntL_get l hc]
  apply List.ext_getElem
  · simp
  · intro i h1 h2
    have hi : i < 16 := by simpa using h2
    by_cases e : c.toNat = i
    · subst e
      simp [cntL, num_snoc]
    · simp [cntL, num_snoc, e]
theorem cnt_nil : cntL [] = List.replicate 16 0 := by decide
/-- weight and number, place by place -/
def sumW (b : List Int) : Nat → Int
  | 0 => 0
  | k + 1 => sumW b k + if k = 0 then 0 else b.getD k 0 * 2 ^ (15 - k)
def cntW (b : List Int) : Nat → Int
  | 0 => 0
  | k + 1 => cntW b k + if k = 0 then 0 else b.getD k 0
theorem sumW_succ (b : List Int) {k : Nat} (hk : 1 ≤ k) : sumW b (k + 1) = sumW b k + b.getD k 0 * 2 ^ (15 - k) := by
  conv => lhs; unfold sumW
  rw [if_neg (by omega)]
theorem cntW_succ (b : List Int) {k : Nat} (hk : 1 ≤ k) : cntW b (k + 1) = cntW b k + b.getD k 0 := by
  conv => lhs; unfold cntW
  rw [if_neg (by omega)]
def Few (b : List Int) : Prop := b.length = 16 ∧ ∀ i, 0 ≤ b.getD i 0 ∧ b.getD i 0 ≤ 300
theorem Few.sum {b : List Int} (h : Few b) : ∀ k, 0 ≤ sumW b k ∧ sumW b k ≤ k * 9830400
  | 0 => by simp [sumW]
  | k + 1 => by
    have ih := h.sum k
    have hb := h.2 k
    unfold sumW
    split
    · omega
    · have h2 : (2 : Int) ^ (15 - k) ≤ 2 ^ 15 := by
        have : (2 : Nat) ^ (15 - k) ≤ 2 ^ 15 := Nat.pow_le_pow_right (by omega) (by omega)
        exact_mod_cast this
      have h3 : (0 : Int) < 2 ^ (15 - k) := Int.pow_pos (by omega)
      have h4 : 0 ≤ b.getD k 0 * 2 ^ (15 - k) := Int.mul_nonneg hb.1 (by omega)
      have h5 : b.getD k 0 * 2 ^ (15 - k) ≤ 300 * 2 ^ 15 := Int.mul_le_mul hb.2 h2 (by omega) (by omega)
      omega
theorem Few.cnt {b : List Int} (h : Few b) : ∀ k, 0 ≤ cntW b k ∧ cntW b k ≤ k * 300
  | 0 => by simp [cntW]
  | k + 1 => by
    have ih := h.cnt k
    have hb := h.2 k
    unfold cntW
    split <;> omega
theorem few_cnt {l : List UInt8} (h : l.length ≤ 300) : Few (cntL l) := by
  refine ⟨by simp, fun i => ?_⟩
  by_cases hi : i < 16
  · rw [cntL_get l hi]; have := num_le l i; omega
  · simp [List.getD, show (cntL l)[i]? = none from List.getElem?_eq_none (by simp; omega)]
theorem few_set {b : List Int} (h : Few b) (i : Nat) {x : Int} (hx : 0 ≤ x ∧ x ≤ 300) : Few (b.set i x) := by
  refine ⟨by simpa using h.1, fun j => ?_⟩
  by_cases e : i = j
  · subst e
    by_cases hi : i < b.length
    · simp [List.getD, hi, hx]
    · simp [List.getD, hi]
  · have := h.2 j
    simpa [List.getD, e] using this
/-- the lengths as the program counts them -/
def cnt0 (l : List UInt8) : List Int := (cntL l).set 0 0
theorem cnt0_get (l : List UInt8) {k : Nat} (h : k < 16) (h0 : k ≠ 0) : (cnt0 l).getD k 0 = (num l k : Int) := by
  rw [← cntL_get l h]; simp [cnt0, List.getD, Ne.symm h0]
def Fit (l : List UInt8) : Prop := l.length ≤ 300 ∧ ∀ c ∈ l, c.toNat ≤ 15
instance (l : List UInt8) : Decidable (Fit l) := inferInstanceAs (Decidable (_ ∧ _))
def Good (l : List UInt8) : Prop := Fit l ∧ (cntW (cnt0 l) 16 = 0 ∨ sumW (cnt0 l) 16 = 32768 ∨ cntW (cnt0 l) 16 = 1 ∧ (cnt0 l).getD 1 0 = 1)
instance (l : List UInt8) : Decidable (Good l) := inferInstanceAs (Decidable (_ ∧ _))
theorem good_iff {l : List UInt8} (h : Fit l) : Good l ↔ (cntW (cnt0 l) 16 = 0 ∨ sumW (cnt0 l) 16 = 32768 ∨ cntW (cnt0 l) 16 = 1 ∧ (cnt0 l).getD 1 0 = 1) := ⟨fun g => g.2, fun g => ⟨h, g⟩⟩
theorem few_cnt0 {l : List UInt8} (h : Fit l) : Few (cnt0 l) := few_set (few_cnt h.1) 0 (by omega)
def chk (l : List UInt8) : Int := if Good l then 0 else 7
/-- the document's weight -/
def kraft : List UInt8 → Nat
  | [] => 0
  | c :: r => (if c.toNat = 0 then 0 else 2 ^ (15 - c.toNat)) + kraft r
def nz (l : List UInt8) : Nat := l.countP fun c => c.toNat != 0
theorem kraft_snoc (l : List UInt8) (c : UInt8) : kraft (l ++ [c]) = kraft l + if c.toNat = 0 then 0 else 2 ^ (15 - c.toNat) := by
  induction l with
  | nil => simp [kraft]
  | cons x r ih => simp only [List.cons_append, kraft, ih]; omega
theorem kraft_le (l : List UInt8) : kraft l ≤ l.length * 32768 := by
  induction l with
  | nil => simp [kraft]
  | cons x r ih =>
    simp only [kraft, List.length_cons]
    have : (2 : Nat) ^ (15 - x.toNat) ≤ 2 ^ 15 := Nat.pow_le_pow_right (by omega) (by omega)
    split <;> omega
theorem nz_snoc (l : List UInt8) (c : UInt8) : nz (l ++ [c]) = nz l + if c.toNat = 0 then 0 else 1 := by
  unfold nz
  rw [List.countP_append, List.countP_cons, List.countP_nil]
  by_cases h : c.toNat = 0 <;> simp [h]
theorem nz_cons (l : List UInt8) (c : UInt8) : nz (c :: l) = nz l + if c.toNat = 0 then 0 else 1 := by
  unfold nz
  rw [List.countP_cons]
  by_cases h : c.toNat = 0 <;> simp [h]
theorem sum_all (l : List UInt8) : sumW (cnt0 l) 16 = (num l 1 * 16384 + num l 2 * 8192 + num l 3 * 4096 + num l 4 * 2048 + num l 5 * 1024 + num l 6 * 512 + num l 7 * 256 + num l 8 * 128 + num l 9 * 64 + num l 10 * 32 + num l 11 * 16 + num l 12 * 8 + num l 13 * 4 + num l 14 * 2 + num l 15 : Nat) := by
  simp only [sumW, cnt0_get l (show 1 < 16 by omega) (by omega), cnt0_get l (show 2 < 16 by omega) (by omega), cnt0_get l (show 3 < 16 by omega) (by omega), cnt0_get l (show 4 < 16 by omega) (by omega), cnt0_get l (show 5 < 16 by omega) (by omega), cnt0_get l (show 6 < 16 by omega) (by omega), cnt0_get l (show 7 < 16 by omega) (by omega), cnt0_get l (show 8 < 16 by omega) (by omega), cnt0_get l (show 9 < 16 by omega) (by omega), cnt0_get l (show 10 < 16 by omega) (by omega), cnt0_get l (show 11 < 16 by omega) (by omega), cnt0_get l (show 12 < 16 by omega) (by omega), cnt0_get l (show 13 < 16 by omega) (by omega), cnt0_get l (show 14 < 16 by omega) (by omega), cnt0_get l (show 15 < 16 by omega) (by omega)]
  simp
theorem cnt_all (l : List UInt8) : cntW (cnt0 l) 16 = (num l 1 + num l 2 + num l 3 + num l 4 + num l 5 + num l 6 + num l 7 + num l 8 + num l 9 + num l 10 + num l 11 + num l 12 + num l 13 + num l 14 + num l 15 : Nat) := by
  simp only [cntW, cnt0_get l (show 1 < 16 by omega) (by omega), cnt0_get l (show 2 < 16 by omega) (by omega), cnt0_get l (show 3 < 16 by omega) (by omega), cnt0_get l (show 4 < 16 by omega) (by omega), cnt0_get l (show 5 < 16 by omega) (by omega), cnt0_get l (show 6 < 16 by omega) (by omega), cnt0_get l (show 7 < 16 by omega) (by omega), cnt0_get l (show 8 < 16 by omega) (by omega), cnt0_get l (show 9 < 16 by omega) (by omega), cnt0_get l (show 10 < 16 by omega) (by omega), cnt0_get l (show 11 < 16 by omega) (by omega), cnt0_get l (show 12 < 16 by omega) (by omega), cnt0_get l (show 13 < 16 by omega) (by omega), cnt0_get l (show 14 < 16 by omega) (by omega), cnt0_get l (show 15 < 16 by omega) (by omega)]
  simp
theorem kraft_num : ∀ l : List UInt8, (∀ c ∈ l, c.toNat ≤ 15) → kraft l = num l 1 * 16384 + num l 2 * 8192 + num l 3 * 4096 + num l 4 * 2048 + num l 5 * 1024 + num l 6 * 512 + num l 7 * 256 + num l 8 * 128 + num l 9 * 64 + num l 10 * 32 + num l 11 * 16 + num l 12 * 8 + num l 13 * 4 + num l 14 * 2 + num l 15 ∧
    nz l = num l 1 + num l 2 + num l 3 + num l 4 + num l 5 + num l 6 + num l 7 + num l 8 + num l 9 + num l 10 + num l 11 + num l 12 + num l 13 + num l 14 + num l 15
  | [], _ => by simp [kraft, nz, num]
  | c :: r, h => by
    have ih := kraft_num r fun x hx => h x (by simp [hx])
    have hc := h c (by simp)
    simp only [kraft, nz_cons, num_cons, ih.1, ih.2]
    have h16 : c.toNat = 0 ∨ c.toNat = 1 ∨ c.toNat = 2 ∨ c.toNat = 3 ∨ c.toNat = 4 ∨ c.toNat = 5 ∨ c.toNat = 6 ∨ c.toNat = 7 ∨ c.toNat = 8 ∨ c.toNat = 9 ∨ c.toNat = 10 ∨ c.toNat = 11 ∨ c.toNat = 12 ∨ c.toNat = 13 ∨ c.toNat = 14 ∨ c.toNat = 15 := by omega
    generalize c.toNat = x at h16
    rcases h16 with h | h | h | h | h | h | h | h | h | h | h | h | h | h | h | h <;> subst h <;> simp <;> omega
theorem sum_kraft {l : List UInt8} (h : Fit l) : sumW (cnt0 l) 16 = (kraft l : Int) := by rw [sum_all, (kraft_num l h.2).1]
theorem cnt_nz {l : List UInt8} (h : Fit l) : cntW (cnt0 l) 16 = (nz l : Int) := by rw [cnt_all, (kraft_num l h.2).2]
theorem good_ref {l : List UInt8} (h : Fit l) : Good l ↔ (nz l = 0 ∨ nz l = 1 ∧ num l 1 = 1) ∨ kraft l = 32768 := by
  unfold Good
  rw [sum_kraft h, cnt_nz h, cnt0_get l (by omega) (by omega)]
  constructor
  · rintro ⟨_, h | h | h⟩ <;> omega
  · rintro ((h' | h') | h') <;> exact ⟨h, by omega⟩
end Go.Proofs.Ytpdnohllbijonaa
