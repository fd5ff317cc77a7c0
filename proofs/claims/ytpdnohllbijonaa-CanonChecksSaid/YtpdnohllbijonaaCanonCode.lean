/-
  The words of lengths as plain functions. No condition.
-/
import Derived.Test.YtpdnohllbijonaaCanonPure
namespace Go.Proofs.Ytpdnohllbijonaa
/-- the first word of each length -/
def fst (l : List UInt8) : Nat → Nat
  | 0 => 0
  | 1 => 0
  | k + 2 => (fst l (k + 1) + num l (k + 1)) * 2
theorem fst_succ (l : List UInt8) {k : Nat} (h : 1 ≤ k) : fst l (k + 1) = (fst l k + num l k) * 2 := by
  obtain ⟨j, rfl⟩ : ∃ j, k = j + 1 := ⟨k - 1, by omega⟩
  rfl
theorem fst_le {l : List UInt8} (hl : l.length ≤ 300) : ∀ k, fst l k + 600 ≤ 600 * 2 ^ k
  | 0 => by simp [fst]
  | 1 => by simp [fst]
  | k + 2 => by
    have ih := fst_le hl (k + 1)
    have hn := num_le l (k + 1)
    rw [fst_succ l (by omega), Nat.pow_succ 2 (k + 1)]
    omega
theorem fst_small {l : List UInt8} (hl : l.length ≤ 300) {k : Nat} (hk : k ≤ 16) : fst l k ≤ 39321600 := by
  have h1 := fst_le hl k
  have h2 := Nat.pow_le_pow_right (show 1 ≤ 2 by omega) hk
  omega
/-- which word a symbol has -/
def place (l : List UInt8) (k : Nat) (s : Nat) : Nat := fst l k + num (l.take s) k
def code (l : List UInt8) (s : Nat) : Int := if (l.getD s 0).toNat = 0 then 0 else IntKind.u16.wrap (place l (l.getD s 0).toNat s : Int)
def codesL (l : List UInt8) : List Int := (List.range l.length).map (code l)
@[simp] theorem codesL_length (l : List UInt8) : (codesL l).length = l.length := by simp [codesL]
theorem codesL_get (l : List UInt8) {s : Nat} (h : s < l.length) : (codesL l).getD s 0 = code l s := by
  simp [codesL, List.getD, h]
theorem num_take_succ {l : List UInt8} {s : Nat} (k : Nat) (h : s < l.length) : num (l.take (s + 1)) k = num (l.take s) k + if (l.getD s 0).toNat = k then 1 else 0 := by
  rw [take_getD h 0, num_snoc]
theorem num_take_le (l : List UInt8) (s k : Nat) : num (l.take s) k ≤ num l k := by
  unfold num
  exact List.Sublist.countP_le (List.take_sublist s l)
/-- the table of first words while it is made -/
def fstA (l : List UInt8) (k : Nat) : List Int := (List.range 17).map fun j => if j ≤ k then (fst l j : Int) else 0
@[simp] theorem fstA_length (l : List UInt8) (k : Nat) : (fstA l k).length = 17 := by simp [fstA]
theorem fstA_get (l : List UInt8) {k j : Nat} (h : j ≤ k) (h2 : j < 17) : (fstA l k).getD j 0 = (fst l j : Int) := by
  simp [fstA, List.getD, h2, h]
theorem fstA_one (l : List UInt8) : List.replicate 17 (0 : Int) = fstA l 1 := by
  have h1 : fst l 1 = 0 := rfl
  have h0 : fst l 0 = 0 := rfl
  have e : fstA l 1 = (List.range 17).map fun _ => (0 : Int) := by
    unfold fstA
    refine List.map_congr_left fun j _ => ?_
    split
    · rename_i h
      have : j = 0 ∨ j = 1 := by omega
      rcases this with rfl | rfl
      · rw [h0]; rfl
      · rw [h1]; rfl
    · rfl
  rw [e]; decide
theorem fstA_step (l : List UInt8) {k : Nat} : (fstA l k).set (k + 1) (fst l (k + 1) : Int) = fstA l (k + 1) := by
  apply List.ext_getElem
  · simp
  · intro i h1 h2
    by_cases e : k + 1 = i
    · subst e; simp [fstA]
    · have : i ≤ k ↔ i ≤ k + 1 := by omega
      simp [fstA, e, this]
/-- .. while the words are handed out -/
def fstB (l : List UInt8) (s : Nat) : List Int := (List.range 17).map fun j => if j = 0 then 0 else (place l j s : Int)
@[simp] theorem fstB_length (l : List UInt8) (k : Nat) : (fstB l k).length = 17 := by simp [fstB]
theorem fstB_get (l : List UInt8) {s j : Nat} (h : 1 ≤ j) (h2 : j < 17) : (fstB l s).getD j 0 = (place l j s : Int) := by
  have : ¬ j = 0 := by omega
  simp [fstB, List.getD, h2, this]
theorem fstB_zero (l : List UInt8) : fstA l 16 = fstB l 0 := by
  apply List.ext_getElem
  · simp
  · intro i h1 h2
    have hi : i < 17 := by simpa using h1
    by_cases e : i = 0
    · subst e; rfl
    · simp [fstA, fstB, e, place, num, show i ≤ 16 by omega]
theorem fstB_keep {l : List UInt8} {s : Nat} (h : s < l.length) (h0 : (l.getD s 0).toNat = 0) : fstB l s = fstB l (s + 1) := by
  apply List.ext_getElem
  · simp
  · intro i h1 h2
    by_cases e : i = 0
    · simp [fstB, e]
    · simp only [fstB, List.getElem_map, List.getElem_range, e, if_false, place, num_take_succ i h]
      rw [if_neg (by omega)]; rfl
theorem fstB_step {l : List UInt8} {s : Nat} (h : s < l.length) (h1 : 1 ≤ (l.getD s 0).toNat) (h2 : (l.getD s 0).toNat < 17) : (fstB l s).set (l.getD s 0).toNat ((place l (l.getD s 0).toNat s : Int) + 1) = fstB l (s + 1) := by
  apply List.ext_getElem
  · simp
  · intro i k1 k2
    by_cases e : (l.getD s 0).toNat = i
    · rw [List.getElem_set, if_pos e]
      subst e
      have hn := num_take_succ (l := l) (l.getD s 0).toNat h
      rw [if_pos rfl] at hn
      simp only [fstB, List.getElem_map, List.getElem_range, place, hn]
      rw [if_neg (by omega)]; omega
    · rw [List.getElem_set, if_neg e]
      by_cases e0 : i = 0
      · simp [fstB, e0]
      · simp only [fstB, List.getElem_map, List.getElem_range, e0, if_false, place, num_take_succ i h]
        rw [if_neg e]; rfl
theorem place_small {l : List UInt8} (hl : l.length ≤ 300) {k : Nat} (hk : k ≤ 16) (s : Nat) : place l k s ≤ 39321900 := by
  have h1 := fst_small hl hk
  have h2 := num_take_le l s k
  have h3 := num_le l k
  unfold place
  omega
/-- the words of the first s symbols, then zeros -/
def outA (l : List UInt8) (s : Nat) : List Int := (codesL l).take s ++ List.replicate (l.length - s) 0
@[simp] theorem outA_length (l : List UInt8) {s : Nat} (h : s ≤ l.length) : (outA l s).length = l.length := by simp [outA]; omega
theorem outA_zero (l : List UInt8) : outA l 0 = List.replicate l.length 0 := by simp [outA]
theorem outA_step {l : List UInt8} {s : Nat} (h : s < l.length) : (outA l s).set s (code l s) = outA l (s + 1) := by
  unfold outA
  rw [List.set_append_right _ _ (by simp; omega)]
  have e : s - ((codesL l).take s).length = 0 := by simp; omega
  rw [e, show l.length - s = (l.length - (s + 1)) + 1 by omega, List.replicate_succ, List.set_cons_zero, take_getD (l := codesL l) (k := s) (by simpa using h) 0, codesL_get l h, List.append_assoc]
  rfl
theorem outA_keep {l : List UInt8} {s : Nat} (h : s < l.length) (h0 : (l.getD s 0).toNat = 0) : outA l s = outA l (s + 1) := by
  rw [← outA_step h]
  have : code l s = 0 := if_pos h0
  rw [this]
  apply List.ext_getElem
  · simp
  · intro i k1 k2
    rw [List.getElem_set]
    split
    · rename_i e
      subst e
      have k3 : s < ((codesL l).take s ++ List.replicate (l.length - s) (0 : Int)).length := k1
      show ((codesL l).take s ++ List.replicate (l.length - s) (0 : Int))[s]'k3 = 0
      rw [List.getElem_append_right (by simp; omega)]
      simp
    · rfl
theorem outA_all (l : List UInt8) : outA l l.length = codesL l := by
  unfold outA
  rw [List.take_of_length_le (by simp)]
  simp
end Go.Proofs.Ytpdnohllbijonaa
