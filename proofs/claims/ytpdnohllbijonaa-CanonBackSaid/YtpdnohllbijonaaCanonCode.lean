/-
  The words of lengths as plain functions. No condition.
-/
import Derived.Test.YtpdnohllbijonaaCanonPure
namespace Go.Proofs.Ytpdnohllbijonaa
theorem tmod_nat (i n : Nat) : (i : Int).tmod (n : Int) = ((i % n : Nat) : Int) := rfl
/-- the first word of each length -/
def fst (l : List UInt8) : Nat → Nat
  | 0 => 0
  | 1 => 0
  | k + 2 => (fst l (k + 1) + num l (k + 1)) * 2
theorem fst_succ (l : List UInt8) {k : Nat} (h : 1 ≤ k) : fst l (k + 1) = (fst l k + num l k) * 2 := by
  obtain ⟨j, rfl⟩ : ∃ j, k = j + 1 := ⟨k - 1, by omega⟩
  rfl
theorem fst_le {l : List UInt8} (hl : l.length ≤ 300) : ∀ k, fst l k + 600 ≤ 600 * 2 ^ k
  | 0 => by simp [fst]
  | 1 => by simp [fst]
  | k + 2 => by
    have ih := fst_le hl (k + 1)
    have hn := num_le l (k + 1)
    rw [fst_succ l (by omega), Nat.pow_succ 2 (k + 1)]
    omega
theorem fst_small {l : List UInt8} (hl : l.length ≤ 300) {k : Nat} (hk : k ≤ 16) : fst l k ≤ 39321600 := by
  have h1 := fst_le hl k
  have h2 := Nat.pow_le_pow_right (show 1 ≤ 2 by omega) hk
  omega
/-- which word a symbol has -/
def place (l : List UInt8) (k : Nat) (s : Nat) : Nat := fst l k + num (l.take s) k
def code (l : List UInt8) (s : Nat) : Int := if (l.getD s 0).toNat = 0 then 0 else IntKind.u16.wrap (place l (l.getD s 0).toNat s : Int)
def codesL (l : List UInt8) : List Int := (List.range l.length).map (code l)
@[simp] theorem codesL_length (l : List UInt8) : (codesL l).length = l.length := by simp [codesL]
theorem codesL_get (l : List UInt8) {s : Nat} (h : s < l.length) : (codesL l).getD s 0 = code l s := by
  simp [codesL, List.getD, h]
theorem num_take_succ {l : List UInt8} {s : Nat} (k : Nat) (h : s < l.length) : num (l.take (s + 1)) k = num (l.take s) k + if (l.getD s 0).toNat = k then 1 else 0 := by
  rw [take_getD h 0, num_snoc]
theorem num_take_le (l : List UInt8) (s k : Nat) : num (l.take s) k ≤ num l k := by
  unfold num
  exact List.Sublist.countP_le (List.take_sublist s l)
/-- the table of first words while it is made -/
def fstA (l : List UInt8) (k : Nat) : List Int := (List.range 17).map fun j => if j ≤ k then (fst l j : Int) else 0
@[simp] theorem fstA_length (l : List UInt8) (k : Nat) : (fstA l k).length = 17 := by simp [fstA]
theorem fstA_get (l : List UInt8) {k j : Nat} (h : j ≤ k) (h2 : j < 17) : (fstA l k).getD j 0 = (fst l j : Int) := by
  simp [fstA, List.getD, h2, h]
theorem fstA_one (l : List UInt8) : List.replicate 17 (0 : Int) = fstA l 1 := by
  have h1 : fst l 1 = 0 := rfl
  have h0 : fst l 0 = 0 := rfl
  have e : fstA l 1 = (List.range 17).map fun _ => (0 : Int) := by
    unfold fstA
    refine List.map_congr_left fun j _ => ?_
    split
    · rename_i h
      have : j = 0 ∨ j = 1 := by omega
      rcases this with rfl | rfl
      · rw [h0]; rfl
      · rw [h1]; rfl
    · rfl
  rw [e]; decide
theorem fstA_step (l : List UInt8) {k : Nat} : (fstA l k).set (k + 1) (fst l (k + 1) : Int) = fstA l (k + 1) := by
  apply List.ext_getElem
  · simp
  · intro i h1 h2
    by_cases e : k + 1 = i
    · subst e; simp [fstA]
    · have : i ≤ k ↔ i ≤ k + 1 := by omega
      simp [fstA, e, this]
/-- .. while the words are handed out -/
def fstB (l : List UInt8) (s : Nat) : List Int := (List.range 17).map fun j => if j = 0 then 0 else (place l j s : Int)
@[simp] theorem fstB_length (l : List UInt8) (k : Nat) : (fstB l k).length = 17 := by simp [fstB]
theorem fstB_get (l : List UInt8) {s j : Nat} (h : 1 ≤ j) (h2 : j < 17) : (fstB l s).getD j 0 = (place l j s : Int) := by
  have : ¬ j = 0 := by omega
  simp [fstB, List.getD, h2, this]
theorem fstB_zero (l : List UInt8) : fstA l 16 = fstB l 0 := by
  apply List.ext_getElem
  · simp
  · intro i h1 h2
    have hi : i < 17 := by simpa using h1
    by_cases e : i = 0
    · subst e; rfl
    · simp [fstA, fstB, e, place, num, show i ≤ 16 by omega]
theorem fstB_keep {l : List UInt8} {s : Nat} (h : s < l.length) (h0 : (l.getD s 0).toNat = 0) : fstB l s = fstB l (s + 1) := by
  apply List.ext_getElem
  · simp
  · intro i h1 h2
    by_cases e : i = 0
    · simp [fstB, e]
    · simp only [fstB, List.getElem_map, List.getElem_range, e, if_false, place, num_take_succ i h]
      rw [if_neg (by omega)]; rfl
theorem fstB_step {l : List UInt8} {s : Nat} (h : s < l.length) (h1 : 1 ≤ (l.getD s 0).toNat) (h2 : (l.getD s 0).toNat < 17) : (fstB l s).set (l.getD s 0).toNat ((place l (l.getD s 0).toNat s : Int) + 1) = fstB l (s + 1) := by
  apply List.ext_getElem
  · simp
  · intro i k1 k2
    by_cases e : (l.getD s 0).toNat = i
    · rw [List.getElem_set, if_pos e]
      subst e
      have hn := num_take_succ (l := l) (l.getD s 0).toNat h
      rw [if_pos rfl] at hn
      simp only [fstB, List.getElem_map, List.getElem_range, place, hn]
      rw [if_neg (by omega)]; omega
    · rw [List.getElem_set, if_neg e]
      by_cases e0 : i = 0
      · simp [fstB, e0]
      · simp only [fstB, List.getElem_map, List.getElem_range, e0, if_false, place, num_take_succ i h]
        rw [if_neg e]; rfl
theorem place_small {l : List UInt8} (hl : l.length ≤ 300) {k : Nat} (hk : k ≤ 16) (s : Nat) : place l k s ≤ 39321900 := by
  have h1 := fst_small hl hk
  have h2 := num_take_le l s k
  have h3 := num_le l k
  unfold place
  omega
/-- the words of the first s symbols, then zeros -/
def outA (l : List UInt8) (s : Nat) : List Int := (codesL l).take s ++ List.replicate (l.length - s) 0
@[simp] theorem outA_length (l : List UInt8) {s : Nat} (h : s ≤ l.length) : (outA l s).length = l.length := by simp [outA]; omega
theorem outA_zero (l : List UInt8) : outA l 0 = List.replicate l.length 0 := by simp [outA]
theorem outA_step {l : List UInt8} {s : Nat} (h : s < l.length) : (outA l s).set s (code l s) = outA l (s + 1) := by
  unfold outA
  rw [List.set_append_right _ _ (by simp; omega)]
  have e : s - ((codesL l).take s).length = 0 := by simp; omega
  rw [e, show l.length - s = (l.length - (s + 1)) + 1 by omega, List.replicate_succ, List.set_cons_zero, take_getD (l := codesL l) (k := s) (by simpa using h) 0, codesL_get l h, List.append_assoc]
  rfl
theorem outA_keep {l : List UInt8} {s : Nat} (h : s < l.length) (h0 : (l.getD s 0).toNat = 0) : outA l s = outA l (s + 1) := by
  rw [← outA_step h]
  have : code l s = 0 := if_pos h0
  rw [this]
  apply List.ext_getElem
  · simp
  · intro i k1 k2
    rw [List.getElem_set]
    split
    · rename_i e
      subst e
      have k3 : s < ((codesL l).take s ++ List.replicate (l.length - s) (0 : Int)).length := k1
      show ((codesL l).take s ++ List.replicate (l.length - s) (0 : Int))[s]'k3 = 0
      rw [List.getElem_append_right (by simp; omega)]
      simp
    · rfl
theorem outA_all (l : List UInt8) : outA l l.length = codesL l := by
  unfold outA
  rw [List.take_of_length_le (by simp)]
  simp
/-- the document's words: those of the lesser lengths, and of length L those of the first s symbols -/
def doneR (l : List UInt8) (L s j : Nat) : Prop := (l.getD j 0).toNat ≠ 0 ∧ ((l.getD j 0).toNat < L ∨ (l.getD j 0).toNat = L ∧ j < s)
instance (l : List UInt8) (L s j : Nat) : Decidable (doneR l L s j) := inferInstanceAs (Decidable (_ ∧ _))
def outR (l : List UInt8) (L s : Nat) : List Int := (List.range l.length).map fun j => if doneR l L s j then code l j else 0
@[simp] theorem outR_length (l : List UInt8) (L s : Nat) : (outR l L s).length = l.length := by simp [outR]
theorem outR_congr {l : List UInt8} {L s L' s' : Nat} (h : ∀ j, j < l.length → (doneR l L s j ↔ doneR l L' s' j)) : outR l L s = outR l L' s' := by
  unfold outR
  refine List.map_congr_left fun j hj => ?_
  have := h j (by simpa using hj)
  by_cases hd : doneR l L s j
  · rw [if_pos hd, if_pos (this.1 hd)]
  · rw [if_neg hd, if_neg (fun h => hd (this.2 h))]
theorem outR_zero (l : List UInt8) : outR l 1 0 = List.replicate l.length 0 := by
  apply List.ext_getElem
  · simp
  · intro i h1 h2
    have : ¬ doneR l 1 0 i := fun h => by unfold doneR at h; omega
    simp [outR, this]
theorem outR_miss {l : List UInt8} {L s : Nat} (h : (l.getD s 0).toNat ≠ L) : outR l L s = outR l L (s + 1) :=
  outR_congr fun j hj => by
    unfold doneR
    by_cases e : j = s
    · subst e; omega
    · omega
theorem outR_next (l : List UInt8) (L : Nat) : outR l L l.length = outR l (L + 1) 0 :=
  outR_congr fun j hj => by unfold doneR; omega
theorem outR_hit {l : List UInt8} {L s : Nat} (hs : s < l.length) (h : (l.getD s 0).toNat = L) (hL : 1 ≤ L) : (outR l L s).set s (code l s) = outR l L (s + 1) := by
  apply List.ext_getElem
  · simp
  · intro i h1 h2
    by_cases e : s = i
    · subst e
      have : doneR l L (s + 1) s := ⟨by omega, .inr ⟨h, by omega⟩⟩
      simp [outR, this]
    · have : doneR l L s i ↔ doneR l L (s + 1) i := by unfold doneR; omega
      simp [outR, e, this]
theorem outR_all {l : List UInt8} (h : ∀ c ∈ l, c.toNat ≤ 15) : outR l 16 0 = codesL l := by
  unfold outR codesL
  refine List.map_congr_left fun j hj => ?_
  have hj' : j < l.length := by simpa using hj
  have hu := h _ (getD_mem hj' 0)
  by_cases h0 : (l.getD j 0).toNat = 0
  · rw [if_neg (fun hd => hd.1 h0)]
    exact (if_pos h0).symm
  · rw [if_pos ⟨h0, .inl (by omega)⟩]
theorem place_hit {l : List UInt8} {L s : Nat} (hs : s < l.length) (h : (l.getD s 0).toNat = L) : place l L (s + 1) = place l L s + 1 := by
  unfold place; rw [num_take_succ L hs, if_pos h]; omega
theorem place_miss {l : List UInt8} {L s : Nat} (hs : s < l.length) (h : (l.getD s 0).toNat ≠ L) : place l L (s + 1) = place l L s := by
  unfold place; rw [num_take_succ L hs, if_neg h]; omega
theorem place_next {l : List UInt8} {L : Nat} (hL : 1 ≤ L) : place l (L + 1) 0 = 2 * place l L l.length := by
  unfold place; rw [fst_succ l hL, List.take_length]; simp [num]; omega
/-- what the document knows of the last word -/
def RC (l : List UInt8) (L s next was : Nat) (any : Bool) : Prop := was ≤ L ∧ (any = true → (next + 1) * 2 ^ (L - was) = place l L s) ∧ (any = false → place l L s = 0 ∧ next = 0)
theorem RC.start (l : List UInt8) : RC l 1 0 0 0 false := ⟨by omega, (fun h => by cases h), fun _ => ⟨by simp [place, fst, num], rfl⟩⟩
theorem RC.miss {l : List UInt8} {L s next was : Nat} {any : Bool} (h : RC l L s next was any) (hs : s < l.length) (hn : (l.getD s 0).toNat ≠ L) : RC l L (s + 1) next was any := by
  unfold RC at *
  rw [place_miss hs hn]; exact h
theorem RC.hit {l : List UInt8} {L s : Nat} (hs : s < l.length) (hn : (l.getD s 0).toNat = L) : RC l L (s + 1) (place l L s) L true :=
  ⟨Nat.le_refl _, (fun _ => by rw [place_hit hs hn]; simp), (fun h => by cases h)⟩
theorem RC.next {l : List UInt8} {L next was : Nat} {any : Bool} (h : RC l L l.length next was any) (hL : 1 ≤ L) : RC l (L + 1) 0 next was any := by
  obtain ⟨h1, h2, h3⟩ := h
  refine ⟨by omega, fun h => ?_, fun h => ?_⟩
  · rw [place_next hL, ← h2 h, show L + 1 - was = (L - was) + 1 by omega, Nat.pow_succ]
    rw [← Nat.mul_assoc, Nat.mul_comm]
  · rw [place_next hL, (h3 h).1]; exact ⟨rfl, (h3 h).2⟩
theorem kraft_good {l : List UInt8} (h : Good l) : kraft l ≤ 32768 := by
  have h1 := (good_ref h.1).1 h
  have h2 := kraft_num l h.1.2
  omega
theorem fst_bound {l : List UInt8} (h : Good l) {k : Nat} (h1 : 1 ≤ k) (h2 : k ≤ 15) : fst l k + num l k ≤ 2 ^ k := by
  have hk := kraft_good h
  have e := (kraft_num l h.1.2).1
  have e1 : fst l 1 = 0 := rfl
  have e2 := fst_succ l (k := 1) (by omega)
  have e3 := fst_succ l (k := 2) (by omega)
  have e4 := fst_succ l (k := 3) (by omega)
  have e5 := fst_succ l (k := 4) (by omega)
  have e6 := fst_succ l (k := 5) (by omega)
  have e7 := fst_succ l (k := 6) (by omega)
  have e8 := fst_succ l (k := 7) (by omega)
  have e9 := fst_succ l (k := 8) (by omega)
  have e10 := fst_succ l (k := 9) (by omega)
  have e11 := fst_succ l (k := 10) (by omega)
  have e12 := fst_succ l (k := 11) (by omega)
  have e13 := fst_succ l (k := 12) (by omega)
  have e14 := fst_succ l (k := 13) (by omega)
  have e15 := fst_succ l (k := 14) (by omega)
  have hc : k = 1 ∨ k = 2 ∨ k = 3 ∨ k = 4 ∨ k = 5 ∨ k = 6 ∨ k = 7 ∨ k = 8 ∨ k = 9 ∨ k = 10 ∨ k = 11 ∨ k = 12 ∨ k = 13 ∨ k = 14 ∨ k = 15 := by omega
  rcases hc with h | h | h | h | h | h | h | h | h | h | h | h | h | h | h <;> subst h <;> simp only [Nat.reduceAdd, Nat.reducePow] at * <;> omega
theorem num_mono (l : List UInt8) {s t : Nat} (k : Nat) (h : s ≤ t) : num (l.take s) k ≤ num (l.take t) k := by
  unfold num
  exact List.Sublist.countP_le (List.take_sublist_take_left h)
theorem place_lt {l : List UInt8} {s k : Nat} (hs : s < l.length) (h : (l.getD s 0).toNat = k) : place l k s + 1 ≤ fst l k + num l k := by
  have h1 := place_hit hs h
  have h2 := num_take_le l (s + 1) k
  unfold place at *
  omega
theorem place_ge (l : List UInt8) (k s : Nat) : fst l k ≤ place l k s := Nat.le_add_right _ _
theorem fst_far (l : List UInt8) {k : Nat} (h : 1 ≤ k) : ∀ d, 1 ≤ d → (fst l k + num l k) * 2 ^ d ≤ fst l (k + d)
  | 0, h => absurd h (by omega)
  | 1, _ => by rw [fst_succ l h]; omega
  | d + 2, _ => by
    have ih := fst_far l h (d + 1) (by omega)
    have e : fst l (k + (d + 2)) = (fst l (k + (d + 1)) + num l (k + (d + 1))) * 2 := fst_succ l (k := k + (d + 1)) (by omega)
    rw [e, show d + 2 = (d + 1) + 1 from rfl, Nat.pow_succ, ← Nat.mul_assoc]
    exact Nat.mul_le_mul_right 2 (Nat.le_trans ih (Nat.le_add_right _ _))
theorem code_val {l : List UInt8} (hg : Good l) {s : Nat} (hs : s < l.length) (h0 : (l.getD s 0).toNat ≠ 0) : code l s = (place l (l.getD s 0).toNat s : Int) := by
  unfold code
  rw [if_neg h0]
  have hu := hg.1.2 _ (getD_mem hs 0)
  have h1 := place_lt hs rfl
  have h2 := fst_bound hg (k := (l.getD s 0).toNat) (by omega) hu
  have h3 := Nat.pow_le_pow_right (show 1 ≤ 2 by omega) hu
  exact w_u16 (by omega) (by omega)
theorem code_small {l : List UInt8} (hg : Good l) {s : Nat} (hs : s < l.length) (h0 : (l.getD s 0).toNat ≠ 0) : place l (l.getD s 0).toNat s < 32768 := by
  have hu := hg.1.2 _ (getD_mem hs 0)
  have h1 := place_lt hs rfl
  have h2 := fst_bound hg (k := (l.getD s 0).toNat) (by omega) hu
  have h3 := Nat.pow_le_pow_right (show 1 ≤ 2 by omega) hu
  omega
/-- the lesser word, made longer, is below the other one -/
theorem order_codes {l : List UInt8} {a b : Nat} (ha : a < l.length) (h1 : (l.getD a 0).toNat ≠ 0) (h : (l.getD a 0).toNat < (l.getD b 0).toNat ∨ (l.getD a 0).toNat = (l.getD b 0).toNat ∧ a < b) :
    (place l (l.getD a 0).toNat a + 1) * 2 ^ ((l.getD b 0).toNat - (l.getD a 0).toNat) ≤ place l (l.getD b 0).toNat b := by
  have hp := place_lt ha rfl
  rcases h with h | ⟨h, hab⟩
  · have hf := fst_far l (k := (l.getD a 0).toNat) (by omega) ((l.getD b 0).toNat - (l.getD a 0).toNat) (by omega)
    rw [show (l.getD a 0).toNat + ((l.getD b 0).toNat - (l.getD a 0).toNat) = (l.getD b 0).toNat by omega] at hf
    have hg := place_ge l (l.getD b 0).toNat b
    have := Nat.mul_le_mul_right (2 ^ ((l.getD b 0).toNat - (l.getD a 0).toNat)) hp
    omega
  · rw [← h, Nat.sub_self, Nat.pow_zero, Nat.mul_one, ← place_hit ha rfl]
    have := num_mono l (l.getD a 0).toNat (show a + 1 ≤ b by omega)
    unfold place
    omega
theorem apart_codes {l : List UInt8} {a b : Nat} (ha : a < l.length) (hb : b < l.length) (h1 : (l.getD a 0).toNat ≠ 0) (hab : a ≠ b) (h : (l.getD a 0).toNat ≤ (l.getD b 0).toNat) :
    place l (l.getD b 0).toNat b / 2 ^ ((l.getD b 0).toNat - (l.getD a 0).toNat) ≠ place l (l.getD a 0).toNat a := by
  by_cases hc : (l.getD a 0).toNat < (l.getD b 0).toNat ∨ (l.getD a 0).toNat = (l.getD b 0).toNat ∧ a < b
  · have ho := order_codes ha h1 hc
    have := (Nat.le_div_iff_mul_le (Nat.two_pow_pos _)).2 ho
    omega
  · have he : (l.getD b 0).toNat = (l.getD a 0).toNat := by omega
    have ho := order_codes (a := b) (b := a) hb (by omega) (.inr ⟨he, by omega⟩)
    rw [he, Nat.sub_self, Nat.pow_zero, Nat.mul_one] at ho
    rw [he, Nat.sub_self, Nat.pow_zero, Nat.div_one]
    omega
theorem le_pow {y k p : Nat} (h : y * 2 ^ k = p) : y ≤ p := by
  rw [← h]; exact Nat.le_mul_of_pos_right y (Nat.two_pow_pos k)
theorem pow_more {y j L p : Nat} (h : y * 2 ^ (L - j) = p) (hj : j < L) : 2 * y * 2 ^ (L - (j + 1)) = p := by
  rw [← h, show L - j = (L - (j + 1)) + 1 by omega, Nat.pow_succ, Nat.mul_comm 2 y, Nat.mul_assoc, Nat.mul_comm 2]
end Go.Proofs.Ytpdnohllbijonaa
