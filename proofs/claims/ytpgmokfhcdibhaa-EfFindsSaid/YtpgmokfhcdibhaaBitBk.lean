/-
  Plain laws on what was put and is read. No condition.
-/
import Derived.Test.YtpgmokfhcdibhaaBitRd
namespace Go.Proofs.Ytpgmokfhcdibhaa
set_option linter.unusedVariables false
set_option maxRecDepth 20000
theorem bitn_left {q r : List Bool} {i : Nat} (h : i < q.length) : bitn (q ++ r) i = bitn q i := by
  simp [bitn, List.getD_eq_getElem?_getD, List.getElem?_append, h]
theorem bitn_right (q r : List Bool) (i : Nat) : bitn (q ++ r) (q.length + i) = bitn r i := by
  simp [bitn, List.getD_eq_getElem?_getD, List.getElem?_append, show ¬ q.length + i < q.length by omega]
theorem hi_bit (v n : Nat) {j : Nat} (h : j < n) : bitn (hi v n n) j = v / 2 ^ (n - 1 - j) % 2 := by
  rw [bit_of]
  simp [bitn, hi, List.getD_eq_getElem?_getD, h]
theorem part_hi (q r : List Bool) (v n : Nat) (hv : v < 2 ^ n) : ∀ m, m ≤ n → part (q ++ (hi v n n ++ r)) q.length m = v / 2 ^ (n - m)
  | 0, _ => by rw [part, Nat.sub_zero, Nat.div_eq_of_lt hv]
  | m + 1, h => by
    rw [part, part_hi q r v n hv m (by omega), bitn_right, bitn_left (by rw [hi_length]; omega), hi_bit v n (by omega), show n - m = (n - 1 - m) + 1 by omega, show n - (m + 1) = n - 1 - m by omega, Nat.pow_succ, ← Nat.div_div_eq_div_mul]
    omega
theorem part_put (q r : List Bool) (v n : Nat) (hv : v < 2 ^ n) : part (q ++ (hi v n n ++ r)) q.length n = v := by
  rw [part_hi q r v n hv n (Nat.le_refl _), Nat.sub_self, Nat.pow_zero, Nat.div_one]
theorem z_run (Q : List Bool) : ∀ m p, (∀ i, i < m → bitn Q (p + i) = 0) → bitn Q (p + m) = 1 → p + m < Q.length → Z Q p = p + m
  | 0, p, _, h1, hl => z_hit h1 hl
  | m + 1, p, h0, h1, hl => by
    have := h0 0 (by omega)
    rw [z_step (by rw [Nat.add_zero] at this; omega) (by omega), z_run Q m (p + 1) (fun i hi => by rw [show p + 1 + i = p + (i + 1) by omega]; exact h0 _ (by omega)) (by rw [show p + 1 + m = p + (m + 1) by omega]; exact h1) (by omega)]
    omega
theorem un_bit (n : Nat) {j : Nat} (h : j < n) : bitn (un n) j = 0 := by
  rw [un, bitn_left (by simpa using h)]
  simp [bitn, List.getD_eq_getElem?_getD, h]
theorem un_last (n : Nat) : bitn (un n) n = 1 := by
  have := bitn_right (List.replicate n false) [true] 0
  rw [List.length_replicate, Nat.add_zero] at this
  rw [un, this]; rfl
theorem z_un (q r : List Bool) (n : Nat) : Z (q ++ (un n ++ r)) q.length = q.length + n := by
  refine z_run _ n _ (fun i hi => ?_) ?_ ?_
  · rw [bitn_right, bitn_left (by rw [un_length]; omega), un_bit n hi]
  · rw [bitn_right, bitn_left (by rw [un_length]; omega), un_last]
  · simp [un_length]; omega
theorem z_zero (Q : List Bool) : ∀ m p, p + m = Q.length → (∀ i, i < m → bitn Q (p + i) = 0) → Z Q p = Q.length
  | 0, p, h, _ => by rw [z_end (by omega)]; omega
  | m + 1, p, h, h0 => by
    have := h0 0 (by omega)
    rw [z_step (by rw [Nat.add_zero] at this; omega) (by omega)]
    exact z_zero Q m (p + 1) (by omega) (fun i hi => by rw [show p + 1 + i = p + (i + 1) by omega]; exact h0 _ (by omega))
def pad (q : List Bool) : List Bool := List.replicate (8 * ((q.length + 7) / 8) - q.length) false
theorem pad_length (q : List Bool) : (pad q).length = 8 * ((q.length + 7) / 8) - q.length := by simp [pad]
theorem toNat_inj {a b : Bool} (h : a.toNat = b.toNat) : a = b := by cases a <;> cases b <;> simp_all
theorem getD_get {q : List Bool} {i : Nat} (h : i < q.length) : bitn q i = (q[i]).toNat := by simp [bitn, List.getD_eq_getElem?_getD, h]
theorem unp_of_packed (q : List Bool) : unp (packed q) = q ++ pad q := by
  apply List.ext_getElem
  · rw [unp_length, packed_length, List.length_append, pad_length]; omega
  · intro i h1 h2
    apply toNat_inj
    rw [← getD_get h1, ← getD_get h2]
    have hl : i < 8 * (packed q).length := by rw [unp_length] at h1; exact h1
    have hl' := hl
    rw [packed_length] at hl'
    have hp : ((packed q).getD (i / 8) 0).toNat = part q (8 * (i / 8)) 8 := by rw [packed, octets_get q (by omega), octet_nat]
    rw [unp_bit _ hl, hp]
    have e := part_shift q (8 * (i / 8)) (i % 8 + 1) (7 - i % 8)
    rw [show i % 8 + 1 + (7 - i % 8) = 8 by omega] at e
    rw [e, part, show 8 * (i / 8) + i % 8 = i by omega]
    have hb := bitn_le q i
    by_cases hq : i < q.length
    · rw [bitn_left hq]; omega
    · rw [bitn_out q (by omega)]
      have := bitn_right q (pad q) (i - q.length)
      rw [show q.length + (i - q.length) = i by omega] at this
      rw [this, bitn]
      have hz : (pad q).getD (i - q.length) false = false := by
        rw [pad, List.getD_eq_getElem?_getD, List.getElem?_replicate]
        split <;> rfl
      rw [hz]
      simp
theorem z_pad (q : List Bool) : Z (q ++ pad q) q.length = (q ++ pad q).length := by
  refine z_zero _ (pad q).length _ (by simp) (fun i hi => ?_)
  rw [bitn_right, bitn]
  have hz : (pad q).getD i false = false := by
    rw [pad, List.getD_eq_getElem?_getD, List.getElem?_replicate]
    split <;> rfl
  rw [hz]; rfl
/-- a call that was taken, and its bits -/
abbrev BO := UInt8 × Nat × Int
def enc (x : BO) : List Bool := if x.1.toNat % 2 = 0 then hi x.2.1 x.2.2.toNat x.2.2.toNat else un x.2.2.toNat
def acc (x : BO) : Prop := if x.1.toNat % 2 = 0 then Puts x.2.1 x.2.2 else 0 ≤ x.2.2 ∧ x.2.2 ≤ 300
def encs (M : List BO) : List Bool := M.flatMap enc
theorem encs_snoc (M : List BO) (x : BO) : encs (M ++ [x]) = encs M ++ enc x := by simp [encs]
theorem enc_le {x : BO} (h : acc x) : (enc x).length ≤ 301 := by
  unfold enc
  unfold acc at h
  split
  · rename_i h0
    rw [if_pos h0] at h
    have := h.2.1
    rw [hi_length]; omega
  · rename_i h0
    rw [if_neg h0] at h
    rw [un_length]; omega
theorem encs_split {M : List BO} {j : Nat} (h : j < M.length) : encs M = encs (M.take j) ++ (enc (M.getD j (0, 0, 0)) ++ encs (M.drop (j + 1))) := by
  conv => lhs; rw [← List.take_append_drop j M, drop_getD h (0, 0, 0)]
  simp [encs]
theorem encs_take {M : List BO} {j : Nat} (h : j < M.length) : encs (M.take (j + 1)) = encs (M.take j) ++ enc (M.getD j (0, 0, 0)) := by
  rw [take_getD h (0, 0, 0), encs_snoc]
/-- what is read back -/
theorem read_put {M : List BO} (q : List Bool) {j : Nat} (hq : q = encs M ++ pad (encs M)) (h : j < M.length) {x : BO} (hx : x = M.getD j (0, 0, 0)) (ha : acc x) (h0 : x.1.toNat % 2 = 0) :
    gtE q (encs (M.take j)).length x.2.2 = 0 ∧ gtV q (encs (M.take j)).length x.2.2 = x.2.1 ∧ gtP q (encs (M.take j)).length x.2.2 = (encs (M.take (j + 1))).length := by
  unfold acc at ha
  rw [if_pos h0] at ha
  obtain ⟨ha1, ha2, ha3⟩ := ha
  have he : enc x = hi x.2.1 x.2.2.toNat x.2.2.toNat := if_pos h0
  have hl : (encs (M.take (j + 1))).length = (encs (M.take j)).length + x.2.2.toNat := by rw [encs_take h, ← hx, he, List.length_append, hi_length]
  have hs : q = encs (M.take j) ++ (hi x.2.1 x.2.2.toNat x.2.2.toNat ++ (encs (M.drop (j + 1)) ++ pad (encs M))) := by
    rw [hq, ← he, hx]
    generalize pad (encs M) = P
    rw [encs_split h]
    simp [List.append_assoc]
  have hql : (encs (M.take j)).length + x.2.2.toNat ≤ q.length := by
    rw [hs]; simp [hi_length]
  have hp := part_put (encs (M.take j)) (encs (M.drop (j + 1)) ++ pad (encs M)) x.2.1 x.2.2.toNat ha3
  rw [← hs] at hp
  unfold gtE gtV gtP
  rw [if_neg (by omega), if_neg (by omega), if_neg (by omega), if_neg (by omega), if_neg (by omega), if_neg (by omega)]
  exact ⟨rfl, hp, hl.symm⟩
theorem read_un {M : List BO} (q : List Bool) {j : Nat} (hq : q = encs M ++ pad (encs M)) (h : j < M.length) {x : BO} (hx : x = M.getD j (0, 0, 0)) (ha : acc x) (h0 : ¬ x.1.toNat % 2 = 0) :
    unR q (encs (M.take j)).length = 0 ∧ unV q (encs (M.take j)).length = x.2.2 ∧ unP q (encs (M.take j)).length = (encs (M.take (j + 1))).length := by
  unfold acc at ha
  rw [if_neg h0] at ha
  obtain ⟨ha1, ha2⟩ := ha
  have he : enc x = un x.2.2.toNat := if_neg h0
  have hl : (encs (M.take (j + 1))).length = (encs (M.take j)).length + (x.2.2.toNat + 1) := by rw [encs_take h, ← hx, he, List.length_append, un_length]
  have hs : q = encs (M.take j) ++ (un x.2.2.toNat ++ (encs (M.drop (j + 1)) ++ pad (encs M))) := by
    rw [hq, ← he, hx]
    generalize pad (encs M) = P
    rw [encs_split h]
    simp [List.append_assoc]
  have hql : (encs (M.take j)).length + x.2.2.toNat < q.length := by
    rw [hs]; simp [un_length]; omega
  have hz := z_un (encs (M.take j)) (encs (M.drop (j + 1)) ++ pad (encs M)) x.2.2.toNat
  rw [← hs] at hz
  unfold unR unV unP
  rw [if_pos (by omega), if_pos (by omega), if_pos (by omega), hz]
  exact ⟨rfl, by omega, by omega⟩
theorem read_pad (q : List Bool) : paE (q ++ pad q) q.length = 0 := by
  unfold paE
  have := pad_length q
  rw [if_pos ⟨by rw [List.length_append]; omega, z_pad q⟩]
theorem acc_bd {x : BO} (h : acc x) : 0 ≤ x.2.2 ∧ x.2.2 ≤ 300 := by
  unfold acc at h
  split at h
  · exact ⟨h.1, by have := h.2.1; omega⟩
  · exact h
end Go.Proofs.Ytpgmokfhcdibhaa
