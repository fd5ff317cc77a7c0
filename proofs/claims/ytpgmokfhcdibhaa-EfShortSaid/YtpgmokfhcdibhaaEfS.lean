/-
  A row's bytes are few: plain laws. No condition.
-/
import Derived.Test.YtpgmokfhcdibhaaEfP
namespace Go.Proofs.Ytpgmokfhcdibhaa
set_option linter.unusedVariables false
theorem lastP_all {bound p : Nat} {xs : List Nat} (h : RisN bound xs) (hn : 1 ≤ xs.length) : lastP p 0 xs ≤ (bound - 1) / p := by
  have h1 := lastP_take (p := p) (xs := xs) (k := xs.length - 1) (by omega)
  rw [show xs.length - 1 + 1 = xs.length by omega, List.take_length] at h1
  rw [h1]
  have := (h (xs.length - 1) (by omega)).1
  exact Nat.div_le_div_right (by omega)
theorem ef_short {bound : Nat} {xs : List Nat} (h : RisN bound xs) (hb : bound ≤ 20000) (hn : 1 ≤ xs.length) (hn2 : xs.length ≤ 600) : 8 * (efB bound xs).length ≤ xs.length * (wid bound xs.length + 3) + 31 := by
  have hlen := h.len
  obtain ⟨w, hw⟩ : ∃ w, w = wid bound xs.length := ⟨_, rfl⟩
  obtain ⟨p, hp⟩ : ∃ p, p = 2 ^ w := ⟨_, rfl⟩
  have hq1 : bound / xs.length ≠ 0 := by have := (Nat.le_div_iff_mul_le (x := 1) (y := bound) (k := xs.length) (by omega)).2 (by omega); omega
  have h1 := (Nat.log2_lt hq1 (k := w + 1)).1 (by rw [hw]; exact Nat.lt_succ_self _)
  have h2 : bound < 2 ^ (w + 1) * xs.length := (Nat.div_lt_iff_lt_mul (by omega)).1 h1
  have h3 : bound < p * (2 * xs.length) := by
    rw [Nat.pow_succ, ← hp, Nat.mul_assoc] at h2; exact h2
  have h4 : (bound - 1) / p < 2 * xs.length := Nat.div_lt_of_lt_mul (by omega)
  have h5 := lastP_all (p := p) h hn
  have h6 := unS_length (p := p) h xs.length (Nat.le_refl _)
  rw [List.take_length] at h6
  have h7 := loS_length p w xs
  have hel : (encN xs.length).length ≤ 2 := encN_len 1 _ (by omega)
  unfold efB
  rw [if_neg (by omega), List.length_append, packed_length, ← hw, ← hp]
  unfold efQ
  rw [List.length_append, h7, h6, show xs.length * (w + 3) = xs.length * w + xs.length * 3 from Nat.mul_add ..]
  generalize xs.length * w = z
  omega
end Go.Proofs.Ytpgmokfhcdibhaa
