/-
  A number's bytes are read as that number, and no others are (cut from XCurLawp). Condition: numbers fit 64 bits.
-/
import Derived.Test.YtpgmokfhcdibhaaCurPure
namespace Go.Proofs.Ytpgmokfhcdibhaa
theorem ofNat_toNat (c : UInt8) (n : Nat) (h : n = c.toNat) : UInt8.ofNat n = c := by subst h; simp
/-- bytes that are a number's are that number's only bytes -/
theorem scanFrom_enc : ∀ (l : List UInt8) (i acc : Nat), (scanFrom i acc l).2.2 = 0 →
    ∃ y, (scanFrom i acc l).1 = acc + y * 128 ^ i ∧ i ≤ (scanFrom i acc l).2.1 ∧ encN y = l.take ((scanFrom i acc l).2.1 - i) ∧ (0 < i → 0 < y) ∧ (scanFrom i acc l).2.1 ≤ i + l.length := by
  intro l
  induction l with
  | nil => intro i acc h; simp [scanFrom] at h
  | cons c r ih =>
    intro i acc h
    unfold scanFrom at h ⊢
    by_cases h1 : i = 9 ∧ c.toNat ≠ 1 ∨ 0 < i ∧ c.toNat = 0
    · rw [if_pos h1] at h; simp at h
    · rw [if_neg h1] at h ⊢
      by_cases h2 : c.toNat < 128
      · rw [if_pos h2]
        refine ⟨c.toNat, ?_, by simp, ?_, by omega, by simp only [List.length_cons]; omega⟩
        · show acc + c.toNat % 128 * 128 ^ i = _
          rw [Nat.mod_eq_of_lt h2]
        · show encN c.toNat = List.take (i + 1 - i) (c :: r)
          rw [encN_lt h2, Nat.add_sub_cancel_left]
          simp
      · rw [if_neg h2] at h ⊢
        obtain ⟨y, e1, e2, e3, e4, e5⟩ := ih _ _ h
        have hy := e4 (by omega)
        refine ⟨c.toNat % 128 + 128 * y, ?_, by omega, ?_, by omega, by simp only [List.length_cons]; omega⟩
        · rw [e1, Nat.pow_succ, Nat.add_mul, Nat.add_assoc]
          congr 2
          rw [Nat.mul_comm (128 ^ i) 128, ← Nat.mul_assoc, Nat.mul_comm y 128]
        · rw [encN_ge (by omega)]
          have hc := c.toNat_lt
          rw [show (c.toNat % 128 + 128 * y) / 128 = y by omega, e3, ofNat_toNat c _ (by omega)]
          generalize hN : (scanFrom (i + 1) (acc + c.toNat % 128 * 128 ^ i) r).2.1 = N at *
          rw [show N - i = (N - (i + 1)) + 1 by omega, List.take_succ_cons]
theorem scanS_enc {l : List UInt8} (h : (scanS l).2.2 = 0) : encN (scanS l).1 = l.take (scanS l).2.1 := by
  obtain ⟨y, e1, _, e3, _⟩ := scanFrom_enc l 0 0 h
  have : (scanS l).1 = y := by unfold scanS; rw [e1]; simp
  rw [this, e3]; rfl
/-- a number's bytes are read as that number, whatever stands behind them -/
theorem scanFrom_back (r : List UInt8) : ∀ (n y i acc : Nat), y ≤ n → y * 128 ^ i < 18446744073709551616 → (0 < i → 0 < y) →
    scanFrom i acc (encN y ++ r) = (acc + y * 128 ^ i, i + (encN y).length, 0) := by
  intro n
  induction n with
  | zero =>
    intro y i acc hy h h0
    have hy0 : y = 0 := by omega
    subst hy0
    have hi : i = 0 := by
      rcases Nat.eq_zero_or_pos i with h' | h'
      · exact h'
      · exact absurd (h0 h') (by omega)
    subst hi
    rw [encN_lt (by omega)]
    simp [scanFrom]
  | succ n ih =>
    intro y i acc hy h h0
    have hi9 : i ≤ 9 := by
      rcases Nat.lt_or_ge 9 i with h' | h'
      · exfalso
        have h1 : (128 : Nat) ^ 10 ≤ 128 ^ i := Nat.pow_le_pow_right (by omega) (by omega)
        have e : (128 : Nat) ^ 10 = 1180591620717411303424 := by decide +kernel
        rw [e] at h1
        have h2 : 1 * 128 ^ i ≤ y * 128 ^ i := Nat.mul_le_mul_right _ (h0 (by omega))
        omega
      · exact h'
    have e9 : (128 : Nat) ^ 9 = 9223372036854775808 := by decide +kernel
    have hy9 : i = 9 → y = 1 := by
      intro hi
      rw [hi, e9] at h
      have := h0 (by omega)
      omega
    by_cases hlt : y < 128
    · rw [encN_lt hlt]
      have hu := u8n y (by omega)
      show scanFrom i acc (UInt8.ofNat y :: r) = _
      unfold scanFrom
      rw [hu, if_neg (by omega), if_pos hlt, Nat.mod_eq_of_lt hlt]
      rfl
    · rw [encN_ge (by omega)]
      have hu := u8n (128 + y % 128) (by omega)
      show scanFrom i acc (UInt8.ofNat (128 + y % 128) :: (encN (y / 128) ++ r)) = _
      unfold scanFrom
      rw [hu, if_neg (by omega), if_neg (by omega), show (128 + y % 128) % 128 = y % 128 by omega]
      have hd : y = y % 128 + 128 * (y / 128) := by omega
      have hm : y * 128 ^ i = y % 128 * 128 ^ i + y / 128 * 128 ^ (i + 1) := by
        conv => lhs; rw [hd, Nat.add_mul]
        rw [Nat.pow_succ, Nat.mul_comm (128 ^ i) 128, ← Nat.mul_assoc, Nat.mul_comm (y / 128) 128]
      rw [ih (y / 128) (i + 1) _ (by omega) (by omega) (by omega), hm]
      simp only [List.length_cons]
      rw [show acc + y % 128 * 128 ^ i + y / 128 * 128 ^ (i + 1) = acc + (y % 128 * 128 ^ i + y / 128 * 128 ^ (i + 1)) by omega, show i + 1 + (encN (y / 128)).length = i + ((encN (y / 128)).length + 1) by omega]
theorem scanS_back (x : Nat) (hx : x < 18446744073709551616) (r : List UInt8) : scanS (encN x ++ r) = (x, (encN x).length, 0) := by
  have := scanFrom_back r x x 0 0 (Nat.le_refl _) (by simpa using hx) (by omega)
  simpa [scanS] using this
end Go.Proofs.Ytpgmokfhcdibhaa
