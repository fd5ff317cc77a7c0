/-
  A cursor over bytes as plain functions: what each reading takes, gives and leaves. No condition.
-/
import Derived.Test.YtbkaoncopohdbaaNumPure
namespace Go.Proofs.Ytbkaoncopohdbaa
/-- a number at the head of bytes: its value, how many bytes it has, or the error; i bytes were seen, acc is their value -/
def scanFrom : Nat → Nat → List UInt8 → Nat × Nat × Int
  | _, _, [] => (0, 0, 1)
  | i, acc, c :: r =>
    if i = 9 ∧ c.toNat ≠ 1 ∨ 0 < i ∧ c.toNat = 0 then (0, 0, 2)
    else if c.toNat < 128 then (acc + c.toNat % 128 * 128 ^ i, i + 1, 0)
    else scanFrom (i + 1) (acc + c.toNat % 128 * 128 ^ i) r
def scanS (l : List UInt8) : Nat × Nat × Int := scanFrom 0 0 l
/-- .. at most 'most' -/
def limS (l : List UInt8) (most : Int) : Nat × Nat × Int :=
  if (scanS l).2.2 ≠ 0 then (0, 0, (scanS l).2.2)
  else if most < 0 ∨ most < (scanS l).1 then (0, 0, 6)
  else ((scanS l).1, (scanS l).2.1, 0)
/-- a cursor: all bytes, the place, the error -/
structure Cs where
  b : List UInt8
  at_ : Nat
  e : Int
def Cs.rest (s : Cs) : List UInt8 := s.b.drop s.at_
def Cs.left (s : Cs) : Nat := s.b.length - s.at_
def Cs.failed (s : Cs) (e : Int) : Cs := if s.e = 0 then { s with e := e } else s
def Cs.moved (s : Cs) (n : Nat) (e : Int) : Cs := if s.e ≠ 0 then s else if e ≠ 0 then { s with e := e } else { s with at_ := s.at_ + n }
def Cs.num (s : Cs) : Nat := if s.e ≠ 0 then 0 else (scanS s.rest).1
def Cs.num' (s : Cs) : Cs := s.moved (scanS s.rest).2.1 (scanS s.rest).2.2
def Cs.int (s : Cs) (most : Int) : Nat := if s.e ≠ 0 then 0 else (limS s.rest most).1
def Cs.int' (s : Cs) (most : Int) : Cs := s.moved (limS s.rest most).2.1 (limS s.rest most).2.2
def takeErr (l : List UInt8) (n : Int) : Int := if n < 0 then 13 else if (l.length : Int) < n then 1 else 0
def Cs.take (s : Cs) (n : Int) : List UInt8 := if s.e ≠ 0 then [] else if takeErr s.rest n ≠ 0 then [] else s.rest.take n.toNat
def Cs.take' (s : Cs) (n : Int) : Cs := s.moved n.toNat (takeErr s.rest n)
def Cs.byte (s : Cs) : UInt8 := ((s.take 1).head?).getD 0
def Cs.byte' (s : Cs) : Cs := s.take' 1
/-- a fixed number's value -/
def leVal : List UInt8 → Nat
  | [] => 0
  | c :: r => c.toNat + 256 * leVal r
def Cs.fixed (s : Cs) (n : Int) : Nat := if n < 1 ∨ 8 < n then 0 else leVal (s.take n)
def Cs.fixed' (s : Cs) (n : Int) : Cs := if n < 1 ∨ 8 < n then s.failed 13 else s.take' n
/-- a text: its bytes, how many bytes are taken, or the error -/
def textS (l : List UInt8) (most : Int) : List UInt8 × Nat × Int :=
  if (limS l most).2.2 ≠ 0 then ([], 0, (limS l most).2.2)
  else if l.length - (limS l most).2.1 < (limS l most).1 then ([], 0, 1)
  else ((l.drop (limS l most).2.1).take (limS l most).1, (limS l most).2.1 + (limS l most).1, 0)
def Cs.text (s : Cs) (most : Int) : List UInt8 := if s.e ≠ 0 then [] else (textS s.rest most).1
def Cs.text' (s : Cs) (most : Int) : Cs := s.moved (textS s.rest most).2.1 (textS s.rest most).2.2
def Cs.end' (s : Cs) : Cs := if 0 < s.left then s.failed 2 else s

theorem scanFrom_facts : ∀ (l : List UInt8) (i acc : Nat), i ≤ 9 → acc < 128 ^ i →
    (scanFrom i acc l).1 < 18446744073709551616 ∧ (scanFrom i acc l).2.1 ≤ i + l.length ∧ 0 ≤ (scanFrom i acc l).2.2 ∧ (scanFrom i acc l).2.2 ≤ 2 := by
  intro l
  induction l with
  | nil => intro i acc _ _; simp [scanFrom]
  | cons c r ih =>
    intro i acc hi ha
    unfold scanFrom
    have hp : 128 ^ (i + 1) = 128 ^ i * 128 := Nat.pow_succ ..
    by_cases h1 : i = 9 ∧ c.toNat ≠ 1 ∨ 0 < i ∧ c.toNat = 0
    · rw [if_pos h1]; simp
    · rw [if_neg h1]
      have hstep : acc + c.toNat % 128 * 128 ^ i < 128 ^ (i + 1) := by
        have : c.toNat % 128 * 128 ^ i ≤ 127 * 128 ^ i := Nat.mul_le_mul_right _ (by omega)
        omega
      by_cases h2 : c.toNat < 128
      · rw [if_pos h2]
        refine ⟨?_, by simp only [List.length_cons]; omega, by simp, by simp⟩
        show acc + c.toNat % 128 * 128 ^ i < _
        rcases Nat.lt_or_ge i 9 with h9 | h9
        · have : 128 ^ (i + 1) ≤ 128 ^ 9 := Nat.pow_le_pow_right (by omega) (by omega)
          have e9 : (128 : Nat) ^ 9 = 9223372036854775808 := by decide +kernel
          omega
        · have h9' : i = 9 := by omega
          subst h9'
          have hc : c.toNat = 1 := by omega
          have e9 : (128 : Nat) ^ 9 = 9223372036854775808 := by decide +kernel
          have ha' : acc < 9223372036854775808 := Nat.lt_of_lt_of_eq ha e9
          rw [hc, e9]
          clear hp hstep ha e9
          omega
      · rw [if_neg h2]
        have h9 : i < 9 := by
          rcases Nat.lt_or_ge i 9 with h9 | h9
          · exact h9
          · exfalso; omega
        obtain ⟨a, b, c', d⟩ := ih (i + 1) _ (by omega) hstep
        exact ⟨a, by simp at b ⊢; omega, c', d⟩
theorem scanS_facts (l : List UInt8) : (scanS l).1 < 18446744073709551616 ∧ (scanS l).2.1 ≤ l.length ∧ 0 ≤ (scanS l).2.2 ∧ (scanS l).2.2 ≤ 2 := by
  have := scanFrom_facts l 0 0 (by omega) (by simp)
  simpa [scanS] using this
theorem limS_facts (l : List UInt8) (most : Int) (hm : most ≤ 9223372036854775807) :
    (limS l most).1 ≤ 9223372036854775807 ∧ (limS l most).2.1 ≤ l.length ∧ 0 ≤ (limS l most).2.2 ∧ ((limS l most).2.2 = 0 → ((limS l most).1 : Int) ≤ most) := by
  have h := scanS_facts l
  unfold limS
  split
  · exact ⟨by simp, by simp, h.2.2.1, fun h0 => by rename_i hne; exact absurd h0 hne⟩
  · split
    · exact ⟨by simp, by simp, by simp, by simp⟩
    · rename_i h2
      exact ⟨by simp only; omega, h.2.1, by simp, fun _ => by simp only; omega⟩
end Go.Proofs.Ytbkaoncopohdbaa
