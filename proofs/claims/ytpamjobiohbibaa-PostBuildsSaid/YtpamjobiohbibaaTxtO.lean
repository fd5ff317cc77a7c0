/-
  The order of texts, rising rows of them, places and ranges: plain functions. No condition.
-/
import Derived.Test.YtpamjobiohbibaaDictP
namespace Go.Proofs.Ytpamjobiohbibaa
open Go.RowKit
set_option linter.unusedVariables false
set_option maxRecDepth 20000
def ltT (a b : Txt) : Prop := Op.bytesLess a b = true
instance (a b : Txt) : Decidable (ltT a b) := inferInstanceAs (Decidable (_ = _))
theorem not_ltT_nil (a : Txt) : ¬ ltT a [] := by cases a <;> simp [ltT, Op.bytesLess]
theorem ltT_nil_cons (b : UInt8) (y : Txt) : ltT [] (b :: y) := rfl
theorem ltT_cons {a b : UInt8} {x y : Txt} : ltT (a :: x) (b :: y) ↔ a < b ∨ a = b ∧ ltT x y := by simp [ltT, Op.bytesLess]
theorem u8_lt {a b : UInt8} : a < b ↔ a.toNat < b.toNat := UInt8.lt_iff_toNat_lt
theorem u8_eq {a b : UInt8} : a = b ↔ a.toNat = b.toNat := UInt8.toNat_inj.symm
theorem ltT_irrefl : ∀ a : Txt, ¬ ltT a a
  | [] => not_ltT_nil _
  | a :: x => by
    rw [ltT_cons, u8_lt]
    have := ltT_irrefl x
    rintro (h | ⟨_, h⟩)
    · omega
    · exact this h
theorem ltT_trans : ∀ {a b c : Txt}, ltT a b → ltT b c → ltT a c
  | _, _, [], _, h => absurd h (not_ltT_nil _)
  | _, [], _ :: _, h, _ => absurd h (not_ltT_nil _)
  | [], _ :: _, c :: z, _, _ => ltT_nil_cons c z
  | a :: x, b :: y, c :: z, h1, h2 => by
    rw [ltT_cons, u8_lt] at *
    rw [u8_eq] at *
    rcases h1 with h1 | ⟨h1, h1'⟩ <;> rcases h2 with h2 | ⟨h2, h2'⟩
    · left; omega
    · left; omega
    · left; omega
    · exact .inr ⟨by omega, ltT_trans h1' h2'⟩
theorem ltT_total : ∀ a b : Txt, ltT a b ∨ a = b ∨ ltT b a
  | [], [] => .inr (.inl rfl)
  | [], b :: y => .inl (ltT_nil_cons b y)
  | a :: x, [] => .inr (.inr (ltT_nil_cons a x))
  | a :: x, b :: y => by
    rw [ltT_cons, ltT_cons, u8_lt, u8_lt, List.cons.injEq, u8_eq, u8_eq]
    rcases Nat.lt_trichotomy a.toNat b.toNat with h | h | h
    · exact .inl (.inl h)
    · rcases ltT_total x y with h1 | h1 | h1
      · exact .inl (.inr ⟨h, h1⟩)
      · exact .inr (.inl ⟨h, h1⟩)
      · exact .inr (.inr (.inr ⟨h.symm, h1⟩))
    · exact .inr (.inr (.inl h))
theorem leT_lt {s r : Txt} : leT s r ↔ ltT s r ∨ s = r := Iff.rfl
theorem not_leT {s r : Txt} : ¬ leT s r ↔ ltT r s := by
  rw [leT_lt]
  constructor
  · intro h
    rcases ltT_total s r with h1 | h1 | h1
    · exact absurd (.inl h1) h
    · exact absurd (.inr h1) h
    · exact h1
  · rintro h (h1 | h1)
    · exact ltT_irrefl _ (ltT_trans h h1)
    · subst h1; exact ltT_irrefl _ h
theorem not_ltT {s r : Txt} : ¬ ltT s r ↔ leT r s := by rw [← not_leT, Classical.not_not]
theorem leT_ltT {a b c : Txt} (h : leT a b) (k : ltT b c) : ltT a c := h.elim (fun h => ltT_trans h k) (fun h => h ▸ k)
theorem ltT_leT {a b c : Txt} (h : ltT a b) (k : leT b c) : ltT a c := k.elim (fun k => ltT_trans h k) (fun k => k ▸ h)
theorem leT_refl (a : Txt) : leT a a := .inr rfl
theorem RisT.lt {l : List Txt} (h : RisT l) : ∀ (j i : Nat), i < j → j < l.length → ltT (l.getD i []) (l.getD j [])
  | 0, i, hij, _ => absurd hij (by omega)
  | j + 1, i, hij, hj => by
    have h1 := (h.1 (j + 1) hj).2.2
    rw [prvT_succ, not_leT] at h1
    by_cases e : i = j
    · rw [e]; exact h1
    · exact ltT_trans (RisT.lt h j i (by omega) (by omega)) h1
theorem RisT.le' {l : List Txt} (h : RisT l) {i j : Nat} (hij : i ≤ j) (hj : j < l.length) : leT (l.getD i []) (l.getD j []) := by
  rcases Nat.lt_or_ge i j with h1 | h1
  · exact .inl (h.lt j i h1 hj)
  · rw [show i = j by omega]; exact leT_refl _
theorem RisT.inj {l : List Txt} (h : RisT l) {i j : Nat} (hi : i < l.length) (hj : j < l.length) (he : l.getD i [] = l.getD j []) : i = j := by
  rcases Nat.lt_trichotomy i j with h1 | h1 | h1
  · exact absurd (he ▸ h.lt j i h1 hj) (ltT_irrefl _)
  · exact h1
  · exact absurd (he ▸ h.lt i j h1 hi) (ltT_irrefl _)
/-- the place of the first text that isn't below s -/
def plK (l : List Txt) (s : Txt) (k : Nat) : Prop := k ≤ l.length ∧ (∀ i, i < k → ltT (l.getD i []) s) ∧ (∀ i, k ≤ i → i < l.length → ¬ ltT (l.getD i []) s)
/-- a text begins with another one -/
def bgT (x s : Txt) : Prop := s.length ≤ x.length ∧ x.take s.length = s
instance (x s : Txt) : Decidable (bgT x s) := inferInstanceAs (Decidable (_ ∧ _))
theorem bgT_nil (x : Txt) : bgT x [] := ⟨Nat.zero_le _, rfl⟩
theorem bgT_cons {a b : UInt8} {x s : Txt} : bgT (a :: x) (b :: s) ↔ a = b ∧ bgT x s := by
  unfold bgT
  simp only [List.length_cons, List.take_succ_cons, List.cons.injEq, Nat.add_le_add_iff_right]
  exact ⟨fun h => ⟨h.2.1, h.1, h.2.2⟩, fun h => ⟨h.2.1, h.1, h.2.2⟩⟩
theorem not_bgT_nil {b : UInt8} {s : Txt} : ¬ bgT [] (b :: s) := fun h => absurd h.1 (by simp)
theorem bgT_ge : ∀ {x s : Txt}, bgT x s → ¬ ltT x s
  | x, [], _ => not_ltT_nil x
  | [], b :: s, h => absurd h not_bgT_nil
  | a :: x, b :: s, h => by
    obtain ⟨h1, h2⟩ := bgT_cons.1 h
    rw [ltT_cons, u8_lt, u8_eq]
    have := bgT_ge h2
    rw [u8_eq] at h1
    rintro (h | ⟨_, h⟩)
    · omega
    · exact this h
theorem bgT_past : ∀ {s x y : Txt}, leT s x → ¬ bgT x s → ltT x y → ¬ bgT y s
  | [], x, y, _, h, _ => absurd (bgT_nil x) h
  | c :: s, [], y, h, _, _ => absurd h (by rw [leT_lt]; rintro (h | h); exact not_ltT_nil _ h; simp at h)
  | c :: s, d :: x, [], _, _, h => absurd h (not_ltT_nil _)
  | c :: s, d :: x, e :: y, h1, h2, h3 => by
    rw [leT_lt, ltT_cons, List.cons.injEq, u8_lt, u8_eq] at h1
    rw [bgT_cons, u8_eq] at h2
    rw [ltT_cons, u8_lt, u8_eq] at h3
    rw [bgT_cons, u8_eq]
    rintro ⟨h4, h5⟩
    by_cases hcd : c.toNat = d.toNat
    · have hle : leT s x := by
        rcases h1 with (h1 | ⟨_, h1⟩) | ⟨_, h1⟩
        · omega
        · exact .inl h1
        · exact .inr h1
      have hn : ¬ bgT x s := fun h => h2 ⟨hcd.symm, h⟩
      rcases h3 with h3 | ⟨_, h3⟩
      · omega
      · exact bgT_past hle hn h3 h5
    · rcases h1 with (h1 | ⟨h1, _⟩) | ⟨h1, _⟩
      · rcases h3 with h3 | ⟨h3, _⟩ <;> omega
      · exact hcd h1
      · exact hcd h1
/-- the places of those that begin with s -/
def rgK (l : List Txt) (s : Txt) (a b : Nat) : Prop := b ≤ l.length ∧ (∀ i, i < l.length → (bgT (l.getD i []) s ↔ a ≤ i ∧ i < b)) ∧ (a < b ∨ a = 0 ∧ b = 0)
theorem rgK.uniq {l : List Txt} {s : Txt} {a b a' b' : Nat} (h : rgK l s a b) (k : rgK l s a' b') : a = a' ∧ b = b' := by
  obtain ⟨h1, h2, h3⟩ := h
  obtain ⟨k1, k2, k3⟩ := k
  have e : ∀ i, i < l.length → ((a ≤ i ∧ i < b) ↔ (a' ≤ i ∧ i < b')) := fun i hi => (h2 i hi).symm.trans (k2 i hi)
  rcases h3 with h3 | ⟨rfl, rfl⟩
  · have e1 := (e a (by omega)).1 ⟨by omega, by omega⟩
    have e2 := (e (b - 1) (by omega)).1 ⟨by omega, by omega⟩
    have e3 := (e a' (by omega)).2 ⟨by omega, by omega⟩
    have e4 := (e (b' - 1) (by omega)).2 ⟨by omega, by omega⟩
    omega
  · rcases k3 with k3 | ⟨rfl, rfl⟩
    · have e3 := (e a' (by omega)).2 ⟨by omega, by omega⟩
      omega
    · exact ⟨rfl, rfl⟩
end Go.Proofs.Ytpamjobiohbibaa
