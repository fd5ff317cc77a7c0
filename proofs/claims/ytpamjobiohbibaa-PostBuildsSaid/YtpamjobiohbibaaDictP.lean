/-
  Dictionaries of texts: plain functions. No condition.
-/
import Derived.Test.YtpamjobiohbibaaTypes
import Derived.Test.YtpamjobiohbibaaNumPure
namespace Go.Proofs.Ytpamjobiohbibaa
open Go.RowKit
set_option linter.unusedVariables false
set_option maxRecDepth 20000
abbrev Txt := List UInt8
/-- no text behind the other -/
def leT (s r : Txt) : Prop := Op.bytesLess s r = true ∨ s = r
instance (s r : Txt) : Decidable (leT s r) := inferInstanceAs (Decidable (_ ∨ _))
theorem leT_iff (s r : Txt) : (Op.bytesLess s r || decide (s = r)) = decide (leT s r) := by
  by_cases hp : leT s r
  · rw [decide_eq_true hp]
    rcases hp with h | h <;> simp [h]
  · rw [decide_eq_false hp]
    unfold leT at hp
    have h1 : ¬ Op.bytesLess s r = true := fun h => hp (.inl h)
    have h2 : ¬ s = r := fun h => hp (.inr h)
    simp [h1, h2]
section
variable {C : Cx} {fr : Fr} {L : List Ch} {x y : Operand} {s r : List UInt8} {xt yt ty : TypeId}
theorem det_s_gtrD (h1 : ev fr x = some (.string ⟨s.toArray⟩)) (h2 : ev fr y = some (.string ⟨r.toArray⟩)) : Det C fr L (.binOp .gtr xt x y yt) ty (.bool (decide (¬ leT s r))) := by
  have h := det_s_gtr (C := C) (L := L) (xt := xt) (yt := yt) (ty := ty) h1 h2
  rw [leT_iff, ← decide_not] at h
  exact h
theorem det_s_leqD (h1 : ev fr x = some (.string ⟨s.toArray⟩)) (h2 : ev fr y = some (.string ⟨r.toArray⟩)) : Det C fr L (.binOp .leq xt x y yt) ty (.bool (decide (leT s r))) := by
  have h := det_s_leq (C := C) (L := L) (xt := xt) (yt := yt) (ty := ty) h1 h2
  rw [leT_iff] at h
  exact h
theorem det_s_lssD (h1 : ev fr x = some (.string ⟨s.toArray⟩)) (h2 : ev fr y = some (.string ⟨r.toArray⟩)) : Det C fr L (.binOp .lss xt x y yt) ty (.bool (decide (Op.bytesLess s r = true))) := by
  have h := det_s_lss (C := C) (L := L) (xt := xt) (yt := yt) (ty := ty) h1 h2
  rwa [show Op.bytesLess s r = decide (Op.bytesLess s r = true) by cases Op.bytesLess s r <;> rfl] at h
end
/-- a text may stand behind another one -/
def mayT (was s : Txt) : Prop := s ≠ [] ∧ s.length ≤ 25 ∧ ¬ leT s was
instance (was s : Txt) : Decidable (mayT was s) := inferInstanceAs (Decidable (_ ∧ _ ∧ _))
def prvT (l : List Txt) (i : Nat) : Txt := if i = 0 then [] else l.getD (i - 1) []
def RisT (l : List Txt) : Prop := (∀ i, i < l.length → mayT (prvT l i) (l.getD i [])) ∧ l.length ≤ 1048576
instance (l : List Txt) : Decidable (RisT l) := inferInstanceAs (Decidable ((∀ i, i < l.length → _) ∧ _))
theorem prvT_succ (l : List Txt) (i : Nat) : prvT l (i + 1) = l.getD i [] := by simp [prvT]
theorem not_leT_nil {s : Txt} (h : s ≠ []) : ¬ leT s [] := by
  rintro (h1 | h1)
  · cases s <;> simp [Op.bytesLess] at h1
  · exact h h1
/-- how many bytes two texts begin with alike -/
def lcp : Txt → Txt → Nat
  | x :: a, y :: b => if x = y then lcp a b + 1 else 0
  | _, _ => 0
theorem lcp_le : ∀ a b : Txt, lcp a b ≤ a.length ∧ lcp a b ≤ b.length
  | [], _ => by simp [lcp]
  | _ :: _, [] => by simp [lcp]
  | x :: a, y :: b => by
    unfold lcp
    have := lcp_le a b
    split <;> simp only [List.length_cons] <;> omega
theorem lcp_step : ∀ (a b : Txt) (n : Nat), n ≤ lcp a b → (n < lcp a b ↔ (n < a.length ∧ n < b.length) ∧ a.getD n 0 = b.getD n 0)
  | [], _, n, h => by simp [lcp]
  | _ :: _, [], n, h => by simp [lcp]
  | x :: a, y :: b, n, h => by
    unfold lcp at h ⊢
    split at h
    · rename_i he
      rw [if_pos he]
      cases n with
      | zero => simp [he]
      | succ n =>
        have := lcp_step a b n (by omega)
        simp only [List.length_cons, List.getD_cons_succ]
        exact ⟨fun h => by obtain ⟨⟨h1, h2⟩, h3⟩ := this.1 (by omega); exact ⟨⟨by omega, by omega⟩, h3⟩, fun h => by have := this.2 ⟨⟨by omega, by omega⟩, h.2⟩; omega⟩
    · rename_i he
      rw [if_neg he]
      have : n = 0 := by omega
      subst this
      simp [he]
/-- a bucket's bytes -/
def tailT : Txt → List Txt → List UInt8
  | _, [] => []
  | was, s :: r => encN (lcp was s) ++ encT (s.drop (lcp was s)) ++ tailT s r
def bucketT : List Txt → List UInt8
  | [] => []
  | t :: r => encT t ++ tailT t r
end Go.Proofs.Ytpamjobiohbibaa
