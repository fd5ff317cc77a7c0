/-
  What a cursor's readings leave. No condition.
-/
import Derived.Test.YtbkaoncopohdbaaCurE
namespace Go.Proofs.Ytbkaoncopohdbaa
open Go.RowKit
set_option linter.unusedVariables false
theorem Cs.moved_mk {s : Cs} (h : s.e = 0) {k : Nat} {e : Int} (hk : e ≠ 0 → k = 0) : s.moved k e = ⟨s.b, s.at_ + k, e⟩ := by
  unfold Cs.moved
  rw [if_neg (by simp [h])]
  split
  · rename_i he; rw [hk he]; rfl
  · rename_i he
    have : e = 0 := by simpa using he
    rw [this, ← h]
theorem Cs.num_mk {s : Cs} (h : s.e = 0) : s.num = (scanS s.rest).1 ∧ s.num' = ⟨s.b, s.at_ + (scanS s.rest).2.1, (scanS s.rest).2.2⟩ := ⟨by simp [Cs.num, h], Cs.moved_mk h fun he => (scanS_err he).2⟩
theorem Cs.int_mk {s : Cs} (h : s.e = 0) (m : Int) : s.int m = (limS s.rest m).1 ∧ s.int' m = ⟨s.b, s.at_ + (limS s.rest m).2.1, (limS s.rest m).2.2⟩ := ⟨by simp [Cs.int, h], Cs.moved_mk h fun he => (limS_err he).2⟩
theorem tex3_err {l : List UInt8} {x k : Nat} {er : Int} (h : (tex3 l x k er).2.2 ≠ 0) : (tex3 l x k er).1 = [] ∧ (tex3 l x k er).2.1 = 0 := by
  unfold tex3 at h ⊢
  split
  · exact ⟨rfl, rfl⟩
  · split
    · exact ⟨rfl, rfl⟩
    · rename_i h1 h2
      rw [if_neg h1, if_neg h2] at h
      exact absurd rfl h
theorem Cs.text_mk {s : Cs} (h : s.e = 0) (m : Int) : s.text m = (textS s.rest m).1 ∧ s.text' m = ⟨s.b, s.at_ + (textS s.rest m).2.1, (textS s.rest m).2.2⟩ := ⟨by simp [Cs.text, h], Cs.moved_mk h fun he => (tex3_err he).2⟩
theorem Cs.take_mk {s : Cs} (h : s.e = 0) (m : Int) : s.take m = takeT s.rest m ∧ s.take' m = ⟨s.b, s.at_ + takeK s.rest m, takeErr s.rest m⟩ := ⟨take_of h, by rw [take'_of]; exact Cs.moved_mk h fun he => by simp [takeK, he]⟩
theorem Cs.bad {s : Cs} (h : ¬ s.e = 0) : s.num = 0 ∧ s.num' = s ∧ (∀ m, s.int m = 0 ∧ s.int' m = s ∧ s.text m = [] ∧ s.text' m = s ∧ s.take m = [] ∧ s.take' m = s) := by
  refine ⟨by simp [Cs.num, h], by simp [Cs.num', Cs.moved, h], fun m => ⟨by simp [Cs.int, h], by simp [Cs.int', Cs.moved, h], by simp [Cs.text, h], by simp [Cs.text', Cs.moved, h], by simp [Cs.take, h], by simp [Cs.take', Cs.moved, h]⟩⟩
end Go.Proofs.Ytbkaoncopohdbaa
