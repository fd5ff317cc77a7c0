/-
  What the document's Words computes: the words of the text, place by place. Conditions: texts are no longer than 2^38.
-/
import Derived.Test.YtfooomfdokkiaaaWord4
namespace Go.Proofs.Ytfooomfdokkiaaa
open Go.RowKit
set_option linter.unusedVariables false
/-- a row of another kind of element stays -/
theorem own_apart {w w1 : World} {B n m : Nat} {e1 e2 : TypeId} {v1 v2 : Value} {xs ys : List Value} (hg : w.grownBy w1 v2.ownBlock) (h1 : w.ownsRow B e1 1 v1 n xs) (h2 : w.ownsRow B e2 1 v2 m ys) (hne : e1 ≠ e2) : w1.ownsRow B e1 1 v1 n xs := by
  rcases h1.2 with ⟨h0, h0'⟩ | ⟨g, cap, cur, rfl, m1, m2, m3⟩
  · exact ⟨h1.1, .inl ⟨h0, h0'⟩⟩
  · refine ⟨h1.1, .inr ⟨g, cap, cur, rfl, m1, ?_, m3⟩⟩
    exact (hg.block g (lt_of_block m2) fun e => own_ne_blk (cs := cur) h2 m2 (Ne.symm hne) e.symm).trans m2
theorem wordAt_stop (T : List UInt8) (m : Nat) (hm : m ≤ 24) (hp : ∀ x ∈ T.take m, small x ≠ 0) (hs : m = T.length ∨ (∃ c, T[m]? = some c ∧ small c = 0) ∨ m = 24) : wordAt T = (T.take m).map small := by
  have e : T = T.take m ++ T.drop m := (List.take_append_drop m T).symm
  have hp' : ∀ x ∈ T.take m, (fun c : UInt8 => decide (small c ≠ 0)) x = true := fun x hx => decide_eq_true (hp x hx)
  have key : T.takeWhile (fun c => decide (small c ≠ 0)) = T.take m ++ (T.drop m).takeWhile (fun c => decide (small c ≠ 0)) := by
    conv => lhs; rw [e]
    rw [List.takeWhile_append_of_pos hp']
  unfold wordAt
  rw [key, List.map_append]
  have hml : ((T.take m).map small).length ≤ 24 := by simp; omega
  rcases hs with h | ⟨c, h, h0⟩ | h
  · have : T.drop m = [] := by rw [h]; exact List.drop_length
    rw [this, List.takeWhile_nil, List.map_nil, List.append_nil]
    exact List.take_of_length_le hml
  · have hd : T.drop m = c :: T.drop (m + 1) := by
      obtain ⟨hlt, rfl⟩ := List.getElem?_eq_some_iff.1 h
      exact List.drop_eq_getElem_cons hlt
    rw [hd, List.takeWhile_cons, if_neg (by simp [h0]), List.map_nil, List.append_nil]
    exact List.take_of_length_le hml
  · subst h
    rcases Nat.lt_or_ge T.length 24 with h | h
    · have : T.drop 24 = [] := List.drop_eq_nil_of_le (by omega)
      rw [this, List.takeWhile_nil, List.map_nil, List.append_nil]
      exact List.take_of_length_le hml
    · have hl : ((T.take 24).map small).length = 24 := by simp; omega
      rw [List.take_append_of_le_length (by omega), List.take_of_length_le (by omega)]
/-- the document's place: what was found, and whether a letter stands before -/
def RefAt (l : List UInt8) (i : Nat) (OUT : List (List UInt8)) (prev : Bool) : Prop :=
  OUT ++ refW prev (l.drop i) = refW false l ∧ (i = 0 → prev = false) ∧ (∀ c, 0 < i → l[i - 1]? = some c → prev = decide (small c ≠ 0)) ∧ OUT.length ≤ i
theorem RefAt.start (l : List UInt8) : RefAt l 0 [] false := ⟨rfl, fun _ => rfl, fun _ h => absurd h (by omega), Nat.le_refl _⟩
theorem RefAt.skip {l : List UInt8} {i : Nat} {OUT : List (List UInt8)} {prev : Bool} {c : UInt8} (h : RefAt l i OUT prev) (hc : l[i]? = some c) (hs : small c = 0 ∨ prev = true) : RefAt l (i + 1) OUT (decide (small c ≠ 0)) := by
  obtain ⟨hlt, rfl⟩ := List.getElem?_eq_some_iff.1 hc
  refine ⟨?_, fun h => by omega, fun c' _ hc' => ?_, by have := h.2.2.2; omega⟩
  · have := h.1
    rw [List.drop_eq_getElem_cons hlt, refW, if_pos hs] at this
    exact this
  · rw [Nat.add_sub_cancel, hc] at hc'
    injection hc' with hc'
    rw [hc']
theorem RefAt.put {l : List UInt8} {i : Nat} {OUT : List (List UInt8)} {prev : Bool} {c : UInt8} (h : RefAt l i OUT prev) (hc : l[i]? = some c) (hs : small c ≠ 0) (hp : prev = false) : RefAt l (i + 1) (OUT ++ [wordAt (l.drop i)]) (decide (small c ≠ 0)) := by
  obtain ⟨hlt, rfl⟩ := List.getElem?_eq_some_iff.1 hc
  refine ⟨?_, fun h => by omega, fun c' _ hc' => ?_, by have := h.2.2.2; simp; omega⟩
  · have := h.1
    rw [List.drop_eq_getElem_cons hlt, refW, if_neg (by simp [hs, hp])] at this
    rw [← this, List.append_assoc, decide_eq_true hs, List.drop_eq_getElem_cons hlt]
    rfl
  · rw [Nat.add_sub_cancel, hc] at hc'
    injection hc' with hc'
    rw [hc']
theorem RefAt.done {l : List UInt8} {OUT : List (List UInt8)} {prev : Bool} (h : RefAt l l.length OUT prev) : OUT = wordsL l := by
  have := h.1
  rw [List.drop_length] at this
  rw [words_ref, ← this]
  simp [refW]
/-- inside: the letters taken from place i on -/
def TakenAt (l : List UInt8) (i m : Nat) (R : List UInt8) : Prop := R = ((l.drop i).take m).map small ∧ ∀ x ∈ (l.drop i).take m, small x ≠ 0
theorem TakenAt.more {l : List UInt8} {i m : Nat} {R : List UInt8} {c : UInt8} (h : TakenAt l i m R) (hc : l[i + m]? = some c) (hs : small c ≠ 0) : TakenAt l i (m + 1) (R ++ [small c]) := by
  have e : (l.drop i).take (m + 1) = (l.drop i).take m ++ [c] := by
    rw [List.take_add_one, List.getElem?_drop, hc]; rfl
  refine ⟨by rw [e, List.map_append, ← h.1]; rfl, fun x hx => ?_⟩
  rw [e] at hx
  rcases List.mem_append.1 hx with hx | hx
  · exact h.2 x hx
  · simp at hx; subst hx; exact hs
theorem TakenAt.len {l : List UInt8} {i m : Nat} {R : List UInt8} (h : TakenAt l i m R) (hm : i + m ≤ l.length) : R.length = m := by
  rw [h.1]; simp; omega
theorem TakenAt.stop {l : List UInt8} {i m : Nat} {R : List UInt8} (h : TakenAt l i m R) (hm : m ≤ 24) (hi : i + m ≤ l.length) (hs : i + m = l.length ∨ (∃ c, l[i + m]? = some c ∧ small c = 0) ∨ m = 24) : R = wordAt (l.drop i) := by
  rw [h.1, wordAt_stop _ m hm h.2]
  rcases hs with h | ⟨c, h1, h2⟩ | h
  · left; simp; omega
  · right; left; exact ⟨c, by rw [List.getElem?_drop]; exact h1, h2⟩
  · right; right; exact h

end Go.Proofs.Ytfooomfdokkiaaa
