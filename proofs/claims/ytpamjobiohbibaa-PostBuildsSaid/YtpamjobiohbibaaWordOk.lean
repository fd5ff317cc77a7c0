/-
  Words of texts are words by themselves: plain laws. No condition.
-/
import Derived.Test.YtpamjobiohbibaaWd1
namespace Go.Proofs.Ytpamjobiohbibaa
set_option linter.unusedVariables false
/-- a word of a text -/
theorem small_small : ∀ c : UInt8, small (small c) = small c := by
  have : ∀ x : Fin 256, small (small (UInt8.ofNat x.val)) = small (UInt8.ofNat x.val) := by decide +kernel
  intro c
  have := this ⟨c.toNat, c.toNat_lt⟩
  simpa using this
def RowOk (t : List UInt8) : Prop := ∀ c ∈ t, small c ≠ 0 ∧ small c = c
def WordOk (t : List UInt8) : Prop := 1 ≤ t.length ∧ t.length ≤ 24 ∧ RowOk t
theorem emit_ok {row : List UInt8} (h : RowOk row) : ∀ t ∈ emit row, WordOk t := by
  intro t ht
  unfold emit at ht
  split at ht
  · cases ht
  · rename_i hne
    simp at ht; subst ht
    have := List.length_pos_iff.2 hne
    exact ⟨by simp; omega, by simp; omega, fun c hc => h c (List.mem_of_mem_take hc)⟩
theorem wst_ok : ∀ (l : List UInt8) (ws : List (List UInt8)) (row : List UInt8), (∀ t ∈ ws, WordOk t) → RowOk row → (∀ t ∈ (l.foldl wstep (ws, row)).1, WordOk t) ∧ RowOk (l.foldl wstep (ws, row)).2
  | [], ws, row, h1, h2 => ⟨h1, h2⟩
  | c :: r, ws, row, h1, h2 => by
    rw [List.foldl_cons]
    by_cases hc : small c = 0
    case neg =>
      rw [wstep_yes hc]
      refine wst_ok r ws _ h1 fun x hx => ?_
      rcases List.mem_append.1 hx with hx | hx
      · exact h2 x hx
      · simp only [List.mem_singleton] at hx
        subst hx
        rw [small_small]; exact ⟨hc, rfl⟩
    case pos =>
      rw [wstep_no hc]
      refine wst_ok r _ [] (fun t ht => ?_) (fun x hx => by cases hx)
      rcases List.mem_append.1 ht with ht | ht
      · exact h1 t ht
      · exact emit_ok h2 t ht
theorem word_ok {l t : List UInt8} (h : t ∈ wordsL l) : WordOk t := by
  have := wst_ok l [] [] (by simp) (fun x hx => by cases hx)
  rcases List.mem_append.1 h with h | h
  · exact this.1 t h
  · exact emit_ok this.2 t h
theorem map_id_of {t : List UInt8} (h : RowOk t) : t.map small = t := by
  induction t with
  | nil => rfl
  | cons c r ih => rw [List.map_cons, (h c (by simp)).2, ih fun x hx => h x (by simp [hx])]
theorem one_ok {t : List UInt8} (h : WordOk t) : oneL t = (t, true) := by
  rw [oneL_yes ⟨h.1, h.2.1⟩ fun c hc => (h.2.2 c hc).1, map_id_of h.2.2]
theorem fold_row : ∀ (t : List UInt8) (row : List UInt8), RowOk t → t.foldl wstep ([], row) = ([], row ++ t)
  | [], row, _ => by simp
  | c :: r, row, h => by
    have hc := h c (by simp)
    rw [List.foldl_cons, wstep_yes hc.1, hc.2, fold_row r _ fun x hx => h x (by simp [hx]), List.append_assoc]
    rfl
theorem words_ok {t : List UInt8} (h : WordOk t) : wordsL t = [t] := by
  have := fold_row t [] h.2.2
  unfold wordsL wst
  rw [this]
  have hne : t ≠ [] := List.length_pos_iff.1 h.1
  simp [emit, hne, List.take_of_length_le h.2.1]
theorem term_ok {t : List UInt8} (h : WordOk t) : termL t = true := by
  have hb : bare t = t := by
    unfold bare
    rw [if_neg]
    intro e
    rcases t with _ | ⟨c, r⟩
    · cases e
    · simp at e; subst e
      exact absurd (h.2.2 64 (by simp)).1 (by decide)
  unfold termL
  rw [hb, one_ok h]; simp
theorem term_at {t : List UInt8} (h : WordOk t) : termL (64 :: t) = true := by
  have hb : bare (64 :: t) = t := rfl
  unfold termL
  rw [hb, one_ok h]; simp
end Go.Proofs.Ytpamjobiohbibaa
