/-
  The words of a text as plain functions: the program's way, byte by byte, and the document's, place by place. No condition.
-/
import Derived.Test.YtpamjobiohbibaaBase
namespace Go.Proofs.Ytpamjobiohbibaa
/-- a byte made small, or 0 -/
def small (c : UInt8) : UInt8 := if 65 ≤ c.toNat ∧ c.toNat ≤ 90 then c + 32 else if 97 ≤ c.toNat ∧ c.toNat ≤ 122 ∨ 48 ≤ c.toNat ∧ c.toNat ≤ 57 then c else 0
def emit (row : List UInt8) : List (List UInt8) := if row = [] then [] else [row.take 24]
def wstep (st : List (List UInt8) × List UInt8) (c : UInt8) : List (List UInt8) × List UInt8 :=
  if small c ≠ 0 then (st.1, st.2 ++ [small c]) else (st.1 ++ emit st.2, [])
theorem wstep_yes {ws : List (List UInt8)} {row : List UInt8} {c : UInt8} (h : small c ≠ 0) : wstep (ws, row) c = (ws, row ++ [small c]) := if_pos h
theorem wstep_no {ws : List (List UInt8)} {row : List UInt8} {c : UInt8} (h : small c = 0) : wstep (ws, row) c = (ws ++ emit row, []) := if_neg (by simpa using h)
def wst (l : List UInt8) : List (List UInt8) × List UInt8 := l.foldl wstep ([], [])
/-- the words of a text -/
def wordsL (l : List UInt8) : List (List UInt8) := (wst l).1 ++ emit (wst l).2
theorem wst_snoc (l : List UInt8) (c : UInt8) : wst (l ++ [c]) = wstep (wst l) c := by simp [wst]
theorem emit_len (row : List UInt8) : (emit row).length ≤ row.length := by
  unfold emit; split
  · simp
  · rename_i h
    have : 0 < row.length := by rcases row with _ | ⟨x, r⟩; exact absurd rfl h; simp
    simp; omega
theorem wst_len (l : List UInt8) : (wst l).1.length + (wst l).2.length ≤ l.length := by
  have : ∀ l : List UInt8, ∀ st : List (List UInt8) × List UInt8, (l.foldl wstep st).1.length + (l.foldl wstep st).2.length ≤ st.1.length + st.2.length + l.length := by
    intro l
    induction l with
    | nil => intro st; simp
    | cons c r ih =>
      intro st
      have h := ih (wstep st c)
      have hs : (wstep st c).1.length + (wstep st c).2.length ≤ st.1.length + st.2.length + 1 := by
        unfold wstep
        split
        · simp; omega
        · have := emit_len st.2
          simp; omega
      simp only [List.foldl_cons, List.length_cons]
      omega
  simpa [wst] using this l ([], [])
theorem wordsL_len (l : List UInt8) : (wordsL l).length ≤ l.length := by
  have h1 := wst_len l
  have h2 := emit_len (wst l).2
  unfold wordsL
  simp; omega
/-- the document's: a word begins at a letter behind none -/
def wordAt (l : List UInt8) : List UInt8 := ((l.takeWhile fun c => small c ≠ 0).map small).take 24
def refW : Bool → List UInt8 → List (List UInt8)
  | _, [] => []
  | prev, c :: r => if small c = 0 ∨ prev = true then refW (decide (small c ≠ 0)) r else wordAt (c :: r) :: refW true r
theorem takeWhile_append_stop {α : Type} (p : α → Bool) (a : List α) (c : α) (r : List α) (ha : ∀ x ∈ a, p x = true) (hc : p c = false) : (a ++ c :: r).takeWhile p = a := by
  induction a with
  | nil => simp [hc]
  | cons x a ih =>
    simp only [List.cons_append, List.takeWhile_cons, ha x (by simp), if_true]
    rw [ih fun y hy => ha y (by simp [hy])]
theorem takeWhile_all {α : Type} (p : α → Bool) (a : List α) (ha : ∀ x ∈ a, p x = true) : a.takeWhile p = a := by
  induction a with
  | nil => rfl
  | cons x a ih =>
    simp only [List.takeWhile_cons, ha x (by simp), if_true]
    rw [ih fun y hy => ha y (by simp [hy])]
/-- inside a word the document waits for its end -/
theorem refW_in (a : List UInt8) (ha : ∀ x ∈ a, small x ≠ 0) (r : List UInt8) : refW true (a ++ r) = refW true r := by
  induction a with
  | nil => rfl
  | cons x a ih =>
    have hx := ha x (by simp)
    simp only [List.cons_append, refW, or_true, if_true, decide_eq_true hx]
    exact ih fun y hy => ha y (by simp [hy])
theorem refW_true_stop (c : UInt8) (r : List UInt8) (hc : small c = 0) (b : Bool) : refW b (c :: r) = refW false r := by
  simp [refW, hc]
/-- the program's state, carried through what is left, comes to the document's words -/
theorem fold_ref : ∀ (l : List UInt8) (ws : List (List UInt8)) (a : List UInt8), (∀ x ∈ a, small x ≠ 0) →
    (l.foldl wstep (ws, a.map small)).1 ++ emit (l.foldl wstep (ws, a.map small)).2 =
      ws ++ (if a = [] then refW false l else wordAt (a ++ l) :: refW true l) := by
  intro l
  induction l with
  | nil =>
    intro ws a ha
    rcases a with _ | ⟨x, a⟩
    · simp [emit, refW]
    · simp only [List.foldl_nil, emit, List.map_cons, refW, List.append_nil]
      rw [if_neg (by simp), if_neg (by simp)]
      unfold wordAt
      rw [takeWhile_all _ _ fun y hy => by simpa using ha y hy]
      rfl
  | cons c r ih =>
    intro ws a ha
    rw [List.foldl_cons]
    by_cases hc : small c = 0
    · have e : wstep (ws, a.map small) c = (ws ++ emit (a.map small), []) := by unfold wstep; rw [if_neg (by simpa using hc)]
      rw [e]
      have := ih (ws ++ emit (a.map small)) [] (by simp)
      simp only [List.map_nil, if_true] at this
      rw [this, List.append_assoc]
      congr 1
      rcases a with _ | ⟨x, a⟩
      · simp [emit, refW, hc]
      · rw [if_neg (by simp)]
        unfold emit
        rw [if_neg (by simp), refW_true_stop c r hc]
        unfold wordAt
        rw [takeWhile_append_stop _ _ c r (fun y hy => by simpa using ha y hy) (by simpa using hc)]
        rfl
    · have e : wstep (ws, a.map small) c = (ws, (a ++ [c]).map small) := by unfold wstep; rw [if_pos (by simpa using hc)]; simp
      rw [e]
      have := ih ws (a ++ [c]) (by intro y hy; rcases List.mem_append.1 hy with h | h; exact ha y h; simp at h; subst h; exact hc)
      rw [this, if_neg (by simp)]
      congr 1
      rcases a with _ | ⟨x, a⟩
      · simp [refW, hc]
      · rw [if_neg (by simp), List.append_assoc]
        simp [refW, hc]
/-- both are the same -/
theorem words_ref (l : List UInt8) : wordsL l = refW false l := by
  have := fold_ref l [] [] (by simp)
  simpa [wordsL, wst] using this
end Go.Proofs.Ytpamjobiohbibaa
