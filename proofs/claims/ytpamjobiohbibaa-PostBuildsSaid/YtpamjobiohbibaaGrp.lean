/-
  Maps of lists of numbers: the entries' rows beside the map. No condition.
-/
import Derived.Test.YtpamjobiohbibaaMapD
import Derived.Test.YtpamjobiohbibaaNatv
namespace Go.Proofs.Ytpamjobiohbibaa
open Go.RowKit
set_option linter.unusedVariables false
set_option maxRecDepth 20000
/-- an entry: its key, where its row lies, the row's room, the numbers -/
abbrev Grp := List UInt8 × Option Addr × Nat × List Nat
def gVal (e : Grp) : Value := .slice e.2.1 e.2.2.2.length e.2.2.1
def gVals (D : List Grp) : List (List UInt8 × Value) := D.map fun e => (e.1, gVal e)
def gRow (e : Grp) : Ch := .own 3 1 e.2.1 e.2.2.2.length e.2.2.1 (natv e.2.2.2)
/-- a key's numbers -/
def gsT (t : List UInt8) : List Grp → List Nat
  | [] => []
  | e :: r => if t = e.1 then e.2.2.2 else gsT t r
/-- one more number at a key -/
def upG (t : List UInt8) (A : Option Addr) (c i : Nat) : List Grp → List Grp
  | [] => [(t, A, c, [i])]
  | e :: r => if t = e.1 then (t, A, c, e.2.2.2 ++ [i]) :: r else e :: upG t A c i r
theorem fndM_succ (t : List UInt8) : ∀ (D : List (List UInt8 × Value)) (i : Nat), fndM t D (i + 1) = (fndM t D i).map fun q => (q.1 + 1, q.2)
  | [], _ => rfl
  | p :: r, i => by
    unfold fndM
    split
    · rfl
    · exact fndM_succ t r (i + 1)
theorem putM_cons (t : List UInt8) (v : Value) (p : List UInt8 × Value) (r : List (List UInt8 × Value)) : putM (p :: r) t v = if t = p.1 then (t, v) :: r else p :: putM r t v := by
  unfold putM
  have e : fndM t (p :: r) 0 = if t = p.1 then some (0, p.2) else fndM t r (0 + 1) := rfl
  by_cases h : t = p.1
  · rw [e, if_pos h, if_pos h]; rfl
  · rw [e, if_neg h, if_neg h, fndM_succ]
    cases fndM t r 0 with
    | none => rfl
    | some q => rfl
theorem putM_up (t : List UInt8) (A : Option Addr) (c i : Nat) : ∀ (D : List Grp), putM (gVals D) t (.slice A ((gsT t D).length + 1) c) = gVals (upG t A c i D)
  | [] => by simp [putM, gVals, fndM, gsT, upG, gVal]
  | e :: r => by
    have ih := putM_up t A c i r
    show putM ((e.1, gVal e) :: gVals r) t _ = _
    rw [putM_cons]
    unfold gsT upG
    by_cases h : t = e.1
    · rw [if_pos h, if_pos h, if_pos h]
      simp [gVals, gVal]
    · rw [if_neg h, if_neg h, if_neg h, ih]
      rfl
/-- the entry at a key, or a nil row; and the entries behind one more number -/
theorem grp_get (t : List UInt8) : ∀ (D : List Grp), ∃ (A : Option Addr) (c : Nat) (R : List Ch),
    (((fndM t (gVals D) 0).map (·.2)).getD (.slice none 0 0) = .slice A (gsT t D).length c) ∧
    ((D.map gRow).Perm (.own 3 1 A (gsT t D).length c (natv (gsT t D)) :: R) ∨ (A = none ∧ c = 0 ∧ gsT t D = [] ∧ R = D.map gRow)) ∧
    (∀ A' c' i, ((upG t A' c' i D).map gRow).Perm (.own 3 1 A' ((gsT t D).length + 1) c' (natv (gsT t D ++ [i])) :: R))
  | [] => ⟨none, 0, [], rfl, .inr ⟨rfl, rfl, rfl, rfl⟩, fun A' c' i => .refl _⟩
  | e :: r => by
    by_cases h : t = e.1
    · refine ⟨e.2.1, e.2.2.1, r.map gRow, ?_, .inl ?_, fun A' c' i => ?_⟩
      · show ((fndM t ((e.1, gVal e) :: gVals r) 0).map (·.2)).getD _ = _
        unfold fndM gsT
        rw [if_pos h, if_pos h]
        rfl
      · unfold gsT
        rw [if_pos h]
        exact .refl _
      · unfold gsT upG
        rw [if_pos h, if_pos h]
        simp only [List.map_cons, gRow, List.length_append, List.length_singleton]
        exact .refl _
    · obtain ⟨A, c, R, h1, h2, h3⟩ := grp_get t r
      refine ⟨A, c, gRow e :: R, ?_, ?_, fun A' c' i => ?_⟩
      · show ((fndM t ((e.1, gVal e) :: gVals r) 0).map (·.2)).getD _ = _
        unfold fndM gsT
        rw [if_neg h, if_neg h, fndM_succ, ← h1]
        cases fndM t (gVals r) 0 <;> rfl
      · unfold gsT
        rw [if_neg h]
        rcases h2 with h2 | ⟨h2, h4, h5, h6⟩
        · exact .inl ((h2.cons _).trans (.swap _ _ _))
        · exact .inr ⟨h2, h4, h5, by rw [h6]; rfl⟩
      · unfold gsT upG
        rw [if_neg h, if_neg h]
        exact ((h3 A' c' i).cons _).trans (.swap _ _ _)
theorem gsT_up (t s : List UInt8) (A : Option Addr) (c i : Nat) : ∀ (D : List Grp), gsT s (upG t A c i D) = if s = t then gsT s D ++ [i] else gsT s D
  | [] => by
    unfold upG gsT
    split <;> simp [gsT]
  | e :: r => by
    unfold upG
    by_cases h : t = e.1
    · rw [if_pos h]
      unfold gsT
      by_cases h2 : s = t
      · subst h2; simp [h]
      · rw [if_neg h2, if_neg h2, if_neg (fun q => h2 (q.trans h.symm))]
    · rw [if_neg h]
      unfold gsT
      by_cases h2 : s = e.1
      · rw [if_pos h2, if_pos h2, if_neg (fun q => h (q.symm.trans h2))]
      · rw [if_neg h2, if_neg h2]
        exact gsT_up t s A c i r
theorem keys_up (t s : List UInt8) (A : Option Addr) (c i : Nat) : ∀ (D : List Grp), s ∈ (upG t A c i D).map (·.1) ↔ s = t ∨ s ∈ D.map (·.1)
  | [] => by simp [upG]
  | e :: r => by
    unfold upG
    by_cases h : t = e.1
    · rw [if_pos h]; simp [h]
    · rw [if_neg h, List.map_cons, List.mem_cons, keys_up t s A c i r, List.map_cons, List.mem_cons]
      exact ⟨fun h => h.elim (fun h => .inr (.inl h)) (fun h => h.elim .inl fun h => .inr (.inr h)), fun h => h.elim (fun h => .inr (.inl h)) (fun h => h.elim .inl fun h => .inr (.inr h))⟩
theorem nodup_up (t : List UInt8) (A : Option Addr) (c i : Nat) : ∀ (D : List Grp), (D.map (·.1)).Nodup → ((upG t A c i D).map (·.1)).Nodup
  | [], _ => by simp [upG]
  | e :: r, h => by
    rw [List.map_cons, List.nodup_cons] at h
    unfold upG
    by_cases ht : t = e.1
    · rw [if_pos ht, List.map_cons, List.nodup_cons]
      exact ⟨by rw [ht]; exact h.1, h.2⟩
    · rw [if_neg ht, List.map_cons, List.nodup_cons, keys_up]
      exact ⟨fun q => q.elim (fun q => ht q.symm) h.1, nodup_up t A c i r h.2⟩
theorem up_len (t : List UInt8) (A : Option Addr) (c i : Nat) : ∀ (D : List Grp), (upG t A c i D).length ≤ D.length + 1
  | [] => by simp [upG]
  | e :: r => by
    unfold upG
    split
    · simp
    · have := up_len t A c i r; simp; omega
theorem zero_of {P : Program} {e : TypeId} {zv : Value} (h : (P.info? e).bind (·.zero) = some zv) (w : World) : (zeroValue e).run P w = .ok zv w := by
  cases hi : P.info? e with
  | none => rw [hi] at h; simp at h
  | some i => rw [hi] at h; simp at h; simp [zeroValue, typeInfo, hi, h]
/-- memory seen another way -/
theorem vc_sl {C : Cx} {c : Code} {Q : Exit → Fr → List Ch → Prop} {fr : Fr} {L M : List Ch} (h : ∀ w, SL C.B C.w0 L w → SL C.B C.w0 M w) (k : VC C c Q fr M) : VC C c Q fr L := fun a w ha hw => k a w ha (h w hw)
theorem sl_grp {B : Nat} {w0 : World} {w : World} {D : List Grp} {A : Option Addr} {xs : List Nat} {c g : Nat} {o : Obj} {R F : List Ch} (h : (D.map gRow).Perm (.own 3 1 A xs.length c (natv xs) :: R) ∨ (A = none ∧ c = 0 ∧ xs = [] ∧ R = D.map gRow))
    (hw : SL B w0 (.obj g o :: (D.map gRow ++ F)) w) : SL B w0 (.own 3 1 A xs.length c (natv xs) :: .obj g o :: (R ++ F)) w := by
  rcases h with h | ⟨rfl, rfl, rfl, rfl⟩
  · exact hw.perm (((h.append_right F).cons _).trans (.swap _ _ _))
  · exact hw.nil_row 3 1 none
end Go.Proofs.Ytpamjobiohbibaa
