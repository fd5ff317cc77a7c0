/-
  Records read: plain functions and their laws. Conditions: numbers fit 64 bits.
-/
import Derived.Test.YtlbdhdocagahpaaRecA
import Derived.Test.YtlbdhdocagahpaaCurLawp
namespace Go.Proofs.Ytlbdhdocagahpaa
set_option linter.unusedVariables false
/-- behind time and level -/
def st1 (b : Bool) (s : Cs) : Cs := if b = true then s.num'.byte' else s
def rstep (b : Bool) (s : Cs) : RecC × Cs :=
  ((if b = true then s.num else 0, if b = true then s.num'.byte else 0, (st1 b s).text 4000, ((st1 b s).text' 4000).text 4000), ((st1 b s).text' 4000).text' 4000)
def readF (b : Bool) : Nat → Cs → List RecC → List RecC × Int
  | 0, _, out => (out, 0)
  | f + 1, s, out => if s.left = 0 then (out, 0) else if (rstep b s).2.e ≠ 0 then ([], (rstep b s).2.e) else readF b f (rstep b s).2 (out ++ [(rstep b s).1])
theorem CsOk.st1 {b : Bool} {s : Cs} (h : CsOk s) : CsOk (st1 b s) := by
  unfold Proofs.Ytlbdhdocagahpaa.st1; split
  · exact h.num'.byte'
  · exact h
theorem CsOk.rstep {b : Bool} {s : Cs} (h : CsOk s) : CsOk (rstep b s).2 := h.st1.text'.text'
theorem num'_b (s : Cs) : s.num'.b = s.b := Cs.moved_b _ _ _
theorem byte'_b (s : Cs) : s.byte'.b = s.b := Cs.moved_b _ _ _
theorem text'_b (s : Cs) (m : Int) : (s.text' m).b = s.b := Cs.moved_b _ _ _
theorem st1_b (b : Bool) (s : Cs) : (st1 b s).b = s.b := by unfold st1; split <;> simp [num'_b, byte'_b]
theorem rstep_b (b : Bool) (s : Cs) : (rstep b s).2.b = s.b := by unfold rstep; simp [text'_b, st1_b]
theorem rstep_mk (b : Bool) (s : Cs) : ∃ a e, (rstep b s).2 = ⟨s.b, a, e⟩ := ⟨_, _, by rw [← rstep_b b s]⟩
/-- what a record that is read must be -/
def RecC.fits (x : RecC) : Prop := x.1 < 18446744073709551616 ∧ x.2.2.1.length ≤ 4000 ∧ x.2.2.2.length ≤ 4000
theorem rstep_rds {b : Bool} {s : Cs} (h : (rstep b s).2.e = 0) : Rds s (rstep b s).2 (recB b (rstep b s).1) ∧ (rstep b s).1.fits ∧ (b = false → (rstep b s).1.1 = 0 ∧ (rstep b s).1.2.1 = 0) := by
  obtain ⟨h2, l2⟩ := Cs.text_rds (s := (st1 b s).text' 4000) h
  obtain ⟨h1, l1⟩ := Cs.text_rds (s := st1 b s) h2.e0
  cases b with
  | false =>
    refine ⟨?_, ⟨?_, ?_, ?_⟩, fun _ => ⟨rfl, rfl⟩⟩
    · have := h1.trans h2
      simpa [recB, recHead, rstep, st1] using this
    · simp [rstep]
    · simp only [rstep]; omega
    · simp only [rstep]; omega
  | true =>
    have h0 : (s.num'.byte').e = 0 := h1.e0
    have hb := Cs.byte_rds h0
    obtain ⟨hn, ln⟩ := Cs.num_rds hb.e0
    refine ⟨?_, ⟨?_, ?_, ?_⟩, fun h => by cases h⟩
    · have := ((hn.trans hb).trans h1).trans h2
      simpa [recB, recHead, rstep, st1] using this
    · simpa [rstep] using ln
    · simp only [rstep]; omega
    · simp only [rstep]; omega
/-- a record without time and level, if not whole -/
def norm (b : Bool) (x : RecC) : RecC := if b = true then x else (0, 0, x.2.2.1, x.2.2.2)
theorem rstep_at {b : Bool} {s : Cs} {x : RecC} {r : List UInt8} (h0 : s.e = 0) (hx : x.fits) (hr : s.rest = recB b x ++ r) : (rstep b s).1 = norm b x ∧ Rds s (rstep b s).2 (recB b x) := by
  obtain ⟨hx1, hx2, hx3⟩ := hx
  have hm : (4000 : Int) ≤ 9223372036854775807 := by decide
  cases b with
  | false =>
    have hr1 : s.rest = encT x.2.2.1 ++ (encT x.2.2.2 ++ r) := by rw [hr]; simp [recB, recHead]
    obtain ⟨t1, d1⟩ := Cs.text_at' (m := 4000) h0 (by omega) hm hr1
    obtain ⟨t2, d2⟩ := Cs.text_at' (m := 4000) d1.e1 (by omega) hm (d1.rest_eq hr1)
    refine ⟨?_, ?_⟩
    · simp only [rstep, norm, st1]
      simp [t1, t2]
    · have := d1.trans d2
      simpa [rstep, st1, recB, recHead] using this
  | true =>
    have hr1 : s.rest = encN x.1 ++ (x.2.1 :: (encT x.2.2.1 ++ (encT x.2.2.2 ++ r))) := by rw [hr]; simp [recB, recHead]
    obtain ⟨n1, dn⟩ := Cs.num_at' h0 hx1 hr1
    have hr2 := dn.rest_eq hr1
    obtain ⟨b1, db⟩ := Cs.byte_at' dn.e1 hr2
    have hr3 := db.rest_eq (p := [x.2.1]) hr2
    obtain ⟨t1, d1⟩ := Cs.text_at' (m := 4000) db.e1 (by omega) hm hr3
    obtain ⟨t2, d2⟩ := Cs.text_at' (m := 4000) d1.e1 (by omega) hm (d1.rest_eq hr3)
    refine ⟨?_, ?_⟩
    · simp only [rstep, norm, st1]
      simp [t1, t2, n1, b1]
    · have := ((dn.trans db).trans d1).trans d2
      simpa [rstep, st1, recB, recHead] using this
theorem recB_pos (b : Bool) (x : RecC) : 2 ≤ (recB b x).length := by
  have h1 := encT_pos x.2.2.1
  have h2 := encT_pos x.2.2.2
  unfold recB
  rw [List.length_append, List.length_append]; omega
theorem rest_length (s : Cs) : s.rest.length = s.left := by simp [Cs.rest, Cs.left]
theorem rstep_less {b : Bool} {s : Cs} (h : (rstep b s).2.e = 0) : (rstep b s).2.left + 2 ≤ s.left := by
  have h1 := (rstep_rds h).1.rest
  have h2 := recB_pos b (rstep b s).1
  have := congrArg List.length h1
  rw [List.length_append, rest_length, rest_length] at this
  omega
/-- bytes that are read are those that are written -/
theorem read_one {b : Bool} : ∀ (f : Nat) (s : Cs) (out res : List RecC), s.e = 0 → s.left < f → readF b f s out = (res, 0) → recsB b res = recsB b out ++ s.rest
  | 0, s, out, res, _, hf, _ => absurd hf (by omega)
  | f + 1, s, out, res, h0, hf, h => by
    unfold readF at h
    by_cases hl : s.left = 0
    · rw [if_pos hl] at h
      injection h with h
      have : s.rest = [] := List.eq_nil_of_length_eq_zero (by rw [rest_length]; exact hl)
      rw [← h, this, List.append_nil]
    · rw [if_neg hl] at h
      by_cases he : (rstep b s).2.e = 0
      · rw [if_neg (by simpa using he)] at h
        have h1 := rstep_less he
        have h2 := (rstep_rds he).1
        rw [read_one f _ _ _ he (by omega) h, recsB_snoc, h2.rest, List.append_assoc]
      · rw [if_pos he] at h
        injection h with _ h
        exact absurd h he
/-- records that were written are read -/
theorem read_back {b : Bool} : ∀ (f : Nat) (L : List RecC) (s : Cs) (out : List RecC), s.e = 0 → s.left < f → (∀ x ∈ L, x.fits) → s.rest = recsB b L → readF b f s out = (out ++ L.map (norm b), 0)
  | 0, L, s, out, _, hf, _, _ => absurd hf (by omega)
  | f + 1, [], s, out, h0, hf, _, hr => by
    have : s.left = 0 := by rw [← rest_length, hr]; rfl
    unfold readF
    rw [if_pos this]; simp
  | f + 1, x :: L, s, out, h0, hf, hx, hr => by
    have hr1 : s.rest = recB b x ++ recsB b L := by rw [hr]; simp [recsB]
    obtain ⟨h1, h2⟩ := rstep_at h0 (hx x (by simp)) hr1
    have hl : ¬ s.left = 0 := by
      have := recB_pos b x
      rw [← rest_length, hr1, List.length_append]; omega
    have he : (rstep b s).2.e = 0 := h2.e1
    have hless := rstep_less he
    unfold readF
    rw [if_neg hl, if_neg (by simpa using he), read_back f L _ _ he (by omega) (fun y hy => hx y (by simp [hy])) (h2.rest_eq hr1), h1]
    simp
/-- what is read fits -/
theorem read_fits {b : Bool} : ∀ (f : Nat) (s : Cs) (out : List RecC), (∀ x ∈ out, x.fits) → ∀ x ∈ (readF b f s out).1, x.fits
  | 0, s, out, h, x, hx => h x hx
  | f + 1, s, out, h, x, hx => by
    unfold readF at hx
    split at hx
    · exact h x hx
    · split at hx
      · cases hx
      · rename_i he
        exact read_fits f _ _ (fun y hy => by
          rcases List.mem_append.1 hy with hy | hy
          · exact h y hy
          · rw [List.mem_singleton.1 hy]; exact (rstep_rds (by simpa using he)).2.1) x hx
theorem read_len {b : Bool} : ∀ (f : Nat) (s : Cs) (out : List RecC), s.left < f → (readF b f s out).1.length ≤ out.length + s.left
  | 0, s, out, hf => absurd hf (by omega)
  | f + 1, s, out, hf => by
    unfold readF
    split
    · exact Nat.le_add_right _ _
    · split
      · simp
      · rename_i he
        have h1 := rstep_less (b := b) (s := s) (by simpa using he)
        have h2 := read_len (b := b) f (rstep b s).2 (out ++ [(rstep b s).1]) (by omega)
        rw [List.length_append, List.length_singleton] at h2
        omega
end Go.Proofs.Ytlbdhdocagahpaa
