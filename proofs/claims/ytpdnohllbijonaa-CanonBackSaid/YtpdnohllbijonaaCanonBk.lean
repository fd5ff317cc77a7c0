/-
  Lengths that were written are read. No condition.
-/
import Derived.Test.YtpdnohllbijonaaCanonRd
import Derived.Test.YtpdnohllbijonaaBitBk
namespace Go.Proofs.Ytpdnohllbijonaa
set_option linter.unusedVariables false
theorem cz_zero (l : List UInt8) : ∀ f i j, j < cz l i f → (l.getD (i + j) 0).toNat = 0
  | 0, i, j, h => by simp [cz] at h
  | f + 1, i, j, h => by
    rw [cz] at h
    split at h
    · rename_i h0
      cases j with
      | zero => exact h0.2
      | succ j =>
        have := cz_zero l f (i + 1) j (by omega)
        rwa [show i + 1 + j = i + (j + 1) by omega] at this
    · omega
theorem cz_stop (l : List UInt8) : ∀ f i, cz l i f < f → i + cz l i f < l.length → ¬ (l.getD (i + cz l i f) 0).toNat = 0
  | 0, i, h, _ => by omega
  | f + 1, i, h, h2 => by
    rw [cz] at h h2 ⊢
    split at h
    · rename_i h0
      rw [if_pos h0] at h2 ⊢
      have := cz_stop l f (i + 1) (by omega) (by omega)
      rwa [show i + 1 + cz l (i + 1) f = i + (cz l (i + 1) f + 1) by omega] at this
    · rename_i h0
      rw [if_neg h0] at h2 ⊢
      intro hz
      exact h0 ⟨by omega, by simpa using hz⟩
theorem take_run (l : List UInt8) (i : Nat) : ∀ m, i + m ≤ l.length → (∀ j, j < m → (l.getD (i + j) 0).toNat = 0) → l.take (i + m) = l.take i ++ List.replicate m 0
  | 0, _, _ => by simp
  | m + 1, h, hz => by
    have h0 : l.getD (i + m) 0 = 0 := by
      have := hz m (by omega)
      exact UInt8.toNat_inj.1 (by simpa using this)
    rw [← Nat.add_assoc, take_getD (by omega) 0, take_run l i m (by omega) (fun j hj => hz j (by omega)), h0, List.replicate_succ', List.append_assoc]
theorem got (q pre r : List Bool) (v : Nat) {n : Nat} (hn : n ≤ 64) (hv : v < 2 ^ n) (hq : q = pre ++ (hi v n n ++ r)) : gtE q pre.length n = 0 ∧ gtV q pre.length n = v ∧ gtP q pre.length n = (pre ++ hi v n n).length := by
  have hl : pre.length + n ≤ q.length := by rw [hq]; simp [hi_length]
  have hp := part_put pre r v n hv
  rw [← hq] at hp
  unfold gtE gtV gtP
  rw [if_neg (by omega), if_neg (by omega), if_neg (by omega), if_neg (by omega), if_neg (by omega), if_neg (by omega), Int.toNat_natCast, hp]
  exact ⟨rfl, rfl, by simp [hi_length]⟩
theorem back (l : List UInt8) (hg : Good l) (r : List Bool) : ∀ n i f (pre : List Bool) s q, l.length - i ≤ n → i ≤ l.length → q = pre ++ (encC l i ++ r) → l.length ≤ i + f → (s = true → i < l.length → ¬ (l.getD i 0).toNat = 0) →
    rdC q l.length f pre.length (l.take i) s = (l, 0, (pre ++ encC l i).length) := by
  intro n
  induction n with
  | zero =>
    intro i f pre s q h1 h2 hq hf hs
    have he : i = l.length := by omega
    subst he
    have := rdC_end (q := q) (N := l.length) (f := f) (p := pre.length) (acc := l.take l.length) (s := s) rfl (by simp)
    rw [this, List.take_length, fin, if_pos hg, encC_end (by omega), List.append_nil]
  | succ n ih =>
    intro i f pre s q h1 h2 hq hf hs
    by_cases hil : i < l.length
    · obtain ⟨f', rfl⟩ : ∃ f', f = f' + 1 := ⟨f - 1, by omega⟩
      have hlt : (l.take i).length < l.length := by rw [List.length_take]; omega
      have hu := hg.1.2 _ (getD_mem (k := i) hil 0)
      by_cases h0 : (l.getD i 0).toNat = 0
      · obtain ⟨m, hm⟩ : ∃ m, cz l (i + 1) 63 = m := ⟨_, rfl⟩
        have hm63 := cz_le l 63 (i + 1)
        have hmi := cz_in l 63 (i + 1) (by omega)
        have hst := cz_stop l 63 (i + 1)
        have hzz := cz_zero l 63 (i + 1)
        rw [hm] at hm63 hmi hst hzz
        have hen := encC_run hil h0 hm
        rw [hen, List.append_assoc, List.append_assoc] at hq
        obtain ⟨a1, a2, a3⟩ := got q pre _ 0 (n := 4) (by omega) (by omega) hq
        have hq2 : q = (pre ++ hi 0 4 4) ++ (hi m 6 6 ++ (encC l (i + 1 + m) ++ r)) := by rw [hq, List.append_assoc]
        obtain ⟨b1, b2, b3⟩ := got q (pre ++ hi 0 4 4) _ m (n := 6) (by omega) (by omega) hq2
        have a1' : gtE q pre.length 4 = 0 := a1
        have a2' : gtV q pre.length 4 = 0 := a2
        have a3' : gtP q pre.length 4 = (pre ++ hi 0 4 4).length := a3
        have b1' : gtE q (pre ++ hi 0 4 4).length 6 = 0 := b1
        have b2' : gtV q (pre ++ hi 0 4 4).length 6 = m := b2
        have b3' : gtP q (pre ++ hi 0 4 4).length 6 = (pre ++ hi 0 4 4 ++ hi m 6 6).length := b3
        have hsf : ¬ (s = true ∨ l.length ≤ (l.take i).length + gtV q (gtP q pre.length 4) 6) := by
          rw [a3', b2', List.length_take]
          rintro (h | h)
          · exact hs h hil h0
          · omega
        have hrun := rdC_run (q := q) (N := l.length) (f := f') (p := pre.length) (acc := l.take i) (s := s) rfl hlt a1' a2' (by rw [a3']; exact b1') hsf
        rw [← hrun, a3', b2', b3']
        have htk : l.take i ++ List.replicate (m + 1) 0 = l.take (i + 1 + m) := by
          rw [show i + 1 + m = i + (m + 1) by omega, take_run l i (m + 1) (by omega) (fun j hj => ?_)]
          cases j with
          | zero => exact h0
          | succ j => rw [show i + (j + 1) = i + 1 + j by omega]; exact hzz j (by omega)
        rw [htk]
        have hq3 : q = (pre ++ hi 0 4 4 ++ hi m 6 6) ++ (encC l (i + 1 + m) ++ r) := by rw [hq2]; simp [List.append_assoc]
        have := ih (i + 1 + m) f' (pre ++ hi 0 4 4 ++ hi m 6 6) (decide (((m : Nat) : Int) + 1 < 64)) q (by omega) (by omega) hq3 (by omega) (fun hd hl => hst (by have := of_decide_eq_true hd; omega) hl)
        rw [this, hen]
        simp [List.append_assoc]
      · have hen := encC_one hil h0
        rw [hen, List.append_assoc] at hq
        obtain ⟨a1, a2, a3⟩ := got q pre _ (l.getD i 0).toNat (n := 4) (by omega) (by omega) hq
        have a1' : gtE q pre.length 4 = 0 := a1
        have a2' : gtV q pre.length 4 = (l.getD i 0).toNat := a2
        have a3' : gtP q pre.length 4 = (pre ++ hi (l.getD i 0).toNat 4 4).length := a3
        have hrun := rdC_one (q := q) (N := l.length) (f := f') (p := pre.length) (acc := l.take i) (s := s) rfl hlt a1' (by rw [a2']; exact h0)
        rw [← hrun, a2', a3']
        have htk : l.take i ++ [UInt8.ofNat (l.getD i 0).toNat] = l.take (i + 1) := by
          rw [take_getD hil 0, UInt8.ofNat_toNat]
        rw [htk]
        have hq3 : q = (pre ++ hi (l.getD i 0).toNat 4 4) ++ (encC l (i + 1) ++ r) := by rw [hq]; simp [List.append_assoc]
        have := ih (i + 1) f' (pre ++ hi (l.getD i 0).toNat 4 4) false q (by omega) (by omega) hq3 (by omega) (fun h => by cases h)
        rw [this, hen]
        simp [List.append_assoc]
    · exact ih i f pre s q (by omega) h2 hq hf hs
theorem back_all (l : List UInt8) (hg : Good l) : rdA (encC l 0 ++ pad (encC l 0)) 0 l.length = (l, 0, (encC l 0).length) := by
  have h300 := hg.1.1
  have := back l hg (pad (encC l 0)) l.length 0 l.length [] false (encC l 0 ++ pad (encC l 0)) (by omega) (by omega) rfl (by omega) (fun h => by cases h)
  rw [rdA, if_neg (by omega), Int.toNat_natCast]
  simpa using this
end Go.Proofs.Ytpdnohllbijonaa
