/-
  What canon.Read and the document's Read answer, as plain functions. No condition.
-/
import Derived.Test.YtpdnohllbijonaaCanonW
import Derived.Test.YtpdnohllbijonaaBitRd
namespace Go.Proofs.Ytpdnohllbijonaa
set_option linter.unusedVariables false
open Classical in
noncomputable def fin (acc : List UInt8) (p : Nat) : List UInt8 × Int × Nat := if Good acc then (acc, 0, p) else ([], 7, p)
noncomputable def rdC (q : List Bool) (N : Nat) : Nat → Nat → List UInt8 → Bool → List UInt8 × Int × Nat
  | 0, p, acc, s => fin acc p
  | f + 1, p, acc, s =>
    if N ≤ acc.length then fin acc p
    else if ¬ gtE q p 4 = 0 then ([], gtE q p 4, gtP q p 4)
    else if ¬ gtV q p 4 = 0 then rdC q N f (gtP q p 4) (acc ++ [UInt8.ofNat (gtV q p 4)]) false
    else if ¬ gtE q (gtP q p 4) 6 = 0 then ([], gtE q (gtP q p 4) 6, gtP q (gtP q p 4) 6)
    else if s = true ∨ N ≤ acc.length + gtV q (gtP q p 4) 6 then ([], 7, gtP q (gtP q p 4) 6)
    else rdC q N f (gtP q (gtP q p 4) 6) (acc ++ List.replicate (gtV q (gtP q p 4) 6 + 1) 0) (decide (((gtV q (gtP q p 4) 6 : Nat) : Int) + 1 < 64))
noncomputable def rdA (q : List Bool) (p : Nat) (n : Int) : List UInt8 × Int × Nat := if n < 0 ∨ 300 < n then ([], 13, p) else rdC q n.toNat n.toNat p [] false
section
variable {q : List Bool} {N f p : Nat} {acc : List UInt8} {s : Bool} {R : List UInt8 × Int × Nat}
theorem rdC_end (h : rdC q N f p acc s = R) (hl : N ≤ acc.length) : R = fin acc p := by
  subst h
  cases f with
  | zero => rfl
  | succ f => rw [rdC, if_pos hl]
theorem rdC_succ (h : rdC q N f p acc s = R) (hf : N ≤ acc.length + f) (hl : acc.length < N) : ∃ f', f = f' + 1 ∧ N ≤ acc.length + f' + 1 ∧ rdC q N (f' + 1) p acc s = R := by
  cases f with
  | zero => omega
  | succ f => exact ⟨f, rfl, by omega, h⟩
theorem rdC_err (h : rdC q N (f + 1) p acc s = R) (hl : acc.length < N) (he : ¬ gtE q p 4 = 0) : R = ([], gtE q p 4, gtP q p 4) := by
  rw [← h, rdC, if_neg (by omega), if_pos he]
theorem rdC_one (h : rdC q N (f + 1) p acc s = R) (hl : acc.length < N) (he : gtE q p 4 = 0) (hv : ¬ gtV q p 4 = 0) : rdC q N f (gtP q p 4) (acc ++ [UInt8.ofNat (gtV q p 4)]) false = R := by
  rw [← h]; conv => rhs; rw [rdC, if_neg (by omega), if_neg (by omega), if_pos hv]
theorem rdC_err2 (h : rdC q N (f + 1) p acc s = R) (hl : acc.length < N) (he : gtE q p 4 = 0) (hv : gtV q p 4 = 0) (he2 : ¬ gtE q (gtP q p 4) 6 = 0) : R = ([], gtE q (gtP q p 4) 6, gtP q (gtP q p 4) 6) := by
  rw [← h, rdC, if_neg (by omega), if_neg (by omega), if_neg (by omega), if_pos he2]
theorem rdC_err3 (h : rdC q N (f + 1) p acc s = R) (hl : acc.length < N) (he : gtE q p 4 = 0) (hv : gtV q p 4 = 0) (he2 : gtE q (gtP q p 4) 6 = 0) (hs : s = true ∨ N ≤ acc.length + gtV q (gtP q p 4) 6) : R = ([], 7, gtP q (gtP q p 4) 6) := by
  rw [← h, rdC, if_neg (by omega), if_neg (by omega), if_neg (by omega), if_neg (by omega), if_pos hs]
theorem rdC_run (h : rdC q N (f + 1) p acc s = R) (hl : acc.length < N) (he : gtE q p 4 = 0) (hv : gtV q p 4 = 0) (he2 : gtE q (gtP q p 4) 6 = 0) (hs : ¬ (s = true ∨ N ≤ acc.length + gtV q (gtP q p 4) 6)) : rdC q N f (gtP q (gtP q p 4) 6) (acc ++ List.replicate (gtV q (gtP q p 4) 6 + 1) 0) (decide (((gtV q (gtP q p 4) 6 : Nat) : Int) + 1 < 64)) = R := by
  rw [← h]; conv => rhs; rw [rdC, if_neg (by omega), if_neg (by omega), if_neg (by omega), if_neg (by omega), if_neg hs]
theorem gtV_lt (q : List Bool) (p : Nat) {n : Nat} (hn : n ≤ 64) : gtV q p n < 2 ^ n := by
  unfold gtV
  split
  · exact Nat.two_pow_pos n
  · split
    · exact Nat.two_pow_pos n
    · exact part_lt q p n
theorem bv_of {v : Nat} (hv : v < 256) (l : List UInt8) : bv l ++ [Value.int .u8 (v : Int)] = bv (l ++ [UInt8.ofNat v]) := by
  have : (UInt8.ofNat v).toNat = v := by rw [UInt8.toNat_ofNat']; exact Nat.mod_eq_of_lt hv
  simp [bv, this]
theorem bv_zeros (l : List UInt8) (m : Nat) : bv l ++ List.replicate m (Value.int .u8 0) = bv (l ++ List.replicate m 0) := by
  simp [bv]
theorem fin_ok (h : chk acc = 0) : fin acc p = (acc, 0, p) := by
  unfold fin
  by_cases hg : Good acc
  · rw [if_pos hg]
  · rw [chk_bad hg] at h; omega
theorem fin_no (h : ¬ chk acc = 0) : fin acc p = ([], 7, p) ∧ chk acc = 7 := by
  unfold fin
  by_cases hg : Good acc
  · exact absurd (chk_good hg) h
  · exact ⟨if_neg hg, chk_bad hg⟩
end
theorem fin_le {q : List Bool} {acc : List UInt8} {p : Nat} (h : p ≤ q.length) : (fin acc p).2.2 ≤ q.length := by
  unfold fin
  split <;> exact h
theorem rdC_le (q : List Bool) (N : Nat) : ∀ f p acc s, p ≤ q.length → (rdC q N f p acc s).2.2 ≤ q.length
  | 0, p, acc, s, h => fin_le h
  | f + 1, p, acc, s, h => by
    have h4 := gtP_le (q := q) (p := p) 4 h
    have h6 := gtP_le (q := q) (p := gtP q p 4) 6 h4
    rw [rdC]
    split
    · exact fin_le h
    · split
      · exact h4
      · split
        · exact rdC_le q N f _ _ _ h4
        · split
          · exact h6
          · split
            · exact h6
            · exact rdC_le q N f _ _ _ h6
theorem rdA_le {q : List Bool} {p : Nat} (n : Int) (h : p ≤ q.length) : (rdA q p n).2.2 ≤ q.length := by
  unfold rdA
  split
  · exact h
  · exact rdC_le q _ _ _ _ _ h
end Go.Proofs.Ytpdnohllbijonaa
