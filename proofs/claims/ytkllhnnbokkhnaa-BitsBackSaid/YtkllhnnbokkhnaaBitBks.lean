/-
  What BitsBack's walk needs of calls. No condition.
-/
import Derived.Test.YtkllhnnbokkhnaaBitOps
import Derived.Test.YtkllhnnbokkhnaaBitRdr
import Derived.Test.YtkllhnnbokkhnaaBitBk
namespace Go.Proofs.Ytkllhnnbokkhnaa
open Go.RowKit
set_option linter.unusedVariables false
theorem bops_snoc (M : List BOp) (x : BOp) : bops (M ++ [x]) = bops M ++ BOp.cells x := by simp [bops]
theorem op_cells {L : List BOp} {k : Nat} (hk : k < L.length) : ∀ (q : Nat) (u : Value), (BOp.cells (opAt L k))[q]? = some u → (bops L)[k * 3 + q]? = some u := fun q u h => by
  have hq : q < 3 := by
    have := (List.getElem?_eq_some_iff.1 h).1
    simpa [BOp.cells] using this
  rw [bop_get hk hq]; exact h
theorem eff_build_op {B : Nat} {w0 : World} {N : Nat} {fr : Fr} {L : List Ch} {ty : TypeId} {x : Operand} (o : BOp) (he : ev fr x = some (.agg (BOp.cells o).toArray)) :
    Eff { P := Try.prog, N := N, B := B, w0 := w0 } fr L (.buildSlice 22 1 #[(0, x)]) ty (fun p L' => ∃ A, p = .slice A 1 1 ∧ L' = .own 34 3 A 1 1 (BOp.cells o) :: L) :=
  eff_buildSlice (parts := [(0, x)]) (us := [(0, .agg (BOp.cells o).toArray)]) (size := 3) (kk := 1) Try.underlying22 (by kernel_rfl) (by omega) (by omega) (by omega) (zv := .agg #[.int .u8 0, .int .u64 0, .int .i64 0]) (by kernel_rfl) (by simp [he]) (by kernel_rfl) rfl
theorem encs_take_le (M : List BO) (j : Nat) : (encs (M.take j)).length ≤ (encs M).length := by
  have h : encs M = encs (M.take j) ++ encs (M.drop j) := by rw [encs, encs, encs, ← List.flatMap_append, List.take_append_drop]
  rw [h, List.length_append]; omega
theorem put_acc {x : BOp} {q : List Bool} (h0 : x.1.toNat % 2 = 0) : (putE x.2.1 x.2.2 = 0 ∧ acc x ∧ putQ q x.2.1 x.2.2 = q ++ enc x) ∨ (¬ putE x.2.1 x.2.2 = 0 ∧ putQ q x.2.1 x.2.2 = q) := by
  unfold putE putQ acc enc
  rw [if_pos h0, if_pos h0]
  split
  · exact .inl ⟨rfl, by assumption, rfl⟩
  · exact .inr ⟨by omega, rfl⟩
theorem un_acc {x : BOp} {q : List Bool} (h0 : ¬ x.1.toNat % 2 = 0) (h3 : x.2.2 ≤ 300) : (unE x.2.2 = 0 ∧ acc x ∧ unQ q x.2.2 = q ++ enc x) ∨ (¬ unE x.2.2 = 0 ∧ unQ q x.2.2 = q) := by
  unfold unE unQ acc enc
  rw [if_neg h0, if_neg h0]
  split
  · exact .inl ⟨rfl, by omega, rfl⟩
  · exact .inr ⟨by omega, rfl⟩
end Go.Proofs.Ytkllhnnbokkhnaa
