/-
  Rows that bear the run-time's mark: []byte of a constant text. No condition.
-/
import Derived.Test.YtbkaoncopohdbaaEngJ
namespace Go.Proofs.Ytbkaoncopohdbaa
open Go.RowKit
set_option linter.unusedVariables false
set_option maxRecDepth 20000
section
variable {C : Cx} {fr : Fr} {L : List Ch} {f : Ch → List Ch} {x : Operand} {t ty e : TypeId} {A : Option Addr} {n c : Nat} {xs : List Value}
theorem eff_conv_own (ht : C.P.underlying t = some (.slice e)) (hu : C.P.underlying e = some (.int .u8)) (he : ev fr x = some (.slice A n c)) (hm : Sel (.own e 1 A n c xs) L f) (hc : 1 ≤ n) :
    Eff C fr L (.convert t t x) ty (fun v L' => ∃ g cur k, v = .slice A n c ∧ A = some ⟨g, 0, none⟩ ∧ n ≤ c ∧ cur.toList.take n = xs ∧ xs.length = n ∧ L' = f (.obj g (.cells cur e k))) := fun a w ha hw d pos af gg => by
  obtain ⟨h1, h2, h3⟩ := hw.all _ hm.mem
  obtain ⟨g, cur, rfl, k1, k2, k3, k4, k5⟩ := h3.resolve_left (by omega)
  have hsh : w.shape? g = some (e, cur.size) := by unfold World.shape?; rw [k2]
  have hlt : g < w.heap.size := (Array.getElem?_eq_some_iff.1 k2).1
  have hrun : (convert t t (.slice (some ⟨g, 0, none⟩) n c)).run C.P w = .ok (.slice (some ⟨g, 0, none⟩) n c) (w.freeze ⟨g, cur.size, none⟩ 1) := by
    simp [convert, run_underlying ht, run_underlying hu, markStringish, hsh]
  have hfr : (w.freeze ⟨g, cur.size, none⟩ 1).heap[g]? = some (.cells cur e (cur.size, cur.size + 1)) := by
    unfold World.freeze
    rw [if_neg (by decide)]
    show (w.heap.modify g _)[g]? = _
    rw [Array.getElem?_modify, if_pos rfl, k2]
    rfl
  have hgr : w.grownBy (w.freeze ⟨g, cur.size, none⟩ 1) (some g) := by
    unfold World.freeze
    rw [if_neg (by decide)]
    refine ⟨rfl, rfl, rfl, by simp, fun k hk hne => ?_⟩
    show (w.heap.modify g _)[k]? = _
    rw [Array.getElem?_modify, if_neg (fun e => hne (by rw [e]))]
  have hfp : (Ch.own e 1 (some ⟨g, 0, none⟩) n c xs).fp = some g := by simp [Ch.fp, show ¬ c = 0 by omega]
  refine ⟨_, w.freeze ⟨g, cur.size, none⟩ 1, _, .inl ?_, ⟨g, cur, (cur.size, cur.size + 1), rfl, rfl, h2, by rw [Nat.mul_one] at k5; exact k5, by omega, rfl⟩, hw.sel hm (by rw [hfp]; exact hgr) (fun _ => ⟨k1, hfr⟩) (.inr (.inl hfp.symm))⟩
  simp [execOp, ha.tmp he, hrun]
theorem Bor.obj {B : Nat} {w0 : World} {g : Nat} {cur : Array Value} {k : Nat × Nat} (h : Ch.obj g (.cells cur e k) ∈ L) (h2 : n ≤ c) (hx : cur.toList.take n = xs) (hl : xs.length = n) : Bor B w0 L 1 (.slice (some ⟨g, 0, none⟩) n c) n xs := fun w hs => by
  have hh := (hs.all _ h).2
  refine ⟨_, _, rfl, h2, by omega, fun _ => ⟨_, rfl, (Array.getElem?_eq_some_iff.1 hh).1, fun j u hu => ?_⟩⟩
  rw [Addr.add_lit, Nat.zero_add, cell_of_row w g j cur e k hh]
  rw [← hx, List.getElem?_take] at hu
  split at hu
  · simpa using hu
  · cases hu
end
end Go.Proofs.Ytbkaoncopohdbaa
