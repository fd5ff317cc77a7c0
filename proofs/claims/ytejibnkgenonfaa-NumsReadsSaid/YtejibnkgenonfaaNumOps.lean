/-
  The calls that the laws of cursors are handed, opened; and that a cursor with an error stands still. No condition.
-/
import Derived.Test.YtejibnkgenonfaaCurPure
import Derived.Test.YtejibnkgenonfaaCursor3
import Derived.Test.YtejibnkgenonfaaOpen
namespace Go.Proofs.Ytejibnkgenonfaa
/-- a call: its kind, its number, its error -/
abbrev NOp := UInt8 × Int × Int
def NOp.cells (x : NOp) : List Value := [.int .u8 (x.1.toNat : Int), .int .i64 x.2.1, .int .i64 x.2.2]
def NOp.ok (x : NOp) : Prop := True ∧ (-9223372036854775808 ≤ x.2.1 ∧ x.2.1 ≤ 9223372036854775807) ∧ (-9223372036854775808 ≤ x.2.2 ∧ x.2.2 ≤ 9223372036854775807)
theorem dec_nop (w : World) : DecT Try.prog w 55 NOp.cells NOp.ok :=
  dec_struct3 Try.underlying55 (by kernel_rfl) ⟨rfl, by kernel_rfl⟩ ⟨rfl, by kernel_rfl⟩ ⟨rfl, by kernel_rfl⟩ (dec_u8 Try.underlying5) (dec_int Try.underlying3) (dec_int Try.underlying28)
theorem nops_at {w : World} {B c : Nat} {A : Option Addr} {L : List NOp} (h : Rd w B 3 (.slice A L.length c) L.length (L.flatMap NOp.cells)) {k : Nat} (hk : k < L.length) :
    ∃ b off x, A = some ⟨b, off, none⟩ ∧ b < B ∧ L[k]? = some x ∧ w.cell? ⟨b, off + k * 3, none⟩ = some (.int .u8 ((x : NOp).1.toNat : Int)) ∧ w.cell? ⟨b, off + k * 3 + 1, none⟩ = some (.int .i64 x.2.1) ∧ w.cell? ⟨b, off + k * 3 + 2, none⟩ = some (.int .i64 x.2.2) := by
  obtain ⟨b, off, rfl, hb, hc⟩ := h.lit (by omega) (by omega)
  have hx : L[k]? = some L[k] := List.getElem?_eq_getElem hk
  have hF : ∀ x : NOp, (NOp.cells x).length = 3 := fun _ => rfl
  have g : ∀ j, j < 3 → (L.flatMap NOp.cells)[k * 3 + j]? = (NOp.cells L[k])[j]? := fun j hj => by rw [flatMap_get hF L k j hj, hx]; rfl
  refine ⟨b, off, L[k], rfl, hb, hx, ?_, ?_, ?_⟩
  · exact hc (k * 3 + 0) _ ((g 0 (by omega)).trans rfl)
  · exact hc (k * 3 + 1) _ ((g 1 (by omega)).trans rfl)
  · exact hc (k * 3 + 2) _ ((g 2 (by omega)).trans rfl)
theorem still {s : Cs} (h : s.e ≠ 0) (n e : Int) : s.failed e = s ∧ s.num = 0 ∧ s.num' = s ∧ s.int n = 0 ∧ s.int' n = s ∧ s.take n = [] ∧ s.take' n = s ∧ s.byte = 0 ∧ s.byte' = s ∧ s.fixed n = 0 ∧ s.fixed' n = s ∧ s.text n = [] ∧ s.text' n = s ∧ s.end' = s := by
  have hf : ∀ e, s.failed e = s := fun e => if_neg h
  have ht : ∀ n, s.take n = [] := fun n => if_pos h
  have hm : ∀ n e, s.moved n e = s := fun n e => if_pos h
  refine ⟨hf e, if_pos h, hm _ _, if_pos h, hm _ _, ht n, hm _ _, ?_, hm _ _, ?_, ?_, if_pos h, hm _ _, ?_⟩
  · unfold Cs.byte; rw [ht]; rfl
  · unfold Cs.fixed; rw [ht]; split <;> rfl
  · unfold Cs.fixed'; split
    · exact hf _
    · exact hm _ _
  · unfold Cs.end'; split
    · exact hf _
    · rfl
end Go.Proofs.Ytejibnkgenonfaa
