/-
  Records, opened. No condition.
-/
import Derived.Test.YtpamjobiohbibaaTypes
import Derived.Test.YtpamjobiohbibaaOpen
namespace Go.Proofs.Ytpamjobiohbibaa
open Go.RowKit
set_option linter.unusedVariables false
/-- a record: its time, its level, its source, its text -/
abbrev RecC := Nat × UInt8 × List UInt8 × List UInt8
def RecC.cells (x : RecC) : List Value := [.int .u64 x.1, .int .u8 (x.2.1.toNat : Int), .string ⟨x.2.2.1.toArray⟩, .string ⟨x.2.2.2.toArray⟩]
def RecC.ok (x : RecC) : Prop := x.1 < 18446744073709551616 ∧ True ∧ x.2.2.1.length ≤ maxLen ∧ x.2.2.2.length ≤ maxLen
theorem dec_strL {P : Program} {w : World} {t : TypeId} (ht : P.underlying t = some .string) : DecT P w t (fun s : List UInt8 => [.string ⟨s.toArray⟩]) (fun s => s.length ≤ maxLen) := by
  intro H enc n cs y h
  obtain ⟨s, h1, h2⟩ := dec_string ht H enc n cs y h
  refine ⟨s.data.toList, ?_, ?_⟩
  · rw [h1]
  · have e : s.data.toList.length = s.size := by rw [Array.length_toList]; rfl
    show s.data.toList.length ≤ maxLen
    rw [e]; exact h2
theorem dec_rec (w : World) : DecT Try.prog w 35 RecC.cells RecC.ok :=
  dec_struct4 Try.underlying35 (by kernel_rfl) ⟨rfl, by kernel_rfl⟩ ⟨rfl, by kernel_rfl⟩ ⟨rfl, by kernel_rfl⟩ ⟨rfl, by kernel_rfl⟩ (dec_u64 Try.underlying33) (dec_u8 Try.underlying5) (dec_strL Try.underlying9) (dec_strL Try.underlying9)
def recs (L : List RecC) : List Value := L.flatMap RecC.cells
def recAt (L : List RecC) (k : Nat) : RecC := L.getD k (0, 0, [], [])
theorem rec_get {L : List RecC} {k : Nat} (hk : k < L.length) {j : Nat} (hj : j < 4) : (recs L)[k * 4 + j]? = (RecC.cells (recAt L k))[j]? := by
  rw [recs, flatMap_get (size := 4) (fun _ => rfl) L k j hj, recAt, List.getD_eq_getElem?_getD, List.getElem?_eq_getElem hk]
  rfl
theorem recAt_ok {L : List RecC} (h : ∀ x ∈ L, RecC.ok x) {k : Nat} (hk : k < L.length) : RecC.ok (recAt L k) := by
  refine h _ ?_
  rw [recAt, List.getD_eq_getElem?_getD, List.getElem?_eq_getElem hk]
  exact List.getElem_mem hk
end Go.Proofs.Ytpamjobiohbibaa
