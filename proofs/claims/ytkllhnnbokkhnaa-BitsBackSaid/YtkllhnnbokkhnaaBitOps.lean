/-
  The calls that the laws of bits are handed, opened. No condition.
-/
import Derived.Test.YtkllhnnbokkhnaaBitLaw
import Derived.Test.YtkllhnnbokkhnaaOpen
namespace Go.Proofs.Ytkllhnnbokkhnaa
open Go.RowKit
/-- a call: its kind, what it puts, its number -/
abbrev BOp := UInt8 × Nat × Int
def BOp.cells (x : BOp) : List Value := [.int .u8 (x.1.toNat : Int), .int .u64 x.2.1, .int .i64 x.2.2]
def BOp.ok (x : BOp) : Prop := True ∧ x.2.1 < 18446744073709551616 ∧ (-9223372036854775808 ≤ x.2.2 ∧ x.2.2 ≤ 9223372036854775807)
theorem dec_bop (w : World) : DecT Try.prog w 34 BOp.cells BOp.ok :=
  dec_struct3 Try.underlying34 (by kernel_rfl) ⟨rfl, by kernel_rfl⟩ ⟨rfl, by kernel_rfl⟩ ⟨rfl, by kernel_rfl⟩ (dec_u8 Try.underlying5) (dec_u64 Try.underlying32) (dec_int Try.underlying3)
def bops (L : List BOp) : List Value := L.flatMap BOp.cells
def opAt (L : List BOp) (k : Nat) : BOp := L.getD k (0, 0, 0)
theorem bop_get {L : List BOp} {k : Nat} (hk : k < L.length) {j : Nat} (hj : j < 3) : (bops L)[k * 3 + j]? = (BOp.cells (opAt L k))[j]? := by
  rw [bops, flatMap_get (size := 3) (fun _ => rfl) L k j hj, opAt, List.getD_eq_getElem?_getD, List.getElem?_eq_getElem hk]
  rfl
theorem opAt_ok {L : List BOp} (h : ∀ x ∈ L, BOp.ok x) {k : Nat} (hk : k < L.length) : BOp.ok (opAt L k) := by
  refine h _ ?_
  rw [opAt, List.getD_eq_getElem?_getD, List.getElem?_eq_getElem hk]
  exact List.getElem_mem hk
theorem tmod2u (u : UInt8) : ((u.toNat : Int)).tmod 2 = ((u.toNat % 2 : Nat) : Int) := tmod2 _
theorem tmod5 (n : Nat) : (n : Int).tmod 5 = ((n % 5 : Nat) : Int) := by rw [Int.tmod_eq_emod_of_nonneg (by omega)]; omega
end Go.Proofs.Ytkllhnnbokkhnaa
