/-
  Rows of numbers that are not below 0. No condition.
-/
import Derived.Test.YtpamjobiohbibaaTypes
namespace Go.Proofs.Ytpamjobiohbibaa
open Go.RowKit
set_option linter.unusedVariables false
def natv (l : List Nat) : List Value := l.map fun (n : Nat) => Value.int .i64 (n : Int)
@[simp] theorem natv_append (l k : List Nat) : natv (l ++ k) = natv l ++ natv k := by simp [natv]
@[simp] theorem natv_length (l : List Nat) : (natv l).length = l.length := by simp [natv]
theorem natv_one (l : List Nat) : ∀ u ∈ natv l, u.oneCell' = true := by
  intro u hu; obtain ⟨b, _, rfl⟩ := List.mem_map.1 hu; rfl
theorem natv_get {l : List Nat} {k : Nat} (h : k < l.length) : (natv l)[k * 1]? = some (.int .i64 (l.getD k 0 : Nat)) := by
  simp [natv, List.getD, List.getElem?_eq_getElem h]
end Go.Proofs.Ytpamjobiohbibaa
