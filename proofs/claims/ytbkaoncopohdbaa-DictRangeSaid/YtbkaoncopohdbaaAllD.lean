/-
  nums.All as a contract of pieces. Condition: all parts together are shorter than 2^40.
-/
import Derived.Test.YtbkaoncopohdbaaTypes
import Derived.Test.YtbkaoncopohdbaaConcat
namespace Go.Proofs.Ytbkaoncopohdbaa
open Go.RowKit
set_option linter.unusedVariables false
set_option maxRecDepth 20000
variable {B : Nat} {w0 : World} {F : List Ch} {A : Option Addr} {n c : Nat}
theorem all_d {P : Parts} {l : List UInt8} (hb : Bor B w0 F 1 (.slice A n c) n P.vals) (hP : ∀ x ∈ P, Bor B w0 F 1 x.1 x.2.length (bv x.2)) (hn : n = P.length) (hall : P.all = l) (hlen : l.length ≤ 1099511627776) (hPl : P.length ≤ 1099511627776) :
    Does Try.prog B w0 29 [.slice A n c] F (fun r L => ∃ A' c', r = .slice A' l.length c' ∧ L = .own 5 1 A' l.length c' (bv l) :: F) := by
  subst hall
  exact Does.of_own fun w hw => all_c (B := w.heap.size) w hn (hb w hw) (fun x hx => hP x hx w hw) (Nat.le_refl _) hlen hPl
end Go.Proofs.Ytbkaoncopohdbaa
