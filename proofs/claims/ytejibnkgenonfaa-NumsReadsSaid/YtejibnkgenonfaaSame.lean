/-
  What firkinref01.Same computes: whether two lists of bytes are the same. Conditions: both read as lists of bytes.
-/
import Derived.Test.YtejibnkgenonfaaRows
import Derived.Test.YtejibnkgenonfaaBase
namespace Go.Proofs.Ytejibnkgenonfaa
open Go.RowKit
set_option linter.unusedVariables false
theorem same_c {B1 B2 n1 n2 : Nat} {v1 v2 : Value} {l1 l2 : List UInt8} (w : World) (h1 : Rd w B1 1 v1 n1 (bv l1)) (h2 : Rd w B2 1 v2 n2 (bv l2)) :
    Calls Try.prog 18 #[v1, v2] w fun e w' => e = .returned (.bool (l1 == l2)) ∧ w = w' := by
  have k1 := run_bstr Try.underlying27 Try.underlying5 Try.underlying9 h1
  have k2 := run_bstr Try.underlying27 Try.underlying5 Try.underlying9 h2
  obtain ⟨A1, c1, rfl, _⟩ := h1
  obtain ⟨A2, c2, rfl, _⟩ := h2
  go_enter Try.func18, Try.ntmps18
  go_wp2
  go_ret
  exact ⟨rfl, rfl⟩
end Go.Proofs.Ytejibnkgenonfaa
