/-
  nums.Text and the document's Text as contracts of pieces, from the older ones. Condition: texts shorter than 2^40.
-/
import Derived.Test.YtbkaoncopohdbaaTypes
import Derived.Test.YtbkaoncopohdbaaNum
namespace Go.Proofs.Ytbkaoncopohdbaa
open Go.RowKit
set_option linter.unusedVariables false
variable {B : Nat} {w0 : World} {F : List Ch}
theorem text_d (s : List UInt8) (hs : s.length ≤ 1099511627776) : Does Try.prog B w0 44 [.string ⟨s.toArray⟩] F (fun r L => ∃ A c, r = .slice A (encT s).length c ∧ L = .own 5 1 A (encT s).length c (bv (encT s)) :: F) := by
  have h := fun w => text_c (⟨s.toArray⟩ : ByteArray) (by simpa [ByteArray.size] using hs) w
  exact Does.of_own fun w _ => h w
theorem rtext_d (s : List UInt8) (hs : s.length ≤ 1099511627776) : Does Try.prog B w0 31 [.string ⟨s.toArray⟩] F (fun r L => ∃ A c, r = .slice A (encT s).length c ∧ L = .own 5 1 A (encT s).length c (bv (encT s)) :: F) := by
  have h := fun w => rtext_c (⟨s.toArray⟩ : ByteArray) (by simpa [ByteArray.size] using hs) w
  exact Does.of_own fun w _ => h w
end Go.Proofs.Ytbkaoncopohdbaa
