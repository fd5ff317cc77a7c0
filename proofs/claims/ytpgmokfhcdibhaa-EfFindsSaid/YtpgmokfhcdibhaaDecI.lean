/-
  Slices of numbers, opened. No condition.
-/
import Derived.Test.YtpgmokfhcdibhaaTypes
import Derived.Test.YtpgmokfhcdibhaaOpen
namespace Go.Proofs.Ytpgmokfhcdibhaa
open Go.RowKit
theorem dec_intW (W : World) : DecT Try.prog W 3 (fun x : Int => [.int .i64 x]) (fun x => -9223372036854775808 ≤ x ∧ x ≤ 9223372036854775807) := dec_int Try.underlying3
end Go.Proofs.Ytpgmokfhcdibhaa
