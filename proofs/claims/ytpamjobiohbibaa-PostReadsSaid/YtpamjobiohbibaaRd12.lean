/-
  Texts of one proof, joined: part 12. No condition.
-/
import Derived.Test.YtpamjobiohbibaaRd11
namespace Go.Proofs.Ytpamjobiohbibaa
open Go.RowKit
end Go.Proofs.Ytpamjobiohbibaa
