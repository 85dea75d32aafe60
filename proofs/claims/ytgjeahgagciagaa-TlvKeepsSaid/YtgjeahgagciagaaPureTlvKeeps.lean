/- The plain part of marlinelaw12.TlvKeeps: its printed form gives true for every input in its kinds' ranges. -/
import Derived.Test.YtgjeahgagciagaaL12k
namespace Go.Proofs.Ytgjeahgagciagaa.Pure
open Go.Proofs.Ytgjeahgagciagaa.Print
theorem TlvKeeps : marlinelaw12_TlvKeeps.Pure := Go.Proofs.Ytgjeahgagciagaa.Sp.TlvKeeps
end Go.Proofs.Ytgjeahgagciagaa.Pure
