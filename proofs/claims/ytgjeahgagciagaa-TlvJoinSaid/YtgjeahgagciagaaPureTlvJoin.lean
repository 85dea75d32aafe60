/- The plain part of marlinelaw12.TlvJoin: its printed form gives true for every input in its kinds' ranges. -/
import Derived.Test.YtgjeahgagciagaaL12
namespace Go.Proofs.Ytgjeahgagciagaa.Pure
open Go.Proofs.Ytgjeahgagciagaa.Print
theorem TlvJoin : marlinelaw12_TlvJoin.Pure := Go.Proofs.Ytgjeahgagciagaa.Sp.TlvJoin
end Go.Proofs.Ytgjeahgagciagaa.Pure
