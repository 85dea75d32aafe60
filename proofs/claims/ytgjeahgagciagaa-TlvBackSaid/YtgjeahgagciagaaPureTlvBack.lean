/- The plain part of marlinelaw12.TlvBack: its printed form gives true for every input in its kinds' ranges. -/
import Derived.Test.YtgjeahgagciagaaL12
namespace Go.Proofs.Ytgjeahgagciagaa.Pure
open Go.Proofs.Ytgjeahgagciagaa.Print
theorem TlvBack : marlinelaw12_TlvBack.Pure := Go.Proofs.Ytgjeahgagciagaa.Sp.TlvBack
end Go.Proofs.Ytgjeahgagciagaa.Pure
