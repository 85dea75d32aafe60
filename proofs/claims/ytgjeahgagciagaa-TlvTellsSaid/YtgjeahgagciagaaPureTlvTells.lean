/- The plain part of marlinelaw12.TlvTells: its printed form gives true for every input in its kinds' ranges. -/
import Derived.Test.YtgjeahgagciagaaL12t
namespace Go.Proofs.Ytgjeahgagciagaa.Pure
open Go.Proofs.Ytgjeahgagciagaa.Print
theorem TlvTells : marlinelaw12_TlvTells.Pure := Go.Proofs.Ytgjeahgagciagaa.Sp.TlvTells
end Go.Proofs.Ytgjeahgagciagaa.Pure
