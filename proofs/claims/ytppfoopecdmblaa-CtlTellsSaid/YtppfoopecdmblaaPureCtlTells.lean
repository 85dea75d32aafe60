/- The plain part of marlinelaw13.CtlTells: its printed form gives true for every input in its kinds' ranges. -/
import Derived.Test.YtppfoopecdmblaaL13
namespace Go.Proofs.Ytppfoopecdmblaa.Pure
open Go.Proofs.Ytppfoopecdmblaa.Print
theorem CtlTells : marlinelaw13_CtlTells.Pure := Go.Proofs.Ytppfoopecdmblaa.Sp.CtlTells
end Go.Proofs.Ytppfoopecdmblaa.Pure
