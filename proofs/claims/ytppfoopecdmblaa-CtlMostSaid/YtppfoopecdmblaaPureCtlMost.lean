/- The plain part of marlinelaw13.CtlMost: its printed form gives true for every input in its kinds' ranges. -/
import Derived.Test.YtppfoopecdmblaaL13
namespace Go.Proofs.Ytppfoopecdmblaa.Pure
open Go.Proofs.Ytppfoopecdmblaa.Print
theorem CtlMost : marlinelaw13_CtlMost.Pure := Go.Proofs.Ytppfoopecdmblaa.Sp.CtlMost
end Go.Proofs.Ytppfoopecdmblaa.Pure
