/- The plain part of marlinelaw13.CtlOne: its printed form gives true for every input in its kinds' ranges. -/
import Derived.Test.YtppfoopecdmblaaL13
namespace Go.Proofs.Ytppfoopecdmblaa.Pure
open Go.Proofs.Ytppfoopecdmblaa.Print
theorem CtlOne : marlinelaw13_CtlOne.Pure := Go.Proofs.Ytppfoopecdmblaa.Sp.CtlOne
end Go.Proofs.Ytppfoopecdmblaa.Pure
