/- The plain part of marlinelaw13.CtlBack: its printed form gives true for every input in its kinds' ranges. -/
import Derived.Test.YtppfoopecdmblaaL13
namespace Go.Proofs.Ytppfoopecdmblaa.Pure
open Go.Proofs.Ytppfoopecdmblaa.Print
theorem CtlBack : marlinelaw13_CtlBack.Pure := Go.Proofs.Ytppfoopecdmblaa.Sp.CtlBack
end Go.Proofs.Ytppfoopecdmblaa.Pure
