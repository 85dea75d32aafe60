/- The plain part of marlinelaw04.StuffBack: its printed form gives true for every input in its kinds' ranges. -/
import Derived.Test.YtppfoopecdmblaaL04
namespace Go.Proofs.Ytppfoopecdmblaa.Pure
open Go.Proofs.Ytppfoopecdmblaa.Print
theorem StuffBack : marlinelaw04_StuffBack.Pure := Go.Proofs.Ytppfoopecdmblaa.Sp.StuffBack
end Go.Proofs.Ytppfoopecdmblaa.Pure
