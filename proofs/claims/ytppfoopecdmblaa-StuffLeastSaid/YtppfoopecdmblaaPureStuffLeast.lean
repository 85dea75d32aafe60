/- The plain part of marlinelaw04.StuffLeast: its printed form gives true for every input in its kinds' ranges. -/
import Derived.Test.YtppfoopecdmblaaL04
namespace Go.Proofs.Ytppfoopecdmblaa.Pure
open Go.Proofs.Ytppfoopecdmblaa.Print
theorem StuffLeast : marlinelaw04_StuffLeast.Pure := Go.Proofs.Ytppfoopecdmblaa.Sp.StuffLeast
end Go.Proofs.Ytppfoopecdmblaa.Pure
