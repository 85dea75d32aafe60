/- The plain part of marlinelaw04.StuffJoin: its printed form gives true for every input in its kinds' ranges. -/
import Derived.Test.YtppfoopecdmblaaL04
namespace Go.Proofs.Ytppfoopecdmblaa.Pure
open Go.Proofs.Ytppfoopecdmblaa.Print
theorem StuffJoin : marlinelaw04_StuffJoin.Pure := Go.Proofs.Ytppfoopecdmblaa.Sp.StuffJoin
end Go.Proofs.Ytppfoopecdmblaa.Pure
