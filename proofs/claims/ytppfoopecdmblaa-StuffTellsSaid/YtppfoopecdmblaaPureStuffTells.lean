/- The plain part of marlinelaw04.StuffTells: its printed form gives true for every input in its kinds' ranges. -/
import Derived.Test.YtppfoopecdmblaaL04
namespace Go.Proofs.Ytppfoopecdmblaa.Pure
open Go.Proofs.Ytppfoopecdmblaa.Print
theorem StuffTells : marlinelaw04_StuffTells.Pure := Go.Proofs.Ytppfoopecdmblaa.Sp.StuffTells
end Go.Proofs.Ytppfoopecdmblaa.Pure
