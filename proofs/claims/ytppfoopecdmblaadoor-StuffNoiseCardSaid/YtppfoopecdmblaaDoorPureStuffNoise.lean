/- The plain part of marlinelaw04.StuffNoise: its printed form gives true for every input in its kinds' ranges. -/
import Derived.Test.YtppfoopecdmblaaDoorL04n
namespace Go.Proofs.YtppfoopecdmblaaDoor.Pure
open Go.Proofs.YtppfoopecdmblaaDoor.Print
theorem StuffNoise : marlinelaw04_StuffNoise.Pure := Go.Proofs.YtppfoopecdmblaaDoor.Sp.StuffNoise
end Go.Proofs.YtppfoopecdmblaaDoor.Pure
