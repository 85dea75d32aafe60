/- The plain part of marlinelaw06.ZeroTells: its printed form gives true for every input in its kinds' ranges. -/
import Derived.Test.YtofanmciehbabaaL06
namespace Go.Proofs.Ytofanmciehbabaa.Pure
open Go.Proofs.Ytofanmciehbabaa.Print
theorem ZeroTells : marlinelaw06_ZeroTells.Pure := Go.Proofs.Ytofanmciehbabaa.Sp.ZeroTells
end Go.Proofs.Ytofanmciehbabaa.Pure
