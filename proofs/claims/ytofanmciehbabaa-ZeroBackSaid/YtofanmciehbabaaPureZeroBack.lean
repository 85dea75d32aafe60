/- The plain part of marlinelaw06.ZeroBack: its printed form gives true for every input in its kinds' ranges. -/
import Derived.Test.YtofanmciehbabaaL06
namespace Go.Proofs.Ytofanmciehbabaa.Pure
open Go.Proofs.Ytofanmciehbabaa.Print
theorem ZeroBack : marlinelaw06_ZeroBack.Pure := Go.Proofs.Ytofanmciehbabaa.Sp.ZeroBack
end Go.Proofs.Ytofanmciehbabaa.Pure
