/- The plain part of marlinelaw06.ZeroJoin: its printed form gives true for every input in its kinds' ranges. -/
import Derived.Test.YtofanmciehbabaaL06
namespace Go.Proofs.Ytofanmciehbabaa.Pure
open Go.Proofs.Ytofanmciehbabaa.Print
theorem ZeroJoin : marlinelaw06_ZeroJoin.Pure := Go.Proofs.Ytofanmciehbabaa.Sp.ZeroJoin
end Go.Proofs.Ytofanmciehbabaa.Pure
