/- The plain part of marlinelaw06.ZeroAgain: its printed form gives true for every input in its kinds' ranges. -/
import Derived.Test.YtofanmciehbabaaL06
namespace Go.Proofs.Ytofanmciehbabaa.Pure
open Go.Proofs.Ytofanmciehbabaa.Print
theorem ZeroAgain : marlinelaw06_ZeroAgain.Pure := Go.Proofs.Ytofanmciehbabaa.Sp.ZeroAgain
end Go.Proofs.Ytofanmciehbabaa.Pure
