/- The plain part of marlinelaw01.BitsJoin: its printed form gives true for every input in its kinds' ranges. -/
import Derived.Test.YtofanmciehbabaaL01
namespace Go.Proofs.Ytofanmciehbabaa.Pure
open Go.Proofs.Ytofanmciehbabaa.Print
theorem BitsJoin : marlinelaw01_BitsJoin.Pure := Go.Proofs.Ytofanmciehbabaa.Sp.BitsJoin
end Go.Proofs.Ytofanmciehbabaa.Pure
