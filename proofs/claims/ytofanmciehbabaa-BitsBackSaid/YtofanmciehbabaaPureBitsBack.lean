/- The plain part of marlinelaw01.BitsBack: its printed form gives true for every input in its kinds' ranges. -/
import Derived.Test.YtofanmciehbabaaL01
namespace Go.Proofs.Ytofanmciehbabaa.Pure
open Go.Proofs.Ytofanmciehbabaa.Print
theorem BitsBack : marlinelaw01_BitsBack.Pure := Go.Proofs.Ytofanmciehbabaa.Sp.BitsBack
end Go.Proofs.Ytofanmciehbabaa.Pure
