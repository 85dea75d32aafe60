/- The plain part of marlinelaw01.BitsTell: its printed form gives true for every input in its kinds' ranges. -/
import Derived.Test.YtofanmciehbabaaL01
namespace Go.Proofs.Ytofanmciehbabaa.Pure
open Go.Proofs.Ytofanmciehbabaa.Print
theorem BitsTell : marlinelaw01_BitsTell.Pure := Go.Proofs.Ytofanmciehbabaa.Sp.BitsTell
end Go.Proofs.Ytofanmciehbabaa.Pure
