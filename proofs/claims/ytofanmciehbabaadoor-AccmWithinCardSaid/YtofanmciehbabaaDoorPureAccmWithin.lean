/- The plain part of marlinelaw03.AccmWithin: its printed form gives true for every input in its kinds' ranges. -/
import Derived.Test.YtofanmciehbabaaDoorL03w
namespace Go.Proofs.YtofanmciehbabaaDoor.Pure
open Go.Proofs.YtofanmciehbabaaDoor.Print
theorem AccmWithin : marlinelaw03_AccmWithin.Pure := Go.Proofs.YtofanmciehbabaaDoor.Sp.AccmWithin
end Go.Proofs.YtofanmciehbabaaDoor.Pure
