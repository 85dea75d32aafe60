/- The plain part of marlinelaw03.AccmBack: its printed form gives true for every input in its kinds' ranges. -/
import Derived.Test.YtofanmciehbabaaDoorL03t
namespace Go.Proofs.YtofanmciehbabaaDoor.Pure
open Go.Proofs.YtofanmciehbabaaDoor.Print
theorem AccmBack : marlinelaw03_AccmBack.Pure := Go.Proofs.YtofanmciehbabaaDoor.Sp.AccmBack
end Go.Proofs.YtofanmciehbabaaDoor.Pure
