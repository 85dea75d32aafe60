/- The plain part of marlinelaw03.AccmTells: its printed form gives true for every input in its kinds' ranges. -/
import Derived.Test.YtofanmciehbabaaDoorL03t
namespace Go.Proofs.YtofanmciehbabaaDoor.Pure
open Go.Proofs.YtofanmciehbabaaDoor.Print
theorem AccmTells : marlinelaw03_AccmTells.Pure := Go.Proofs.YtofanmciehbabaaDoor.Sp.AccmTells
end Go.Proofs.YtofanmciehbabaaDoor.Pure
