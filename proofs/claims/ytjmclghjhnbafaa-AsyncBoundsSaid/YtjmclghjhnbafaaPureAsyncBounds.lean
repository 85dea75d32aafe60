/- The plain part of marlinelaw05.AsyncBounds: its printed form gives true for every input in its kinds' ranges. -/
import Derived.Test.YtjmclghjhnbafaaL05b
namespace Go.Proofs.Ytjmclghjhnbafaa.Pure
open Go.Proofs.Ytjmclghjhnbafaa.Print
theorem AsyncBounds : marlinelaw05_AsyncBounds.Pure := Go.Proofs.Ytjmclghjhnbafaa.Sp.AsyncBounds
end Go.Proofs.Ytjmclghjhnbafaa.Pure
