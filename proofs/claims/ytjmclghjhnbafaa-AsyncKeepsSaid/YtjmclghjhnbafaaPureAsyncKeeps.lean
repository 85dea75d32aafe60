/- The plain part of marlinelaw05.AsyncKeeps: its printed form gives true for every input in its kinds' ranges. -/
import Derived.Test.YtjmclghjhnbafaaL05k
namespace Go.Proofs.Ytjmclghjhnbafaa.Pure
open Go.Proofs.Ytjmclghjhnbafaa.Print
theorem AsyncKeeps : marlinelaw05_AsyncKeeps.Pure := Go.Proofs.Ytjmclghjhnbafaa.Sp.AsyncKeeps
end Go.Proofs.Ytjmclghjhnbafaa.Pure
