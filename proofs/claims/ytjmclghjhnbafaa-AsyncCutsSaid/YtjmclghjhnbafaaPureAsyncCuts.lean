/- The plain part of marlinelaw05.AsyncCuts: its printed form gives true for every input in its kinds' ranges. -/
import Derived.Test.YtjmclghjhnbafaaL05c
namespace Go.Proofs.Ytjmclghjhnbafaa.Pure
open Go.Proofs.Ytjmclghjhnbafaa.Print
theorem AsyncCuts : marlinelaw05_AsyncCuts.Pure := Go.Proofs.Ytjmclghjhnbafaa.Sp.AsyncCuts
end Go.Proofs.Ytjmclghjhnbafaa.Pure
