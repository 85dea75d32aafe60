/- The plain part of marlinelaw21.TagsTells: its printed form gives true for every input in its kinds' ranges. -/
import Derived.Test.YthkgaciibfjejaaDoorL21t
namespace Go.Proofs.YthkgaciibfjejaaDoor.Pure
open Go.Proofs.YthkgaciibfjejaaDoor.Print
theorem TagsTells : marlinelaw21_TagsTells.Pure := Go.Proofs.YthkgaciibfjejaaDoor.Sp.TagsTells
end Go.Proofs.YthkgaciibfjejaaDoor.Pure
