/- The plain part of marlinelaw21.TagsFinds: its printed form gives true for every input in its kinds' ranges. -/
import Derived.Test.YthkgaciibfjejaaDoorL21f
namespace Go.Proofs.YthkgaciibfjejaaDoor.Pure
open Go.Proofs.YthkgaciibfjejaaDoor.Print
theorem TagsFinds : marlinelaw21_TagsFinds.Pure := Go.Proofs.YthkgaciibfjejaaDoor.Sp.TagsFinds
end Go.Proofs.YthkgaciibfjejaaDoor.Pure
