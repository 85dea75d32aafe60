/- The plain part of marlinelaw21.TagsEnds: its printed form gives true for every input in its kinds' ranges. -/
import Derived.Test.YthkgaciibfjejaaDoorL21e
namespace Go.Proofs.YthkgaciibfjejaaDoor.Pure
open Go.Proofs.YthkgaciibfjejaaDoor.Print
theorem TagsEnds : marlinelaw21_TagsEnds.Pure := Go.Proofs.YthkgaciibfjejaaDoor.Sp.TagsEnds
end Go.Proofs.YthkgaciibfjejaaDoor.Pure
