/- The plain part of marlinelaw21.TagsBack: its printed form gives true for every input in its kinds' ranges. -/
import Derived.Test.YthkgaciibfjejaaDoorL21b
namespace Go.Proofs.YthkgaciibfjejaaDoor.Pure
open Go.Proofs.YthkgaciibfjejaaDoor.Print
theorem TagsBack : marlinelaw21_TagsBack.Pure := Go.Proofs.YthkgaciibfjejaaDoor.Sp.TagsBack
end Go.Proofs.YthkgaciibfjejaaDoor.Pure
