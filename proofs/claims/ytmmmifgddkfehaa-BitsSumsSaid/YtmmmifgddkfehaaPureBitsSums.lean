/- For all numbers, carries and the sizes 1, 2 and 4: Add and Sub return the reference's sums, differences and codes. No condition. -/
import Derived.Test.YtmmmifgddkfehaaPAllx7
import Derived.Test.YtmmmifgddkfehaaPureBits1
namespace Go.Proofs.Ytmmmifgddkfehaa.Pure
open Go.RowKit Go.Proofs.Ytmmmifgddkfehaa.PAll
theorem BitsSums : camshaftlaw01_BitsSums.Pure := OPure.BitsSums
end Go.Proofs.Ytmmmifgddkfehaa.Pure
