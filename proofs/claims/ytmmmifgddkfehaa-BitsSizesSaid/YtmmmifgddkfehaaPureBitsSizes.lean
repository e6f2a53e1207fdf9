/- For all numbers and the sizes 1, 2 and 4: Mask, Top, Neg, Extend, Signs and Put return the reference's results. No condition. -/
import Derived.Test.YtmmmifgddkfehaaPAllx9
import Derived.Test.YtmmmifgddkfehaaPureBits2
namespace Go.Proofs.Ytmmmifgddkfehaa.Pure
open Go.RowKit Go.Proofs.Ytmmmifgddkfehaa.PAll
theorem BitsSizes : camshaftlaw01_BitsSizes.Pure := OPure.BitsSizes
end Go.Proofs.Ytmmmifgddkfehaa.Pure
