/- For all numbers and the sizes 1, 2 and 4: Mul and Div return the reference's results. No condition. -/
import Derived.Test.YtmmmifgddkfehaaPAllx15
import Derived.Test.YtmmmifgddkfehaaPureBits2
namespace Go.Proofs.Ytmmmifgddkfehaa.Pure
open Go.RowKit Go.Proofs.Ytmmmifgddkfehaa.PAll
theorem BitsTimes : camshaftlaw01_BitsTimes.Pure := OPure.BitsTimes
end Go.Proofs.Ytmmmifgddkfehaa.Pure
