/- For all numbers, carries and the sizes 1, 2 and 4: subtracting what was added gives the original, and the other way round. No condition. -/
import Derived.Test.YtmmmifgddkfehaaPAllx8
import Derived.Test.YtmmmifgddkfehaaPureBits1
namespace Go.Proofs.Ytmmmifgddkfehaa.Pure
open Go.RowKit Go.Proofs.Ytmmmifgddkfehaa.PAll
theorem BitsBack : camshaftlaw01_BitsBack.Pure := OPure.BitsBack
end Go.Proofs.Ytmmmifgddkfehaa.Pure
