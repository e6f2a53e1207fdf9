/- For all numbers and the sizes 1, 2 and 4: sign extension keeps the signed value, is idempotent and keeps the signs. No condition. -/
import Derived.Test.YtmmmifgddkfehaaPAllx9
import Derived.Test.YtmmmifgddkfehaaPureBits1
namespace Go.Proofs.Ytmmmifgddkfehaa.Pure
open Go.RowKit Go.Proofs.Ytmmmifgddkfehaa.PAll
theorem BitsExtends : camshaftlaw01_BitsExtends.Pure := OPure.BitsExtends
end Go.Proofs.Ytmmmifgddkfehaa.Pure
