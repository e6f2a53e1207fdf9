/- For all numbers and the sizes 1, 2 and 4: Less and Compare return the reference's results and agree with the codes of the difference. No condition. -/
import Derived.Test.YtmmmifgddkfehaaPAllx11
import Derived.Test.YtmmmifgddkfehaaPureBits2
namespace Go.Proofs.Ytmmmifgddkfehaa.Pure
open Go.RowKit Go.Proofs.Ytmmmifgddkfehaa.PAll
theorem BitsCompares : camshaftlaw01_BitsCompares.Pure := OPure.BitsCompares
end Go.Proofs.Ytmmmifgddkfehaa.Pure
