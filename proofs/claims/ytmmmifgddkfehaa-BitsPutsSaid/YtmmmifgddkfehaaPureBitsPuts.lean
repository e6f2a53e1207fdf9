/- For all numbers and the sizes 1, 2 and 4: Put replaces the low part and keeps the other bits, putting the old part back restores the word, the low part is the word put into 0. No condition. -/
import Derived.Test.YtmmmifgddkfehaaPAllx3
import Derived.Test.YtmmmifgddkfehaaPureBits1
namespace Go.Proofs.Ytmmmifgddkfehaa.Pure
open Go.RowKit Go.Proofs.Ytmmmifgddkfehaa.PAll
theorem BitsPuts : camshaftlaw01_BitsPuts.Pure := OPure.BitsPuts
end Go.Proofs.Ytmmmifgddkfehaa.Pure
