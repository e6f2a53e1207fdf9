/- For all operations, numbers and the sizes 1, 2 and 4: bits beyond the size never matter, bitwise operations agree for all sizes. No condition. -/
import Derived.Test.YtmmmifgddkfehaaPAlux24
import Derived.Test.YtmmmifgddkfehaaQAluSizes
namespace Go.Proofs.Ytmmmifgddkfehaa.Pure
open Go.RowKit Go.Proofs.Ytmmmifgddkfehaa.PAlu
theorem AluSizes : camshaftlaw08_AluSizes.Pure := OPure.AluSizes
end Go.Proofs.Ytmmmifgddkfehaa.Pure
