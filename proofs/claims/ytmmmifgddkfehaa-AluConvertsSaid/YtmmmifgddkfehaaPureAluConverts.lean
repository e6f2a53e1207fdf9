/- For all numbers, the sizes 1, 2 and 4, with or without sign: Convert returns the reference's result; a number that fits is preserved. No condition. -/
import Derived.Test.YtmmmifgddkfehaaPAlux30
import Derived.Test.YtmmmifgddkfehaaQAluConverts
namespace Go.Proofs.Ytmmmifgddkfehaa.Pure
open Go.RowKit Go.Proofs.Ytmmmifgddkfehaa.PAlu
theorem AluConverts : camshaftlaw08_AluConverts.Pure := OPure.AluConverts
end Go.Proofs.Ytmmmifgddkfehaa.Pure
