/- For all numbers and the sizes 1, 2 and 4: subtraction undoes addition, complementing twice gives the original, clearing bits and adding the common ones gives the original. No condition. -/
import Derived.Test.YtmmmifgddkfehaaPAlux26
import Derived.Test.YtmmmifgddkfehaaQAluBack
namespace Go.Proofs.Ytmmmifgddkfehaa.Pure
open Go.RowKit Go.Proofs.Ytmmmifgddkfehaa.PAlu
theorem AluBack : camshaftlaw08_AluBack.Pure := OPure.AluBack
end Go.Proofs.Ytmmmifgddkfehaa.Pure
