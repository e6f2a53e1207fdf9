/- For all operations, numbers, carries and the sizes 1, 2 and 4: Do and Logic return the reference's results. No condition. -/
import Derived.Test.YtmmmifgddkfehaaPAlux23
import Derived.Test.YtmmmifgddkfehaaQAluDoes
namespace Go.Proofs.Ytmmmifgddkfehaa.Pure
open Go.RowKit Go.Proofs.Ytmmmifgddkfehaa.PAlu
theorem AluDoes : camshaftlaw08_AluDoes.Pure := OPure.AluDoes
end Go.Proofs.Ytmmmifgddkfehaa.Pure
