/- For all numbers and the sizes 1, 2 and 4: Cmp gives the codes of Sub with exchanged operands but for V; exchanging its operands exchanges the codes. No condition. -/
import Derived.Test.YtmmmifgddkfehaaPAlux25
import Derived.Test.YtmmmifgddkfehaaQAluCompares
namespace Go.Proofs.Ytmmmifgddkfehaa.Pure
open Go.RowKit Go.Proofs.Ytmmmifgddkfehaa.PAlu
theorem AluCompares : camshaftlaw08_AluCompares.Pure := OPure.AluCompares
end Go.Proofs.Ytmmmifgddkfehaa.Pure
