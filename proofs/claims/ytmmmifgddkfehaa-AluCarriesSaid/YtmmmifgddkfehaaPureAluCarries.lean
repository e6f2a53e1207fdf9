/- For all numbers and carries: adding (subtracting) two halves with the carry between them equals adding (subtracting) the whole. No condition. -/
import Derived.Test.YtmmmifgddkfehaaPAlux27
import Derived.Test.YtmmmifgddkfehaaQAluCarries
namespace Go.Proofs.Ytmmmifgddkfehaa.Pure
open Go.RowKit Go.Proofs.Ytmmmifgddkfehaa.PAlu
theorem AluCarries : camshaftlaw08_AluCarries.Pure := OPure.AluCarries
end Go.Proofs.Ytmmmifgddkfehaa.Pure
