/- The pure statement of AluDoes. -/
import Derived.Test.YtmmmifgddkfehaaOAlu2
import Derived.Test.YtmmmifgddkfehaaPAlux11
import Derived.Test.YtmmmifgddkfehaaPAlux23
namespace Go.Proofs.Ytmmmifgddkfehaa.OPure
open Go Go.RowKit Go.Proofs.Ytmmmifgddkfehaa.PAlu Go.Proofs.Ytmmmifgddkfehaa.OBits Go.Proofs.Ytmmmifgddkfehaa.ONorm Go.Proofs.Ytmmmifgddkfehaa.OAlu

theorem alive08 : camshaftlaw08_alive.f = some true := by
  unfold camshaftlaw08_alive.f
  rw [do_f (.inl rfl) (by decide) (by decide)]
  decide +kernel
theorem AluDoes : camshaftlaw08_AluDoes.Pure := by
  intro op a b c n _ ha hb _
  refine ⟨101, ?_⟩
  unfold camshaftlaw08_AluDoes.f
  rw [alive08, Option.bind_some, if_pos rfl]
  rcases size_cases n with h | h
  · have ua := wf_u32 ha
    have ub := wf_u32 hb
    rw [size_true h, Option.bind_some, if_pos rfl, do_f h ua ub, rdo_f h ua ub 101 (by omega), logic_f, rlogic_f]
    simp
  · rw [h, Option.bind_some, if_neg (by decide)]

end Go.Proofs.Ytmmmifgddkfehaa.OPure
