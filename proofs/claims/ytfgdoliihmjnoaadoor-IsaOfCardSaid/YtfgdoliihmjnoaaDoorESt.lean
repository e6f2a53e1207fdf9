/- The start of this seat's runs and what a closed run says of the machine. -/
import Derived.Test.YtfgdoliihmjnoaaDoorELk
namespace Go.Proofs.YtfgdoliihmjnoaaDoorE
open Go Go.E Go.Proofs
set_option maxRecDepth 100000
def space : List Int := [0,0,0,0,0,0,0,0,0,1,1,1,1,1,0,0,0,0,0,0,0,0,0,0,0,0,0,0,0,0,0,0,1]++ List.replicate 223 0
noncomputable def tab0 : List (Nat × AObj) := [(0, .table (space.map (.int .u8)))]
noncomputable def st0 : St := Go.E.start tab0 20
def okTrue (r : Option (Value × St)) : Bool := match r with
  | some (.bool true, st) => st.log.isEmpty
  | _ => false
theorem okTrue_some {r : Option (Value × St)} (h : okTrue r = true) : ∃ st', r = some (.bool true, st') ∧ st'.log = [] := by
  unfold okTrue at h
  split at h
  · rename_i st; exact ⟨st, rfl, by simpa using h⟩
  · cases h
end Go.Proofs.YtfgdoliihmjnoaaDoorE
