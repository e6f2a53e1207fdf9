/-
  No cell of these rows narrows 'for every input' (looked for: loops, veiled, ifaces, maps, wideKeys, modest, calm, conditions, laid).
  DERIVED. THE GIVEN ROWS OF THIS SEAT. 13 by the template 'for every input the law returns true; each argument reads behind the call as it read before'; 0 by the template 'total and deterministic' (their statements: YtmmmifgddkfehaaTotals.lean).
  GIVEN WITH THE SEED: the statements are not yours to turn. If you find one false, say at which input.
  Laid BY PROGRAM, IN A SANDBOX (cutbox-rows.mjs): the forced cells as the released guide's own fill.sh prints them over the translation 5a3dd1b8bc585403… (all of the seat's roots in one cut). By AI agents, Wed Nov 11 2026. No macro, syntax, notation, axiom, sorry.
-/
import Derived.Test.YtmmmifgddkfehaaChecked
import GoSem.Claim
import GoSem.ClaimJoined
import GoSem.ClaimMapViews
import Derived.JoinedTies
import Derived.KernelRfl
namespace Go.Proofs.Ytmmmifgddkfehaa
/- THE CELL 'sum', in the pinned program and in every row, IS THE sha256 OF THE DUMP (.gsa) THAT YtmmmifgddkfehaaProg.lean LOADS. Nothing in Lean hashes anything: it is a label: what it is worth is what the hold of that sum in a sandbox is worth. -/
noncomputable def Try.pinned : Pinned := { name := "ytmmmifgddkfehaa", sum := "5a3dd1b8bc585403db16f2db7cf8bc8f87dadc573c71b8a079474e6b4d9b8f87", checked := Try.checked }
namespace Rows
def none {H : Type} : Left H := { results := [], args := [] }

/-- 'camshaftlaw01.BitsPuts': WHATEVER THE INPUT: true; the input reads as it did. -/
def bitsPutsSpec : ChangeSpec := { name := "bitsPuts", fn := fun _ => fun
  | [d1, d2, d3] => { results := [.lit (.bool true)], args := [d1, d2, d3] }
  | _ => none }
def bitsPutsRow : OpenClaim := { program := "ytmmmifgddkfehaa", sum := "5a3dd1b8bc585403db16f2db7cf8bc8f87dadc573c71b8a079474e6b4d9b8f87", func := "camshaft/camshaftlaw01.BitsPuts", spec := "bitsPuts", apart := false }
def BitsPutsSaid : Prop := bitsPutsRow.holds Try.pinned (OpenSpec.ofChange bitsPutsSpec)

/-- ITS FALSE NEIGHBOUR: 'it returns false'. Refute it at one input. -/
def bitsPutsWrong : ChangeSpec := { name := "bitsPuts", fn := fun _ => fun
  | [d1, d2, d3] => { results := [.lit (.bool false)], args := [d1, d2, d3] }
  | _ => none }
def BitsPutsWrongFalsely : Prop := bitsPutsRow.holds Try.pinned (OpenSpec.ofChange bitsPutsWrong)

/-- 'camshaftlaw01.BitsSums': WHATEVER THE INPUT: true; the input reads as it did. -/
def bitsSumsSpec : ChangeSpec := { name := "bitsSums", fn := fun _ => fun
  | [d1, d2, d3, d4] => { results := [.lit (.bool true)], args := [d1, d2, d3, d4] }
  | _ => none }
def bitsSumsRow : OpenClaim := { program := "ytmmmifgddkfehaa", sum := "5a3dd1b8bc585403db16f2db7cf8bc8f87dadc573c71b8a079474e6b4d9b8f87", func := "camshaft/camshaftlaw01.BitsSums", spec := "bitsSums", apart := false }
def BitsSumsSaid : Prop := bitsSumsRow.holds Try.pinned (OpenSpec.ofChange bitsSumsSpec)

/-- ITS FALSE NEIGHBOUR: 'it returns false'. Refute it at one input. -/
def bitsSumsWrong : ChangeSpec := { name := "bitsSums", fn := fun _ => fun
  | [d1, d2, d3, d4] => { results := [.lit (.bool false)], args := [d1, d2, d3, d4] }
  | _ => none }
def BitsSumsWrongFalsely : Prop := bitsSumsRow.holds Try.pinned (OpenSpec.ofChange bitsSumsWrong)

/-- 'camshaftlaw01.BitsBack': WHATEVER THE INPUT: true; the input reads as it did. -/
def bitsBackSpec : ChangeSpec := { name := "bitsBack", fn := fun _ => fun
  | [d1, d2, d3, d4] => { results := [.lit (.bool true)], args := [d1, d2, d3, d4] }
  | _ => none }
def bitsBackRow : OpenClaim := { program := "ytmmmifgddkfehaa", sum := "5a3dd1b8bc585403db16f2db7cf8bc8f87dadc573c71b8a079474e6b4d9b8f87", func := "camshaft/camshaftlaw01.BitsBack", spec := "bitsBack", apart := false }
def BitsBackSaid : Prop := bitsBackRow.holds Try.pinned (OpenSpec.ofChange bitsBackSpec)

/-- ITS FALSE NEIGHBOUR: 'it returns false'. Refute it at one input. -/
def bitsBackWrong : ChangeSpec := { name := "bitsBack", fn := fun _ => fun
  | [d1, d2, d3, d4] => { results := [.lit (.bool false)], args := [d1, d2, d3, d4] }
  | _ => none }
def BitsBackWrongFalsely : Prop := bitsBackRow.holds Try.pinned (OpenSpec.ofChange bitsBackWrong)

/-- 'camshaftlaw01.BitsExtends': WHATEVER THE INPUT: true; the input reads as it did. -/
def bitsExtendsSpec : ChangeSpec := { name := "bitsExtends", fn := fun _ => fun
  | [d1, d2] => { results := [.lit (.bool true)], args := [d1, d2] }
  | _ => none }
def bitsExtendsRow : OpenClaim := { program := "ytmmmifgddkfehaa", sum := "5a3dd1b8bc585403db16f2db7cf8bc8f87dadc573c71b8a079474e6b4d9b8f87", func := "camshaft/camshaftlaw01.BitsExtends", spec := "bitsExtends", apart := false }
def BitsExtendsSaid : Prop := bitsExtendsRow.holds Try.pinned (OpenSpec.ofChange bitsExtendsSpec)

/-- ITS FALSE NEIGHBOUR: 'it returns false'. Refute it at one input. -/
def bitsExtendsWrong : ChangeSpec := { name := "bitsExtends", fn := fun _ => fun
  | [d1, d2] => { results := [.lit (.bool false)], args := [d1, d2] }
  | _ => none }
def BitsExtendsWrongFalsely : Prop := bitsExtendsRow.holds Try.pinned (OpenSpec.ofChange bitsExtendsWrong)

/-- 'camshaftlaw01.BitsSizes': WHATEVER THE INPUT: true; the input reads as it did. -/
def bitsSizesSpec : ChangeSpec := { name := "bitsSizes", fn := fun _ => fun
  | [d1, d2, d3] => { results := [.lit (.bool true)], args := [d1, d2, d3] }
  | _ => none }
def bitsSizesRow : OpenClaim := { program := "ytmmmifgddkfehaa", sum := "5a3dd1b8bc585403db16f2db7cf8bc8f87dadc573c71b8a079474e6b4d9b8f87", func := "camshaft/camshaftlaw01.BitsSizes", spec := "bitsSizes", apart := false }
def BitsSizesSaid : Prop := bitsSizesRow.holds Try.pinned (OpenSpec.ofChange bitsSizesSpec)

/-- ITS FALSE NEIGHBOUR: 'it returns false'. Refute it at one input. -/
def bitsSizesWrong : ChangeSpec := { name := "bitsSizes", fn := fun _ => fun
  | [d1, d2, d3] => { results := [.lit (.bool false)], args := [d1, d2, d3] }
  | _ => none }
def BitsSizesWrongFalsely : Prop := bitsSizesRow.holds Try.pinned (OpenSpec.ofChange bitsSizesWrong)

/-- 'camshaftlaw01.BitsCompares': WHATEVER THE INPUT: true; the input reads as it did. -/
def bitsComparesSpec : ChangeSpec := { name := "bitsCompares", fn := fun _ => fun
  | [d1, d2, d3] => { results := [.lit (.bool true)], args := [d1, d2, d3] }
  | _ => none }
def bitsComparesRow : OpenClaim := { program := "ytmmmifgddkfehaa", sum := "5a3dd1b8bc585403db16f2db7cf8bc8f87dadc573c71b8a079474e6b4d9b8f87", func := "camshaft/camshaftlaw01.BitsCompares", spec := "bitsCompares", apart := false }
def BitsComparesSaid : Prop := bitsComparesRow.holds Try.pinned (OpenSpec.ofChange bitsComparesSpec)

/-- ITS FALSE NEIGHBOUR: 'it returns false'. Refute it at one input. -/
def bitsComparesWrong : ChangeSpec := { name := "bitsCompares", fn := fun _ => fun
  | [d1, d2, d3] => { results := [.lit (.bool false)], args := [d1, d2, d3] }
  | _ => none }
def BitsComparesWrongFalsely : Prop := bitsComparesRow.holds Try.pinned (OpenSpec.ofChange bitsComparesWrong)

/-- 'camshaftlaw01.BitsTimes': WHATEVER THE INPUT: true; the input reads as it did. -/
def bitsTimesSpec : ChangeSpec := { name := "bitsTimes", fn := fun _ => fun
  | [d1, d2, d3] => { results := [.lit (.bool true)], args := [d1, d2, d3] }
  | _ => none }
def bitsTimesRow : OpenClaim := { program := "ytmmmifgddkfehaa", sum := "5a3dd1b8bc585403db16f2db7cf8bc8f87dadc573c71b8a079474e6b4d9b8f87", func := "camshaft/camshaftlaw01.BitsTimes", spec := "bitsTimes", apart := false }
def BitsTimesSaid : Prop := bitsTimesRow.holds Try.pinned (OpenSpec.ofChange bitsTimesSpec)

/-- ITS FALSE NEIGHBOUR: 'it returns false'. Refute it at one input. -/
def bitsTimesWrong : ChangeSpec := { name := "bitsTimes", fn := fun _ => fun
  | [d1, d2, d3] => { results := [.lit (.bool false)], args := [d1, d2, d3] }
  | _ => none }
def BitsTimesWrongFalsely : Prop := bitsTimesRow.holds Try.pinned (OpenSpec.ofChange bitsTimesWrong)

/-- 'camshaftlaw08.AluDoes': WHATEVER THE INPUT: true; the input reads as it did. -/
def aluDoesSpec : ChangeSpec := { name := "aluDoes", fn := fun _ => fun
  | [d1, d2, d3, d4, d5] => { results := [.lit (.bool true)], args := [d1, d2, d3, d4, d5] }
  | _ => none }
def aluDoesRow : OpenClaim := { program := "ytmmmifgddkfehaa", sum := "5a3dd1b8bc585403db16f2db7cf8bc8f87dadc573c71b8a079474e6b4d9b8f87", func := "camshaft/camshaftlaw08.AluDoes", spec := "aluDoes", apart := false }
def AluDoesSaid : Prop := aluDoesRow.holds Try.pinned (OpenSpec.ofChange aluDoesSpec)

/-- ITS FALSE NEIGHBOUR: 'it returns false'. Refute it at one input. -/
def aluDoesWrong : ChangeSpec := { name := "aluDoes", fn := fun _ => fun
  | [d1, d2, d3, d4, d5] => { results := [.lit (.bool false)], args := [d1, d2, d3, d4, d5] }
  | _ => none }
def AluDoesWrongFalsely : Prop := aluDoesRow.holds Try.pinned (OpenSpec.ofChange aluDoesWrong)

/-- 'camshaftlaw08.AluSizes': WHATEVER THE INPUT: true; the input reads as it did. -/
def aluSizesSpec : ChangeSpec := { name := "aluSizes", fn := fun _ => fun
  | [d1, d2, d3, d4, d5, d6] => { results := [.lit (.bool true)], args := [d1, d2, d3, d4, d5, d6] }
  | _ => none }
def aluSizesRow : OpenClaim := { program := "ytmmmifgddkfehaa", sum := "5a3dd1b8bc585403db16f2db7cf8bc8f87dadc573c71b8a079474e6b4d9b8f87", func := "camshaft/camshaftlaw08.AluSizes", spec := "aluSizes", apart := false }
def AluSizesSaid : Prop := aluSizesRow.holds Try.pinned (OpenSpec.ofChange aluSizesSpec)

/-- ITS FALSE NEIGHBOUR: 'it returns false'. Refute it at one input. -/
def aluSizesWrong : ChangeSpec := { name := "aluSizes", fn := fun _ => fun
  | [d1, d2, d3, d4, d5, d6] => { results := [.lit (.bool false)], args := [d1, d2, d3, d4, d5, d6] }
  | _ => none }
def AluSizesWrongFalsely : Prop := aluSizesRow.holds Try.pinned (OpenSpec.ofChange aluSizesWrong)

/-- 'camshaftlaw08.AluCompares': WHATEVER THE INPUT: true; the input reads as it did. -/
def aluComparesSpec : ChangeSpec := { name := "aluCompares", fn := fun _ => fun
  | [d1, d2, d3] => { results := [.lit (.bool true)], args := [d1, d2, d3] }
  | _ => none }
def aluComparesRow : OpenClaim := { program := "ytmmmifgddkfehaa", sum := "5a3dd1b8bc585403db16f2db7cf8bc8f87dadc573c71b8a079474e6b4d9b8f87", func := "camshaft/camshaftlaw08.AluCompares", spec := "aluCompares", apart := false }
def AluComparesSaid : Prop := aluComparesRow.holds Try.pinned (OpenSpec.ofChange aluComparesSpec)

/-- ITS FALSE NEIGHBOUR: 'it returns false'. Refute it at one input. -/
def aluComparesWrong : ChangeSpec := { name := "aluCompares", fn := fun _ => fun
  | [d1, d2, d3] => { results := [.lit (.bool false)], args := [d1, d2, d3] }
  | _ => none }
def AluComparesWrongFalsely : Prop := aluComparesRow.holds Try.pinned (OpenSpec.ofChange aluComparesWrong)

/-- 'camshaftlaw08.AluBack': WHATEVER THE INPUT: true; the input reads as it did. -/
def aluBackSpec : ChangeSpec := { name := "aluBack", fn := fun _ => fun
  | [d1, d2, d3] => { results := [.lit (.bool true)], args := [d1, d2, d3] }
  | _ => none }
def aluBackRow : OpenClaim := { program := "ytmmmifgddkfehaa", sum := "5a3dd1b8bc585403db16f2db7cf8bc8f87dadc573c71b8a079474e6b4d9b8f87", func := "camshaft/camshaftlaw08.AluBack", spec := "aluBack", apart := false }
def AluBackSaid : Prop := aluBackRow.holds Try.pinned (OpenSpec.ofChange aluBackSpec)

/-- ITS FALSE NEIGHBOUR: 'it returns false'. Refute it at one input. -/
def aluBackWrong : ChangeSpec := { name := "aluBack", fn := fun _ => fun
  | [d1, d2, d3] => { results := [.lit (.bool false)], args := [d1, d2, d3] }
  | _ => none }
def AluBackWrongFalsely : Prop := aluBackRow.holds Try.pinned (OpenSpec.ofChange aluBackWrong)

/-- 'camshaftlaw08.AluCarries': WHATEVER THE INPUT: true; the input reads as it did. -/
def aluCarriesSpec : ChangeSpec := { name := "aluCarries", fn := fun _ => fun
  | [d1, d2, d3] => { results := [.lit (.bool true)], args := [d1, d2, d3] }
  | _ => none }
def aluCarriesRow : OpenClaim := { program := "ytmmmifgddkfehaa", sum := "5a3dd1b8bc585403db16f2db7cf8bc8f87dadc573c71b8a079474e6b4d9b8f87", func := "camshaft/camshaftlaw08.AluCarries", spec := "aluCarries", apart := false }
def AluCarriesSaid : Prop := aluCarriesRow.holds Try.pinned (OpenSpec.ofChange aluCarriesSpec)

/-- ITS FALSE NEIGHBOUR: 'it returns false'. Refute it at one input. -/
def aluCarriesWrong : ChangeSpec := { name := "aluCarries", fn := fun _ => fun
  | [d1, d2, d3] => { results := [.lit (.bool false)], args := [d1, d2, d3] }
  | _ => none }
def AluCarriesWrongFalsely : Prop := aluCarriesRow.holds Try.pinned (OpenSpec.ofChange aluCarriesWrong)

/-- 'camshaftlaw08.AluConverts': WHATEVER THE INPUT: true; the input reads as it did. -/
def aluConvertsSpec : ChangeSpec := { name := "aluConverts", fn := fun _ => fun
  | [d1, d2, d3, d4, d5] => { results := [.lit (.bool true)], args := [d1, d2, d3, d4, d5] }
  | _ => none }
def aluConvertsRow : OpenClaim := { program := "ytmmmifgddkfehaa", sum := "5a3dd1b8bc585403db16f2db7cf8bc8f87dadc573c71b8a079474e6b4d9b8f87", func := "camshaft/camshaftlaw08.AluConverts", spec := "aluConverts", apart := false }
def AluConvertsSaid : Prop := aluConvertsRow.holds Try.pinned (OpenSpec.ofChange aluConvertsSpec)

/-- ITS FALSE NEIGHBOUR: 'it returns false'. Refute it at one input. -/
def aluConvertsWrong : ChangeSpec := { name := "aluConverts", fn := fun _ => fun
  | [d1, d2, d3, d4, d5] => { results := [.lit (.bool false)], args := [d1, d2, d3, d4, d5] }
  | _ => none }
def AluConvertsWrongFalsely : Prop := aluConvertsRow.holds Try.pinned (OpenSpec.ofChange aluConvertsWrong)

/- THE SECOND FORM. 'bulk': how many values and letters a reading holds, each counted each time it is reached (what is shared counts as often as it is met; a slice's spare places count too). A statement '..UptoSaid' is the law's where the arguments, and the package variables that the reading takes, are together of bulk at most 1048576: NARROWER than '..Said'. Prove '..Said' where nothing that the law and all that it calls make is longer than what came in: it says more and counts as full. Else prove '..UptoSaid'. A law counts once. -/
mutual
def uptoBulk {H : Type} : DataW H → Nat
  | .lit (.string bytes) => bytes.length + 1
  | .lit _ => 1
  | .nil => 1
  | .ptr d => uptoBulk d + 1
  | .slice elems spare => uptoBulkAll elems + uptoBulkAll spare + 1
  | .agg parts => uptoBulkAll parts + 1
  | .iface _ d => uptoBulk d + 1
  | .map entries => uptoBulkEntries entries + 1
  | .held _ => 1
def uptoBulkAll {H : Type} : List (DataW H) → Nat
  | [] => 0
  | d :: r => uptoBulk d + uptoBulkAll r
def uptoBulkEntries {H : Type} : List (Lit × DataW H) → Nat
  | [] => 0
  | x :: r => uptoBulkEntry x + uptoBulkEntries r
def uptoBulkEntry {H : Type} : Lit × DataW H → Nat
  | (.string bytes, d) => bytes.length + uptoBulk d + 1
  | (_, d) => uptoBulk d + 1
 end
def uptoSmall : (H : Type) → List (DataW H) → Bool := fun _ ds => decide (uptoBulkAll ds ≤ 1048576)
def OpenSpec.upto (s : _root_.Go.ChangeSpec) : _root_.Go.OpenSpec := { _root_.Go.OpenSpec.ofChange s with cond := some uptoSmall }

/-- 'camshaftlaw01.BitsPuts', WHERE WHAT IT READS IS OF BULK AT MOST 1048576: true; the input reads as it did. -/
def bitsPutsUptoRow : OpenClaim := { program := "ytmmmifgddkfehaa", sum := "5a3dd1b8bc585403db16f2db7cf8bc8f87dadc573c71b8a079474e6b4d9b8f87", func := "camshaft/camshaftlaw01.BitsPuts", spec := "bitsPuts", apart := false, narrowed := true }
def BitsPutsUptoSaid : Prop := bitsPutsUptoRow.holds Try.pinned (OpenSpec.upto bitsPutsSpec)

/-- 'camshaftlaw01.BitsSums', WHERE WHAT IT READS IS OF BULK AT MOST 1048576: true; the input reads as it did. -/
def bitsSumsUptoRow : OpenClaim := { program := "ytmmmifgddkfehaa", sum := "5a3dd1b8bc585403db16f2db7cf8bc8f87dadc573c71b8a079474e6b4d9b8f87", func := "camshaft/camshaftlaw01.BitsSums", spec := "bitsSums", apart := false, narrowed := true }
def BitsSumsUptoSaid : Prop := bitsSumsUptoRow.holds Try.pinned (OpenSpec.upto bitsSumsSpec)

/-- 'camshaftlaw01.BitsBack', WHERE WHAT IT READS IS OF BULK AT MOST 1048576: true; the input reads as it did. -/
def bitsBackUptoRow : OpenClaim := { program := "ytmmmifgddkfehaa", sum := "5a3dd1b8bc585403db16f2db7cf8bc8f87dadc573c71b8a079474e6b4d9b8f87", func := "camshaft/camshaftlaw01.BitsBack", spec := "bitsBack", apart := false, narrowed := true }
def BitsBackUptoSaid : Prop := bitsBackUptoRow.holds Try.pinned (OpenSpec.upto bitsBackSpec)

/-- 'camshaftlaw01.BitsExtends', WHERE WHAT IT READS IS OF BULK AT MOST 1048576: true; the input reads as it did. -/
def bitsExtendsUptoRow : OpenClaim := { program := "ytmmmifgddkfehaa", sum := "5a3dd1b8bc585403db16f2db7cf8bc8f87dadc573c71b8a079474e6b4d9b8f87", func := "camshaft/camshaftlaw01.BitsExtends", spec := "bitsExtends", apart := false, narrowed := true }
def BitsExtendsUptoSaid : Prop := bitsExtendsUptoRow.holds Try.pinned (OpenSpec.upto bitsExtendsSpec)

/-- 'camshaftlaw01.BitsSizes', WHERE WHAT IT READS IS OF BULK AT MOST 1048576: true; the input reads as it did. -/
def bitsSizesUptoRow : OpenClaim := { program := "ytmmmifgddkfehaa", sum := "5a3dd1b8bc585403db16f2db7cf8bc8f87dadc573c71b8a079474e6b4d9b8f87", func := "camshaft/camshaftlaw01.BitsSizes", spec := "bitsSizes", apart := false, narrowed := true }
def BitsSizesUptoSaid : Prop := bitsSizesUptoRow.holds Try.pinned (OpenSpec.upto bitsSizesSpec)

/-- 'camshaftlaw01.BitsCompares', WHERE WHAT IT READS IS OF BULK AT MOST 1048576: true; the input reads as it did. -/
def bitsComparesUptoRow : OpenClaim := { program := "ytmmmifgddkfehaa", sum := "5a3dd1b8bc585403db16f2db7cf8bc8f87dadc573c71b8a079474e6b4d9b8f87", func := "camshaft/camshaftlaw01.BitsCompares", spec := "bitsCompares", apart := false, narrowed := true }
def BitsComparesUptoSaid : Prop := bitsComparesUptoRow.holds Try.pinned (OpenSpec.upto bitsComparesSpec)

/-- 'camshaftlaw01.BitsTimes', WHERE WHAT IT READS IS OF BULK AT MOST 1048576: true; the input reads as it did. -/
def bitsTimesUptoRow : OpenClaim := { program := "ytmmmifgddkfehaa", sum := "5a3dd1b8bc585403db16f2db7cf8bc8f87dadc573c71b8a079474e6b4d9b8f87", func := "camshaft/camshaftlaw01.BitsTimes", spec := "bitsTimes", apart := false, narrowed := true }
def BitsTimesUptoSaid : Prop := bitsTimesUptoRow.holds Try.pinned (OpenSpec.upto bitsTimesSpec)

/-- 'camshaftlaw08.AluDoes', WHERE WHAT IT READS IS OF BULK AT MOST 1048576: true; the input reads as it did. -/
def aluDoesUptoRow : OpenClaim := { program := "ytmmmifgddkfehaa", sum := "5a3dd1b8bc585403db16f2db7cf8bc8f87dadc573c71b8a079474e6b4d9b8f87", func := "camshaft/camshaftlaw08.AluDoes", spec := "aluDoes", apart := false, narrowed := true }
def AluDoesUptoSaid : Prop := aluDoesUptoRow.holds Try.pinned (OpenSpec.upto aluDoesSpec)

/-- 'camshaftlaw08.AluSizes', WHERE WHAT IT READS IS OF BULK AT MOST 1048576: true; the input reads as it did. -/
def aluSizesUptoRow : OpenClaim := { program := "ytmmmifgddkfehaa", sum := "5a3dd1b8bc585403db16f2db7cf8bc8f87dadc573c71b8a079474e6b4d9b8f87", func := "camshaft/camshaftlaw08.AluSizes", spec := "aluSizes", apart := false, narrowed := true }
def AluSizesUptoSaid : Prop := aluSizesUptoRow.holds Try.pinned (OpenSpec.upto aluSizesSpec)

/-- 'camshaftlaw08.AluCompares', WHERE WHAT IT READS IS OF BULK AT MOST 1048576: true; the input reads as it did. -/
def aluComparesUptoRow : OpenClaim := { program := "ytmmmifgddkfehaa", sum := "5a3dd1b8bc585403db16f2db7cf8bc8f87dadc573c71b8a079474e6b4d9b8f87", func := "camshaft/camshaftlaw08.AluCompares", spec := "aluCompares", apart := false, narrowed := true }
def AluComparesUptoSaid : Prop := aluComparesUptoRow.holds Try.pinned (OpenSpec.upto aluComparesSpec)

/-- 'camshaftlaw08.AluBack', WHERE WHAT IT READS IS OF BULK AT MOST 1048576: true; the input reads as it did. -/
def aluBackUptoRow : OpenClaim := { program := "ytmmmifgddkfehaa", sum := "5a3dd1b8bc585403db16f2db7cf8bc8f87dadc573c71b8a079474e6b4d9b8f87", func := "camshaft/camshaftlaw08.AluBack", spec := "aluBack", apart := false, narrowed := true }
def AluBackUptoSaid : Prop := aluBackUptoRow.holds Try.pinned (OpenSpec.upto aluBackSpec)

/-- 'camshaftlaw08.AluCarries', WHERE WHAT IT READS IS OF BULK AT MOST 1048576: true; the input reads as it did. -/
def aluCarriesUptoRow : OpenClaim := { program := "ytmmmifgddkfehaa", sum := "5a3dd1b8bc585403db16f2db7cf8bc8f87dadc573c71b8a079474e6b4d9b8f87", func := "camshaft/camshaftlaw08.AluCarries", spec := "aluCarries", apart := false, narrowed := true }
def AluCarriesUptoSaid : Prop := aluCarriesUptoRow.holds Try.pinned (OpenSpec.upto aluCarriesSpec)

/-- 'camshaftlaw08.AluConverts', WHERE WHAT IT READS IS OF BULK AT MOST 1048576: true; the input reads as it did. -/
def aluConvertsUptoRow : OpenClaim := { program := "ytmmmifgddkfehaa", sum := "5a3dd1b8bc585403db16f2db7cf8bc8f87dadc573c71b8a079474e6b4d9b8f87", func := "camshaft/camshaftlaw08.AluConverts", spec := "aluConverts", apart := false, narrowed := true }
def AluConvertsUptoSaid : Prop := aluConvertsUptoRow.holds Try.pinned (OpenSpec.upto aluConvertsSpec)

end Rows
end Go.Proofs.Ytmmmifgddkfehaa
