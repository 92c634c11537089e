/-
  No cell of these rows narrows 'for every input' (looked for: loops, veiled, ifaces, maps, wideKeys, modest, calm, conditions, laid).
  DERIVED. THE GIVEN ROWS OF THIS SEAT. 8 by the template 'for every input the law returns true; each argument reads behind the call as it read before'; 0 by the template 'total and deterministic' (their statements: YtpcdfmfmakahkaaTotals.lean).
  GIVEN WITH THE SEED: the statements are not yours to turn. If you find one false, say at which input.
  Laid BY PROGRAM, IN A SANDBOX (cutbox-rows.mjs): the forced cells as the released guide's own fill.sh prints them over the translation 07d94a8a4ad7aef0… (all of the seat's roots in one cut). By AI agents, Wed Nov 11 2026. No macro, syntax, notation, axiom, sorry.
-/
import Derived.Test.YtpcdfmfmakahkaaChecked
import GoSem.Claim
import GoSem.ClaimJoined
import GoSem.ClaimMapViews
import Derived.JoinedTies
import Derived.KernelRfl
namespace Go.Proofs.Ytpcdfmfmakahkaa
/- THE CELL 'sum', in the pinned program and in every row, IS THE sha256 OF THE DUMP (.gsa) THAT YtpcdfmfmakahkaaProg.lean LOADS. Nothing in Lean hashes anything: it is a label: what it is worth is what the hold of that sum in a sandbox is worth. -/
noncomputable def Try.pinned : Pinned := { name := "ytpcdfmfmakahkaa", sum := "07d94a8a4ad7aef0cb08dc36bd3100cf139331f9987f0b579b7de9d504762a5c", checked := Try.checked }
namespace Rows
def none {H : Type} : Left H := { results := [], args := [] }

/-- 'ashlarlaw04.GeomTells': WHATEVER THE INPUT: true; the input reads as it did. -/
def geomTellsSpec : ChangeSpec := { name := "geomTells", fn := fun _ => fun
  | [d1, d2, d3] => { results := [.lit (.bool true)], args := [d1, d2, d3] }
  | _ => none }
def geomTellsRow : OpenClaim := { program := "ytpcdfmfmakahkaa", sum := "07d94a8a4ad7aef0cb08dc36bd3100cf139331f9987f0b579b7de9d504762a5c", func := "ashlar/ashlarlaw04.GeomTells", spec := "geomTells", apart := false }
def GeomTellsSaid : Prop := geomTellsRow.holds Try.pinned (OpenSpec.ofChange geomTellsSpec)

/-- ITS FALSE NEIGHBOUR: 'it returns false'. Refute it at one input. -/
def geomTellsWrong : ChangeSpec := { name := "geomTells", fn := fun _ => fun
  | [d1, d2, d3] => { results := [.lit (.bool false)], args := [d1, d2, d3] }
  | _ => none }
def GeomTellsWrongFalsely : Prop := geomTellsRow.holds Try.pinned (OpenSpec.ofChange geomTellsWrong)

/-- 'ashlarlaw04.GeomParts': WHATEVER THE INPUT: true; the input reads as it did. -/
def geomPartsSpec : ChangeSpec := { name := "geomParts", fn := fun _ => fun
  | [d] => { results := [.lit (.bool true)], args := [d] }
  | _ => none }
def geomPartsRow : OpenClaim := { program := "ytpcdfmfmakahkaa", sum := "07d94a8a4ad7aef0cb08dc36bd3100cf139331f9987f0b579b7de9d504762a5c", func := "ashlar/ashlarlaw04.GeomParts", spec := "geomParts", apart := false }
def GeomPartsSaid : Prop := geomPartsRow.holds Try.pinned (OpenSpec.ofChange geomPartsSpec)

/-- ITS FALSE NEIGHBOUR: 'it returns false'. Refute it at one input. -/
def geomPartsWrong : ChangeSpec := { name := "geomParts", fn := fun _ => fun
  | [d] => { results := [.lit (.bool false)], args := [d] }
  | _ => none }
def GeomPartsWrongFalsely : Prop := geomPartsRow.holds Try.pinned (OpenSpec.ofChange geomPartsWrong)

/-- 'ashlarlaw02.PackNumbers': WHATEVER THE INPUT: true; the input reads as it did. -/
def packNumbersSpec : ChangeSpec := { name := "packNumbers", fn := fun _ => fun
  | [d1, d2, d3, d4] => { results := [.lit (.bool true)], args := [d1, d2, d3, d4] }
  | _ => none }
def packNumbersRow : OpenClaim := { program := "ytpcdfmfmakahkaa", sum := "07d94a8a4ad7aef0cb08dc36bd3100cf139331f9987f0b579b7de9d504762a5c", func := "ashlar/ashlarlaw02.PackNumbers", spec := "packNumbers", apart := false }
def PackNumbersSaid : Prop := packNumbersRow.holds Try.pinned (OpenSpec.ofChange packNumbersSpec)

/-- ITS FALSE NEIGHBOUR: 'it returns false'. Refute it at one input. -/
def packNumbersWrong : ChangeSpec := { name := "packNumbers", fn := fun _ => fun
  | [d1, d2, d3, d4] => { results := [.lit (.bool false)], args := [d1, d2, d3, d4] }
  | _ => none }
def PackNumbersWrongFalsely : Prop := packNumbersRow.holds Try.pinned (OpenSpec.ofChange packNumbersWrong)

/-- 'ashlarlaw02.PackSeals': WHATEVER THE INPUT: true; the input reads as it did. -/
def packSealsSpec : ChangeSpec := { name := "packSeals", fn := fun _ => fun
  | [d1, d2] => { results := [.lit (.bool true)], args := [d1, d2] }
  | _ => none }
def packSealsRow : OpenClaim := { program := "ytpcdfmfmakahkaa", sum := "07d94a8a4ad7aef0cb08dc36bd3100cf139331f9987f0b579b7de9d504762a5c", func := "ashlar/ashlarlaw02.PackSeals", spec := "packSeals", apart := false }
def PackSealsSaid : Prop := packSealsRow.holds Try.pinned (OpenSpec.ofChange packSealsSpec)

/-- ITS FALSE NEIGHBOUR: 'it returns false'. Refute it at one input. -/
def packSealsWrong : ChangeSpec := { name := "packSeals", fn := fun _ => fun
  | [d1, d2] => { results := [.lit (.bool false)], args := [d1, d2] }
  | _ => none }
def PackSealsWrongFalsely : Prop := packSealsRow.holds Try.pinned (OpenSpec.ofChange packSealsWrong)

/-- 'ashlarlaw02.PackBack': WHATEVER THE INPUT: true; the input reads as it did. -/
def packBackSpec : ChangeSpec := { name := "packBack", fn := fun _ => fun
  | [d1, d2, d3] => { results := [.lit (.bool true)], args := [d1, d2, d3] }
  | _ => none }
def packBackRow : OpenClaim := { program := "ytpcdfmfmakahkaa", sum := "07d94a8a4ad7aef0cb08dc36bd3100cf139331f9987f0b579b7de9d504762a5c", func := "ashlar/ashlarlaw02.PackBack", spec := "packBack", apart := false }
def PackBackSaid : Prop := packBackRow.holds Try.pinned (OpenSpec.ofChange packBackSpec)

/-- ITS FALSE NEIGHBOUR: 'it returns false'. Refute it at one input. -/
def packBackWrong : ChangeSpec := { name := "packBack", fn := fun _ => fun
  | [d1, d2, d3] => { results := [.lit (.bool false)], args := [d1, d2, d3] }
  | _ => none }
def PackBackWrongFalsely : Prop := packBackRow.holds Try.pinned (OpenSpec.ofChange packBackWrong)

/-- 'ashlarlaw01.BitsRun': WHATEVER THE INPUT: true; the input reads as it did. -/
def bitsRunSpec : ChangeSpec := { name := "bitsRun", fn := fun _ => fun
  | [d1, d2, d3] => { results := [.lit (.bool true)], args := [d1, d2, d3] }
  | _ => none }
def bitsRunRow : OpenClaim := { program := "ytpcdfmfmakahkaa", sum := "07d94a8a4ad7aef0cb08dc36bd3100cf139331f9987f0b579b7de9d504762a5c", func := "ashlar/ashlarlaw01.BitsRun", spec := "bitsRun", apart := false }
def BitsRunSaid : Prop := bitsRunRow.holds Try.pinned (OpenSpec.ofChange bitsRunSpec)

/-- ITS FALSE NEIGHBOUR: 'it returns false'. Refute it at one input. -/
def bitsRunWrong : ChangeSpec := { name := "bitsRun", fn := fun _ => fun
  | [d1, d2, d3] => { results := [.lit (.bool false)], args := [d1, d2, d3] }
  | _ => none }
def BitsRunWrongFalsely : Prop := bitsRunRow.holds Try.pinned (OpenSpec.ofChange bitsRunWrong)

/-- 'ashlarlaw01.BitsOf': WHATEVER THE INPUT: true; the input reads as it did. -/
def bitsOfSpec : ChangeSpec := { name := "bitsOf", fn := fun _ => fun
  | [d1, d2, d3, d4] => { results := [.lit (.bool true)], args := [d1, d2, d3, d4] }
  | _ => none }
def bitsOfRow : OpenClaim := { program := "ytpcdfmfmakahkaa", sum := "07d94a8a4ad7aef0cb08dc36bd3100cf139331f9987f0b579b7de9d504762a5c", func := "ashlar/ashlarlaw01.BitsOf", spec := "bitsOf", apart := false }
def BitsOfSaid : Prop := bitsOfRow.holds Try.pinned (OpenSpec.ofChange bitsOfSpec)

/-- ITS FALSE NEIGHBOUR: 'it returns false'. Refute it at one input. -/
def bitsOfWrong : ChangeSpec := { name := "bitsOf", fn := fun _ => fun
  | [d1, d2, d3, d4] => { results := [.lit (.bool false)], args := [d1, d2, d3, d4] }
  | _ => none }
def BitsOfWrongFalsely : Prop := bitsOfRow.holds Try.pinned (OpenSpec.ofChange bitsOfWrong)

/-- 'ashlarlaw01.BitsPlay': WHATEVER THE INPUT: true; the input reads as it did. -/
def bitsPlaySpec : ChangeSpec := { name := "bitsPlay", fn := fun _ => fun
  | [d1, d2] => { results := [.lit (.bool true)], args := [d1, d2] }
  | _ => none }
def bitsPlayRow : OpenClaim := { program := "ytpcdfmfmakahkaa", sum := "07d94a8a4ad7aef0cb08dc36bd3100cf139331f9987f0b579b7de9d504762a5c", func := "ashlar/ashlarlaw01.BitsPlay", spec := "bitsPlay", apart := false }
def BitsPlaySaid : Prop := bitsPlayRow.holds Try.pinned (OpenSpec.ofChange bitsPlaySpec)

/-- ITS FALSE NEIGHBOUR: 'it returns false'. Refute it at one input. -/
def bitsPlayWrong : ChangeSpec := { name := "bitsPlay", fn := fun _ => fun
  | [d1, d2] => { results := [.lit (.bool false)], args := [d1, d2] }
  | _ => none }
def BitsPlayWrongFalsely : Prop := bitsPlayRow.holds Try.pinned (OpenSpec.ofChange bitsPlayWrong)

/- THE SECOND FORM. 'bulk': how many values and letters a reading holds, each counted each time it is reached (what is shared counts as often as it is met; a slice's spare places count too). A statement '..UptoSaid' is the law's where the arguments, and the package variables that the reading takes, are together of bulk at most 1048576: NARROWER than '..Said'. Prove '..Said' where nothing that the law and all that it calls make is longer than what came in: it says more and counts as full. Else prove '..UptoSaid'. A law counts once. -/
mutual
def uptoBulk {H : Type} : DataW H → Nat
  | .lit (.string bytes) => bytes.length + 1
  | .lit _ => 1
  | .nil => 1
  | .ptr d => uptoBulk d + 1
  | .slice elems spare => uptoBulkAll elems + uptoBulkAll spare + 1
  | .agg parts => uptoBulkAll parts + 1
  | .iface _ d => uptoBulk d + 1
  | .map entries => uptoBulkEntries entries + 1
  | .held _ => 1
def uptoBulkAll {H : Type} : List (DataW H) → Nat
  | [] => 0
  | d :: r => uptoBulk d + uptoBulkAll r
def uptoBulkEntries {H : Type} : List (Lit × DataW H) → Nat
  | [] => 0
  | x :: r => uptoBulkEntry x + uptoBulkEntries r
def uptoBulkEntry {H : Type} : Lit × DataW H → Nat
  | (.string bytes, d) => bytes.length + uptoBulk d + 1
  | (_, d) => uptoBulk d + 1
 end
def uptoSmall : (H : Type) → List (DataW H) → Bool := fun _ ds => decide (uptoBulkAll ds ≤ 1048576)
def OpenSpec.upto (s : _root_.Go.ChangeSpec) : _root_.Go.OpenSpec := { _root_.Go.OpenSpec.ofChange s with cond := some uptoSmall }

/-- 'ashlarlaw04.GeomTells', WHERE WHAT IT READS IS OF BULK AT MOST 1048576: true; the input reads as it did. -/
def geomTellsUptoRow : OpenClaim := { program := "ytpcdfmfmakahkaa", sum := "07d94a8a4ad7aef0cb08dc36bd3100cf139331f9987f0b579b7de9d504762a5c", func := "ashlar/ashlarlaw04.GeomTells", spec := "geomTells", apart := false, narrowed := true }
def GeomTellsUptoSaid : Prop := geomTellsUptoRow.holds Try.pinned (OpenSpec.upto geomTellsSpec)

/-- 'ashlarlaw04.GeomParts', WHERE WHAT IT READS IS OF BULK AT MOST 1048576: true; the input reads as it did. -/
def geomPartsUptoRow : OpenClaim := { program := "ytpcdfmfmakahkaa", sum := "07d94a8a4ad7aef0cb08dc36bd3100cf139331f9987f0b579b7de9d504762a5c", func := "ashlar/ashlarlaw04.GeomParts", spec := "geomParts", apart := false, narrowed := true }
def GeomPartsUptoSaid : Prop := geomPartsUptoRow.holds Try.pinned (OpenSpec.upto geomPartsSpec)

/-- 'ashlarlaw02.PackNumbers', WHERE WHAT IT READS IS OF BULK AT MOST 1048576: true; the input reads as it did. -/
def packNumbersUptoRow : OpenClaim := { program := "ytpcdfmfmakahkaa", sum := "07d94a8a4ad7aef0cb08dc36bd3100cf139331f9987f0b579b7de9d504762a5c", func := "ashlar/ashlarlaw02.PackNumbers", spec := "packNumbers", apart := false, narrowed := true }
def PackNumbersUptoSaid : Prop := packNumbersUptoRow.holds Try.pinned (OpenSpec.upto packNumbersSpec)

/-- 'ashlarlaw02.PackSeals', WHERE WHAT IT READS IS OF BULK AT MOST 1048576: true; the input reads as it did. -/
def packSealsUptoRow : OpenClaim := { program := "ytpcdfmfmakahkaa", sum := "07d94a8a4ad7aef0cb08dc36bd3100cf139331f9987f0b579b7de9d504762a5c", func := "ashlar/ashlarlaw02.PackSeals", spec := "packSeals", apart := false, narrowed := true }
def PackSealsUptoSaid : Prop := packSealsUptoRow.holds Try.pinned (OpenSpec.upto packSealsSpec)

/-- 'ashlarlaw02.PackBack', WHERE WHAT IT READS IS OF BULK AT MOST 1048576: true; the input reads as it did. -/
def packBackUptoRow : OpenClaim := { program := "ytpcdfmfmakahkaa", sum := "07d94a8a4ad7aef0cb08dc36bd3100cf139331f9987f0b579b7de9d504762a5c", func := "ashlar/ashlarlaw02.PackBack", spec := "packBack", apart := false, narrowed := true }
def PackBackUptoSaid : Prop := packBackUptoRow.holds Try.pinned (OpenSpec.upto packBackSpec)

/-- 'ashlarlaw01.BitsRun', WHERE WHAT IT READS IS OF BULK AT MOST 1048576: true; the input reads as it did. -/
def bitsRunUptoRow : OpenClaim := { program := "ytpcdfmfmakahkaa", sum := "07d94a8a4ad7aef0cb08dc36bd3100cf139331f9987f0b579b7de9d504762a5c", func := "ashlar/ashlarlaw01.BitsRun", spec := "bitsRun", apart := false, narrowed := true }
def BitsRunUptoSaid : Prop := bitsRunUptoRow.holds Try.pinned (OpenSpec.upto bitsRunSpec)

/-- 'ashlarlaw01.BitsOf', WHERE WHAT IT READS IS OF BULK AT MOST 1048576: true; the input reads as it did. -/
def bitsOfUptoRow : OpenClaim := { program := "ytpcdfmfmakahkaa", sum := "07d94a8a4ad7aef0cb08dc36bd3100cf139331f9987f0b579b7de9d504762a5c", func := "ashlar/ashlarlaw01.BitsOf", spec := "bitsOf", apart := false, narrowed := true }
def BitsOfUptoSaid : Prop := bitsOfUptoRow.holds Try.pinned (OpenSpec.upto bitsOfSpec)

/-- 'ashlarlaw01.BitsPlay', WHERE WHAT IT READS IS OF BULK AT MOST 1048576: true; the input reads as it did. -/
def bitsPlayUptoRow : OpenClaim := { program := "ytpcdfmfmakahkaa", sum := "07d94a8a4ad7aef0cb08dc36bd3100cf139331f9987f0b579b7de9d504762a5c", func := "ashlar/ashlarlaw01.BitsPlay", spec := "bitsPlay", apart := false, narrowed := true }
def BitsPlayUptoSaid : Prop := bitsPlayUptoRow.holds Try.pinned (OpenSpec.upto bitsPlaySpec)

end Rows
end Go.Proofs.Ytpcdfmfmakahkaa
