/-
  No cell of these rows narrows 'for every input' (looked for: loops, veiled, ifaces, maps, wideKeys, modest, calm, conditions, laid).
  DERIVED. THE GIVEN ROWS OF THIS SEAT. 10 by the template 'for every input the law returns true; each argument reads behind the call as it read before'; 0 by the template 'total and deterministic' (their statements: YtignifnkjlldpaaTotals.lean).
  GIVEN WITH THE SEED: the statements are not yours to turn. If you find one false, say at which input.
  Laid BY PROGRAM, IN A SANDBOX (cutbox-rows.mjs): the forced cells as the released guide's own fill.sh prints them over the translation 180dc3b0543b0759… (all of the seat's roots in one cut). By AI agents, Wed Nov 11 2026. No macro, syntax, notation, axiom, sorry.
-/
import Derived.Test.YtignifnkjlldpaaChecked
import GoSem.Claim
import GoSem.ClaimJoined
import GoSem.ClaimMapViews
import Derived.JoinedTies
import Derived.KernelRfl
namespace Go.Proofs.Ytignifnkjlldpaa
/- THE CELL 'sum', in the pinned program and in every row, IS THE sha256 OF THE DUMP (.gsa) THAT YtignifnkjlldpaaProg.lean LOADS. Nothing in Lean hashes anything: it is a label: what it is worth is what the hold of that sum in a sandbox is worth. -/
noncomputable def Try.pinned : Pinned := { name := "ytignifnkjlldpaa", sum := "180dc3b0543b075956a7ce13b51c3b3676b2c4f90a19f93e4d83418bfbec2df9", checked := Try.checked }
namespace Rows
def none {H : Type} : Left H := { results := [], args := [] }

/-- 'ashlarlaw07.InodeMaps': WHATEVER THE INPUT: true; the input reads as it did. -/
def inodeMapsSpec : ChangeSpec := { name := "inodeMaps", fn := fun _ => fun
  | [d1, d2] => { results := [.lit (.bool true)], args := [d1, d2] }
  | _ => none }
def inodeMapsRow : OpenClaim := { program := "ytignifnkjlldpaa", sum := "180dc3b0543b075956a7ce13b51c3b3676b2c4f90a19f93e4d83418bfbec2df9", func := "ashlar/ashlarlaw07.InodeMaps", spec := "inodeMaps", unfollowed := true, recurses := true, apart := false }
def InodeMapsSaid : Prop := inodeMapsRow.holds Try.pinned (OpenSpec.ofChange inodeMapsSpec)

/-- ITS FALSE NEIGHBOUR: 'it returns false'. Refute it at one input. -/
def inodeMapsWrong : ChangeSpec := { name := "inodeMaps", fn := fun _ => fun
  | [d1, d2] => { results := [.lit (.bool false)], args := [d1, d2] }
  | _ => none }
def InodeMapsWrongFalsely : Prop := inodeMapsRow.holds Try.pinned (OpenSpec.ofChange inodeMapsWrong)

/-- 'ashlarlaw07.InodeTables': WHATEVER THE INPUT: true; the input reads as it did. -/
def inodeTablesSpec : ChangeSpec := { name := "inodeTables", fn := fun _ => fun
  | [d1, d2, d3] => { results := [.lit (.bool true)], args := [d1, d2, d3] }
  | _ => none }
def inodeTablesRow : OpenClaim := { program := "ytignifnkjlldpaa", sum := "180dc3b0543b075956a7ce13b51c3b3676b2c4f90a19f93e4d83418bfbec2df9", func := "ashlar/ashlarlaw07.InodeTables", spec := "inodeTables", unfollowed := true, recurses := true, apart := false }
def InodeTablesSaid : Prop := inodeTablesRow.holds Try.pinned (OpenSpec.ofChange inodeTablesSpec)

/-- ITS FALSE NEIGHBOUR: 'it returns false'. Refute it at one input. -/
def inodeTablesWrong : ChangeSpec := { name := "inodeTables", fn := fun _ => fun
  | [d1, d2, d3] => { results := [.lit (.bool false)], args := [d1, d2, d3] }
  | _ => none }
def InodeTablesWrongFalsely : Prop := inodeTablesRow.holds Try.pinned (OpenSpec.ofChange inodeTablesWrong)

/-- 'ashlarlaw08.DirentEncodes': WHATEVER THE INPUT: true; the input reads as it did. -/
def direntEncodesSpec : ChangeSpec := { name := "direntEncodes", fn := fun _ => fun
  | [d] => { results := [.lit (.bool true)], args := [d] }
  | _ => none }
def direntEncodesRow : OpenClaim := { program := "ytignifnkjlldpaa", sum := "180dc3b0543b075956a7ce13b51c3b3676b2c4f90a19f93e4d83418bfbec2df9", func := "ashlar/ashlarlaw08.DirentEncodes", spec := "direntEncodes", inPlace := ["internal/bytealg.IndexByteString"], apart := false }
def DirentEncodesSaid : Prop := direntEncodesRow.holds Try.pinned (OpenSpec.ofChange direntEncodesSpec)

/-- ITS FALSE NEIGHBOUR: 'it returns false'. Refute it at one input. -/
def direntEncodesWrong : ChangeSpec := { name := "direntEncodes", fn := fun _ => fun
  | [d] => { results := [.lit (.bool false)], args := [d] }
  | _ => none }
def DirentEncodesWrongFalsely : Prop := direntEncodesRow.holds Try.pinned (OpenSpec.ofChange direntEncodesWrong)

/-- 'ashlarlaw08.DirentDecodes': WHATEVER THE INPUT: true; the input reads as it did. -/
def direntDecodesSpec : ChangeSpec := { name := "direntDecodes", fn := fun _ => fun
  | [d] => { results := [.lit (.bool true)], args := [d] }
  | _ => none }
def direntDecodesRow : OpenClaim := { program := "ytignifnkjlldpaa", sum := "180dc3b0543b075956a7ce13b51c3b3676b2c4f90a19f93e4d83418bfbec2df9", func := "ashlar/ashlarlaw08.DirentDecodes", spec := "direntDecodes", inPlace := ["internal/bytealg.IndexByteString"], apart := false }
def DirentDecodesSaid : Prop := direntDecodesRow.holds Try.pinned (OpenSpec.ofChange direntDecodesSpec)

/-- ITS FALSE NEIGHBOUR: 'it returns false'. Refute it at one input. -/
def direntDecodesWrong : ChangeSpec := { name := "direntDecodes", fn := fun _ => fun
  | [d] => { results := [.lit (.bool false)], args := [d] }
  | _ => none }
def DirentDecodesWrongFalsely : Prop := direntDecodesRow.holds Try.pinned (OpenSpec.ofChange direntDecodesWrong)

/-- 'ashlarlaw08.DirentOnce': WHATEVER THE INPUT: true; the input reads as it did. -/
def direntOnceSpec : ChangeSpec := { name := "direntOnce", fn := fun _ => fun
  | [d1, d2, d3] => { results := [.lit (.bool true)], args := [d1, d2, d3] }
  | _ => none }
def direntOnceRow : OpenClaim := { program := "ytignifnkjlldpaa", sum := "180dc3b0543b075956a7ce13b51c3b3676b2c4f90a19f93e4d83418bfbec2df9", func := "ashlar/ashlarlaw08.DirentOnce", spec := "direntOnce", inPlace := ["internal/bytealg.IndexByteString"], apart := false }
def DirentOnceSaid : Prop := direntOnceRow.holds Try.pinned (OpenSpec.ofChange direntOnceSpec)

/-- ITS FALSE NEIGHBOUR: 'it returns false'. Refute it at one input. -/
def direntOnceWrong : ChangeSpec := { name := "direntOnce", fn := fun _ => fun
  | [d1, d2, d3] => { results := [.lit (.bool false)], args := [d1, d2, d3] }
  | _ => none }
def DirentOnceWrongFalsely : Prop := direntOnceRow.holds Try.pinned (OpenSpec.ofChange direntOnceWrong)

/-- 'ashlarlaw05.SuperDecodes': WHATEVER THE INPUT: true; the input reads as it did. -/
def superDecodesSpec : ChangeSpec := { name := "superDecodes", fn := fun _ => fun
  | [d] => { results := [.lit (.bool true)], args := [d] }
  | _ => none }
def superDecodesRow : OpenClaim := { program := "ytignifnkjlldpaa", sum := "180dc3b0543b075956a7ce13b51c3b3676b2c4f90a19f93e4d83418bfbec2df9", func := "ashlar/ashlarlaw05.SuperDecodes", spec := "superDecodes", unfollowed := true, recurses := true, apart := false }
def SuperDecodesSaid : Prop := superDecodesRow.holds Try.pinned (OpenSpec.ofChange superDecodesSpec)

/-- ITS FALSE NEIGHBOUR: 'it returns false'. Refute it at one input. -/
def superDecodesWrong : ChangeSpec := { name := "superDecodes", fn := fun _ => fun
  | [d] => { results := [.lit (.bool false)], args := [d] }
  | _ => none }
def SuperDecodesWrongFalsely : Prop := superDecodesRow.holds Try.pinned (OpenSpec.ofChange superDecodesWrong)

/-- 'ashlarlaw05.SuperOnce': WHATEVER THE INPUT: true; the input reads as it did. -/
def superOnceSpec : ChangeSpec := { name := "superOnce", fn := fun _ => fun
  | [d1, d2, d3] => { results := [.lit (.bool true)], args := [d1, d2, d3] }
  | _ => none }
def superOnceRow : OpenClaim := { program := "ytignifnkjlldpaa", sum := "180dc3b0543b075956a7ce13b51c3b3676b2c4f90a19f93e4d83418bfbec2df9", func := "ashlar/ashlarlaw05.SuperOnce", spec := "superOnce", unfollowed := true, recurses := true, apart := false }
def SuperOnceSaid : Prop := superOnceRow.holds Try.pinned (OpenSpec.ofChange superOnceSpec)

/-- ITS FALSE NEIGHBOUR: 'it returns false'. Refute it at one input. -/
def superOnceWrong : ChangeSpec := { name := "superOnce", fn := fun _ => fun
  | [d1, d2, d3] => { results := [.lit (.bool false)], args := [d1, d2, d3] }
  | _ => none }
def SuperOnceWrongFalsely : Prop := superOnceRow.holds Try.pinned (OpenSpec.ofChange superOnceWrong)

/-- 'ashlarlaw06.GroupNil': WHATEVER THE INPUT: true; the input reads as it did. -/
def groupNilSpec : ChangeSpec := { name := "groupNil", fn := fun _ => fun
  | [d] => { results := [.lit (.bool true)], args := [d] }
  | _ => none }
def groupNilRow : OpenClaim := { program := "ytignifnkjlldpaa", sum := "180dc3b0543b075956a7ce13b51c3b3676b2c4f90a19f93e4d83418bfbec2df9", func := "ashlar/ashlarlaw06.GroupNil", spec := "groupNil", apart := false }
def GroupNilSaid : Prop := groupNilRow.holds Try.pinned (OpenSpec.ofChange groupNilSpec)

/-- ITS FALSE NEIGHBOUR: 'it returns false'. Refute it at one input. -/
def groupNilWrong : ChangeSpec := { name := "groupNil", fn := fun _ => fun
  | [d] => { results := [.lit (.bool false)], args := [d] }
  | _ => none }
def GroupNilWrongFalsely : Prop := groupNilRow.holds Try.pinned (OpenSpec.ofChange groupNilWrong)

/-- 'ashlarlaw06.GroupPages': WHATEVER THE INPUT: true; the input reads as it did. -/
def groupPagesSpec : ChangeSpec := { name := "groupPages", fn := fun _ => fun
  | [d1, d2, d3] => { results := [.lit (.bool true)], args := [d1, d2, d3] }
  | _ => none }
def groupPagesRow : OpenClaim := { program := "ytignifnkjlldpaa", sum := "180dc3b0543b075956a7ce13b51c3b3676b2c4f90a19f93e4d83418bfbec2df9", func := "ashlar/ashlarlaw06.GroupPages", spec := "groupPages", apart := false }
def GroupPagesSaid : Prop := groupPagesRow.holds Try.pinned (OpenSpec.ofChange groupPagesSpec)

/-- ITS FALSE NEIGHBOUR: 'it returns false'. Refute it at one input. -/
def groupPagesWrong : ChangeSpec := { name := "groupPages", fn := fun _ => fun
  | [d1, d2, d3] => { results := [.lit (.bool false)], args := [d1, d2, d3] }
  | _ => none }
def GroupPagesWrongFalsely : Prop := groupPagesRow.holds Try.pinned (OpenSpec.ofChange groupPagesWrong)

/-- 'ashlarlaw06.GroupDescs': WHATEVER THE INPUT: true; the input reads as it did. -/
def groupDescsSpec : ChangeSpec := { name := "groupDescs", fn := fun _ => fun
  | [d1, d2, d3] => { results := [.lit (.bool true)], args := [d1, d2, d3] }
  | _ => none }
def groupDescsRow : OpenClaim := { program := "ytignifnkjlldpaa", sum := "180dc3b0543b075956a7ce13b51c3b3676b2c4f90a19f93e4d83418bfbec2df9", func := "ashlar/ashlarlaw06.GroupDescs", spec := "groupDescs", apart := false }
def GroupDescsSaid : Prop := groupDescsRow.holds Try.pinned (OpenSpec.ofChange groupDescsSpec)

/-- ITS FALSE NEIGHBOUR: 'it returns false'. Refute it at one input. -/
def groupDescsWrong : ChangeSpec := { name := "groupDescs", fn := fun _ => fun
  | [d1, d2, d3] => { results := [.lit (.bool false)], args := [d1, d2, d3] }
  | _ => none }
def GroupDescsWrongFalsely : Prop := groupDescsRow.holds Try.pinned (OpenSpec.ofChange groupDescsWrong)

/- THE SECOND FORM. 'bulk': how many values and letters a reading holds, each counted each time it is reached (what is shared counts as often as it is met; a slice's spare places count too). A statement '..UptoSaid' is the law's where the arguments, and the package variables that the reading takes, are together of bulk at most 1048576: NARROWER than '..Said'. Prove '..Said' where nothing that the law and all that it calls make is longer than what came in: it says more and counts as full. Else prove '..UptoSaid'. A law counts once. -/
mutual
def uptoBulk {H : Type} : DataW H → Nat
  | .lit (.string bytes) => bytes.length + 1
  | .lit _ => 1
  | .nil => 1
  | .ptr d => uptoBulk d + 1
  | .slice elems spare => uptoBulkAll elems + uptoBulkAll spare + 1
  | .agg parts => uptoBulkAll parts + 1
  | .iface _ d => uptoBulk d + 1
  | .map entries => uptoBulkEntries entries + 1
  | .held _ => 1
def uptoBulkAll {H : Type} : List (DataW H) → Nat
  | [] => 0
  | d :: r => uptoBulk d + uptoBulkAll r
def uptoBulkEntries {H : Type} : List (Lit × DataW H) → Nat
  | [] => 0
  | x :: r => uptoBulkEntry x + uptoBulkEntries r
def uptoBulkEntry {H : Type} : Lit × DataW H → Nat
  | (.string bytes, d) => bytes.length + uptoBulk d + 1
  | (_, d) => uptoBulk d + 1
 end
def uptoSmall : (H : Type) → List (DataW H) → Bool := fun _ ds => decide (uptoBulkAll ds ≤ 1048576)
def OpenSpec.upto (s : _root_.Go.ChangeSpec) : _root_.Go.OpenSpec := { _root_.Go.OpenSpec.ofChange s with cond := some uptoSmall }

/-- 'ashlarlaw07.InodeMaps', WHERE WHAT IT READS IS OF BULK AT MOST 1048576: true; the input reads as it did. -/
def inodeMapsUptoRow : OpenClaim := { program := "ytignifnkjlldpaa", sum := "180dc3b0543b075956a7ce13b51c3b3676b2c4f90a19f93e4d83418bfbec2df9", func := "ashlar/ashlarlaw07.InodeMaps", spec := "inodeMaps", unfollowed := true, recurses := true, apart := false, narrowed := true }
def InodeMapsUptoSaid : Prop := inodeMapsUptoRow.holds Try.pinned (OpenSpec.upto inodeMapsSpec)

/-- 'ashlarlaw07.InodeTables', WHERE WHAT IT READS IS OF BULK AT MOST 1048576: true; the input reads as it did. -/
def inodeTablesUptoRow : OpenClaim := { program := "ytignifnkjlldpaa", sum := "180dc3b0543b075956a7ce13b51c3b3676b2c4f90a19f93e4d83418bfbec2df9", func := "ashlar/ashlarlaw07.InodeTables", spec := "inodeTables", unfollowed := true, recurses := true, apart := false, narrowed := true }
def InodeTablesUptoSaid : Prop := inodeTablesUptoRow.holds Try.pinned (OpenSpec.upto inodeTablesSpec)

/-- 'ashlarlaw08.DirentEncodes', WHERE WHAT IT READS IS OF BULK AT MOST 1048576: true; the input reads as it did. -/
def direntEncodesUptoRow : OpenClaim := { program := "ytignifnkjlldpaa", sum := "180dc3b0543b075956a7ce13b51c3b3676b2c4f90a19f93e4d83418bfbec2df9", func := "ashlar/ashlarlaw08.DirentEncodes", spec := "direntEncodes", inPlace := ["internal/bytealg.IndexByteString"], apart := false, narrowed := true }
def DirentEncodesUptoSaid : Prop := direntEncodesUptoRow.holds Try.pinned (OpenSpec.upto direntEncodesSpec)

/-- 'ashlarlaw08.DirentDecodes', WHERE WHAT IT READS IS OF BULK AT MOST 1048576: true; the input reads as it did. -/
def direntDecodesUptoRow : OpenClaim := { program := "ytignifnkjlldpaa", sum := "180dc3b0543b075956a7ce13b51c3b3676b2c4f90a19f93e4d83418bfbec2df9", func := "ashlar/ashlarlaw08.DirentDecodes", spec := "direntDecodes", inPlace := ["internal/bytealg.IndexByteString"], apart := false, narrowed := true }
def DirentDecodesUptoSaid : Prop := direntDecodesUptoRow.holds Try.pinned (OpenSpec.upto direntDecodesSpec)

/-- 'ashlarlaw08.DirentOnce', WHERE WHAT IT READS IS OF BULK AT MOST 1048576: true; the input reads as it did. -/
def direntOnceUptoRow : OpenClaim := { program := "ytignifnkjlldpaa", sum := "180dc3b0543b075956a7ce13b51c3b3676b2c4f90a19f93e4d83418bfbec2df9", func := "ashlar/ashlarlaw08.DirentOnce", spec := "direntOnce", inPlace := ["internal/bytealg.IndexByteString"], apart := false, narrowed := true }
def DirentOnceUptoSaid : Prop := direntOnceUptoRow.holds Try.pinned (OpenSpec.upto direntOnceSpec)

/-- 'ashlarlaw05.SuperDecodes', WHERE WHAT IT READS IS OF BULK AT MOST 1048576: true; the input reads as it did. -/
def superDecodesUptoRow : OpenClaim := { program := "ytignifnkjlldpaa", sum := "180dc3b0543b075956a7ce13b51c3b3676b2c4f90a19f93e4d83418bfbec2df9", func := "ashlar/ashlarlaw05.SuperDecodes", spec := "superDecodes", unfollowed := true, recurses := true, apart := false, narrowed := true }
def SuperDecodesUptoSaid : Prop := superDecodesUptoRow.holds Try.pinned (OpenSpec.upto superDecodesSpec)

/-- 'ashlarlaw05.SuperOnce', WHERE WHAT IT READS IS OF BULK AT MOST 1048576: true; the input reads as it did. -/
def superOnceUptoRow : OpenClaim := { program := "ytignifnkjlldpaa", sum := "180dc3b0543b075956a7ce13b51c3b3676b2c4f90a19f93e4d83418bfbec2df9", func := "ashlar/ashlarlaw05.SuperOnce", spec := "superOnce", unfollowed := true, recurses := true, apart := false, narrowed := true }
def SuperOnceUptoSaid : Prop := superOnceUptoRow.holds Try.pinned (OpenSpec.upto superOnceSpec)

/-- 'ashlarlaw06.GroupNil', WHERE WHAT IT READS IS OF BULK AT MOST 1048576: true; the input reads as it did. -/
def groupNilUptoRow : OpenClaim := { program := "ytignifnkjlldpaa", sum := "180dc3b0543b075956a7ce13b51c3b3676b2c4f90a19f93e4d83418bfbec2df9", func := "ashlar/ashlarlaw06.GroupNil", spec := "groupNil", apart := false, narrowed := true }
def GroupNilUptoSaid : Prop := groupNilUptoRow.holds Try.pinned (OpenSpec.upto groupNilSpec)

/-- 'ashlarlaw06.GroupPages', WHERE WHAT IT READS IS OF BULK AT MOST 1048576: true; the input reads as it did. -/
def groupPagesUptoRow : OpenClaim := { program := "ytignifnkjlldpaa", sum := "180dc3b0543b075956a7ce13b51c3b3676b2c4f90a19f93e4d83418bfbec2df9", func := "ashlar/ashlarlaw06.GroupPages", spec := "groupPages", apart := false, narrowed := true }
def GroupPagesUptoSaid : Prop := groupPagesUptoRow.holds Try.pinned (OpenSpec.upto groupPagesSpec)

/-- 'ashlarlaw06.GroupDescs', WHERE WHAT IT READS IS OF BULK AT MOST 1048576: true; the input reads as it did. -/
def groupDescsUptoRow : OpenClaim := { program := "ytignifnkjlldpaa", sum := "180dc3b0543b075956a7ce13b51c3b3676b2c4f90a19f93e4d83418bfbec2df9", func := "ashlar/ashlarlaw06.GroupDescs", spec := "groupDescs", apart := false, narrowed := true }
def GroupDescsUptoSaid : Prop := groupDescsUptoRow.holds Try.pinned (OpenSpec.upto groupDescsSpec)

end Rows
end Go.Proofs.Ytignifnkjlldpaa
