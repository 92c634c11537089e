/- The statement GroupNil, over numbers and lists alone: a closed evaluation, of what one page of owners comes to. -/
import Derived.Test.YtignifnkjlldpaaPGroupNilx2
namespace Go.Proofs.Ytignifnkjlldpaa.Pure
open Go.RowKit Go.Proofs.Ytignifnkjlldpaa.PGroupNil Go.Proofs.YtignifnkjlldpaaW.PrintWords Go.Proofs.YtignifnkjlldpaaW.PrintLast
set_option maxRecDepth 100000 in
theorem GroupNil : ashlarlaw06_GroupNil.Pure := ⟨300, by decide +kernel⟩
end Go.Proofs.Ytignifnkjlldpaa.Pure
