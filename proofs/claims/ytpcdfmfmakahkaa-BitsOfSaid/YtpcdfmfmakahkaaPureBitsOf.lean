/- The statement BitsOf, over numbers and lists alone: nothing is left of it. -/
import Derived.Test.YtpcdfmfmakahkaaPBitsOfx2
namespace Go.Proofs.Ytpcdfmfmakahkaa.Pure
open Go.Proofs.Ytpcdfmfmakahkaa.PBitsOf
theorem BitsOf : ashlarlaw01_BitsOf.Pure := trivial
end Go.Proofs.Ytpcdfmfmakahkaa.Pure
