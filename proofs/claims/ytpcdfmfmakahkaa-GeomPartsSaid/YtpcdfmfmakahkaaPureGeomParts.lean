/- The statement GeomParts, over numbers alone: of each group the descriptor and the owners' page are fixed blocks of it, and different; open and fixed blocks are together all; for every number of groups. -/
import Derived.Test.YtpcdfmfmakahkaaPGeomPartsx2
import Derived.Test.YtpcdfmfmakahkaaPackNum
namespace Go.Proofs.Ytpcdfmfmakahkaa.Pure
open Go.RowKit Go.Proofs.Ytpcdfmfmakahkaa.PGeomParts Go.Proofs.YtpcdfmfmakahkaaW.PrintWords Go.Proofs.YtpcdfmfmakahkaaW.PrintLast Go.Proofs.Ytpcdfmfmakahkaa.Num
theorem parts_awake : ashlarlaw04_awake.f = some true := by decide +kernel
set_option maxRecDepth 100000 in
theorem parts_all : ∀ r : Fin 12, ashlarlaw04_GeomParts.l0 1600 (1 + (r.val : Int)) 0 (64 * (1 + (r.val : Int))) 0 = some true := by decide +kernel
theorem GeomParts : ashlarlaw04_GeomParts.Pure := by
  intro a w
  have ha := u8_of_wf w
  refine ⟨1600, ?_⟩
  unfold ashlarlaw04_GeomParts.f
  rw [parts_awake]
  simp only [Option.bind_some, if_true]
  have e : Int.tmod a 12 = a % 12 := Int.tmod_eq_emod_of_nonneg ha.1
  have h := parts_all ⟨(a % 12).toNat, by omega⟩
  have e2 : (((a % 12).toNat : Nat) : Int) = a % 12 := by omega
  simp only [e2] at h
  rw [e, w64 (x := a % 12) (by omega) (by omega), w64 (x := 1 + a % 12) (by omega) (by omega), w64 (by omega) (by omega)]
  exact h
end Go.Proofs.Ytpcdfmfmakahkaa.Pure
