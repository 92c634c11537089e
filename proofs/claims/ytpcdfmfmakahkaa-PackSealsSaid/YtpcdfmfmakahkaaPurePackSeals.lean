/- The statement PackSeals, over numbers and lists alone: any bytes have the sum, and are sealed, and any block is opened, as the document says. -/
import Derived.Test.YtpcdfmfmakahkaaPPackSealsx2
import Derived.Test.YtpcdfmfmakahkaaPackLibPackSeals
namespace Go.Proofs.Ytpcdfmfmakahkaa.Pure
open Go.RowKit Go.Proofs.Ytpcdfmfmakahkaa.PPackSeals Go.Proofs.YtpcdfmfmakahkaaW.PrintWords Go.Proofs.YtpcdfmfmakahkaaW.PrintLast Go.Proofs.Ytpcdfmfmakahkaa.Num Go.Proofs.Ytpcdfmfmakahkaa.PurePackSeals
theorem PackSeals : ashlarlaw02_PackSeals.Pure := by
  intro l b hm hl hw hm1 hl1 hw1
  have hb := bytes_of_wf hw1
  have k1 : 300 ≤ 300 + l.length := by omega
  exact ⟨300 + l.length, (if l.length ≤ 252 then (sealed l, 0) else ([], 1) : List Int × Int).1, (opened b).1, (if l.length ≤ 252 then (sealed l, 0) else ([], 1) : List Int × Int).2, sum l, (opened b).2, awake_f _ k1, seal_f l (by omega) _ k1, rseal_f l (by omega) _ k1, open_f b hb (by omega) _ k1, ropen_f b hb (by omega) _ k1, sum_f l (by omega) _ (by omega), rsum_f l (by omega) _ (by omega)⟩
end Go.Proofs.Ytpcdfmfmakahkaa.Pure
