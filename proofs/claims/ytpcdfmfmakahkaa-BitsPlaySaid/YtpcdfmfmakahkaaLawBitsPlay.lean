/- The statement BitsPlay: the Go law of that name answers true at every input, and its arguments read behind the call as before; no condition. -/
import Derived.Test.YtpcdfmfmakahkaaRows
import Derived.Test.YtpcdfmfmakahkaaPBitsPlayx2
import Derived.Test.YtpcdfmfmakahkaaOpenRecs
import Derived.WalkKit
import Derived.ProofKit
import Derived.OpenShut
import Derived.ShutString
import Derived.ChangeOld
import Derived.Below
import Derived.SizedLaws
import Derived.Test.YtpcdfmfmakahkaaWSized
namespace Go.Proofs.Ytpcdfmfmakahkaa.bitsPlay
open Go.ChangeShapes Go.WideShapes Go.ChangeAt Go.RowKit
open Go.ChangeMaps (open_string shut_string)
set_option linter.unusedVariables false
theorem own : ownKnob Try.prog.godebug = none := by kernel_rfl
theorem laidOut : laidOutB Try.prog = true := by kernel_rfl
def IsRow (k : IntKind) (w : World) (a : Option Addr) (len cap : Nat) (zs : List Int) : Prop :=
  (a = none ∧ len = 0 ∧ cap = 0 ∧ zs = []) ∨
  ∃ x, a = some x ∧ len ≤ cap ∧ cap ≤ maxLen ∧ zs.length = cap ∧ (∀ i, i < zs.length → w.cell? (x.add i) = some (.int k (zs.getD i 0))) ∧ ∀ n ∈ zs, (Lit.int k n).wf = true
set_option maxHeartbeats 1000000 in
set_option maxRecDepth 100000 in
theorem lifted (os : Os) (started : os.Started) (H : Type) (enc : TypeId × Value → H) :
    ReturnsInHanded {} Try.checked os 10 .any (Rows.bitsPlaySpec.pre6 enc Try.prog Try.f10 Rows.bitsPlayRow.domain false) (Rows.bitsPlaySpec.post enc Try.prog Try.f10 false true false false) := by
  refine returnsInHanded_of_change_sized (C := Try.checked) own started (by kernel_rfl) Try.func10
    (ChangeSpec.witness6 (enc := enc) (C := Try.checked) false ⟨#[], #[.int .i64 0, .slice none 0 0], []⟩ 8 (by kernel_rfl) (by kernel_rfl) (by kernel_rfl) (by kernel_rfl)) ?_
  intro W base args ds gs before hval0 hW hcnd hsz0 _
  have hsz : (DataW.weightsEach Try.prog (Try.f10.params.toList ++ Rows.bitsPlaySpec.plain.varTypes Try.prog) (ds ++ gs)).all (· ≤ reachBytes) = true := hsz0
  have hval : ∀ (j : Nat) t v, Try.f10.params[j]? = some t → args[j]? = some v → Value.okWide Try.prog W .any base t v := hval0
  have hW' := hW
  obtain ⟨p, q, hA0, hV, rfl, hfz, hnd⟩ := hW
  have hA : DataW.TrodAll enc Try.prog W 0 (fun _ => true) true Try.f10.params.toList args.toList ds p := hA0
  rw [Try.params10] at hA hval hsz
  obtain ⟨v0, vs0, d0, ds0, p0, q0, hargs, rfl, rfl, h0, r0⟩ := trodAll_cons hA
  obtain ⟨v1, vs1, d1, ds1, p1, q1, rfl, rfl, rfl, h1, r1⟩ := trodAll_cons r0
  obtain ⟨rfl, rfl, rfl⟩ := trodAll_nil r1
  obtain rfl : args = #[v0, v1] := by cases args; simp_all
  obtain ⟨rfl, rfl⟩ := trodVars_none hV
  obtain ⟨a0, rfl, rfl, rfl, w0⟩ := open_int Try.underlying3 (hval 0 3 v0 rfl rfl) h0
  have k1 := h1
  have lt1 : ∀ x ∈ p1, x.block < W.heap.size := by obtain ⟨m, hm⟩ := k1; exact DataW.trod_lt m _ _ _ hm
  obtain ⟨a1, len1, cap1, rfl⟩ := okWide_slice Try.underlying54 (hval 1 54 v1 rfl rfl)
  have w1 : PBitsPlay.Script W a1 len1 := by
    obtain ⟨fuel, hf⟩ := h1
    rcases Recs.open_recs 3 Try.underlying54 (by kernel_rfl) hf with hcs | ⟨x, l, c, hcs, hl, hm, hi⟩
    · simp [Value.cells] at hcs
      obtain ⟨rfl, rfl, rfl⟩ := hcs
      exact fun i hi => absurd hi (Nat.not_lt_zero _)
    · simp [Value.cells] at hcs
      obtain ⟨rfl, rfl, rfl⟩ := hcs
      intro i hlt
      obtain ⟨cs, y, n, hcl, hcell, ht⟩ := hi i hlt
      match cs, hcl with
      | [c0, c1, c2], _ =>
        obtain ⟨xs, n', _, _, _, hlen, hg⟩ := DataW.trod_struct Try.underlying58 ht
        obtain ⟨kd, e0, _, _⟩ := DataW.trod_int Try.underlying3 ((hg 0 _ rfl).trans (List.getElem?_eq_getElem (by rw [hlen]; decide)))
        obtain ⟨ii, e1, _, b1⟩ := DataW.trod_int Try.underlying3 ((hg 1 _ rfl).trans (List.getElem?_eq_getElem (by rw [hlen]; decide)))
        obtain ⟨on, e2, _⟩ := DataW.trod_bool Try.underlying4 ((hg 2 _ rfl).trans (List.getElem?_eq_getElem (by rw [hlen]; decide)))
        have f0 := hcell 0 (by omega)
        have f1 := hcell 1 (by omega)
        have f2 := hcell 2 (by omega)
        have hci : Try.prog.cellsOf 3 = 1 := by kernel_rfl
        have hcb : Try.prog.cellsOf 4 = 1 := by kernel_rfl
        simp [hci] at e0
        simp [hci] at e1
        simp [hcb] at e2
        subst e0 e1 e2
        exact ⟨x, kd, ii, on, rfl, f0, f1, f2, (Num.i64_of_wf b1).2⟩
  clear hA0 hval0 hsz0 hsz
  refine (PBitsPlay.ashlarlaw01_BitsPlay.walk a0 a1 len1 cap1 W w1).mono fun e W' ⟨he, bel⟩ => ?_
  subst he
  exact ⟨_, rfl, _, _, _, [], _, [], hW', trodAll_mk1 (shut_bool Try.underlying4 _), (trodAll_cons_mk (shut_int Try.underlying3 w0) (trodAll_cons_mk (Below.trod laidOut (by kernel_rfl) (of_decide_eq_true (by kernel_rfl)) k1 bel lt1) trodAll_mk0)), rfl, bel.frame _, fun h => by cases h⟩
theorem over : Rows.bitsPlayRow.holds Try.pinned (OpenSpec.ofChange Rows.bitsPlaySpec) :=
  OpenClaim.holds_of_wide 10 Try.f10 rfl rfl rfl rfl rfl rfl rfl ⟨rfl, rfl, rfl, rfl, rfl⟩ rfl rfl rfl rfl rfl (by kernel_rfl) Try.func10 (by kernel_rfl)
    (of_decide_eq_true (by kernel_rfl)) (by unfold Func.isWrapper; first | (rw [if_pos (by decide +kernel)]; kernel_rfl) | (rw [if_neg (by decide +kernel)]; exact ⟨rfl, rfl⟩))
    (fun os started H enc _ => lifted os started H enc)
theorem proved : Rows.BitsPlaySaid := over
#print axioms proved
end Go.Proofs.Ytpcdfmfmakahkaa.bitsPlay
namespace Go.Proofs.Ytpcdfmfmakahkaa
/-- The row, under a short name, for the claim. -/
theorem bitsPlay_holds : Rows.BitsPlaySaid := bitsPlay.proved
end Go.Proofs.Ytpcdfmfmakahkaa
