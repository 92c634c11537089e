/- The statement DirentOnce: the Go law of that name answers true at every input, and its arguments read behind the call as before; no condition. -/
import Derived.Test.YtignifnkjlldpaaRows
import Derived.Test.YtignifnkjlldpaaPureDirentOnce
import Derived.Test.YtignifnkjlldpaaOpenRecs
import Derived.WalkKit
import Derived.ProofKit
import Derived.OpenShut
import Derived.ShutString
import Derived.ChangeOld
import Derived.Below
import Derived.SizedLaws
import Derived.Test.YtignifnkjlldpaaWSized
namespace Go.Proofs.Ytignifnkjlldpaa.direntOnce
open Go.ChangeShapes Go.WideShapes Go.ChangeAt Go.RowKit
open Go.ChangeMaps (open_string shut_string)
open Go.Proofs.YtignifnkjlldpaaW.PrintWords (Kd)
set_option linter.unusedVariables false
theorem own : ownKnob Try.prog.godebug = none := by kernel_rfl
theorem laidOut : laidOutB Try.prog = true := by kernel_rfl
def IsRow (k : IntKind) (w : World) (a : Option Addr) (len cap : Nat) (zs : List Int) : Prop :=
  (a = none ∧ len = 0 ∧ cap = 0 ∧ zs = []) ∨
  ∃ x, a = some x ∧ len ≤ cap ∧ cap ≤ maxLen ∧ zs.length = cap ∧ (∀ i, i < zs.length → w.cell? (x.add i) = some (.int k (zs.getD i 0))) ∧ ∀ n ∈ zs, (Lit.int k n).wf = true
set_option maxHeartbeats 1000000 in
set_option maxRecDepth 100000 in
theorem lifted (os : Os) (started : os.Started) (H : Type) (enc : TypeId × Value → H) :
    ReturnsInHanded {} Try.checked os 7 .any (Rows.direntOnceSpec.pre6 enc Try.prog Try.f7 Rows.direntOnceRow.domain false) (Rows.direntOnceSpec.post enc Try.prog Try.f7 false true false false) := by
  refine returnsInHanded_of_change_sized (C := Try.checked) own started (by kernel_rfl) Try.func7
    (ChangeSpec.witness6 (enc := enc) (C := Try.checked) false ⟨#[], #[.slice none 0 0, .int .u64 0, .int .u8 0], []⟩ 8 (by kernel_rfl) (by kernel_rfl) (by kernel_rfl) (by kernel_rfl)) ?_
  intro W base args ds gs before hval0 hW hcnd hsz0 _
  have hsz : (DataW.weightsEach Try.prog (Try.f7.params.toList ++ Rows.direntOnceSpec.plain.varTypes Try.prog) (ds ++ gs)).all (· ≤ reachBytes) = true := hsz0
  have hval : ∀ (j : Nat) t v, Try.f7.params[j]? = some t → args[j]? = some v → Value.okWide Try.prog W .any base t v := hval0
  have hW' := hW
  obtain ⟨p, q, hA0, hV, rfl, hfz, hnd⟩ := hW
  have hA : DataW.TrodAll enc Try.prog W 0 (fun _ => true) true Try.f7.params.toList args.toList ds p := hA0
  rw [Try.params7] at hA hval hsz
  obtain ⟨v0, vs0, d0, ds0, p0, q0, hargs, rfl, rfl, h0, r0⟩ := trodAll_cons hA
  obtain ⟨v1, vs1, d1, ds1, p1, q1, rfl, rfl, rfl, h1, r1⟩ := trodAll_cons r0
  obtain ⟨v2, vs2, d2, ds2, p2, q2, rfl, rfl, rfl, h2, r2⟩ := trodAll_cons r1
  obtain ⟨rfl, rfl, rfl⟩ := trodAll_nil r2
  obtain rfl : args = #[v0, v1, v2] := by cases args; simp_all
  obtain ⟨rfl, rfl⟩ := trodVars_none hV
  have k0 := h0
  have lt0 : ∀ x ∈ p0, x.block < W.heap.size := by obtain ⟨m, hm⟩ := k0; exact DataW.trod_lt m _ _ _ hm
  obtain ⟨a0, len0, cap0, rfl⟩ := okWide_slice Try.underlying52 (hval 0 52 v0 rfl rfl)
  obtain ⟨l0, hr0, hc0⟩ : ∃ l : List PDirentOnce.S60, Kd.C PDirentOnce.k60 W a0 len0 l ∧ len0 ≤ cap0 := by
    obtain ⟨fuel, hf⟩ := h0
    rcases Recs.open_recs 2 Try.underlying52 (by kernel_rfl) hf with hcs | ⟨x, l, c, hcs, hl, hm, hi⟩
    · simp [Value.cells] at hcs
      obtain ⟨rfl, rfl, rfl⟩ := hcs
      exact ⟨[], ⟨rfl, by simp, fun h => absurd h (Nat.lt_irrefl 0)⟩, Nat.le_refl _⟩
    · simp [Value.cells] at hcs
      obtain ⟨rfl, rfl, rfl⟩ := hcs
      have hq : ∀ i, i < len0 → ∃ (p : PDirentOnce.S60) (c : List Value), c.length = 2 ∧ PDirentOnce.k60.K W p c ∧ ∀ j, j < 2 → W.cell? (x.add (i * 2 + j)) = c[j]? := by
        intro i hlt
        obtain ⟨cs, y, n, hcl, hcell, ht⟩ := hi i hlt
        match cs, hcl with
        | [c0, c1], _ =>
          obtain ⟨xs, n', _, _, _, hlen, hg⟩ := DataW.trod_struct Try.underlying60 ht
          obtain ⟨f0, e0, _, _⟩ := DataW.trod_int Try.underlying3 ((hg 0 _ rfl).trans (List.getElem?_eq_getElem (by rw [hlen]; decide)))
          obtain ⟨f1, e1, _⟩ := DataW.trod_string Try.underlying9 ((hg 1 _ rfl).trans (List.getElem?_eq_getElem (by rw [hlen]; decide)))
          have hci : Try.prog.cellsOf 3 = 1 := by kernel_rfl
          have hcs : Try.prog.cellsOf 9 = 1 := by kernel_rfl
          simp [hci] at e0
          simp [hcs] at e1
          subst e0 e1
          exact ⟨⟨f0, f1⟩, _, rfl, PDirentOnce.k60_mk W ⟨f0, f1⟩, hcell⟩
      obtain ⟨L, hL⟩ := Recs.reads_of (R := PDirentOnce.k60.K W) (Nat.le_trans hl hm) hq
      exact ⟨L, hL, hl⟩
  obtain rfl : l0.length = len0 := hr0.1
  obtain ⟨a1, rfl, rfl, rfl, w1⟩ := open_int Try.underlying71 (hval 1 71 v1 rfl rfl) h1
  obtain ⟨a2, rfl, rfl, rfl, w2⟩ := open_int Try.underlying5 (hval 2 5 v2 rfl rfl) h2
  clear hA0 hval0 hsz0 hsz
  refine (PureDirentOnce.walk a0 cap0 l0 a1 a2 W hr0 hc0 w1 w2).mono fun e W' ⟨he, bel⟩ => ?_
  subst he
  exact ⟨_, rfl, _, _, _, [], _, [], hW', trodAll_mk1 (shut_bool Try.underlying4 _), (trodAll_cons_mk (Below.trod laidOut (by kernel_rfl) (of_decide_eq_true (by kernel_rfl)) k0 bel lt0) (trodAll_cons_mk (shut_int Try.underlying71 w1) (trodAll_cons_mk (shut_int Try.underlying5 w2) trodAll_mk0))), rfl, bel.frame _, fun h => by cases h⟩
theorem over : Rows.direntOnceRow.holds Try.pinned (OpenSpec.ofChange Rows.direntOnceSpec) :=
  OpenClaim.holds_of_wide 7 Try.f7 rfl rfl rfl rfl rfl rfl rfl ⟨rfl, rfl, rfl, rfl, rfl⟩ rfl rfl rfl rfl rfl (by kernel_rfl) Try.func7 (by kernel_rfl)
    (of_decide_eq_true (by kernel_rfl)) (by unfold Func.isWrapper; first | (rw [if_pos (by decide +kernel)]; kernel_rfl) | (rw [if_neg (by decide +kernel)]; exact ⟨rfl, rfl⟩))
    (fun os started H enc _ => lifted os started H enc)
theorem proved : Rows.DirentOnceSaid := over
#print axioms proved
end Go.Proofs.Ytignifnkjlldpaa.direntOnce
namespace Go.Proofs.Ytignifnkjlldpaa
/-- The row, under a short name, for the claim. -/
theorem direntOnce_holds : Rows.DirentOnceSaid := direntOnce.proved
end Go.Proofs.Ytignifnkjlldpaa
