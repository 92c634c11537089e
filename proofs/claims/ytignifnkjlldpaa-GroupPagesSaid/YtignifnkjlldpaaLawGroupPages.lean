/- The statement GroupPages: the Go law of that name answers true at every input, and its arguments read behind the call as before; no condition. -/
import Derived.Test.YtignifnkjlldpaaRows
import Derived.Test.YtignifnkjlldpaaPureGroupPages
import Derived.Test.YtignifnkjlldpaaOpenRecs
import Derived.WalkKit
import Derived.ProofKit
import Derived.OpenShut
import Derived.ShutString
import Derived.ChangeOld
import Derived.Below
import Derived.SizedLaws
import Derived.Test.YtignifnkjlldpaaWSized
namespace Go.Proofs.Ytignifnkjlldpaa.groupPages
open Go.ChangeShapes Go.WideShapes Go.ChangeAt Go.RowKit
open Go.ChangeMaps (open_string shut_string)
open Go.Proofs.YtignifnkjlldpaaW.PrintWords (Kd)
set_option linter.unusedVariables false
theorem own : ownKnob Try.prog.godebug = none := by kernel_rfl
theorem laidOut : laidOutB Try.prog = true := by kernel_rfl
def IsRow (k : IntKind) (w : World) (a : Option Addr) (len cap : Nat) (zs : List Int) : Prop :=
  (a = none ∧ len = 0 ∧ cap = 0 ∧ zs = []) ∨
  ∃ x, a = some x ∧ len ≤ cap ∧ cap ≤ maxLen ∧ zs.length = cap ∧ (∀ i, i < zs.length → w.cell? (x.add i) = some (.int k (zs.getD i 0))) ∧ ∀ n ∈ zs, (Lit.int k n).wf = true
set_option maxHeartbeats 1000000 in
set_option maxRecDepth 100000 in
theorem lifted (os : Os) (started : os.Started) (H : Type) (enc : TypeId × Value → H) :
    ReturnsInHanded {} Try.checked os 11 .any (Rows.groupPagesSpec.pre6 enc Try.prog Try.f11 Rows.groupPagesRow.domain false) (Rows.groupPagesSpec.post enc Try.prog Try.f11 false true false false) := by
  refine returnsInHanded_of_change_sized (C := Try.checked) own started (by kernel_rfl) Try.func11
    (ChangeSpec.witness6 (enc := enc) (C := Try.checked) false ⟨#[], #[.int .i64 0, .slice none 0 0, .slice none 0 0], []⟩ 8 (by kernel_rfl) (by kernel_rfl) (by kernel_rfl) (by kernel_rfl)) ?_
  intro W base args ds gs before hval0 hW hcnd hsz0 _
  have hsz : (DataW.weightsEach Try.prog (Try.f11.params.toList ++ Rows.groupPagesSpec.plain.varTypes Try.prog) (ds ++ gs)).all (· ≤ reachBytes) = true := hsz0
  have hval : ∀ (j : Nat) t v, Try.f11.params[j]? = some t → args[j]? = some v → Value.okWide Try.prog W .any base t v := hval0
  have hW' := hW
  obtain ⟨p, q, hA0, hV, rfl, hfz, hnd⟩ := hW
  have hA : DataW.TrodAll enc Try.prog W 0 (fun _ => true) true Try.f11.params.toList args.toList ds p := hA0
  rw [Try.params11] at hA hval hsz
  obtain ⟨v0, vs0, d0, ds0, p0, q0, hargs, rfl, rfl, h0, r0⟩ := trodAll_cons hA
  obtain ⟨v1, vs1, d1, ds1, p1, q1, rfl, rfl, rfl, h1, r1⟩ := trodAll_cons r0
  obtain ⟨v2, vs2, d2, ds2, p2, q2, rfl, rfl, rfl, h2, r2⟩ := trodAll_cons r1
  obtain ⟨rfl, rfl, rfl⟩ := trodAll_nil r2
  obtain rfl : args = #[v0, v1, v2] := by cases args; simp_all
  obtain ⟨rfl, rfl⟩ := trodVars_none hV
  obtain ⟨a0, rfl, rfl, rfl, w0⟩ := open_int Try.underlying3 (hval 0 3 v0 rfl rfl) h0
  have k1 := h1
  have lt1 : ∀ x ∈ p1, x.block < W.heap.size := by obtain ⟨m, hm⟩ := k1; exact DataW.trod_lt m _ _ _ hm
  obtain ⟨a1, len1, cap1, rfl⟩ := okWide_slice Try.underlying92 (hval 1 92 v1 rfl rfl)
  obtain ⟨l1, hr1, hc1, hw1⟩ : ∃ l : List PGroupPages.S100, Kd.C PGroupPages.k100 W a1 len1 l ∧ len1 ≤ cap1 ∧ ∀ o ∈ l, Pure.ok16 o := by
    obtain ⟨fuel, hf⟩ := h1
    rcases Recs.open_recs 2 Try.underlying92 (by kernel_rfl) hf with hcs | ⟨x, l, c, hcs, hl, hm, hi⟩
    · simp [Value.cells] at hcs
      obtain ⟨rfl, rfl, rfl⟩ := hcs
      exact ⟨[], ⟨rfl, by simp, fun h => absurd h (Nat.lt_irrefl 0)⟩, Nat.le_refl _, fun o ho => by cases ho⟩
    · simp [Value.cells] at hcs
      obtain ⟨rfl, rfl, rfl⟩ := hcs
      have hq : ∀ i, i < len1 → ∃ (p : PGroupPages.S100) (c : List Value), c.length = 2 ∧ (PGroupPages.k100.K W p c ∧ Pure.ok16 p) ∧ ∀ j, j < 2 → W.cell? (x.add (i * 2 + j)) = c[j]? := by
        intro i hlt
        obtain ⟨cs, y, n, hcl, hcell, ht⟩ := hi i hlt
        match cs, hcl with
        | [c0, c1], _ =>
          obtain ⟨xs, n', _, _, _, hlen, hg⟩ := DataW.trod_struct Try.underlying100 ht
          obtain ⟨f0, e0, _, b0⟩ := DataW.trod_int Try.underlying98 ((hg 0 _ rfl).trans (List.getElem?_eq_getElem (by rw [hlen]; decide)))
          obtain ⟨f1, e1, _, b1⟩ := DataW.trod_int Try.underlying98 ((hg 1 _ rfl).trans (List.getElem?_eq_getElem (by rw [hlen]; decide)))
          have hci : Try.prog.cellsOf 98 = 1 := by kernel_rfl
          simp [hci] at e0
          simp [hci] at e1
          subst e0 e1
          have h0 := Pure.u16_of_wf b0
          have h1 := Pure.u16_of_wf b1
          exact ⟨⟨f0, f1⟩, _, rfl, ⟨PGroupPages.k100_mk W ⟨f0, f1⟩, h0.1, h0.2, h1.1, h1.2⟩, hcell⟩
      obtain ⟨L, hL⟩ := Recs.reads_of (R := fun p c => PGroupPages.k100.K W p c ∧ Pure.ok16 p) (Nat.le_trans hl hm) hq
      exact ⟨L, (Pure.split_reads hL).1, hl, (Pure.split_reads hL).2⟩
  obtain rfl : l1.length = len1 := hr1.1
  obtain ⟨a2, len2, cap2, rfl⟩ := okWide_slice Try.underlying23 (hval 2 23 v2 rfl rfl)
  have k2 := h2
  have lt2 : ∀ x ∈ p2, x.block < W.heap.size := by obtain ⟨m, hm⟩ := k2; exact DataW.trod_lt m _ _ _ hm
  obtain ⟨z2, w2⟩ : ∃ zs, IsRow .u8 W a2 len2 cap2 zs := by
    obtain ⟨fuel, hf⟩ := h2
    rcases open_ints Try.underlying23 Try.underlying5 (by kernel_rfl) hf with ⟨hcs, _⟩ | ⟨x, l, c, zs, hcs, _, hl, hm, hz, _, hcell, hwz⟩
    · simp [Value.cells] at hcs
      obtain ⟨rfl, rfl, rfl⟩ := hcs
      exact ⟨[], .inl ⟨rfl, rfl, rfl, rfl⟩⟩
    · simp [Value.cells] at hcs
      obtain ⟨rfl, rfl, rfl⟩ := hcs
      exact ⟨zs, .inr ⟨_, rfl, hl, hm, by simpa using hz, hcell, hwz⟩⟩
  have y2 : len2 * 1 ≤ 140737488351232 := Go.Proofs.YtignifnkjlldpaaW.PrintWords.sized_ints hsz (j := 2) (t := 23) rfl rfl Try.underlying23 Try.underlying5 (by kernel_rfl) (by kernel_rfl) h2
  clear hA0 hval0 hsz0 hsz
  refine (Pure.GroupPages_walk a0 a1 cap1 l1 a2 len2 cap2 z2 W w0 hr1 hc1 hw1 w2 y2).mono fun e W' ⟨he, bel⟩ => ?_
  subst he
  exact ⟨_, rfl, _, _, _, [], _, [], hW', trodAll_mk1 (shut_bool Try.underlying4 _), (trodAll_cons_mk (shut_int Try.underlying3 w0) (trodAll_cons_mk (Below.trod laidOut (by kernel_rfl) (of_decide_eq_true (by kernel_rfl)) k1 bel lt1) (trodAll_cons_mk (Below.trod laidOut (by kernel_rfl) (of_decide_eq_true (by kernel_rfl)) k2 bel lt2) trodAll_mk0))), rfl, bel.frame _, fun h => by cases h⟩
theorem over : Rows.groupPagesRow.holds Try.pinned (OpenSpec.ofChange Rows.groupPagesSpec) :=
  OpenClaim.holds_of_wide 11 Try.f11 rfl rfl rfl rfl rfl rfl rfl ⟨rfl, rfl, rfl, rfl, rfl⟩ rfl rfl rfl rfl rfl (by kernel_rfl) Try.func11 (by kernel_rfl)
    (of_decide_eq_true (by kernel_rfl)) (by unfold Func.isWrapper; first | (rw [if_pos (by decide +kernel)]; kernel_rfl) | (rw [if_neg (by decide +kernel)]; exact ⟨rfl, rfl⟩))
    (fun os started H enc _ => lifted os started H enc)
theorem proved : Rows.GroupPagesSaid := over
#print axioms proved
end Go.Proofs.Ytignifnkjlldpaa.groupPages
namespace Go.Proofs.Ytignifnkjlldpaa
/-- The row, under a short name, for the claim. -/
theorem groupPages_holds : Rows.GroupPagesSaid := groupPages.proved
end Go.Proofs.Ytignifnkjlldpaa
