/- A slice of structs that came in, element by element: each element's cells, and its reading. Of no program. -/
import Derived.Deep.Slices
import Derived.Deep.Fields
import Derived.ChangeSame
namespace Go.Proofs.Ytpcdfmfmakahkaa.Recs
open Go.ChangeShapes Go.WideShapes Go.Deep
section
variable {H : Type} {enc : TypeId × Value → H} {P : Program} {w : World} {base : Nat} {spare : Nat → Bool} {held : Bool}
theorem open_recs {t e : TypeId} {fuel : Nat} {cs : List Value} {x : DataW H × List MemPlace} (C : Nat) (ht : P.underlying t = some (.slice e)) (hC : P.cellsOf e = C) (h : DataW.trod enc P w base spare held fuel t cs = some x) :
    cs = [.slice none 0 0] ∨ ∃ (a : Addr) (len cap : Nat), cs = [.slice (some a) len cap] ∧ len ≤ cap ∧ cap ≤ maxLen ∧
      ∀ i, i < len → ∃ (c : List Value) (y : DataW H × List MemPlace) (n : Nat), c.length = C ∧ (∀ j, j < C → w.cell? (a.add (i * C + j)) = c[j]?) ∧ DataW.trod enc P w base spare held n e c = some y := by
  rcases open_slice ht h with ⟨h0, _⟩ | ⟨a, len, cap, m, n, D, Pl, hcs, _, hl, hm, hmm, _, hi⟩
  · exact .inl h0
  · have hlm : len ≤ m := by rw [hmm]; split <;> omega
    refine .inr ⟨a, len, cap, hcs, hl, hm, fun i hlt => ?_⟩
    obtain ⟨c, hc, ht'⟩ := hi i (by omega)
    rw [hC] at hc
    obtain ⟨_, hcl, hat⟩ := World.cells?_some hc
    exact ⟨c, _, n, hcl, fun j hj => by rw [← Go.Deep.add_add]; exact hat j hj, ht'⟩
end
end Go.Proofs.Ytpcdfmfmakahkaa.Recs
