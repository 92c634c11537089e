/- A slice of structs that came in, element by element: each element's cells, and its reading. Of no program. -/
import Derived.Deep.Slices
import Derived.Deep.Fields
import Derived.ChangeSame
import Derived.Test.YtignifnkjlldpaaWMore
namespace Go.Proofs.Ytignifnkjlldpaa.Recs
open Go.ChangeShapes Go.WideShapes Go.Deep
section
variable {H : Type} {enc : TypeId × Value → H} {P : Program} {w : World} {base : Nat} {spare : Nat → Bool} {held : Bool}
theorem open_recs {t e : TypeId} {fuel : Nat} {cs : List Value} {x : DataW H × List MemPlace} (C : Nat) (ht : P.underlying t = some (.slice e)) (hC : P.cellsOf e = C) (h : DataW.trod enc P w base spare held fuel t cs = some x) :
    cs = [.slice none 0 0] ∨ ∃ (a : Addr) (len cap : Nat), cs = [.slice (some a) len cap] ∧ len ≤ cap ∧ cap ≤ maxLen ∧
      ∀ i, i < len → ∃ (c : List Value) (y : DataW H × List MemPlace) (n : Nat), c.length = C ∧ (∀ j, j < C → w.cell? (a.add (i * C + j)) = c[j]?) ∧ DataW.trod enc P w base spare held n e c = some y := by
  rcases open_slice ht h with ⟨h0, _⟩ | ⟨a, len, cap, m, n, D, Pl, hcs, _, hl, hm, hmm, _, hi⟩
  · exact .inl h0
  · have hlm : len ≤ m := by rw [hmm]; split <;> omega
    refine .inr ⟨a, len, cap, hcs, hl, hm, fun i hlt => ?_⟩
    obtain ⟨c, hc, ht'⟩ := hi i (by omega)
    rw [hC] at hc
    obtain ⟨_, hcl, hat⟩ := World.cells?_some hc
    exact ⟨c, _, n, hcl, fun j hj => by rw [← Go.Deep.add_add]; exact hat j hj, ht'⟩
end
theorem list_of {α : Type} {Q : Nat → α → Prop} : ∀ n, (∀ i, i < n → ∃ p, Q i p) → ∃ l : List α, l.length = n ∧ ∀ i p, l[i]? = some p → Q i p
  | 0, _ => ⟨[], rfl, fun i p h => by simp at h⟩
  | n + 1, h => by
    obtain ⟨l, hl, hq⟩ := list_of n (fun i hi => h i (by omega))
    obtain ⟨p, hp⟩ := h n (by omega)
    refine ⟨l ++ [p], by simp [hl], fun i q hi => ?_⟩
    rcases Nat.lt_trichotomy i n with hlt | rfl | hgt
    · rw [List.getElem?_append_left (by omega)] at hi
      exact hq i q hi
    · rw [List.getElem?_append_right (by omega), hl, Nat.sub_self] at hi
      have : p = q := by simpa using hi
      rw [← this]; exact hp
    · rw [List.getElem?_eq_none (by simp; omega)] at hi; cases hi
/-- What each element's cells tell makes a list that the row reads as. -/
theorem reads_of {α : Type} {R : α → List Value → Prop} {C : Nat} {w : World} {x : Addr} {len : Nat} (hm : len ≤ maxLen) (h : ∀ i, i < len → ∃ (p : α) (c : List Value), c.length = C ∧ R p c ∧ ∀ j, j < C → w.cell? (x.add (i * C + j)) = c[j]?) : ∃ l : List α, Go.Proofs.YtignifnkjlldpaaW.PrintWords.ReadsRow R C w (some x) len l := by
  obtain ⟨l, hl, hq⟩ := list_of (Q := fun i p => ∃ c : List Value, c.length = C ∧ R p c ∧ ∀ j, j < C → w.cell? (x.add (i * C + j)) = c[j]?) len h
  refine ⟨l, hl, by unfold maxLen at hm; omega, fun _ => ⟨x, rfl, fun j p hj => ?_⟩⟩
  obtain ⟨c, hc, hR, hcell⟩ := hq j p hj
  refine ⟨c, hc, hR, fun i u hu => ?_⟩
  have hi : i < C := by
    rcases Nat.lt_or_ge i C with h1 | h1
    · exact h1
    · rw [List.getElem?_eq_none (by omega)] at hu; cases hu
  rw [hcell i hi]; exact hu
end Go.Proofs.Ytignifnkjlldpaa.Recs
