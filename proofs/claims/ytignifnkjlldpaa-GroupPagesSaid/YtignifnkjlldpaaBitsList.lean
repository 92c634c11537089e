/- Plain lemmas on rows of bits: a list of bits, its bytes, and what First, Run and Count tell of it. No Go, no memory. -/
import Derived.Test.YtignifnkjlldpaaPackNum
import Derived.Lib.BitFns
namespace Go.Proofs.Ytignifnkjlldpaa.Rowl
open Go.RowKit Go.Proofs.YtignifnkjlldpaaW.PrintWords Go.Proofs.YtignifnkjlldpaaW.PrintLast Go.Proofs.YtignifnkjlldpaaW.PrintMore Go.Proofs.Ytignifnkjlldpaa.Num
/-- Eight bits as a number. -/
def by8 (f : Nat → Bool) : Nat := (f 0).toNat + 2 * (f 1).toNat + 4 * (f 2).toNat + 8 * (f 3).toNat + 16 * (f 4).toNat + 32 * (f 5).toNat + 64 * (f 6).toNat + 128 * (f 7).toNat
def by8' (a b c d e f g h : Bool) : Nat := a.toNat + 2 * b.toNat + 4 * c.toNat + 8 * d.toNat + 16 * e.toNat + 32 * f.toNat + 64 * g.toNat + 128 * h.toNat
theorem by8_lt (f : Nat → Bool) : by8 f < 256 := by
  have := fun i => Bool.toNat_le (f i)
  have a := this 0; have b := this 1; have c := this 2; have d := this 3; have e := this 4; have g := this 5; have h := this 6; have i := this 7
  unfold by8; omega
theorem by8'_bit : ∀ (a b c d e f g h : Bool) (t : Fin 8), (by8' a b c d e f g h).testBit t.val = [a, b, c, d, e, f, g, h][t.val] := by decide +kernel
theorem by8_bit (f : Nat → Bool) (t : Nat) (ht : t < 8) : (by8 f).testBit t = f t := by
  have h := by8'_bit (f 0) (f 1) (f 2) (f 3) (f 4) (f 5) (f 6) (f 7) ⟨t, ht⟩
  show (by8' (f 0) (f 1) (f 2) (f 3) (f 4) (f 5) (f 6) (f 7)).testBit t = f t
  rw [h]
  rcases t with _ | _ | _ | _ | _ | _ | _ | _ | t
  all_goals first | rfl | omega
theorem eq_of_bits {x y : Nat} (hx : x < 256) (hy : y < 256) (h : ∀ t, t < 8 → x.testBit t = y.testBit t) : x = y := by
  apply Nat.eq_of_testBit_eq
  intro t
  by_cases ht : t < 8
  · exact h t ht
  · have p : 256 ≤ 2 ^ t := by
      have : 2 ^ 8 ≤ 2 ^ t := Nat.pow_le_pow_right (by omega) (by omega)
      omega
    rw [Nat.testBit_lt_two_pow (by omega), Nat.testBit_lt_two_pow (by omega)]
/-- The bytes of a row. -/
def pack (l : List Bool) : List Int := (List.range ((l.length + 7) / 8)).map fun j => (by8 (fun t => l.getD (8 * j + t) false) : Int)
theorem pack_length (l : List Bool) : (pack l).length = (l.length + 7) / 8 := by simp [pack]
theorem pack_get (l : List Bool) (j : Nat) (h : j < (l.length + 7) / 8) : (pack l)[j]? = some (by8 (fun t => l.getD (8 * j + t) false) : Int) := by
  simp [pack, List.getElem?_range h]
theorem pack_bytes (l : List Bool) : Bytes (pack l) := fun x hx => by
  simp only [pack, List.mem_map] at hx
  obtain ⟨j, _, rfl⟩ := hx
  have := by8_lt (fun t => l.getD (8 * j + t) false)
  omega
theorem rd_pack (l : List Bool) (j : Nat) (h : j < (l.length + 7) / 8) : rd (pack l) (j : Int) = (by8 (fun t => l.getD (8 * j + t) false) : Int) := by
  unfold rd
  rw [List.getD_eq_getElem?_getD, Int.toNat_natCast, pack_get l j h]; rfl
/-- The row of n bits whose bytes are these. -/
def unpack (n : Nat) (b : List Int) : List Bool := (List.range n).map fun i => (rd b ((i / 8 : Nat) : Int)).toNat.testBit (i % 8)
theorem unpack_length (n : Nat) (b : List Int) : (unpack n b).length = n := by simp [unpack]
theorem unpack_get (n : Nat) (b : List Int) (i : Nat) (h : i < n) : (unpack n b).getD i false = (rd b ((i / 8 : Nat) : Int)).toNat.testBit (i % 8) := by
  rw [List.getD_eq_getElem?_getD]
  simp [unpack, List.getElem?_range h]
-- what the machine's words on bytes come to
theorem and_bit : ∀ (x : Fin 256) (t : Fin 8), (Go.bits .and .u8 (((x.val : Int)) / 2 ^ t.val) 1 == 1) = x.val.testBit t.val := by decide +kernel
theorem shl_bit : ∀ t : Fin 8, shl .u8 1 (t.val : Int) = ((2 ^ t.val : Nat) : Int) := by decide +kernel
theorem or_bit : ∀ (x : Fin 256) (t : Fin 8), (Go.bits .or .u8 ((x.val : Int)) ((2 ^ t.val : Nat) : Int)) = ((x.val ||| 2 ^ t.val : Nat) : Int) := by decide +kernel
theorem not_bit : ∀ (x : Fin 256) (t : Fin 8), (Go.bits .andNot .u8 ((x.val : Int)) ((2 ^ t.val : Nat) : Int)) = ((x.val &&& (255 - 2 ^ t.val) : Nat) : Int) := by decide +kernel
theorem or_lt : ∀ (x : Fin 256) (t : Fin 8), x.val ||| 2 ^ t.val < 256 := by decide +kernel
theorem not_lt' : ∀ (x : Fin 256) (t : Fin 8), x.val &&& (255 - 2 ^ t.val) < 256 := by decide +kernel
theorem or_test : ∀ (x : Fin 256) (t u : Fin 8), (x.val ||| 2 ^ t.val).testBit u.val = (decide (t = u) || x.val.testBit u.val) := by decide +kernel
theorem not_test : ∀ (x : Fin 256) (t u : Fin 8), (x.val &&& (255 - 2 ^ t.val)).testBit u.val = (!decide (t = u) && x.val.testBit u.val) := by decide +kernel
/-- The bit i of a row's bytes, as the code reads it. -/
theorem pack_bit (l : List Bool) (i : Nat) (h : i < l.length) : (Go.bits .and .u8 (shr .u8 (rd (pack l) ((i / 8 : Nat) : Int)) ((i % 8 : Nat) : Int)) 1 == 1) = l.getD i false := by
  rw [rd_pack l (i / 8) (by omega)]
  have hm : i % 8 < 8 := Nat.mod_lt _ (by omega)
  have e : shr .u8 (by8 (fun t => l.getD (8 * (i / 8) + t) false) : Int) ((i % 8 : Nat) : Int) = (by8 (fun t => l.getD (8 * (i / 8) + t) false) : Int) / 2 ^ (i % 8) := by
    unfold shr
    rw [Int.toNat_natCast, Nat.min_eq_left (by simp [IntKind.bits]; omega)]
  rw [e]
  have h2 := and_bit ⟨_, by8_lt (fun t => l.getD (8 * (i / 8) + t) false)⟩ ⟨i % 8, hm⟩
  rw [h2, by8_bit _ _ hm]
  have e3 : 8 * (i / 8) + i % 8 = i := by omega
  rw [e3]
theorem list_ext {a b : List Int} (hl : a.length = b.length) (h : ∀ j, j < a.length → a[j]? = b[j]?) : a = b := by
  apply List.ext_getElem?
  intro j
  by_cases hj : j < a.length
  · exact h j hj
  · rw [List.getElem?_eq_none (by omega), List.getElem?_eq_none (by omega)]
theorem getD_set (l : List Bool) (i j : Nat) (x : Bool) (h : i < l.length) : (l.set i x).getD j false = if i = j then x else l.getD j false := by
  rw [List.getD_eq_getElem?_getD, List.getD_eq_getElem?_getD, List.getElem?_set]
  by_cases e : i = j
  · subst e; simp [h]
  · simp [e]
theorem pack_set_aux (l : List Bool) (i : Nat) (on : Bool) (h : i < l.length) (v : Nat) (hv : v < 256)
    (hb : ∀ u, u < 8 → v.testBit u = if i % 8 = u then on else (by8 (fun t => l.getD (8 * (i / 8) + t) false)).testBit u) : (pack l).set (i / 8) (v : Int) = pack (l.set i on) := by
  apply list_ext
  · rw [List.length_set, pack_length, pack_length, List.length_set]
  · intro j hj
    rw [List.length_set, pack_length] at hj
    rw [pack_get (l.set i on) j (by rw [List.length_set]; exact hj), List.getElem?_set]
    by_cases e : i / 8 = j
    · subst e
      rw [if_pos rfl, if_pos (by rw [pack_length]; exact hj)]
      congr 2
      apply eq_of_bits hv (by8_lt _)
      intro u hu
      rw [hb u hu, by8_bit _ _ hu, by8_bit _ _ hu, getD_set l i _ on h]
      by_cases c : i % 8 = u
      · rw [if_pos c, if_pos (by omega)]
      · rw [if_neg c, if_neg (by omega)]
    · rw [if_neg e, pack_get l j hj]
      congr 2
      have : (fun t => l.getD (8 * j + t) false) 0 = (fun t => (l.set i on).getD (8 * j + t) false) 0 := by
        simp only [getD_set l i _ on h]; rw [if_neg (by omega)]
      unfold by8
      simp only [getD_set l i _ on h]
      rw [if_neg (show ¬ i = 8 * j + 0 by omega), if_neg (show ¬ i = 8 * j + 1 by omega), if_neg (show ¬ i = 8 * j + 2 by omega), if_neg (show ¬ i = 8 * j + 3 by omega), if_neg (show ¬ i = 8 * j + 4 by omega), if_neg (show ¬ i = 8 * j + 5 by omega), if_neg (show ¬ i = 8 * j + 6 by omega), if_neg (show ¬ i = 8 * j + 7 by omega)]
theorem pack_or (l : List Bool) (i : Nat) (h : i < l.length) : (pack l).set (i / 8) (Go.bits .or .u8 (rd (pack l) ((i / 8 : Nat) : Int)) (shl .u8 1 ((i % 8 : Nat) : Int))) = pack (l.set i true) := by
  have hm : i % 8 < 8 := Nat.mod_lt _ (by omega)
  have hx := by8_lt (fun t => l.getD (8 * (i / 8) + t) false)
  rw [rd_pack l (i / 8) (by omega), shl_bit ⟨i % 8, hm⟩]
  have e := or_bit ⟨_, hx⟩ ⟨i % 8, hm⟩
  simp only at e
  rw [e]
  refine pack_set_aux l i true h _ (or_lt ⟨_, hx⟩ ⟨i % 8, hm⟩) (fun u hu => ?_)
  have t := or_test ⟨_, hx⟩ ⟨i % 8, hm⟩ ⟨u, hu⟩
  simp only [Fin.mk.injEq] at t
  rw [t]
  by_cases c : i % 8 = u <;> simp [c]
theorem pack_not (l : List Bool) (i : Nat) (h : i < l.length) : (pack l).set (i / 8) (Go.bits .andNot .u8 (rd (pack l) ((i / 8 : Nat) : Int)) (shl .u8 1 ((i % 8 : Nat) : Int))) = pack (l.set i false) := by
  have hm : i % 8 < 8 := Nat.mod_lt _ (by omega)
  have hx := by8_lt (fun t => l.getD (8 * (i / 8) + t) false)
  rw [rd_pack l (i / 8) (by omega), shl_bit ⟨i % 8, hm⟩]
  have e := not_bit ⟨_, hx⟩ ⟨i % 8, hm⟩
  simp only at e
  rw [e]
  refine pack_set_aux l i false h _ (not_lt' ⟨_, hx⟩ ⟨i % 8, hm⟩) (fun u hu => ?_)
  have t := not_test ⟨_, hx⟩ ⟨i % 8, hm⟩ ⟨u, hu⟩
  simp only [Fin.mk.injEq] at t
  rw [t]
  by_cases c : i % 8 = u <;> simp [c]
theorem toNat_lt {x : Int} (h : 0 ≤ x ∧ x ≤ 255) : x.toNat < 256 := by omega
/-- Bytes whose last bits, behind n, are noughts are those of the row that they tell. -/
theorem pack_unpack (n : Nat) (b : List Int) (hb : Bytes b) (hl : b.length = (n + 7) / 8) (ht : ∀ i, n ≤ i → i < 8 * b.length → (rd b ((i / 8 : Nat) : Int)).toNat.testBit (i % 8) = false) : pack (unpack n b) = b := by
  apply list_ext
  · rw [pack_length, unpack_length, hl]
  · intro j hj
    rw [pack_length, unpack_length] at hj
    rw [pack_get _ j (by rw [unpack_length]; exact hj)]
    have hjb : j < b.length := by omega
    have hrd : rd b (j : Int) = b[j] := by unfold rd; rw [List.getD_eq_getElem?_getD, Int.toNat_natCast, List.getElem?_eq_getElem hjb]; rfl
    have hr := hb.get hjb
    rw [List.getElem?_eq_getElem hjb]
    congr 1
    have : by8 (fun t => (unpack n b).getD (8 * j + t) false) = b[j].toNat := by
      apply eq_of_bits (by8_lt _) (toNat_lt hr)
      intro u hu
      rw [by8_bit _ _ hu]
      have e1 : (8 * j + u) / 8 = j := by omega
      have e2 : (8 * j + u) % 8 = u := by omega
      by_cases c : 8 * j + u < n
      · rw [unpack_get n b _ c, e1, e2, hrd]
      · have h3 := ht (8 * j + u) (by omega) (by omega)
        rw [e1, e2, hrd] at h3
        rw [h3, List.getD_eq_getElem?_getD, List.getElem?_eq_none (by rw [unpack_length]; omega)]; rfl
    rw [this]; omega
end Go.Proofs.Ytignifnkjlldpaa.Rowl
