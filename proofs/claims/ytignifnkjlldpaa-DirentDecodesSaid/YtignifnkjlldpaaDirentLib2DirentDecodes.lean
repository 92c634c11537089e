import Derived.Test.YtignifnkjlldpaaPDirentDecodesx2
import Derived.Test.YtignifnkjlldpaaPDirentDecodesx3
import Derived.Test.YtignifnkjlldpaaPDirentDecodesx4
import Derived.Test.YtignifnkjlldpaaPDirentDecodesx5
import Derived.Test.YtignifnkjlldpaaPDirentDecodesx6
import Derived.Test.YtignifnkjlldpaaDirentLibDirentDecodes
/- What is proved here: what the package dirent reads out of bytes, as printed, in closed form. -/
namespace Go.Proofs.Ytignifnkjlldpaa.PureDirentDecodes
open Go.RowKit Go.Proofs.Ytignifnkjlldpaa.PDirentDecodes Go.Proofs.YtignifnkjlldpaaW.PrintWords Go.Proofs.YtignifnkjlldpaaW.PrintLast Go.Proofs.YtignifnkjlldpaaW.PrintMore Go.Proofs.Ytignifnkjlldpaa.Num
set_option linter.unusedVariables false
set_option linter.unusedSimpArgs false
theorem u8_of {x y : Int} (hx : 0 ≤ x ∧ x ≤ 255) (hy : 0 ≤ y ∧ y ≤ 255) (h : UInt8.ofNat x.toNat = UInt8.ofNat y.toNat) : x = y := by
  have := congrArg UInt8.toNat h
  simp only [UInt8.toNat_ofNat'] at this
  omega
theorem map_inj : ∀ {a b : List Int}, Bytes a → Bytes b → (a.map fun n => UInt8.ofNat n.toNat) = (b.map fun n => UInt8.ofNat n.toNat) → a = b
  | [], [], _, _, _ => rfl
  | [], y :: b, _, _, h => by cases h
  | x :: a, [], _, _, h => by cases h
  | x :: a, y :: b, ha, hb, h => by
    rw [List.map_cons, List.map_cons] at h
    injection h with h1 h2
    rw [u8_of ha.cons.1 hb.cons.1 h1, map_inj ha.cons.2 hb.cons.2 h2]
/-- Two rows of bytes are alike as texts just where they are alike. -/
theorem str_eq {a b : List Int} (ha : Bytes a) (hb : Bytes b) : ((strOfNums a).toList == (strOfNums b).toList) = decide (a = b) := by
  rw [ByteArray.toList_eq, ByteArray.toList_eq, strOfNums_data, strOfNums_data, Bool.eq_iff_iff, beq_iff_eq, decide_eq_true_eq]
  exact ⟨map_inj ha hb, fun e => by rw [e]⟩
theorem str_bytes (s : ByteArray) : strOfNums (bytesOf s) = s := by
  have h : (strOfNums (bytesOf s)).data.toList = s.data.toList := by
    rw [strOfNums_data]
    unfold bytesOf
    rw [List.map_map]
    have : ((fun n : Int => UInt8.ofNat n.toNat) ∘ fun b : UInt8 => (b.toNat : Int)) = id := by
      funext b
      show UInt8.ofNat ((b.toNat : Int)).toNat = b
      rw [Int.toNat_natCast]
      exact UInt8.ofNat_toNat
    rw [this, List.map_id]
  have h2 : (strOfNums (bytesOf s)).data = s.data := Array.ext' h
  cases hs : strOfNums (bytesOf s)
  rw [hs] at h2
  cases s
  simp only at h2
  rw [h2]
theorem bytesOf_bytes (s : ByteArray) : Bytes (bytesOf s) := fun x hx => by
  unfold bytesOf at hx
  obtain ⟨b, _, rfl⟩ := List.mem_map.1 hx
  have := UInt8.toNat_lt b
  omega
theorem spelt_bytes {i : Int} {s : ByteArray} (h : formB i s = true) : Bytes (spelt i s) := by
  obtain ⟨h1, h2, h3, h4⟩ := form_in h
  unfold spelt
  refine (Bytes.append ?_ (bytesOf_bytes s)).append (Bytes.zeros _)
  intro x hx
  simp only [List.mem_cons, List.not_mem_nil, or_false] at hx
  omega
theorem flat_bytes {l : List (Int × ByteArray)} (h : allB l = true) : Bytes (flat l) := by
  induction l with
  | nil => exact Bytes.nil
  | cons e t ih =>
    unfold allB at h
    rw [List.all_cons, Bool.and_eq_true] at h
    exact (spelt_bytes h.1).append (ih h.2)
theorem encS_bytes (l : List (Int × ByteArray)) : Bytes (encS l).1 := by
  unfold encS
  by_cases h : 16 < l.length
  · rw [if_pos h]; exact Bytes.nil
  · rw [if_neg h]
    by_cases h2 : allB l = true
    · rw [if_pos h2]; exact (flat_bytes h2).append (Bytes.zeros _)
    · rw [if_neg h2]; exact Bytes.nil
/-- The entry of sixteen bytes. -/
def ofS (b : List Int) : Option (Int × ByteArray) :=
  if rd b 2 > 13 then none else if formB (leval (at_ b 0 2)) (strOfNums ((b.take (3 + rd b 2).toNat).drop 3)) = true then
    (if spelt (leval (at_ b 0 2)) (strOfNums ((b.take (3 + rd b 2).toNat).drop 3)) = b then some (leval (at_ b 0 2), strOfNums ((b.take (3 + rd b 2).toNat).drop 3)) else none) else none
def tri : Option (Int × ByteArray) → Int × ByteArray × Bool
  | some e => (e.1, e.2, true)
  | none => (0, (⟨#[]⟩ : ByteArray), false)
theorem leval2_range {b : List Int} (hb : Bytes b) (h : 2 ≤ b.length) : 0 ≤ leval (at_ b 0 2) ∧ leval (at_ b 0 2) < 65536 := by
  have := leval_range (at_bytes hb 0 2)
  rw [at_length b 0 2 (by omega)] at this
  exact this
theorem rd_in {b : List Int} (hb : Bytes b) (i : Nat) (h : i < b.length) : 0 ≤ rd b (i : Int) ∧ rd b (i : Int) ≤ 255 := by rw [rd_nat b i h]; exact hb.get h
theorem of_f (b : List Int) (hb : Bytes b) (hl : b.length = 16) (k : Nat) (hk : 30 ≤ k) : dirent_Of.f k b = some (tri (ofS b)) := by
  obtain ⟨k, rfl⟩ : ∃ m, k = m + 1 := ⟨k - 1, by omega⟩
  have hr := rd_in hb 2 (by omega)
  have hle := leval2_range hb (by omega)
  unfold dirent_Of.f ofS
  rw [get_f b hb (by omega) 0 2 (by decide) (k + 1) (by omega), if_pos (by omega)]
  simp only [Option.bind_some, if_true, show (0 : Int).toNat = 0 from rfl, show (2 : Int).toNat = 2 from rfl]
  obtain ⟨n, hn⟩ : ∃ n, leval (at_ b 0 2) = n := ⟨_, rfl⟩
  obtain ⟨m, hm⟩ : ∃ m, rd b 2 = m := ⟨_, rfl⟩
  have hr' : 0 ≤ m ∧ m ≤ 255 := by rw [← hm]; exact hr
  rw [hn] at hle
  rw [hn, hm]
  have e1 : wrap64 m = m := w64 (by omega) (by omega)
  have e3 : wrap64 n = n := w64 (by omega) (by omega)
  rw [if_pos (by omega), if_pos (by omega), e1]
  simp only [dirent_Of.j0]
  by_cases h13 : m > 13
  · rw [decide_eq_true h13, if_pos h13, if_pos rfl]; rfl
  · have e2 : wrap64 (3 + m) = 3 + m := w64 (by omega) (by omega)
    rw [decide_eq_false h13, if_neg h13, if_neg (by decide), if_pos (by omega), hm, e1, e2, if_pos (by omega), if_pos (by omega), e3, formed_f]
    simp only [Option.bind_some]
    obtain ⟨s, hs⟩ : ∃ s, strOfNums ((b.take (3 + m).toNat).drop 3) = s := ⟨_, rfl⟩
    rw [hs]
    by_cases hf : formB n s = true
    · rw [if_pos hf, if_pos hf, bytes_f hf k (by omega)]
      simp only [Option.bind_some, bytes_Equal.f]
      rw [str_eq (spelt_bytes hf) hb]
      by_cases he : spelt n s = b
      · rw [decide_eq_true he, if_pos he, if_pos rfl]; rfl
      · rw [decide_eq_false he, if_neg he, if_neg (by decide)]; rfl
    · rw [if_neg hf, if_neg hf]; rfl
/-- The i-th sixteen bytes, and the entries that stand in a block from the i-th on. -/
def chunk (b : List Int) (i : Nat) : List Int := (b.drop (16 * i)).take 16
def decL (b : List Int) : Nat → Nat → List (Int × ByteArray)
  | 0, _ => []
  | d + 1, i => match ofS (chunk b i) with
    | some e => e :: decL b d (i + 1)
    | none => []
def decS (b : List Int) : List (Int × ByteArray) × Int := if b.length = 256 then (if (encS (decL b 16 0)).1 = b then (decL b 16 0, 0) else ([], 18)) else ([], 18)
def mkD (e : Int × ByteArray) : S59 := ⟨e.1, e.2⟩
theorem pD_mkD (l : List (Int × ByteArray)) : (l.map mkD).map pD = l := by
  rw [List.map_map]
  have : pD ∘ mkD = id := by funext e; rfl
  rw [this, List.map_id]
theorem chunk_eq (b : List Int) (i : Nat) (h : 16 * i + 16 ≤ b.length) : (b.take (16 * i + 16)).drop (16 * i) = chunk b i := by
  unfold chunk
  rw [List.drop_take, show 16 * i + 16 - 16 * i = 16 by omega]
theorem chunk_bytes {b : List Int} (hb : Bytes b) (i : Nat) : Bytes (chunk b i) := (hb.drop _).take _
theorem chunk_length (b : List Int) (i : Nat) (h : 16 * i + 16 ≤ b.length) : (chunk b i).length = 16 := by
  unfold chunk; rw [List.length_take, List.length_drop]; omega
theorem decL_length (b : List Int) (d : Nat) : ∀ i, (decL b d i).length ≤ d := by
  induction d with
  | zero => intro i; rw [decL]; exact Nat.le_refl _
  | succ d ih =>
    intro i
    rw [decL]
    cases ofS (chunk b i) with
    | none => simp
    | some e => simp only [List.length_cons]; have := ih (i + 1); omega
theorem dec_end (b : List Int) (hb : Bytes b) (l : List (Int × ByteArray)) (k : Nat) (hk : 12 ≤ k) : dirent_Decode.j1 k b (l.map mkD) = some ((if (encS l).1 = b then l.map mkD else []), (if (encS l).1 = b then 0 else 18)) := by
  obtain ⟨k, rfl⟩ : ∃ m, k = m + 1 := ⟨k - 1, by omega⟩
  simp only [dirent_Decode.j1]
  rw [enc_f _ k (by omega), pD_mkD]
  simp only [Option.bind_some, bytes_Equal.f]
  rw [str_eq (encS_bytes l) hb]
  by_cases h : (encS l).1 = b
  · rw [decide_eq_true h, if_pos h, if_pos h, if_pos rfl]
  · rw [decide_eq_false h, if_neg h, if_neg h, if_neg (by decide)]
theorem dec_loop (b : List Int) (hb : Bytes b) (hl : b.length = 256) (d : Nat) : ∀ (k i : Nat) (acc : List (Int × ByteArray)), i + d = 16 → d + 40 < k → acc.length = i →
    dirent_Decode.l0 k b (acc.map mkD) ((16 * i : Nat) : Int) = some ((if (encS (acc ++ decL b d i)).1 = b then (acc ++ decL b d i).map mkD else []), (if (encS (acc ++ decL b d i)).1 = b then 0 else 18)) := by
  induction d with
  | zero =>
    intro k i acc hi hk ha
    obtain ⟨k, rfl⟩ : ∃ m, k = m + 1 := ⟨k - 1, by omega⟩
    simp only [dirent_Decode.l0]
    rw [if_neg (by omega), decL, List.append_nil, dec_end b hb acc k (by omega)]
  | succ d ih =>
    intro k i acc hi hk ha
    obtain ⟨k, rfl⟩ : ∃ m, k = m + 1 := ⟨k - 1, by omega⟩
    have ew : wrap64 (((16 * i : Nat) : Int) + 16) = ((16 * i + 16 : Nat) : Int) := by rw [w64 (by omega) (by omega)]; omega
    simp only [dirent_Decode.l0]
    rw [ew, if_pos (by omega), if_pos (by omega), if_pos (by omega), if_pos (by omega), Int.toNat_natCast, Int.toNat_natCast, chunk_eq b i (by omega), of_f _ (chunk_bytes hb i) (chunk_length b i (by omega)) k (by omega)]
    simp only [Option.bind_some]
    rw [decL]
    cases ho : ofS (chunk b i) with
    | none =>
      rw [if_neg (show ¬ (tri none).2.2 = true by decide), List.append_nil, dec_end b hb acc k (by omega)]
    | some e =>
      have hq : acc.map mkD ++ [(⟨e.1, e.2⟩ : S59)] = (acc ++ [e]).map mkD := by rw [List.map_append]; rfl
      rw [if_pos (show (tri (some e)).2.2 = true from rfl), if_pos (by rw [List.length_map]; omega), show (tri (some e)).1 = e.1 from rfl, show (tri (some e)).2.1 = e.2 from rfl, hq, show ((16 * i + 16 : Nat) : Int) = ((16 * (i + 1) : Nat) : Int) by omega, ih k (i + 1) (acc ++ [e]) (by omega) (by omega) (by rw [List.length_append, ha]; rfl), List.append_assoc]
      rfl
theorem dec_f (b : List Int) (hb : Bytes b) (k : Nat) (hk : 60 ≤ k) : dirent_Decode.f k b = some ((decS b).1.map mkD, (decS b).2) := by
  unfold dirent_Decode.f decS
  by_cases h : (b.length : Int) = 256
  · rw [if_pos h, if_pos (by omega)]
    have := dec_loop b hb (by omega) 16 k 0 [] (by omega) (by omega) rfl
    rw [List.nil_append] at this
    have h2 : dirent_Decode.l0 k b ([] : List S59) 0 = _ := this
    rw [h2]
    by_cases c : (encS (decL b 16 0)).1 = b
    · rw [if_pos c, if_pos c, if_pos c]
    · rw [if_neg c, if_neg c, if_neg c]; rfl
  · rw [if_neg h, if_neg (by omega)]; rfl
-- what was formed is read as it was
theorem ofS_spelt {i : Int} {s : ByteArray} (h : formB i s = true) : ofS (spelt i s) = some (i, s) := by
  obtain ⟨h1, h2, h3, h4⟩ := form_in h
  have e1 : rd (spelt i s) 2 = (s.size : Int) := rfl
  have e2 : leval (at_ (spelt i s) 0 2) = i := by
    show leval [i, 0] = i
    simp [leval]
  have e3 : ((spelt i s).take (3 + (s.size : Int)).toNat).drop 3 = bytesOf s := by
    rw [show (3 + (s.size : Int)).toNat = 3 + s.size by omega]
    unfold spelt
    rw [List.append_assoc, List.take_append, List.drop_append]
    have hb := bytesOf_length s
    have a1 : ([i, 0, (s.size : Int)].take (3 + s.size)) = [i, 0, (s.size : Int)] := List.take_of_length_le (by simp)
    rw [a1]
    simp only [List.length_cons, List.length_nil]
    rw [show 3 + s.size - (0 + 1 + 1 + 1) = s.size by omega, List.take_append_of_le_length (by omega), List.take_of_length_le (by omega)]
    rfl
  unfold ofS
  rw [e1, e2, if_neg (by omega), e3, str_bytes, if_pos h, if_pos rfl]
theorem ofS_zeros : ofS (List.replicate 16 0) = none := by
  have e1 : leval (at_ (List.replicate 16 (0 : Int)) 0 2) = 0 := rfl
  unfold ofS
  rw [e1, if_neg (by decide), if_neg]
  unfold formB
  simp
theorem chunk_flat (z : List Int) : ∀ (l : List (Int × ByteArray)) (i : Nat) (h : i < l.length), allB l = true → chunk (flat l ++ z) i = spelt l[i].1 l[i].2
  | [], i, h, _ => absurd h (Nat.not_lt_zero _)
  | e :: t, i, h, ha => by
    unfold allB at ha
    rw [List.all_cons, Bool.and_eq_true] at ha
    have hl := spelt_length (i := e.1) (form_in ha.1).2.2.2
    have ef : flat (e :: t) = spelt e.1 e.2 ++ flat t := rfl
    rw [ef, List.append_assoc]
    cases i with
    | zero =>
      unfold chunk
      rw [Nat.mul_zero, List.drop_zero, List.take_append_of_le_length (by omega), List.take_of_length_le (by omega)]
      rfl
    | succ i =>
      have := chunk_flat z t i (by simpa using h) ha.2
      unfold chunk at this ⊢
      rw [show 16 * (i + 1) = (spelt e.1 e.2).length + 16 * i by omega, List.drop_length_add_append]
      exact this
theorem chunk_zeros (l : List (Int × ByteArray)) (i : Nat) (h : l.length ≤ i) (h2 : i < 16) (ha : allB l = true) : chunk (flat l ++ List.replicate (256 - 16 * l.length) 0) i = List.replicate 16 0 := by
  have hl := flat_length ha
  unfold chunk
  rw [List.drop_append, List.drop_of_length_le (by omega), List.nil_append, List.drop_replicate, List.take_replicate, hl]
  congr 1
  omega
theorem decL_enc (l : List (Int × ByteArray)) (hl : l.length ≤ 16) (ha : allB l = true) (d : Nat) : ∀ i, i + d = 16 → decL (flat l ++ List.replicate (256 - 16 * l.length) 0) d i = l.drop i := by
  induction d with
  | zero => intro i hi; rw [decL, List.drop_of_length_le (by omega)]
  | succ d ih =>
    intro i hi
    rw [decL]
    by_cases h : i < l.length
    · have hf : formB l[i].1 l[i].2 = true := by
        unfold allB at ha
        exact List.all_eq_true.1 ha _ (List.getElem_mem h)
      rw [chunk_flat _ l i h ha, ofS_spelt hf, ih (i + 1) (by omega), List.drop_eq_getElem_cons h]
    · rw [chunk_zeros l i (by omega) (by omega) ha, ofS_zeros, List.drop_of_length_le (by omega)]
theorem dec_enc (l : List (Int × ByteArray)) (h : (encS l).2 = 0) : decS (encS l).1 = (l, 0) := by
  unfold encS at h ⊢
  by_cases h1 : 16 < l.length
  · rw [if_pos h1] at h; exact absurd h (by decide)
  · rw [if_neg h1] at h ⊢
    by_cases h2 : allB l = true
    · rw [if_pos h2] at h ⊢
      have hd := decL_enc l (by omega) h2 16 0 (by omega)
      rw [List.drop_zero] at hd
      have hl := flat_length h2
      unfold decS
      rw [if_pos (by rw [List.length_append, hl, List.length_replicate]; omega), hd]
      unfold encS
      rw [if_neg h1, if_pos h2, if_pos rfl]
    · rw [if_neg h2] at h; exact absurd h (by decide)
theorem encS_err (l : List (Int × ByteArray)) : (encS l).2 = 0 ∨ (encS l).1 = [] := by
  unfold encS
  by_cases h1 : 16 < l.length
  · rw [if_pos h1]; right; rfl
  · rw [if_neg h1]
    by_cases h2 : allB l = true
    · rw [if_pos h2]; left; rfl
    · rw [if_neg h2]; right; rfl
end Go.Proofs.Ytignifnkjlldpaa.PureDirentDecodes
