/- The statement DirentDecodes, over numbers and lists alone: any block has the entries that the document says, or none. -/
import Derived.Test.YtignifnkjlldpaaPDirentDecodesx2
import Derived.Test.YtignifnkjlldpaaPDirentDecodesx3
import Derived.Test.YtignifnkjlldpaaPDirentDecodesx4
import Derived.Test.YtignifnkjlldpaaPDirentDecodesx5
import Derived.Test.YtignifnkjlldpaaPDirentDecodesx6
import Derived.Test.YtignifnkjlldpaaDirentLib2DirentDecodes
namespace Go.Proofs.Ytignifnkjlldpaa.PureDirentDecodes
open Go.RowKit Go.Proofs.Ytignifnkjlldpaa.PDirentDecodes Go.Proofs.YtignifnkjlldpaaW.PrintWords Go.Proofs.YtignifnkjlldpaaW.PrintLast Go.Proofs.YtignifnkjlldpaaW.PrintMore Go.Proofs.Ytignifnkjlldpaa.Num
set_option linter.unusedVariables false
set_option linter.unusedSimpArgs false
theorem awake_f (k : Nat) (hk : 10 ≤ k) : ashlarlaw08_awake.f k = some true := by
  unfold ashlarlaw08_awake.f
  rw [enc_f [] k hk, name_f]
  decide +kernel
def conv (e : S60) : S59 := ⟨e.f0, e.f1⟩
def vnoc (e : S59) : S60 := ⟨e.f0, e.f1⟩
theorem conv_pD (l : List S60) : (l.map conv).map pD = l.map pR := by rw [List.map_map]; rfl
theorem rdR (l : List S60) (i : Nat) (h : i < l.length) : rd_T60 l (i : Int) = l[i] := by unfold rd_T60; rw [List.getD_eq_getElem?_getD, Int.toNat_natCast, List.getElem?_eq_getElem h]; rfl
theorem rdD (l : List S59) (i : Nat) (h : i < l.length) : rd_T59 l (i : Int) = l[i] := by unfold rd_T59; rw [List.getD_eq_getElem?_getD, Int.toNat_natCast, List.getElem?_eq_getElem h]; rfl
theorem w1 (i : Nat) (h : i ≤ 1000000) : wrap64 ((i : Int) + 1) = ((i + 1 : Nat) : Int) := w64 (by omega) (by omega)
theorem ours_loop (l : List S59) (hl : l.length ≤ 1000) (d : Nat) : ∀ (k i : Nat) (acc : List S60), i + d = l.length → d < k → acc.length = i → ashlarlaw08_Ours.l0 k l acc (l.length : Int) (i : Int) = some (acc ++ (l.drop i).map vnoc) := by
  induction d with
  | zero =>
    intro k i acc hi hk ha
    obtain ⟨k, rfl⟩ : ∃ m, k = m + 1 := ⟨k - 1, by omega⟩
    simp only [ashlarlaw08_Ours.l0]
    rw [if_neg (by omega), List.drop_of_length_le (by omega)]; simp
  | succ d ih =>
    intro k i acc hi hk ha
    obtain ⟨k, rfl⟩ : ∃ m, k = m + 1 := ⟨k - 1, by omega⟩
    have hlt : i < l.length := by omega
    simp only [ashlarlaw08_Ours.l0]
    rw [if_pos (by omega), if_pos (by omega), if_pos (by omega), if_pos (by omega), rdD l i hlt, w1 i (by omega), ih k (i + 1) _ (by omega) (by omega) (by simp [ha]), List.drop_eq_getElem_cons hlt, List.map_cons, List.append_assoc]
    rfl
theorem ours_f (l : List S59) (hl : l.length ≤ 1000) (k : Nat) (hk : l.length < k) : ashlarlaw08_Ours.f k l = some (l.map vnoc) := by
  have := ours_loop l hl l.length k 0 [] (by omega) hk rfl
  rw [List.drop_zero, List.nil_append] at this
  exact this
theorem same_loop (l : List S60) (hl : l.length ≤ 1000) (d : Nat) : ∀ (k i : Nat), i + d = l.length → d < k → ashlarref05_SameEntries.l0 k l l (l.length : Int) (i : Int) = some true := by
  induction d with
  | zero =>
    intro k i hi hk
    obtain ⟨k, rfl⟩ : ∃ m, k = m + 1 := ⟨k - 1, by omega⟩
    simp only [ashlarref05_SameEntries.l0]
    rw [if_neg (by omega)]
  | succ d ih =>
    intro k i hi hk
    obtain ⟨k, rfl⟩ : ∃ m, k = m + 1 := ⟨k - 1, by omega⟩
    simp only [ashlarref05_SameEntries.l0]
    rw [if_pos (by omega), if_pos (by omega), if_pos (by omega), if_pos (by omega), w1 i (by omega), if_neg (by simp)]
    exact ih k (i + 1) (by omega) (by omega)
theorem same_f (l : List S60) (hl : l.length ≤ 1000) (k : Nat) (hk : l.length < k) : ashlarref05_SameEntries.f k l l = some true := by
  unfold ashlarref05_SameEntries.f
  rw [if_pos rfl]
  exact same_loop l hl l.length k 0 (by omega) hk
theorem at_take (c : List Int) : at_ (c.take 16) 0 2 = at_ c 0 2 := by
  unfold at_
  rw [List.drop_zero, List.drop_zero, List.take_take]; rfl
theorem rd_take (c : List Int) (h : 16 ≤ c.length) : rd (c.take 16) 2 = rd c 2 := by
  have h1 := rd_nat (c.take 16) 2 (by rw [List.length_take]; omega)
  have h2 := rd_nat c 2 (by omega)
  have h3 : (c.take 16)[2]'(by rw [List.length_take]; omega) = c[2] := List.getElem_take
  show rd (c.take 16) ((2 : Nat) : Int) = rd c ((2 : Nat) : Int)
  rw [h1, h2, h3]
theorem read_f (c : List Int) (hb : Bytes c) (hm : c.length ≤ 1000) (hl : 16 ≤ c.length) (k : Nat) (hk : 40 ≤ k) : ∃ a b, ashlarref05_Read.f k c = some (a, b, (ofS (c.take 16)).isSome) ∧ ∀ e, ofS (c.take 16) = some e → a = e.1 ∧ b = e.2 := by
  have hr : 0 ≤ rd c 2 ∧ rd c 2 ≤ 255 := rd_in hb 2 (by omega)
  have hle := leval2_range hb (by omega)
  unfold ashlarref05_Read.f ofS
  rw [at_take, rd_take c hl, if_pos hl, if_pos hr]
  obtain ⟨m, hm'⟩ : ∃ m, rd c 2 = m := ⟨_, rfl⟩
  have hr' : 0 ≤ m ∧ m ≤ 255 := by rw [← hm']; exact hr
  rw [hm']
  by_cases h13 : m > 13
  · rw [if_pos h13, if_pos h13]
    exact ⟨_, _, rfl, fun e h => by cases h⟩
  · rw [if_neg h13, if_neg h13]
    have etx : ashlarref05_Read.txt c = strOfNums ((c.take (3 + m).toNat).drop 3) := by unfold ashlarref05_Read.txt; rw [hm']
    have ett : (c.take 16).take (3 + m).toNat = c.take (3 + m).toNat := by rw [List.take_take, Nat.min_eq_left (by omega)]
    rw [etx, ett]
    obtain ⟨s, hs⟩ : ∃ s, strOfNums ((c.take (3 + m).toNat).drop 3) = s := ⟨_, rfl⟩
    rw [hs]
    unfold ashlarref05_two.f
    rw [rget_f c hb (by omega) 0 2 (by decide) k (by omega), if_pos (by omega)]
    simp only [Option.bind_some, show (0 : Int).toNat = 0 from rfl, show (2 : Int).toNat = 2 from rfl]
    obtain ⟨n, hn⟩ : ∃ n, leval (at_ c 0 2) = n := ⟨_, rfl⟩
    rw [hn] at hle
    rw [hn, w64 (by omega) (by omega), rformed_f _ _ k (by omega)]
    simp only [Option.bind_some]
    by_cases hf : formB n s = true
    · rw [if_pos hf, if_pos hf, rspelt_f hf k (by omega)]
      simp only [Option.bind_some]
      rw [str_eq (spelt_bytes hf) (hb.take 16)]
      by_cases he : spelt n s = c.take 16
      · rw [decide_eq_true he, if_pos he]
        exact ⟨n, s, rfl, fun e h => by injection h with h; rw [← h]; exact ⟨rfl, rfl⟩⟩
      · rw [decide_eq_false he, if_neg he]
        exact ⟨n, s, rfl, fun e h => by cases h⟩
    · rw [if_neg hf, if_neg hf]
      exact ⟨n, s, rfl, fun e h => by cases h⟩
def mkR (e : Int × ByteArray) : S60 := ⟨e.1, e.2⟩
theorem pR_mkR (l : List (Int × ByteArray)) : (l.map mkR).map pR = l := by
  rw [List.map_map]
  have : pR ∘ mkR = id := by funext e; rfl
  rw [this, List.map_id]
theorem rdec_end (b : List Int) (hb : Bytes b) (l : List (Int × ByteArray)) (k : Nat) (hk : 60 ≤ k) :
    (ashlarref05_EncodeDir.f k (l.map mkR)).bind (fun bt => (if (strOfNums bt.1).toList = (strOfNums b).toList then (some (l.map mkR, (0 : Int))) else (some (([] : List S60), 18)))) = some ((if (encS l).1 = b then l.map mkR else []), (if (encS l).1 = b then 0 else 18)) := by
  rw [renc_f _ k hk, pR_mkR]
  simp only [Option.bind_some]
  have h := str_eq (encS_bytes l) hb
  by_cases c : (encS l).1 = b
  · rw [if_pos c, if_pos c, if_pos (by rw [c])]
  · rw [if_neg c, if_neg c, if_neg]
    intro e
    rw [e, decide_eq_false c] at h
    simp at h
theorem rdec_loop (b : List Int) (hb : Bytes b) (hl : b.length = 256) (d : Nat) : ∀ (k i : Nat) (acc : List (Int × ByteArray)), i + d = 16 → d + 70 < k → acc.length = i →
    ashlarref05_DecodeDir.l0 k b (acc.map mkR) (i : Int) = some ((if (encS (acc ++ decL b d i)).1 = b then (acc ++ decL b d i).map mkR else []), (if (encS (acc ++ decL b d i)).1 = b then 0 else 18)) := by
  induction d with
  | zero =>
    intro k i acc hi hk ha
    obtain ⟨k, rfl⟩ : ∃ m, k = m + 1 := ⟨k - 1, by omega⟩
    simp only [ashlarref05_DecodeDir.l0]
    rw [if_neg (by omega), decL, List.append_nil]
    exact rdec_end b hb acc k (by omega)
  | succ d ih =>
    intro k i acc hi hk ha
    obtain ⟨k, rfl⟩ : ∃ m, k = m + 1 := ⟨k - 1, by omega⟩
    have ew : wrap64 (16 * (i : Int)) = ((16 * i : Nat) : Int) := by rw [w64 (by omega) (by omega)]; omega
    obtain ⟨x, y, hxy, he⟩ := read_f (b.drop (16 * i)) (hb.drop _) (by rw [List.length_drop]; omega) (by rw [List.length_drop]; omega) k (by omega)
    simp only [ashlarref05_DecodeDir.l0]
    rw [if_pos (by omega), ew, if_pos (by omega), if_pos (by omega), Int.toNat_natCast, hxy]
    simp only [Option.bind_some]
    rw [decL]
    have ec : ofS ((b.drop (16 * i)).take 16) = ofS (chunk b i) := rfl
    rw [ec] at he ⊢
    cases ho : ofS (chunk b i) with
    | none =>
      rw [if_neg (show ¬ (none : Option (Int × ByteArray)).isSome = true by decide), List.append_nil]
      exact rdec_end b hb acc k (by omega)
    | some e =>
      obtain ⟨rfl, rfl⟩ := he e ho
      have hq : acc.map mkR ++ [(⟨e.1, e.2⟩ : S60)] = (acc ++ [e]).map mkR := by rw [List.map_append]; rfl
      rw [if_pos (show (some e).isSome = true from rfl), if_pos (by rw [List.length_map]; omega), hq, w1 i (by omega), ih k (i + 1) (acc ++ [e]) (by omega) (by omega) (by rw [List.length_append, ha]; rfl), List.append_assoc]
      rfl
theorem rdec_f (b : List Int) (hb : Bytes b) (k : Nat) (hk : 100 ≤ k) : ashlarref05_DecodeDir.f k b = some ((decS b).1.map mkR, (decS b).2) := by
  unfold ashlarref05_DecodeDir.f decS
  by_cases h : (b.length : Int) = 256
  · rw [if_pos h, if_pos (by omega)]
    have := rdec_loop b hb (by omega) 16 k 0 [] (by omega) (by omega) rfl
    rw [List.nil_append] at this
    have h2 : ashlarref05_DecodeDir.l0 k b ([] : List S60) 0 = _ := this
    rw [h2]
    by_cases c : (encS (decL b 16 0)).1 = b
    · rw [if_pos c, if_pos c, if_pos c]
    · rw [if_neg c, if_neg c, if_neg c]; rfl
  · rw [if_neg h, if_neg (by omega)]; rfl
theorem decS_length (b : List Int) : (decS b).1.length ≤ 16 := by
  unfold decS
  by_cases h : b.length = 256
  · rw [if_pos h]
    by_cases c : (encS (decL b 16 0)).1 = b
    · rw [if_pos c]; exact decL_length b 16 0
    · rw [if_neg c]; simp
  · rw [if_neg h]; simp
theorem mkD_vnoc (l : List (Int × ByteArray)) : (l.map mkD).map vnoc = l.map mkR := by rw [List.map_map]; rfl
theorem holds (b : List Int) (hb : Bytes b) : ∃ k, ashlarlaw08_DirentDecodes.f k b = some true := by
  have hl := decS_length b
  refine ⟨300, ?_⟩
  unfold ashlarlaw08_DirentDecodes.f
  rw [awake_f 300 (by omega)]
  simp only [Option.bind_some, if_true]
  rw [dec_f b hb 300 (by omega), rdec_f b hb 300 (by omega)]
  simp only [Option.bind_some]
  rw [ours_f _ (by rw [List.length_map]; omega) 300 (by rw [List.length_map]; omega), mkD_vnoc]
  simp only [Option.bind_some]
  rw [same_f _ (by rw [List.length_map]; omega) 300 (by rw [List.length_map]; omega)]
  simp
end Go.Proofs.Ytignifnkjlldpaa.PureDirentDecodes
namespace Go.Proofs.Ytignifnkjlldpaa.Pure
open Go.Proofs.Ytignifnkjlldpaa.PDirentDecodes
theorem DirentDecodes : ashlarlaw08_DirentDecodes.Pure := fun l0 _ _ hw => PureDirentDecodes.holds l0 (Num.bytes_of_wf hw)
end Go.Proofs.Ytignifnkjlldpaa.Pure
