/- The statement InodeMaps, over numbers and lists alone: a map's block is its numbers, two bytes each, and is read as it was written; the package and the document agree on any block. -/
import Derived.Test.YtignifnkjlldpaaPInodeMapsx4
import Derived.Test.YtignifnkjlldpaaPackLibInodeMaps
namespace Go.Proofs.Ytignifnkjlldpaa.Pure
open Go.RowKit Go.Proofs.Ytignifnkjlldpaa.PInodeMaps Go.Proofs.YtignifnkjlldpaaW.PrintWords Go.Proofs.YtignifnkjlldpaaW.PrintLast Go.Proofs.Ytignifnkjlldpaa.Num Go.Proofs.Ytignifnkjlldpaa.PureInodeMaps
def place (n : Int) : Bool := decide (0 ≤ n ∧ n < 768)
theorem place_f (n : Int) : inode_place.f n = some (place n) := by
  unfold inode_place.f place
  by_cases h : n ≥ 0
  · rw [if_pos h]; congr 1; exact decide_eq_decide.2 ⟨fun h2 => ⟨h, h2⟩, fun h2 => h2.2⟩
  · rw [if_neg h]; congr 1; exact (decide_eq_false (fun h2 => h h2.1)).symm
theorem rplace_f (n : Int) : ashlarref05_place.f n = some (place n) := by
  unfold ashlarref05_place.f place
  by_cases h : n ≥ 0
  · rw [if_pos h]; congr 1; exact decide_eq_decide.2 ⟨fun h2 => ⟨h, by omega⟩, fun h2 => by omega⟩
  · rw [if_neg h]; congr 1; exact (decide_eq_false (fun h2 => h h2.1)).symm
theorem idx_loop (l : List Int) (hl : l.length ≤ 1000) (d : Nat) : ∀ (k i : Nat), i + d = l.length → d < k →
    ∃ r, slices_IndexFunc_int_int.l0 k l l.length i = some r ∧ decide (r ≥ 0) = !(l.drop i).all place := by
  induction d with
  | zero =>
    intro k i hi hk
    obtain ⟨k, rfl⟩ : ∃ m, k = m + 1 := ⟨k - 1, by omega⟩
    simp only [slices_IndexFunc_int_int.l0]
    rw [if_neg (by omega), List.drop_of_length_le (by omega)]
    exact ⟨-1, rfl, rfl⟩
  | succ d ih =>
    intro k i hi hk
    obtain ⟨k, rfl⟩ : ∃ m, k = m + 1 := ⟨k - 1, by omega⟩
    have e4 : wrap64 ((i : Int) + 1) = ((i + 1 : Nat) : Int) := w64 (by omega) (by omega)
    simp only [slices_IndexFunc_int_int.l0, e4]
    rw [if_pos (by omega), if_pos (by omega), if_pos (by omega), rd_nat l i (by omega), drop_cons (show i < l.length by omega)]
    unfold inode_places_1.f
    rw [place_f]
    simp only [Option.bind_some]
    by_cases h : place l[i] = true
    · rw [h, if_neg (by decide)]
      obtain ⟨r, h1, h2⟩ := ih k (i + 1) (by omega) (by omega)
      exact ⟨r, h1, by rw [h2, List.all_cons, h, Bool.true_and]⟩
    · have h' : place l[i] = false := by simpa using h
      rw [h', if_pos (by decide)]
      exact ⟨i, rfl, by rw [List.all_cons, h', Bool.false_and]; exact decide_eq_true (by omega)⟩
theorem places_f (l : List Int) (hl : l.length ≤ 1000) (k : Nat) (hk : l.length < k) : inode_places.f k l = some (l.all place) := by
  unfold inode_places.f slices_ContainsFunc_int_int.f slices_IndexFunc_int_int.f
  obtain ⟨r, h1, h2⟩ := idx_loop l hl l.length k 0 (by omega) hk
  have h3 : slices_IndexFunc_int_int.l0 k l l.length 0 = some r := by simpa using h1
  rw [h3]
  simp only [Option.bind_some]
  rw [h2]
  simp
/-- A map's bytes. -/
def enc (l : List Int) : List Int := l.flatMap fun n => putN n 2
theorem enc_cons (n : Int) (t : List Int) : enc (n :: t) = putN n 2 ++ enc t := by simp [enc]
theorem enc_length : ∀ l : List Int, (enc l).length = 2 * l.length
  | [] => rfl
  | n :: t => by rw [enc_cons, List.length_append, putN_length, enc_length t, List.length_cons]; omega
theorem enc_bytes (l : List Int) : Bytes (enc l) := fun x hx => by
  simp only [enc, List.mem_flatMap] at hx
  obtain ⟨n, _, h⟩ := hx
  exact putN_bytes n 2 x h
theorem enc_drop : ∀ (i : Nat) (l : List Int), (enc l).drop (2 * i) = enc (l.drop i)
  | 0, l => rfl
  | i + 1, [] => by simp [enc]
  | i + 1, n :: t => by
    rw [enc_cons, List.drop_succ_cons, ← enc_drop i t, show 2 * (i + 1) = (putN n 2).length + 2 * i by rw [putN_length]; omega, List.drop_append, List.drop_of_length_le (by omega), Nat.add_sub_cancel_left]
    rfl
theorem place_range {n : Int} (h : place n = true) : 0 ≤ n ∧ n < 768 := of_decide_eq_true h
theorem enc_loop (l : List Int) (hl : l.length = 128) (hp : ∀ x ∈ l, place x = true) (d : Nat) : ∀ (k i : Nat) (acc : List Int), i + d = l.length → acc.length = 2 * i → d + 20 < k →
    inode_EncodeMap.l0 k acc l l.length i = some (acc ++ enc (l.drop i), 0) := by
  induction d with
  | zero =>
    intro k i acc hi ha hk
    obtain ⟨k, rfl⟩ : ∃ m, k = m + 1 := ⟨k - 1, by omega⟩
    simp only [inode_EncodeMap.l0]
    rw [if_neg (by omega), List.drop_of_length_le (by omega)]
    simp [enc]
  | succ d ih =>
    intro k i acc hi ha hk
    obtain ⟨k, rfl⟩ : ∃ m, k = m + 1 := ⟨k - 1, by omega⟩
    have e4 : wrap64 ((i : Int) + 1) = ((i + 1 : Nat) : Int) := w64 (by omega) (by omega)
    have hr := place_range (hp l[i] (List.getElem_mem (by omega)))
    simp only [inode_EncodeMap.l0, e4]
    rw [if_pos (by omega), if_pos (by omega), if_pos (by omega), rd_nat l i (by omega), wu64 (by omega) (by omega), put_f acc _ 2 (by omega) k (by omega), if_pos (by decide)]
    simp only [Option.bind_some]
    rw [ih k (i + 1) _ (by omega) (by rw [List.length_append, putN_length, ha]; rfl) (by omega), drop_cons (show i < l.length by omega), enc_cons, List.append_assoc]
    rfl
theorem renc_loop (l : List Int) (hl : l.length = 128) (d : Nat) : ∀ (k i : Nat) (acc : List Int), i + d = l.length → acc.length = 2 * i → d + 20 < k →
    ashlarref05_EncodeMap.l0 k l acc l.length i = some (if (l.drop i).all place = true then (acc ++ enc (l.drop i), 0) else ([], 1)) := by
  induction d with
  | zero =>
    intro k i acc hi ha hk
    obtain ⟨k, rfl⟩ : ∃ m, k = m + 1 := ⟨k - 1, by omega⟩
    simp only [ashlarref05_EncodeMap.l0]
    rw [if_neg (by omega), List.drop_of_length_le (by omega)]
    simp [enc]
  | succ d ih =>
    intro k i acc hi ha hk
    obtain ⟨k, rfl⟩ : ∃ m, k = m + 1 := ⟨k - 1, by omega⟩
    have e4 : wrap64 ((i : Int) + 1) = ((i + 1 : Nat) : Int) := w64 (by omega) (by omega)
    simp only [ashlarref05_EncodeMap.l0, e4]
    rw [if_pos (by omega), if_pos (by omega), if_pos (by omega), rd_nat l i (by omega), rplace_f]
    simp only [Option.bind_some]
    rw [drop_cons (show i < l.length by omega), List.all_cons]
    by_cases h : place l[i] = true
    · have hr := place_range h
      rw [h, if_pos rfl, wu64 (by omega) (by omega), rput_f acc _ 2 (by omega) k (by omega), if_pos (by decide)]
      simp only [Option.bind_some]
      rw [ih k (i + 1) _ (by omega) (by rw [List.length_append, putN_length, ha]; rfl) (by omega), enc_cons, List.append_assoc, Bool.true_and]
      rfl
    · have h' : place l[i] = false := by simpa using h
      rw [h', if_neg (by decide), Bool.false_and, if_neg (by decide)]
def encoded (l : List Int) : List Int × Int := if l.length = 128 ∧ l.all place = true then (enc l, 0) else ([], 1)
theorem encode_f (l : List Int) (k : Nat) (hk : 2000 ≤ k) : inode_EncodeMap.f k l = some (encoded l) := by
  obtain ⟨k, rfl⟩ : ∃ m, k = m + 1 := ⟨k - 1, by omega⟩
  unfold inode_EncodeMap.f encoded
  by_cases h : l.length = 128
  · rw [if_pos (by omega), places_f l (by omega) _ (by omega)]
    simp only [Option.bind_some, inode_EncodeMap.j0]
    by_cases hp : l.all place = true
    · have hp' : ∀ x ∈ l, place x = true := by simpa using hp
      rw [hp, if_neg (by decide), if_pos ⟨h, rfl⟩]
      have := enc_loop l h hp' l.length k 0 [] (by omega) rfl (by omega)
      simpa using this
    · have hp' : l.all place = false := Bool.eq_false_iff.2 hp
      rw [hp', if_pos (by decide), if_neg (fun h2 => absurd h2.2 (by decide))]
  · rw [if_neg (by omega), if_neg (fun h2 => h h2.1)]
    simp only [inode_EncodeMap.j0]
    rw [if_pos trivial]
theorem rencode_f (l : List Int) (k : Nat) (hk : 2000 ≤ k) : ashlarref05_EncodeMap.f k l = some (encoded l) := by
  unfold ashlarref05_EncodeMap.f encoded
  by_cases h : l.length = 128
  · rw [if_pos (by omega)]
    have := renc_loop l h l.length k 0 [] (by omega) rfl (by omega)
    by_cases hp : l.all place = true
    · rw [if_pos ⟨h, hp⟩]
      simpa [hp] using this
    · rw [if_neg (fun h2 => hp h2.2)]
      have hp' : l.all place = false := Bool.eq_false_iff.2 hp
      rw [List.drop_zero, hp', if_neg (by decide)] at this
      exact this
  · rw [if_neg (by omega), if_neg (fun h2 => h h2.1)]
/-- The number that stands at place i of a map. -/
def word (b : List Int) (i : Nat) : Int := leval (at_ b (2 * i) 2)
theorem word_range {b : List Int} (hb : Bytes b) (hl : b.length = 256) (i : Nat) (hi : i < 128) : 0 ≤ word b i ∧ word b i < 65536 := by
  have h := leval_range (at_bytes hb (2 * i) 2)
  rw [at_length b (2 * i) 2 (by omega)] at h
  exact ⟨h.1, h.2⟩
theorem get_word (b : List Int) (hb : Bytes b) (hl : b.length = 256) (i : Nat) (hi : i < 128) (k : Nat) (hk : 10 ≤ k) : pack_Get.f k b ((2 * i : Nat) : Int) 2 = some (word b i, true) := by
  rw [get_f b hb (by omega) _ 2 (by omega) k hk, if_pos (by omega), Int.toNat_natCast]
  rfl
theorem two_f (b : List Int) (hb : Bytes b) (hl : b.length = 256) (i : Nat) (hi : i < 128) (k : Nat) (hk : 10 ≤ k) : ashlarref05_two.f k b ((2 * i : Nat) : Int) = some (word b i) := by
  have hw := word_range hb hl i hi
  unfold ashlarref05_two.f
  rw [rget_f b hb (by omega) _ 2 (by omega) k hk, if_pos (by omega), Int.toNat_natCast]
  simp only [Option.bind_some]
  have e : leval (at_ b (2 * i) (2 : Int).toNat) = word b i := rfl
  rw [e, w64 (by omega) (by omega)]
theorem dec_loop (b : List Int) (hb : Bytes b) (hl : b.length = 256) (d : Nat) : ∀ (k i : Nat) (acc : List Int), i + d = 128 → acc.length = i → d + 200 < k →
    inode_DecodeMap.l0 k b acc i = some (if (acc ++ (List.range' i d).map (word b)).all place = true then (acc ++ (List.range' i d).map (word b), 0) else ([], 18)) := by
  induction d with
  | zero =>
    intro k i acc hi ha hk
    obtain ⟨k, rfl⟩ : ∃ m, k = m + 1 := ⟨k - 1, by omega⟩
    simp only [inode_DecodeMap.l0]
    rw [if_neg (by omega), places_f acc (by omega) k (by omega)]
    simp only [Option.bind_some, List.range'_zero, List.map_nil, List.append_nil]
    by_cases h : acc.all place = true
    · rw [if_pos h, if_pos h]
    · rw [if_neg h, if_neg h]
  | succ d ih =>
    intro k i acc hi ha hk
    obtain ⟨k, rfl⟩ : ∃ m, k = m + 1 := ⟨k - 1, by omega⟩
    have hw := word_range hb hl i (by omega)
    have e4 : wrap64 ((i : Int) + 1) = ((i + 1 : Nat) : Int) := w64 (by omega) (by omega)
    have e3 : wrap64 (2 * (i : Int)) = ((2 * i : Nat) : Int) := by rw [w64 (by omega) (by omega)]; omega
    simp only [inode_DecodeMap.l0, e4, e3]
    rw [if_pos (by omega), get_word b hb hl i (by omega) k (by omega)]
    simp only [Option.bind_some]
    rw [if_pos (by omega), w64 (by omega) (by omega), ih k (i + 1) _ (by omega) (by rw [List.length_append, ha]; rfl) (by omega), List.append_assoc, List.range'_succ, List.map_cons]
    rfl
theorem rdec_loop (b : List Int) (hb : Bytes b) (hl : b.length = 256) (d : Nat) : ∀ (k i : Nat) (acc : List Int), i + d = 128 → acc.length = i → d + 200 < k →
    ashlarref05_DecodeMap.l0 k b acc i = some (if ((List.range' i d).map (word b)).all place = true then (acc ++ (List.range' i d).map (word b), 0) else ([], 18)) := by
  induction d with
  | zero =>
    intro k i acc hi ha hk
    obtain ⟨k, rfl⟩ : ∃ m, k = m + 1 := ⟨k - 1, by omega⟩
    simp only [ashlarref05_DecodeMap.l0]
    rw [if_neg (by omega)]
    simp
  | succ d ih =>
    intro k i acc hi ha hk
    obtain ⟨k, rfl⟩ : ∃ m, k = m + 1 := ⟨k - 1, by omega⟩
    have e4 : wrap64 ((i : Int) + 1) = ((i + 1 : Nat) : Int) := w64 (by omega) (by omega)
    have e3 : wrap64 (2 * (i : Int)) = ((2 * i : Nat) : Int) := by rw [w64 (by omega) (by omega)]; omega
    simp only [ashlarref05_DecodeMap.l0, e4, e3]
    rw [if_pos (by omega), two_f b hb hl i (by omega) k (by omega)]
    simp only [Option.bind_some]
    rw [rplace_f]
    simp only [Option.bind_some]
    rw [List.range'_succ, List.map_cons, List.all_cons]
    by_cases h : place (word b i) = true
    · rw [h, if_pos rfl, if_pos (by omega), ih k (i + 1) _ (by omega) (by rw [List.length_append, ha]; rfl) (by omega), List.append_assoc, Bool.true_and]
      rfl
    · have h' : place (word b i) = false := Bool.eq_false_iff.2 h
      rw [h', if_neg (by decide), Bool.false_and, if_neg (by decide)]
def words (b : List Int) : List Int := (List.range' 0 128).map (word b)
theorem words_length (b : List Int) : (words b).length = 128 := by simp [words]
def decoded (b : List Int) : List Int × Int := if b.length = 256 ∧ (words b).all place = true then (words b, 0) else ([], 18)
theorem decode_f (b : List Int) (hb : Bytes b) (k : Nat) (hk : 2000 ≤ k) : inode_DecodeMap.f k b = some (decoded b) := by
  unfold inode_DecodeMap.f decoded
  by_cases h : b.length = 256
  · rw [if_pos (by omega)]
    have e : inode_DecodeMap.l0 k b [] 0 = _ := dec_loop b hb h 128 k 0 [] (by omega) rfl (by omega)
    rw [e, List.nil_append, show List.map (word b) (List.range' 0 128) = words b from rfl]
    by_cases hp : (words b).all place = true
    · rw [if_pos hp, if_pos ⟨h, hp⟩]
    · rw [if_neg hp, if_neg (fun h2 => hp h2.2)]
  · rw [if_neg (by omega), if_neg (fun h2 => h h2.1)]
theorem rdecode_f (b : List Int) (hb : Bytes b) (k : Nat) (hk : 2000 ≤ k) : ashlarref05_DecodeMap.f k b = some (decoded b) := by
  unfold ashlarref05_DecodeMap.f decoded
  by_cases h : b.length = 256
  · rw [if_pos (by omega)]
    have e : ashlarref05_DecodeMap.l0 k b [] 0 = _ := rdec_loop b hb h 128 k 0 [] (by omega) rfl (by omega)
    rw [e, List.nil_append, show List.map (word b) (List.range' 0 128) = words b from rfl]
    by_cases hp : (words b).all place = true
    · rw [if_pos hp, if_pos ⟨h, hp⟩]
    · rw [if_neg hp, if_neg (fun h2 => hp h2.2)]
  · rw [if_neg (by omega), if_neg (fun h2 => h h2.1)]
theorem ints_loop (l : List Int) (hl : l.length ≤ 1000) (d : Nat) : ∀ (k i : Nat), i + d = l.length → d < k → ashlarlaw07_ints.l0 k l l l.length i = some true := by
  induction d with
  | zero =>
    intro k i hi hk
    obtain ⟨k, rfl⟩ : ∃ m, k = m + 1 := ⟨k - 1, by omega⟩
    simp only [ashlarlaw07_ints.l0]
    rw [if_neg (by omega)]
  | succ d ih =>
    intro k i hi hk
    obtain ⟨k, rfl⟩ : ∃ m, k = m + 1 := ⟨k - 1, by omega⟩
    have e4 : wrap64 ((i : Int) + 1) = ((i + 1 : Nat) : Int) := w64 (by omega) (by omega)
    simp only [ashlarlaw07_ints.l0, e4]
    rw [if_pos (by omega), if_pos (by omega), if_pos (by omega), if_pos (by omega), if_pos trivial, ih k (i + 1) (by omega) (by omega)]
theorem ints_f (l : List Int) (hl : l.length ≤ 1000) (k : Nat) (hk : l.length < k) : ashlarlaw07_ints.f k l l = some true := by
  unfold ashlarlaw07_ints.f
  rw [if_pos rfl]
  exact ints_loop l hl l.length k 0 (by omega) hk
theorem words_enc (l : List Int) (hl : l.length = 128) (hp : l.all place = true) : words (enc l) = l := by
  have hp' : ∀ x ∈ l, place x = true := by simpa using hp
  apply List.ext_getElem
  · rw [words_length, hl]
  · intro i h1 h2
    have hr := place_range (hp' l[i] (List.getElem_mem h2))
    have e : (words (enc l))[i] = word (enc l) i := by simp [words]
    rw [e, word, at_, enc_drop, drop_cons h2, enc_cons, List.take_left' (putN_length _ _), leval_putN _ hr.1, show (256 : Int) ^ 2 = 65536 by decide]
    omega
theorem decoded_length (b : List Int) : (decoded b).1.length ≤ 128 := by
  unfold decoded
  by_cases h : b.length = 256 ∧ (words b).all place = true
  · rw [if_pos h]; exact Nat.le_of_eq (words_length b)
  · rw [if_neg h]; decide
theorem InodeMaps : ashlarlaw07_InodeMaps.Pure := by
  intro l b _ _ _ _ _ hw
  have hb := bytes_of_wf hw
  refine ⟨2002, ?_⟩
  have hk : (2002 : Nat) = 2001 + 1 := rfl
  have hk2 : (2001 : Nat) = 2000 + 1 := rfl
  unfold ashlarlaw07_InodeMaps.f ashlarlaw07_awake.f
  simp only [Option.bind_some]
  rw [if_pos trivial, hk]
  simp only [ashlarlaw07_InodeMaps.j0]
  by_cases h : (l.length : Int) > 300
  · rw [decide_eq_true h, if_pos rfl]
    rfl
  · rw [decide_eq_false h, if_neg (by decide), encode_f l _ (by omega), rencode_f l _ (by omega), decode_f b hb _ (by omega), rdecode_f b hb _ (by omega)]
    simp only [Option.bind_some]
    rw [if_pos trivial, if_pos trivial, ints_f _ (Nat.le_trans (decoded_length b) (by omega)) _ (Nat.lt_of_le_of_lt (decoded_length b) (by omega))]
    simp only [Option.bind_some]
    rw [if_pos trivial, bne_self_eq_false, hk2]
    simp only [ashlarlaw07_InodeMaps.j1]
    have hx : Bytes (encoded l).1 := by
      unfold encoded
      by_cases c : l.length = 128 ∧ l.all place = true
      · rw [if_pos c]; exact enc_bytes l
      · rw [if_neg c]; exact Bytes.nil
    rw [if_neg (by decide), decode_f _ hx _ (by omega)]
    simp only [Option.bind_some]
    by_cases c : l.length = 128 ∧ l.all place = true
    · have e1 : encoded l = (enc l, 0) := by unfold encoded; rw [if_pos c]
      have e2 : decoded (enc l) = (l, 0) := by
        unfold decoded
        rw [words_enc l c.1 c.2, if_pos ⟨by rw [enc_length, c.1], c.2⟩]
      rw [e1]
      simp only []
      rw [e2]
      simp only []
      rw [if_pos trivial, if_pos trivial, ints_f l (by omega) _ (by omega)]
      rfl
    · have e1 : encoded l = ([], 1) := by unfold encoded; rw [if_neg c]
      rw [e1, if_neg (by decide)]
end Go.Proofs.Ytignifnkjlldpaa.Pure
