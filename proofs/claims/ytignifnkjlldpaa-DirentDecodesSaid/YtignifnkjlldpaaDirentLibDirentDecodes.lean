import Derived.Test.YtignifnkjlldpaaPDirentDecodesx2
import Derived.Test.YtignifnkjlldpaaPDirentDecodesx3
import Derived.Test.YtignifnkjlldpaaPDirentDecodesx4
import Derived.Test.YtignifnkjlldpaaPDirentDecodesx5
import Derived.Test.YtignifnkjlldpaaPDirentDecodesx6
import Derived.Test.YtignifnkjlldpaaPackLibDirentDecodes
/- What is proved here: the functions of the package dirent and of the document, as printed, in closed form. -/
namespace Go.Proofs.Ytignifnkjlldpaa.PureDirentDecodes
open Go.RowKit Go.Proofs.Ytignifnkjlldpaa.PDirentDecodes Go.Proofs.YtignifnkjlldpaaW.PrintWords Go.Proofs.YtignifnkjlldpaaW.PrintLast Go.Proofs.YtignifnkjlldpaaW.PrintMore Go.Proofs.Ytignifnkjlldpaa.Num
set_option linter.unusedVariables false
set_option linter.unusedSimpArgs false
/-- A name, as the document says. -/
def nameB (s : ByteArray) : Bool := decide (1 ≤ s.size) && (decide (s.size ≤ 13) && (!(s.toList == [46]) && (!(s.toList == [46, 46]) && (!(s.data.toList.contains 0) && !(s.data.toList.contains 47)))))
theorem index_neg (l : List UInt8) (c : UInt8) : (Lib.indexByte l c = -1 ∧ l.contains c = false) ∨ (0 ≤ Lib.indexByte l c ∧ l.contains c = true) := by
  induction l with
  | nil => left; exact ⟨rfl, rfl⟩
  | cons b l ih =>
    rw [Lib.indexByte]
    by_cases e : b = c
    · subst e; right; simp
    · have e' : (b == c) = false := beq_eq_false_iff_ne.2 e
      have e2 : (c == b) = false := beq_eq_false_iff_ne.2 (Ne.symm e)
      rw [e', List.contains_cons, e2]
      rcases ih with ⟨h1, h2⟩ | ⟨h1, h2⟩
      · left; rw [h1, h2]; exact ⟨rfl, rfl⟩
      · right
        have e3 : (Lib.indexByte l c == -1) = false := beq_eq_false_iff_ne.2 (by omega)
        rw [e3, h2]
        refine ⟨?_, rfl⟩
        simp only [Bool.false_eq_true, if_false]
        omega
theorem list_nil (s : ByteArray) : s.toList = [] ↔ s.size = 0 := by
  rw [ByteArray.toList_eq, ← data_length]
  exact List.length_eq_zero_iff.symm
theorem name_f (s : ByteArray) : dirent_Name.f s = some (nameB s) := by
  unfold dirent_Name.f strings_IndexByte.f nameB
  simp only [Option.bind_some]
  by_cases h0 : s.toList = []
  · rw [if_pos h0, decide_eq_false (by have := (list_nil s).1 h0; omega)]; rfl
  · have hs : 1 ≤ s.size := by
      have : s.size ≠ 0 := fun e => h0 ((list_nil s).2 e)
      omega
    rw [if_neg h0, decide_eq_true hs, Bool.true_and]
    by_cases h1 : (s.size : Int) ≤ 13
    · rw [if_pos h1, decide_eq_true (show s.size ≤ 13 by omega), Bool.true_and]
      by_cases h2 : s.toList = [46]
      · rw [if_pos h2, h2]; rfl
      · rw [if_neg h2, beq_eq_false_iff_ne.2 h2, Bool.not_false, Bool.true_and]
        by_cases h3 : s.toList = [46, 46]
        · rw [if_pos h3, h3]; rfl
        · rw [if_neg h3, beq_eq_false_iff_ne.2 h3, Bool.not_false, Bool.true_and]
          have z0 : (0 : Int).toNat.toUInt8 = 0 := rfl
          have z1 : (47 : Int).toNat.toUInt8 = 47 := rfl
          rw [z0, z1]
          rcases index_neg s.data.toList 0 with ⟨a1, a2⟩ | ⟨a1, a2⟩
          · rw [a1, a2, if_pos (by decide), Bool.not_false, Bool.true_and]
            rcases index_neg s.data.toList 47 with ⟨b1, b2⟩ | ⟨b1, b2⟩
            · rw [b1, b2]; rfl
            · rw [b2, decide_eq_false (by omega)]; rfl
          · rw [a2, if_neg (by omega)]; rfl
    · rw [if_neg h1, decide_eq_false (show ¬ s.size ≤ 13 by omega)]; rfl
theorem bt_data (s : ByteArray) (i : Nat) (h : i < s.data.toList.length) : bt s (i : Int) = ((s.data.toList[i]).toNat : Int) := by
  have h2 : i < s.size := by rw [data_length] at h; exact h
  rw [← bt_at s (i : Int) (by rw [Int.toNat_natCast]; exact h2)]
  rfl
theorem u8_zero (b : UInt8) : ((b.toNat : Int) = 0) ↔ b = 0 := by
  constructor
  · intro h; apply UInt8.toNat_inj.1; show b.toNat = 0; omega
  · rintro rfl; rfl
theorem u8_slash (b : UInt8) : ((b.toNat : Int) = 47) ↔ b = 47 := by
  constructor
  · intro h; apply UInt8.toNat_inj.1; show b.toNat = 47; omega
  · rintro rfl; rfl
theorem rname_loop (s : ByteArray) (hs : s.size ≤ 13) (d : Nat) : ∀ (k i : Nat), i + d = s.size → d < k → ashlarref05_Name.l0 k s (s.size : Int) (i : Int) = some (!((s.data.toList.drop i).contains 0) && !((s.data.toList.drop i).contains 47)) := by
  induction d with
  | zero =>
    intro k i hi hk
    obtain ⟨k, rfl⟩ : ∃ m, k = m + 1 := ⟨k - 1, by omega⟩
    simp only [ashlarref05_Name.l0]
    rw [if_neg (by omega), List.drop_of_length_le (by rw [data_length]; omega)]; rfl
  | succ d ih =>
    intro k i hi hk
    obtain ⟨k, rfl⟩ : ∃ m, k = m + 1 := ⟨k - 1, by omega⟩
    have hlt : i < s.data.toList.length := by rw [data_length]; omega
    simp only [ashlarref05_Name.l0]
    rw [if_pos (by omega), if_pos (by omega), if_pos (by omega), bt_data s i hlt, List.drop_eq_getElem_cons hlt, List.contains_cons, List.contains_cons]
    have ew : wrap64 ((i : Int) + 1) = ((i + 1 : Nat) : Int) := w64 (by omega) (by omega)
    by_cases h0 : s.data.toList[i] = 0
    · rw [if_pos ((u8_zero _).2 h0), h0]; rfl
    · rw [if_neg (fun e => h0 ((u8_zero _).1 e)), beq_eq_false_iff_ne.2 (Ne.symm h0), Bool.false_or]
      by_cases h1 : s.data.toList[i] = 47
      · rw [if_pos ((u8_slash _).2 h1), h1]; simp
      · rw [if_neg (fun e => h1 ((u8_slash _).1 e)), beq_eq_false_iff_ne.2 (Ne.symm h1), Bool.false_or, ew]
        exact ih k (i + 1) (by omega) (by omega)
theorem rname_f (s : ByteArray) (k : Nat) (hk : 20 ≤ k) : ashlarref05_Name.f k s = some (nameB s) := by
  obtain ⟨k, rfl⟩ : ∃ m, k = m + 1 := ⟨k - 1, by omega⟩
  unfold ashlarref05_Name.f nameB
  simp only [ashlarref05_Name.j0]
  by_cases h0 : (s.size : Int) < 1
  · rw [if_pos h0, if_pos trivial, decide_eq_false (by omega)]; rfl
  · rw [if_neg h0, decide_eq_true (show 1 ≤ s.size by omega), Bool.true_and]
    by_cases h1 : (s.size : Int) > 13
    · rw [if_pos h1, if_pos trivial, decide_eq_false (by omega)]; rfl
    · rw [if_neg h1, decide_eq_true (show s.size ≤ 13 by omega), Bool.true_and]
      by_cases h2 : s.toList = [46]
      · rw [if_pos h2, if_pos trivial, h2]; rfl
      · rw [if_neg h2, beq_eq_false_iff_ne.2 h2, Bool.not_false, Bool.true_and]
        by_cases h3 : s.toList = [46, 46]
        · rw [h3]; rfl
        · rw [beq_eq_false_iff_ne.2 h3, Bool.not_false, Bool.true_and, if_neg (by decide)]
          exact rname_loop s (by omega) s.size k 0 (by omega) (by omega)
def formB (i : Int) (s : ByteArray) : Bool := decide (1 ≤ i) && (decide (i ≤ 47) && nameB s)
theorem formed_f (i : Int) (s : ByteArray) : dirent_Formed.f i s = some (formB i s) := by
  unfold dirent_Formed.f formB
  rw [name_f]
  simp only [Option.bind_some]
  by_cases h0 : i > 0
  · rw [if_pos h0, decide_eq_true (show 1 ≤ i by omega), Bool.true_and]
    by_cases h1 : i < 48
    · rw [if_pos h1, decide_eq_true (show i ≤ 47 by omega), Bool.true_and]
    · rw [if_neg h1, decide_eq_false (by omega)]; rfl
  · rw [if_neg h0, decide_eq_false (by omega)]; rfl
theorem rformed_f (i : Int) (s : ByteArray) (k : Nat) (hk : 20 ≤ k) : ashlarref05_FormedEntry.f k i s = some (formB i s) := by
  unfold ashlarref05_FormedEntry.f formB
  rw [rname_f s k hk]
  simp only [Option.bind_some]
  by_cases h0 : i ≥ 1
  · rw [if_pos h0, decide_eq_true (show 1 ≤ i by omega), Bool.true_and]
    by_cases h1 : i ≤ 47
    · rw [if_pos h1, decide_eq_true h1, Bool.true_and]
    · rw [if_neg h1, decide_eq_false h1]; rfl
  · rw [if_neg h0, decide_eq_false (by omega)]; rfl
/-- An entry's bytes. -/
def spelt (i : Int) (s : ByteArray) : List Int := [i, 0, (s.size : Int)] ++ bytesOf s ++ List.replicate (13 - s.size) 0
theorem put3 : ∀ (i : Fin 48) (n : Fin 14), putN (Go.bits .or .u64 (IntKind.u64.wrap (i.val : Int)) (IntKind.u64.wrap (IntKind.u64.wrap (n.val : Int) * 65536))) 3 = [(i.val : Int), 0, (n.val : Int)] := by decide +kernel
theorem put2 : ∀ (i : Fin 48), putN (IntKind.u64.wrap (i.val : Int)) 2 = [(i.val : Int), 0] := by decide +kernel
theorem name_le {s : ByteArray} (h : nameB s = true) : 1 ≤ s.size ∧ s.size ≤ 13 := by
  unfold nameB at h
  simp only [Bool.and_eq_true, decide_eq_true_eq] at h
  exact ⟨h.1, h.2.1⟩
theorem form_in {i : Int} {s : ByteArray} (h : formB i s = true) : 1 ≤ i ∧ i ≤ 47 ∧ 1 ≤ s.size ∧ s.size ≤ 13 := by
  unfold formB at h
  simp only [Bool.and_eq_true, decide_eq_true_eq] at h
  exact ⟨h.1, h.2.1, name_le h.2.2⟩
theorem spelt_length {i : Int} {s : ByteArray} (h : s.size ≤ 13) : (spelt i s).length = 16 := by
  unfold spelt
  rw [List.length_append, List.length_append, bytesOf_length, List.length_replicate]
  simp only [List.length_cons, List.length_nil]
  omega
theorem bytes_f {i : Int} {s : ByteArray} (h : formB i s = true) (k : Nat) (hk : 10 ≤ k) : dirent_Bytes.f k i s = some (spelt i s) := by
  obtain ⟨h1, h2, h3, h4⟩ := form_in h
  obtain ⟨n, rfl⟩ := Int.eq_ofNat_of_zero_le (show 0 ≤ i by omega)
  have hp := put3 ⟨n, by omega⟩ ⟨s.size, by omega⟩
  simp only at hp
  unfold dirent_Bytes.f
  rw [put_f [] _ 3 (by simp) k hk, if_pos (by decide), List.nil_append, show (3 : Int).toNat = 3 from rfl, hp]
  simp only [Option.bind_some]
  have hl : ([(n : Int), 0, (s.size : Int)] ++ bytesOf s).length = 3 + s.size := by rw [List.length_append, bytesOf_length]; rfl
  rw [hl, if_pos (by simp only [List.length_cons, List.length_nil]; omega)]
  have ew : wrap64 (16 - ((3 + s.size : Nat) : Int)) = ((13 - s.size : Nat) : Int) := by rw [w64 (by omega) (by omega)]; omega
  rw [ew, if_pos (by omega), Int.toNat_natCast, if_pos (by omega)]
  rfl
theorem rspelt_f {i : Int} {s : ByteArray} (h : formB i s = true) (k : Nat) (hk : 10 ≤ k) : ashlarref05_Spelt.f k i s = some (spelt i s) := by
  obtain ⟨h1, h2, h3, h4⟩ := form_in h
  obtain ⟨n, rfl⟩ := Int.eq_ofNat_of_zero_le (show 0 ≤ i by omega)
  have hp := put2 ⟨n, by omega⟩
  simp only at hp
  unfold ashlarref05_Spelt.f
  rw [rput_f [] _ 2 (by simp) k hk, if_pos (by decide), List.nil_append, show (2 : Int).toNat = 2 from rfl, hp]
  simp only [Option.bind_some]
  have hl : ([(n : Int), 0]).length = 2 := rfl
  rw [hl, if_pos (by omega), show IntKind.u8.wrap (s.size : Int) = (s.size : Int) by rw [IntKind.wrap_u8]; omega]
  unfold spelt
  rw [show 16 - (2 + 1 + s.size) = 13 - s.size by omega]
  rfl
/-- The bytes of many entries, and what Encode answers. -/
def flat (l : List (Int × ByteArray)) : List Int := (l.map fun e => spelt e.1 e.2).flatten
def allB (l : List (Int × ByteArray)) : Bool := l.all fun e => formB e.1 e.2
theorem flat_length {l : List (Int × ByteArray)} (h : allB l = true) : (flat l).length = 16 * l.length := by
  induction l with
  | nil => rfl
  | cons e t ih =>
    unfold allB at h
    rw [List.all_cons, Bool.and_eq_true] at h
    have h2 := spelt_length (i := e.1) (form_in h.1).2.2.2
    have h3 := ih h.2
    unfold flat at h3 ⊢
    rw [List.map_cons, List.flatten_cons, List.length_append, h2, h3, List.length_cons]
    omega
def encS (l : List (Int × ByteArray)) : List Int × Int := if 16 < l.length then ([], 1) else if allB l = true then (flat l ++ List.replicate (256 - 16 * l.length) 0, 0) else ([], 1)
def pD (e : S59) : Int × ByteArray := (e.f0, e.f1)
def pR (e : S60) : Int × ByteArray := (e.f0, e.f1)
theorem enc_go (k : Nat) (hk : 10 ≤ k) : ∀ (l : List S59) (acc : List Int), acc.length + 16 * l.length ≤ 256 →
    dirent_Encode.go k l acc = some (if allB (l.map pD) = true then (acc ++ flat (l.map pD) ++ List.replicate (256 - (acc.length + 16 * l.length)) 0, 0) else ([], 1))
  | [], acc, h => by
    rw [dirent_Encode.go, if_pos (by simpa using h)]
    simp [allB, flat]
  | e :: t, acc, h => by
    simp only [List.length_cons] at h
    rw [dirent_Encode.go, formed_f]
    simp only [Option.bind_some]
    cases hf : formB e.f0 e.f1 with
    | false =>
      rw [if_neg (by decide), if_neg]
      unfold allB
      rw [List.map_cons, List.all_cons]
      show ¬ (formB e.f0 e.f1 && _) = true
      rw [hf]; simp
    | true =>
      have hl := spelt_length (i := e.f0) (form_in hf).2.2.2
      rw [if_pos rfl, bytes_f hf k hk]
      simp only [Option.bind_some]
      rw [hl, if_pos (by omega), if_pos (by omega), enc_go k hk t (acc ++ spelt e.f0 e.f1) (by rw [List.length_append, hl]; omega)]
      have ea : allB ((e :: t).map pD) = allB (t.map pD) := by
        unfold allB
        rw [List.map_cons, List.all_cons]
        show (formB e.f0 e.f1 && _) = _
        rw [hf, Bool.true_and]
      have ef : flat ((e :: t).map pD) = spelt e.f0 e.f1 ++ flat (t.map pD) := rfl
      rw [ea, ef, List.length_append, hl, List.length_cons, show acc.length + 16 + 16 * t.length = acc.length + 16 * (t.length + 1) by omega]
      simp only [List.append_assoc]
theorem enc_f (l : List S59) (k : Nat) (hk : 10 ≤ k) : dirent_Encode.f k l = some (encS (l.map pD)) := by
  unfold dirent_Encode.f encS
  rw [List.length_map]
  by_cases h : (l.length : Int) > 16
  · rw [if_pos h, if_pos (by omega)]
  · rw [if_neg h, if_neg (by omega), enc_go k hk l [] (by simp; omega)]
    simp
theorem renc_loop (l : List S60) (hl : l.length ≤ 16) (d : Nat) : ∀ (k i : Nat) (acc : List Int), i + d = l.length → d + 30 < k → acc.length = 16 * i →
    ashlarref05_EncodeDir.l0 k l acc (l.length : Int) (i : Int) = some (if allB ((l.drop i).map pR) = true then (acc ++ flat ((l.drop i).map pR) ++ List.replicate (256 - 16 * l.length) 0, 0) else ([], 1)) := by
  induction d with
  | zero =>
    intro k i acc hi hk ha
    obtain ⟨k, rfl⟩ : ∃ m, k = m + 1 := ⟨k - 1, by omega⟩
    have ew : wrap64 (256 - (acc.length : Int)) = ((256 - 16 * l.length : Nat) : Int) := by rw [w64 (by omega) (by omega)]; omega
    simp only [ashlarref05_EncodeDir.l0]
    rw [if_neg (by omega), ew, if_pos (by omega), Int.toNat_natCast, if_pos (by omega), List.drop_of_length_le (by omega)]
    simp [allB, flat]
  | succ d ih =>
    intro k i acc hi hk ha
    obtain ⟨k, rfl⟩ : ∃ m, k = m + 1 := ⟨k - 1, by omega⟩
    have hlt : i < l.length := by omega
    have hrd : rd_T60 l (i : Int) = l[i] := by unfold rd_T60; rw [List.getD_eq_getElem?_getD, Int.toNat_natCast, List.getElem?_eq_getElem hlt]; rfl
    have ew : wrap64 ((i : Int) + 1) = ((i + 1 : Nat) : Int) := w64 (by omega) (by omega)
    simp only [ashlarref05_EncodeDir.l0]
    rw [if_pos (by omega), if_pos (by omega), if_pos (by omega), hrd, rformed_f _ _ k (by omega), List.drop_eq_getElem_cons hlt]
    simp only [Option.bind_some]
    cases hf : formB l[i].f0 l[i].f1 with
    | false =>
      rw [if_neg (by decide), if_neg]
      unfold allB
      rw [List.map_cons, List.all_cons]
      show ¬ (formB l[i].f0 l[i].f1 && _) = true
      rw [hf]; simp
    | true =>
      have hls := spelt_length (i := l[i].f0) (form_in hf).2.2.2
      rw [if_pos rfl, rspelt_f hf k (by omega)]
      simp only [Option.bind_some]
      rw [if_pos (by omega), ew, ih k (i + 1) (acc ++ spelt l[i].f0 l[i].f1) (by omega) (by omega) (by rw [List.length_append, hls]; omega)]
      have ea : allB ((l[i] :: l.drop (i + 1)).map pR) = allB ((l.drop (i + 1)).map pR) := by
        unfold allB
        rw [List.map_cons, List.all_cons]
        show (formB l[i].f0 l[i].f1 && _) = _
        rw [hf, Bool.true_and]
      have ef : flat ((l[i] :: l.drop (i + 1)).map pR) = spelt l[i].f0 l[i].f1 ++ flat ((l.drop (i + 1)).map pR) := rfl
      rw [ea, ef, List.append_assoc]
      simp only [List.append_assoc]
theorem renc_f (l : List S60) (k : Nat) (hk : 60 ≤ k) : ashlarref05_EncodeDir.f k l = some (encS (l.map pR)) := by
  unfold ashlarref05_EncodeDir.f encS
  rw [List.length_map]
  by_cases h : (l.length : Int) > 16
  · rw [if_pos h, if_pos (by omega)]
  · rw [if_neg h, if_neg (by omega)]
    have := renc_loop l (by omega) l.length k 0 [] (by omega) (by omega) rfl
    rw [List.drop_zero, List.nil_append] at this
    exact this
end Go.Proofs.Ytignifnkjlldpaa.PureDirentDecodes
