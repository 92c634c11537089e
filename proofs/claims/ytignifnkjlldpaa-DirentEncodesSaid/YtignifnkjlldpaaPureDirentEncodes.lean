/- The statement DirentEncodes, over numbers and lists alone: any entries are formed, and have the block, that the document says; and are read as they were. -/
import Derived.Test.YtignifnkjlldpaaPDirentEncodesx5
import Derived.Test.YtignifnkjlldpaaPDirentEncodesx6
import Derived.Test.YtignifnkjlldpaaDirentLib2DirentEncodes
namespace Go.Proofs.Ytignifnkjlldpaa.PureDirentEncodes
open Go.RowKit Go.Proofs.Ytignifnkjlldpaa.PDirentEncodes Go.Proofs.YtignifnkjlldpaaW.PrintWords Go.Proofs.YtignifnkjlldpaaW.PrintLast Go.Proofs.YtignifnkjlldpaaW.PrintMore Go.Proofs.Ytignifnkjlldpaa.Num
set_option linter.unusedVariables false
set_option linter.unusedSimpArgs false
theorem awake_f (k : Nat) (hk : 10 ≤ k) : ashlarlaw08_awake.f k = some true := by
  unfold ashlarlaw08_awake.f
  rw [enc_f [] k hk, name_f]
  decide +kernel
def conv (e : S60) : S59 := ⟨e.f0, e.f1⟩
def vnoc (e : S59) : S60 := ⟨e.f0, e.f1⟩
theorem conv_pD (l : List S60) : (l.map conv).map pD = l.map pR := by rw [List.map_map]; rfl
theorem rdR (l : List S60) (i : Nat) (h : i < l.length) : rd_T60 l (i : Int) = l[i] := by unfold rd_T60; rw [List.getD_eq_getElem?_getD, Int.toNat_natCast, List.getElem?_eq_getElem h]; rfl
theorem rdD (l : List S59) (i : Nat) (h : i < l.length) : rd_T59 l (i : Int) = l[i] := by unfold rd_T59; rw [List.getD_eq_getElem?_getD, Int.toNat_natCast, List.getElem?_eq_getElem h]; rfl
theorem w1 (i : Nat) (h : i ≤ 1000000) : wrap64 ((i : Int) + 1) = ((i + 1 : Nat) : Int) := w64 (by omega) (by omega)
theorem theirs_loop (l : List S60) (hl : l.length ≤ 1000) (d : Nat) : ∀ (k i : Nat) (acc : List S59), i + d = l.length → d < k → acc.length = i → ashlarlaw08_Theirs.l0 k l acc (l.length : Int) (i : Int) = some (acc ++ (l.drop i).map conv) := by
  induction d with
  | zero =>
    intro k i acc hi hk ha
    obtain ⟨k, rfl⟩ : ∃ m, k = m + 1 := ⟨k - 1, by omega⟩
    simp only [ashlarlaw08_Theirs.l0]
    rw [if_neg (by omega), List.drop_of_length_le (by omega)]; simp
  | succ d ih =>
    intro k i acc hi hk ha
    obtain ⟨k, rfl⟩ : ∃ m, k = m + 1 := ⟨k - 1, by omega⟩
    have hlt : i < l.length := by omega
    simp only [ashlarlaw08_Theirs.l0]
    rw [if_pos (by omega), if_pos (by omega), if_pos (by omega), if_pos (by omega), rdR l i hlt, w1 i (by omega), ih k (i + 1) _ (by omega) (by omega) (by simp [ha]), List.drop_eq_getElem_cons hlt, List.map_cons, List.append_assoc]
    rfl
theorem theirs_f (l : List S60) (hl : l.length ≤ 1000) (k : Nat) (hk : l.length < k) : ashlarlaw08_Theirs.f k l = some (l.map conv) := by
  have := theirs_loop l hl l.length k 0 [] (by omega) hk rfl
  rw [List.drop_zero, List.nil_append] at this
  exact this
theorem ours_loop (l : List S59) (hl : l.length ≤ 1000) (d : Nat) : ∀ (k i : Nat) (acc : List S60), i + d = l.length → d < k → acc.length = i → ashlarlaw08_Ours.l0 k l acc (l.length : Int) (i : Int) = some (acc ++ (l.drop i).map vnoc) := by
  induction d with
  | zero =>
    intro k i acc hi hk ha
    obtain ⟨k, rfl⟩ : ∃ m, k = m + 1 := ⟨k - 1, by omega⟩
    simp only [ashlarlaw08_Ours.l0]
    rw [if_neg (by omega), List.drop_of_length_le (by omega)]; simp
  | succ d ih =>
    intro k i acc hi hk ha
    obtain ⟨k, rfl⟩ : ∃ m, k = m + 1 := ⟨k - 1, by omega⟩
    have hlt : i < l.length := by omega
    simp only [ashlarlaw08_Ours.l0]
    rw [if_pos (by omega), if_pos (by omega), if_pos (by omega), if_pos (by omega), rdD l i hlt, w1 i (by omega), ih k (i + 1) _ (by omega) (by omega) (by simp [ha]), List.drop_eq_getElem_cons hlt, List.map_cons, List.append_assoc]
    rfl
theorem ours_f (l : List S59) (hl : l.length ≤ 1000) (k : Nat) (hk : l.length < k) : ashlarlaw08_Ours.f k l = some (l.map vnoc) := by
  have := ours_loop l hl l.length k 0 [] (by omega) hk rfl
  rw [List.drop_zero, List.nil_append] at this
  exact this
theorem same_loop (l : List S60) (hl : l.length ≤ 1000) (d : Nat) : ∀ (k i : Nat), i + d = l.length → d < k → ashlarref05_SameEntries.l0 k l l (l.length : Int) (i : Int) = some true := by
  induction d with
  | zero =>
    intro k i hi hk
    obtain ⟨k, rfl⟩ : ∃ m, k = m + 1 := ⟨k - 1, by omega⟩
    simp only [ashlarref05_SameEntries.l0]
    rw [if_neg (by omega)]
  | succ d ih =>
    intro k i hi hk
    obtain ⟨k, rfl⟩ : ∃ m, k = m + 1 := ⟨k - 1, by omega⟩
    simp only [ashlarref05_SameEntries.l0]
    rw [if_pos (by omega), if_pos (by omega), if_pos (by omega), if_pos (by omega), w1 i (by omega), if_neg (by simp)]
    exact ih k (i + 1) (by omega) (by omega)
theorem same_f (l : List S60) (hl : l.length ≤ 1000) (k : Nat) (hk : l.length < k) : ashlarref05_SameEntries.f k l l = some true := by
  unfold ashlarref05_SameEntries.f
  rw [if_pos rfl]
  exact same_loop l hl l.length k 0 (by omega) hk
theorem pR_mk (l : List S60) : ((l.map pR).map mkD).map vnoc = l := by
  rw [List.map_map, List.map_map]
  have : (vnoc ∘ mkD) ∘ pR = id := by funext e; rfl
  rw [this, List.map_id]
theorem law_end (l : List S60) (hl : l.length ≤ 50) (k : Nat) (hk : 70 ≤ k) : (dirent_Decode.f k (encS (l.map pR)).1).bind (fun bt => if (encS (l.map pR)).2 = 0 then (if bt.2 = 0 then ((ashlarlaw08_Ours.f k bt.1).bind fun t => ((ashlarref05_SameEntries.f k t l).bind fun t2 => (some t2))) else (some false)) else (some true)) = some true := by
  rw [dec_f _ (encS_bytes _) k (by omega)]
  simp only [Option.bind_some]
  by_cases h : (encS (l.map pR)).2 = 0
  · rw [if_pos h, dec_enc _ h]
    simp only [if_true]
    rw [ours_f _ (by simp; omega) k (by simp; omega)]
    simp only [Option.bind_some]
    rw [pR_mk, same_f l (by omega) k (by omega)]
    rfl
  · rw [if_neg h]
theorem law_loop (l : List S60) (hl : l.length ≤ 50) (d : Nat) : ∀ (k i : Nat), i + d = l.length → d + 80 < k → ashlarlaw08_DirentEncodes.l0 k l (encS (l.map pR)).1 (encS (l.map pR)).2 (l.length : Int) (i : Int) = some true := by
  induction d with
  | zero =>
    intro k i hi hk
    obtain ⟨k, rfl⟩ : ∃ m, k = m + 1 := ⟨k - 1, by omega⟩
    simp only [ashlarlaw08_DirentEncodes.l0]
    rw [if_neg (by omega)]
    exact law_end l hl k (by omega)
  | succ d ih =>
    intro k i hi hk
    obtain ⟨k, rfl⟩ : ∃ m, k = m + 1 := ⟨k - 1, by omega⟩
    have hlt : i < l.length := by omega
    simp only [ashlarlaw08_DirentEncodes.l0]
    rw [if_pos (by omega), if_pos (by omega), if_pos (by omega), rdR l i hlt, formed_f, rformed_f _ _ k (by omega)]
    simp only [Option.bind_some]
    rw [if_neg (by simp), name_f, rname_f _ k (by omega)]
    simp only [Option.bind_some]
    rw [if_neg (by simp), w1 i (by omega)]
    exact ih k (i + 1) (by omega) (by omega)
theorem holds (l : List S60) : ∃ k, ashlarlaw08_DirentEncodes.f k l = some true := by
  refine ⟨300, ?_⟩
  unfold ashlarlaw08_DirentEncodes.f
  rw [awake_f 300 (by omega)]
  simp only [Option.bind_some, if_true, ashlarlaw08_DirentEncodes.j0]
  by_cases h : (l.length : Int) > 50
  · rw [decide_eq_true h, if_pos rfl, awake_f 299 (by omega)]; rfl
  · rw [decide_eq_false h, if_neg (by decide), theirs_f l (by omega) 299 (by omega)]
    simp only [Option.bind_some]
    rw [enc_f _ 299 (by omega), renc_f l 299 (by omega), conv_pD]
    simp only [Option.bind_some, if_true]
    have hne : ((encS (l.map pR)).2 != (encS (l.map pR)).2) = false := by simp
    rw [hne]
    simp only [ashlarlaw08_DirentEncodes.j1]
    rw [if_neg (by decide)]
    exact law_loop l (by omega) l.length 298 0 (by omega) (by omega)
theorem walk (A0 : Option Addr) (c0 : Nat) (l0 : List S60) (w : World) (hr0 : Kd.C k60 w A0 l0.length l0) (hc0 : l0.length ≤ c0) :
    Calls Try.prog 5 #[.slice A0 l0.length c0] w fun e w' => e = .returned (.bool true) ∧ Below w.heap.size w w' := by
  obtain ⟨k, h⟩ := holds l0
  exact (ashlarlaw08_DirentEncodes.calls k A0 c0 l0 true w hr0 hc0 h)
end Go.Proofs.Ytignifnkjlldpaa.PureDirentEncodes
