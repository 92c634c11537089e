/- The statement DirentOnce, over numbers and lists alone: a block's bytes are the only ones of its entries. -/
import Derived.Test.YtignifnkjlldpaaPDirentOncex3
import Derived.Test.YtignifnkjlldpaaDirentLib2DirentOnce
namespace Go.Proofs.Ytignifnkjlldpaa.PureDirentOnce
open Go.RowKit Go.Proofs.Ytignifnkjlldpaa.PDirentOnce Go.Proofs.YtignifnkjlldpaaW.PrintWords Go.Proofs.YtignifnkjlldpaaW.PrintLast Go.Proofs.YtignifnkjlldpaaW.PrintMore Go.Proofs.Ytignifnkjlldpaa.Num
set_option linter.unusedVariables false
set_option linter.unusedSimpArgs false
theorem awake_f (k : Nat) (hk : 10 ≤ k) : ashlarlaw08_awake.f k = some true := by
  unfold ashlarlaw08_awake.f
  rw [enc_f [] k hk, name_f]
  decide +kernel
def conv (e : S60) : S59 := ⟨e.f0, e.f1⟩
def vnoc (e : S59) : S60 := ⟨e.f0, e.f1⟩
theorem conv_pD (l : List S60) : (l.map conv).map pD = l.map pR := by rw [List.map_map]; rfl
theorem rdR (l : List S60) (i : Nat) (h : i < l.length) : rd_T60 l (i : Int) = l[i] := by unfold rd_T60; rw [List.getD_eq_getElem?_getD, Int.toNat_natCast, List.getElem?_eq_getElem h]; rfl
theorem rdD (l : List S59) (i : Nat) (h : i < l.length) : rd_T59 l (i : Int) = l[i] := by unfold rd_T59; rw [List.getD_eq_getElem?_getD, Int.toNat_natCast, List.getElem?_eq_getElem h]; rfl
theorem w1 (i : Nat) (h : i ≤ 1000000) : wrap64 ((i : Int) + 1) = ((i + 1 : Nat) : Int) := w64 (by omega) (by omega)
theorem theirs_loop (l : List S60) (hl : l.length ≤ 1000) (d : Nat) : ∀ (k i : Nat) (acc : List S59), i + d = l.length → d < k → acc.length = i → ashlarlaw08_Theirs.l0 k l acc (l.length : Int) (i : Int) = some (acc ++ (l.drop i).map conv) := by
  induction d with
  | zero =>
    intro k i acc hi hk ha
    obtain ⟨k, rfl⟩ : ∃ m, k = m + 1 := ⟨k - 1, by omega⟩
    simp only [ashlarlaw08_Theirs.l0]
    rw [if_neg (by omega), List.drop_of_length_le (by omega)]; simp
  | succ d ih =>
    intro k i acc hi hk ha
    obtain ⟨k, rfl⟩ : ∃ m, k = m + 1 := ⟨k - 1, by omega⟩
    have hlt : i < l.length := by omega
    simp only [ashlarlaw08_Theirs.l0]
    rw [if_pos (by omega), if_pos (by omega), if_pos (by omega), if_pos (by omega), rdR l i hlt, w1 i (by omega), ih k (i + 1) _ (by omega) (by omega) (by simp [ha]), List.drop_eq_getElem_cons hlt, List.map_cons, List.append_assoc]
    rfl
theorem theirs_f (l : List S60) (hl : l.length ≤ 1000) (k : Nat) (hk : l.length < k) : ashlarlaw08_Theirs.f k l = some (l.map conv) := by
  have := theirs_loop l hl l.length k 0 [] (by omega) hk rfl
  rw [List.drop_zero, List.nil_append] at this
  exact this
theorem xor_range : ∀ (a b : Fin 256), 0 ≤ Go.bits .xor .u8 (a.val : Int) (b.val : Int) ∧ Go.bits .xor .u8 (a.val : Int) (b.val : Int) ≤ 255 := by
  intro a b
  show 0 ≤ IntKind.u8.wrap _ ∧ IntKind.u8.wrap _ ≤ 255
  rw [IntKind.wrap_u8]
  omega
theorem decS_ok (y : List Int) : (decS y).2 = 0 ∧ (encS (decS y).1).1 = y ∧ y.length = 256 ∨ (decS y).2 = 18 := by
  unfold decS
  by_cases h : y.length = 256
  · rw [if_pos h]
    by_cases c : (encS (decL y 16 0)).1 = y
    · rw [if_pos c]; exact .inl ⟨rfl, c, h⟩
    · rw [if_neg c]; exact .inr rfl
  · rw [if_neg h]; exact .inr rfl
theorem encS_len (l : List (Int × ByteArray)) (h : (encS l).2 = 0) : (encS l).1.length = 256 := by
  unfold encS at h ⊢
  by_cases h1 : 16 < l.length
  · rw [if_pos h1] at h; exact absurd h (by decide)
  · rw [if_neg h1] at h ⊢
    by_cases h2 : allB l = true
    · rw [if_pos h2]
      rw [List.length_append, flat_length h2, List.length_replicate]; omega
    · rw [if_neg h2] at h; exact absurd h (by decide)
theorem holds (l : List S60) (at_ by_ : Int) (ha : 0 ≤ at_) (hb : 0 ≤ by_ ∧ by_ ≤ 255) : ∃ k, ashlarlaw08_DirentOnce.f k l at_ by_ = some true := by
  refine ⟨300, ?_⟩
  unfold ashlarlaw08_DirentOnce.f
  rw [awake_f 300 (by omega)]
  simp only [Option.bind_some, if_true, ashlarlaw08_DirentOnce.j0]
  by_cases h : (l.length : Int) > 50
  · rw [decide_eq_true h, if_pos rfl, awake_f 299 (by omega)]; rfl
  · rw [decide_eq_false h, if_neg (by decide), theirs_f l (by omega) 299 (by omega)]
    simp only [Option.bind_some]
    rw [enc_f _ 299 (by omega), conv_pD]
    simp only [Option.bind_some]
    by_cases h0 : (encS (l.map pR)).2 = 0
    · have hl := encS_len _ h0
      have ht : Int.tmod at_ 256 = at_ % 256 := Int.tmod_eq_emod_of_nonneg ha
      obtain ⟨j, hj⟩ : ∃ j : Nat, (j : Int) = at_ % 256 := ⟨(at_ % 256).toNat, by omega⟩
      have hj2 : j < 256 := by omega
      rw [if_pos h0, ht, ← hj, if_pos (by omega), if_pos (by rw [hl]; omega), Int.toNat_natCast]
      have hbe := encS_bytes (l.map pR)
      have hr := rd_in hbe j (by omega)
      have hx := xor_range ⟨(rd (encS (l.map pR)).1 (j : Int)).toNat, by omega⟩ ⟨by_.toNat, by omega⟩
      simp only at hx
      rw [Int.toNat_of_nonneg hr.1, Int.toNat_of_nonneg hb.1] at hx
      have hby := hbe.set j hx
      obtain ⟨y, hy⟩ : ∃ y, (encS (l.map pR)).1.set j (Go.bits .xor .u8 (rd (encS (l.map pR)).1 (j : Int)) by_) = y := ⟨_, rfl⟩
      rw [hy] at hby ⊢
      rw [dec_f y hby 299 (by omega)]
      simp only [Option.bind_some]
      rcases decS_ok y with ⟨d1, d2, d3⟩ | d1
      · rw [if_pos d1, enc_f _ 299 (by omega), pD_mkD]
        simp only [Option.bind_some]
        have e0 : (encS (decS y).1).2 = 0 := by
          rcases encS_err (decS y).1 with e | e
          · exact e
          · rw [e] at d2; rw [← d2] at d3; simp at d3
        rw [if_pos e0, d2]; simp
      · rw [d1, if_neg (by decide)]; rfl
    · rw [if_neg h0]
      rcases encS_err (l.map pR) with e | e
      · exact absurd e h0
      · rw [e]; rfl
theorem walk (A0 : Option Addr) (c0 : Nat) (l0 : List S60) (a1 a2 : Int) (w : World) (hr0 : Kd.C k60 w A0 l0.length l0) (hc0 : l0.length ≤ c0) (w1 : (Lit.int .u64 a1).wf = true) (w2 : (Lit.int .u8 a2).wf = true) :
    Calls Try.prog 7 #[.slice A0 l0.length c0, .int .u64 a1, .int .u8 a2] w fun e w' => e = .returned (.bool true) ∧ Below w.heap.size w w' := by
  obtain ⟨k, h⟩ := holds l0 a1 a2 (u64_of_wf w1).1 (u8_of_wf w2)
  exact (ashlarlaw08_DirentOnce.calls k A0 c0 l0 a1 a2 true w hr0 hc0 h)
end Go.Proofs.Ytignifnkjlldpaa.PureDirentOnce
