/- The statement BitsRun, over numbers and lists alone: the run that is told is one, and the first. -/
import Derived.Test.YtpcdfmfmakahkaaPBitsRunx2
import Derived.Test.YtpcdfmfmakahkaaPackNum
namespace Go.Proofs.Ytpcdfmfmakahkaa.Pure
open Go.RowKit Go.Proofs.Ytpcdfmfmakahkaa.PBitsRun Go.Proofs.YtpcdfmfmakahkaaW.PrintWords Go.Proofs.YtpcdfmfmakahkaaW.PrintLast Go.Proofs.Ytpcdfmfmakahkaa.Num
/-- Bit i of a row. -/
def bit (n : Int) (b : List Int) (i : Nat) : Bool := decide ((i : Int) < n) && (Go.bits .and .u8 (shr .u8 (rd b ((i / 8 : Nat) : Int)) ((i % 8 : Nat) : Int)) 1 == 1)
theorem get_f (n : Int) (b : List Int) (hn : n ≤ 4096) (h0 : 0 ≤ n) (hl : (b.length : Int) = rowBytes n) (i : Nat) (hi : i < 100000) : bits_Row_Get.f n b i = some (bit n b i, n) := by
  have hr : rowBytes n = (n + 7) / 8 := by unfold rowBytes; rw [Int.tdiv_eq_ediv_of_nonneg (by omega)]
  unfold bits_Row_Get.f bit
  have e1 : wrap64 (Int.tdiv (i : Int) 8) = ((i / 8 : Nat) : Int) := by rw [Int.tdiv_eq_ediv_of_nonneg (by omega), w64 (by omega) (by omega)]; omega
  have e2 : IntKind.u64.wrap (Int.tmod (i : Int) 8) = ((i % 8 : Nat) : Int) := by rw [Int.tmod_eq_emod_of_nonneg (by omega), wu64 (by omega) (by omega)]; omega
  rw [e1, e2, if_pos (by omega)]
  by_cases h : (i : Int) < n
  · rw [if_pos h, if_pos (by omega), if_pos (by omega), if_pos (by omega), decide_eq_true h, Bool.true_and]
  · rw [if_neg h, decide_eq_false h, Bool.false_and]
theorem bit_lt {n : Int} {b : List Int} {i : Nat} (h : bit n b i = true) : (i : Int) < n := by
  unfold bit at h
  rw [Bool.and_eq_true] at h
  exact of_decide_eq_true h.1
/-- What Run tells: where m 0s begin first, or -1. -/
def RunIs (n : Int) (b : List Int) (m : Nat) (r : Int) : Prop :=
  (r = -1 ∧ ∀ s : Nat, ((s + m : Nat) : Int) ≤ n → ∃ j, s ≤ j ∧ j < s + m ∧ bit n b j = true) ∨
  (∃ a : Nat, r = a ∧ ((a + m : Nat) : Int) ≤ n ∧ (∀ j, a ≤ j → j < a + m → bit n b j = false) ∧ ∀ s : Nat, s < a → ∃ j, s ≤ j ∧ j < s + m ∧ bit n b j = true)
theorem run_loop (n : Int) (b : List Int) (h0 : 0 ≤ n) (hn : n ≤ 4096) (hl : (b.length : Int) = rowBytes n) (m : Nat) (hm : 1 ≤ m) (hm2 : m ≤ 40) (d : Nat) : ∀ (k i fr : Nat), (i : Int) + d = n → d < k → fr ≤ i → i < fr + m → (∀ j, fr ≤ j → j < i → bit n b j = false) → (∀ s : Nat, s < fr → ∃ j, s ≤ j ∧ j < s + m ∧ bit n b j = true) →
    ∃ r, bits_Row_Run.l0 k m fr n i n b = some (r, n) ∧ RunIs n b m r := by
  induction d with
  | zero =>
    intro k i fr hi hk hf hw hz hp
    obtain ⟨k, rfl⟩ : ∃ m, k = m + 1 := ⟨k - 1, by omega⟩
    simp only [bits_Row_Run.l0]
    rw [if_neg (by omega)]
    refine ⟨-1, rfl, .inl ⟨rfl, fun s hs => ?_⟩⟩
    exact hp s (by omega)
  | succ d ih =>
    intro k i fr hi hk hf hw hz hp
    obtain ⟨k, rfl⟩ : ∃ m, k = m + 1 := ⟨k - 1, by omega⟩
    have e4 : wrap64 ((i : Int) + 1) = ((i + 1 : Nat) : Int) := w64 (by omega) (by omega)
    simp only [bits_Row_Run.l0]
    rw [if_pos (by omega), get_f n b hn h0 hl i (by omega)]
    simp only [Option.bind_some, e4]
    by_cases hb : bit n b i = true
    · rw [if_pos hb]
      refine ih k (i + 1) (i + 1) (by omega) (by omega) (by omega) (by omega) (fun j h1 h2 => by omega) (fun s hs => ?_)
      by_cases c : s < fr
      · exact hp s c
      · exact ⟨i, by omega, by omega, hb⟩
    · have hb' : bit n b i = false := Bool.eq_false_iff.2 hb
      rw [if_neg hb]
      have e5 : wrap64 ((i : Int) - fr) = (i : Int) - fr := w64 (by omega) (by omega)
      have e6 : wrap64 ((m : Int) - 1) = (m : Int) - 1 := w64 (by omega) (by omega)
      rw [e5, e6]
      by_cases c : (i : Int) - fr = (m : Int) - 1
      · rw [if_pos c]
        refine ⟨fr, rfl, .inr ⟨fr, rfl, by omega, fun j h1 h2 => ?_, hp⟩⟩
        by_cases cj : j = i
        · rw [cj]; exact hb'
        · exact hz j h1 (by omega)
      · rw [if_neg c]
        refine ih k (i + 1) fr (by omega) (by omega) (by omega) (by omega) (fun j h1 h2 => ?_) hp
        by_cases cj : j = i
        · rw [cj]; exact hb'
        · exact hz j h1 (by omega)
theorem run_f (n : Int) (b : List Int) (h0 : 0 ≤ n) (hn : n ≤ 4096) (hl : (b.length : Int) = rowBytes n) (m : Nat) (hm : 1 ≤ m) (hm2 : m ≤ 40) (k : Nat) (hk : 5000 ≤ k) : ∃ r, bits_Row_Run.f k n b m = some (r, n) ∧ RunIs n b m r := by
  unfold bits_Row_Run.f bits_Row_Len.f
  rw [if_neg (by omega)]
  simp only [Option.bind_some]
  obtain ⟨N, rfl⟩ := Int.eq_ofNat_of_zero_le h0
  exact run_loop N b h0 hn hl m hm hm2 N k 0 0 (by omega) (by omega) (by omega) (by omega) (fun j h1 h2 => by omega) (fun s hs => by omega)
/-- Behind place i no m 0s begin ahead of where the loop ends. -/
def Stops (n : Int) (b : List Int) (m : Nat) (r : Int) (i : Nat) : Prop := (0 ≤ r ∧ r ≤ i) ∨ ∃ j, i ≤ j ∧ j < i + m ∧ (bit n b j = true ∨ n ≤ j)
theorem w_add (x y : Nat) (h : x + y ≤ 1000000) : wrap64 ((x : Int) + (y : Int)) = ((x + y : Nat) : Int) := by rw [w64 (by omega) (by omega)]; omega
theorem w_succ (x : Nat) (h : x ≤ 1000000) : wrap64 ((x : Int) + 1) = ((x + 1 : Nat) : Int) := w64 (by omega) (by omega)
theorem inner (n : Int) (b : List Int) (h0 : 0 ≤ n) (hn : n ≤ 4096) (hg : ∀ i : Nat, i < 100000 → bits_Row_Get.f n b i = some (bit n b i, n)) (m : Nat) (hm2 : m ≤ 40) (r : Int) (i : Nat) (hi : (i : Int) < n) (j : Nat) (hj : i ≤ j) (hjm : j < i + m) (hs : bit n b j = true ∨ n ≤ j)
    (d : Nat) : ∀ (k c : Nat), c + d = m → c ≤ j - i → (∀ k', k ≤ k' + (d + 2) → ashlarlaw01_BitsRun.l1 k' m r n ((i + 1 : Nat) : Int) n b = some (true, n)) → d < k → ashlarlaw01_BitsRun.l2 k m r i c n i n b = some (true, n) := by
  induction d with
  | zero =>
    intro k c hc hcj _ _
    exfalso
    omega
  | succ d ih =>
    intro k c hc hcj hk hdk
    obtain ⟨k, rfl⟩ : ∃ m, k = m + 1 := ⟨k - 1, by omega⟩
    have b1 : i + c ≤ 1000000 := by omega
    have b2 : c ≤ 1000000 := by omega
    have b3 : i ≤ 1000000 := by omega
    have e1 := w_add i c b1
    have e2 := w_succ c b2
    have e4 := w_succ i b3
    simp only [ashlarlaw01_BitsRun.l2, bits_Row_Len.f, Option.bind_some, e1, e2, e4]
    clear e1 e2 e4
    rw [if_pos (by omega)]
    by_cases c1 : ((i + c : Nat) : Int) < n
    · rw [if_pos c1, hg (i + c) (by omega)]
      simp only [Option.bind_some]
      by_cases hb : bit n b (i + c) = true
      · have cm : ¬ ((c : Int) = (m : Int)) := by omega
        have kk : k + 1 ≤ k + (d + 1 + 2) := by omega
        rw [if_pos hb, if_neg cm]
        exact hk k kk
      · rw [if_neg hb]
        have k1 : c + 1 + d = m := by omega
        have k2 : d < k := by omega
        have k3 : ∀ k', k ≤ k' + (d + 2) → ashlarlaw01_BitsRun.l1 k' m r n ((i + 1 : Nat) : Int) n b = some (true, n) := fun k' h => hk k' (by omega)
        refine ih k (c + 1) k1 ?_ k3 k2
        rcases hs with hs | hs
        · have : i + c ≠ j := fun e => hb (by rw [e]; exact hs)
          omega
        · omega
    · have cm : ¬ ((c : Int) = (m : Int)) := by omega
      have kk : k + 1 ≤ k + (d + 1 + 2) := by omega
      rw [if_neg c1, if_neg cm]
      exact hk k kk
theorem outer (n : Int) (b : List Int) (h0 : 0 ≤ n) (hn : n ≤ 4096) (hl : (b.length : Int) = rowBytes n) (m : Nat) (hm : 1 ≤ m) (hm2 : m ≤ 40) (r : Int) (hs : ∀ i : Nat, (i : Int) < n → Stops n b m r i) (d : Nat) : ∀ (k i : Nat), (i : Int) + d = n → d * 50 < k →
    ashlarlaw01_BitsRun.l1 k m r n i n b = some (true, n) := by
  induction d with
  | zero =>
    intro k i hi hk
    obtain ⟨k, rfl⟩ : ∃ m, k = m + 1 := ⟨k - 1, by omega⟩
    simp only [ashlarlaw01_BitsRun.l1]
    rw [if_neg (by omega)]
  | succ d ih =>
    intro k i hi hk
    obtain ⟨k, rfl⟩ : ∃ m, k = m + 2 := ⟨k - 2, by omega⟩
    have goOn : (¬ (0 ≤ r ∧ r ≤ i)) → ashlarlaw01_BitsRun.j3 (k + 1) m r i n i false n b = some (true, n) := by
      intro hr
      obtain ⟨j, hj, hjm, hs'⟩ := (hs i (by omega)).resolve_left hr
      simp only [ashlarlaw01_BitsRun.j3]
      rw [if_neg (by decide)]
      exact inner n b h0 hn (get_f n b hn h0 hl) m hm2 r i (by omega) j hj hjm hs' m k 0 (by omega) (by omega) (fun k' h => ih k' (i + 1) (by omega) (by omega)) (by omega)
    simp only [ashlarlaw01_BitsRun.l1]
    rw [if_pos (by omega)]
    by_cases c : r ≥ 0
    · rw [if_pos c]
      by_cases c2 : (i : Int) ≥ r
      · rw [decide_eq_true c2]
        simp only [ashlarlaw01_BitsRun.j3]
        rw [if_pos trivial]
      · rw [decide_eq_false c2]
        exact goOn (by omega)
    · rw [if_neg c]
      exact goOn (by omega)
theorem first_loop (n : Int) (b : List Int) (h0 : 0 ≤ n) (hn : n ≤ 4096) (hg : ∀ i : Nat, i < 100000 → bits_Row_Get.f n b i = some (bit n b i, n)) (m : Nat) (hm2 : m ≤ 40) (a : Nat) (ha : ((a + m : Nat) : Int) ≤ n) (hz : ∀ j, a ≤ j → j < a + m → bit n b j = false) (K : Nat) (hK : ∀ k', K ≤ k' → ashlarlaw01_BitsRun.j1 k' m a n b = some (true, n)) (d : Nat) : ∀ (k i : Nat), i + d = m → K + d < k →
    ashlarlaw01_BitsRun.l0 k m a m i n b = some (true, n) := by
  induction d with
  | zero =>
    intro k i hi hk
    obtain ⟨k, rfl⟩ : ∃ m, k = m + 1 := ⟨k - 1, by omega⟩
    simp only [ashlarlaw01_BitsRun.l0]
    rw [if_neg (by omega)]
    exact hK k (by omega)
  | succ d ih =>
    intro k i hi hk
    obtain ⟨k, rfl⟩ : ∃ m, k = m + 1 := ⟨k - 1, by omega⟩
    have b1 : a + i ≤ 1000000 := by omega
    have b3 : i ≤ 1000000 := by omega
    have e1 := w_add a i b1
    have e4 := w_succ i b3
    simp only [ashlarlaw01_BitsRun.l0, bits_Row_Len.f, Option.bind_some, e1, e4]
    clear e1 e4
    rw [if_pos (by omega), if_neg (by omega), hg (a + i) (by omega)]
    simp only [Option.bind_some]
    have hb := Bool.eq_false_iff.1 (hz (a + i) (by omega) (by omega))
    rw [if_neg hb]
    exact ih k (i + 1) (by omega) (by omega)
theorem BitsRun : ashlarlaw01_BitsRun.Pure := by
  intro n b many _ _ _ _ wm _ hof
  have hm := u8_of_wf wm
  obtain ⟨h0, hn, hl, _⟩ := hof
  obtain ⟨m, hm'⟩ : ∃ m : Nat, (m : Int) = 1 + many % 40 := ⟨(1 + many % 40).toNat, by omega⟩
  have e : wrap64 (1 + (wrap64 (Int.tmod many 40))) = (m : Int) := by
    have e0 : wrap64 (many % 40) = many % 40 := w64 (by omega) (by omega)
    rw [Int.tmod_eq_emod_of_nonneg hm.1, e0, w64 (by omega) (by omega), hm']
  obtain ⟨r, hr, hR⟩ := run_f n b h0 hn hl m (by omega) (by omega) 300000 (by omega)
  obtain ⟨N, hN⟩ := Int.eq_ofNat_of_zero_le h0
  have hs : ∀ i : Nat, (i : Int) < n → Stops n b m r i := by
    intro i hi
    rcases hR with ⟨hr1, hno⟩ | ⟨a, hr1, ham, hz, hno⟩
    · by_cases c : ((i + m : Nat) : Int) ≤ n
      · obtain ⟨j, h1, h2, h3⟩ := hno i c
        exact .inr ⟨j, h1, h2, .inl h3⟩
      · exact .inr ⟨N, by omega, by omega, .inr (by omega)⟩
    · by_cases c : i < a
      · obtain ⟨j, h1, h2, h3⟩ := hno i c
        exact .inr ⟨j, h1, h2, .inl h3⟩
      · exact .inl (by omega)
  have hj : ∀ k', 250000 ≤ k' → ashlarlaw01_BitsRun.j1 k' m r n b = some (true, n) := by
    intro k' hk'
    obtain ⟨k, rfl⟩ : ∃ m, k' = m + 1 := ⟨k' - 1, by omega⟩
    simp only [ashlarlaw01_BitsRun.j1, bits_Row_Len.f, Option.bind_some]
    exact outer n b h0 hn hl m (by omega) (by omega) r hs N k 0 (by omega) (by omega)
  refine ⟨300000, n, ?_⟩
  unfold ashlarlaw01_BitsRun.f
  rw [e, hr]
  simp only [Option.bind_some]
  by_cases c : r ≥ 0
  · rw [if_pos c]
    rcases hR with ⟨hr1, hno⟩ | ⟨a, hr1, ham, hz, hno⟩
    · omega
    · subst hr1
      exact first_loop n b h0 hn (get_f n b hn h0 hl) m (by omega) a ham hz 250000 hj m 300000 0 (by omega) (by omega)
  · rw [if_neg c]
    exact hj 300000 (by omega)
end Go.Proofs.Ytpcdfmfmakahkaa.Pure
