/- The statement GeomTells, over numbers alone: of any number of blocks, any block and any group all is where the document says; for all whole numbers of 64 bits. -/
import Derived.Test.YtpcdfmfmakahkaaPGeomTellsx2
import Derived.Test.YtpcdfmfmakahkaaPackNum
namespace Go.Proofs.Ytpcdfmfmakahkaa.Pure
open Go.RowKit Go.Proofs.Ytpcdfmfmakahkaa.PGeomTells Go.Proofs.YtpcdfmfmakahkaaW.PrintWords Go.Proofs.YtpcdfmfmakahkaaW.PrintLast Go.Proofs.Ytpcdfmfmakahkaa.Num
theorem tells_awake : ashlarlaw04_awake.f = some true := by decide +kernel
theorem tdiv64 {x : Int} (h : 0 ≤ x) : Int.tdiv x 64 = x / 64 := Int.tdiv_eq_ediv_of_nonneg h
theorem tmod64 {x : Int} (h : 0 ≤ x) : Int.tmod x 64 = x % 64 := Int.tmod_eq_emod_of_nonneg h
def formed (a : Int) : Bool := decide (64 ≤ a ∧ a ≤ 768 ∧ a % 64 = 0)
theorem formed_f (a : Int) (h : -9223372036854775808 ≤ a ∧ a ≤ 9223372036854775807) : geom_Formed.f a = some (formed a) := by
  unfold geom_Formed.f formed
  by_cases h0 : a > 0
  · rw [if_pos h0, tmod64 (by omega), tdiv64 (by omega), w64 (by omega) (by omega)]
    by_cases h1 : a % 64 = 0
    · rw [if_pos h1]; congr 1; apply decide_eq_decide.2; omega
    · rw [if_neg h1]; congr 1; symm; apply decide_eq_false; omega
  · rw [if_neg h0]; congr 1; symm; apply decide_eq_false; omega
theorem rformed_f (a : Int) : ashlarref01_Formed.f a = some (formed a) := by
  unfold ashlarref01_Formed.f formed
  by_cases h0 : a ≥ 64
  · rw [if_pos h0, tmod64 (by omega)]
    by_cases h1 : a ≤ 768
    · rw [if_pos h1]; congr 1
      by_cases h2 : a % 64 = 0
      · rw [decide_eq_true (by omega)]; simp [h2]
      · rw [decide_eq_false (by omega)]; simp [h2]
    · rw [if_neg h1]; congr 1; symm; apply decide_eq_false; omega
  · rw [if_neg h0]; congr 1; symm; apply decide_eq_false; omega
theorem groups_f (a : Int) (h : -9223372036854775808 ≤ a ∧ a ≤ 9223372036854775807) : geom_Groups.f a = ashlarref01_Groups.f a := by
  unfold geom_Groups.f ashlarref01_Groups.f; rw [formed_f a h, rformed_f a]
set_option maxRecDepth 100000 in
theorem open_all : ∀ r : Fin 12, geom_Open.f (64 * (1 + (r.val : Int))) = ashlarref01_OpenBlocks.f 1600 (64 * (1 + (r.val : Int))) ∧ (ashlarref01_OpenBlocks.f 1600 (64 * (1 + (r.val : Int)))).isSome = true := by decide +kernel
theorem open_f (a : Int) (h : -9223372036854775808 ≤ a ∧ a ≤ 9223372036854775807) : ∃ r, geom_Open.f a = some r ∧ ashlarref01_OpenBlocks.f 1600 a = some r := by
  cases hf : formed a
  · refine ⟨0, ?_, ?_⟩
    · unfold geom_Open.f geom_Groups.f; rw [formed_f a h, hf]; rfl
    · unfold ashlarref01_OpenBlocks.f; rw [rformed_f a, hf]; rfl
  · have hd : 64 ≤ a ∧ a ≤ 768 ∧ a % 64 = 0 := of_decide_eq_true hf
    have ha := open_all ⟨(a / 64 - 1).toNat, by omega⟩
    have e2 : (((a / 64 - 1).toNat : Nat) : Int) = a / 64 - 1 := by omega
    have e3 : 64 * (1 + (a / 64 - 1)) = a := by omega
    simp only [e2, e3] at ha
    obtain ⟨r, hr⟩ := Option.isSome_iff_exists.1 ha.2
    exact ⟨r, by rw [ha.1, hr], hr⟩
theorem group_f (a : Int) : geom_Group.f a = ashlarref01_Group.f a := rfl
def fixed (n : Int) : Bool := decide (0 ≤ n ∧ n < 768 ∧ (n < 43 ∨ n = 63 ∨ (64 ≤ n ∧ n % 64 < 2)))
theorem fixed_f (n : Int) (h : -9223372036854775808 ≤ n ∧ n ≤ 9223372036854775807) (k : Nat) : geom_Fixed.f (k + 1) n = some (fixed n) := by
  unfold geom_Fixed.f geom_Group.f
  by_cases h0 : n < 0
  · rw [if_pos h0]; simp only [Option.bind_some]; rw [if_pos (by decide)]; simp only [geom_Fixed.j0]; rw [if_pos trivial]
    congr 1; symm; apply decide_eq_false; omega
  · rw [if_neg h0, tdiv64 (by omega), w64 (by omega) (by omega)]; simp only [Option.bind_some]; rw [if_neg (by omega)]
    by_cases h1 : n / 64 ≥ 12
    · rw [decide_eq_true h1]; simp only [geom_Fixed.j0]; rw [if_pos trivial]; congr 1; symm; apply decide_eq_false; omega
    · rw [decide_eq_false h1]; simp only [geom_Fixed.j0]; rw [if_neg (by decide)]
      by_cases h2 : n / 64 = 0
      · rw [if_pos h2]
        by_cases h3 : n < 43
        · rw [if_pos h3]; congr 1; symm; apply decide_eq_true; omega
        · rw [if_neg h3]; congr 1
          by_cases h4 : n = 63
          · subst h4; rfl
          · rw [beq_eq_false_iff_ne.2 h4]; symm; apply decide_eq_false; omega
      · rw [if_neg h2, tmod64 (by omega)]; congr 1; apply decide_eq_decide.2; omega
theorem rfixed_f (n : Int) (k : Nat) : ashlarref01_Fixed.f (k + 1) n = some (fixed n) := by
  unfold ashlarref01_Fixed.f
  by_cases h0 : n < 0
  · rw [if_pos h0]; simp only [ashlarref01_Fixed.j0]; rw [if_pos trivial]; congr 1; symm; apply decide_eq_false; omega
  · rw [if_neg h0]
    by_cases h1 : n ≥ 768
    · rw [decide_eq_true h1]; simp only [ashlarref01_Fixed.j0]; rw [if_pos trivial]; congr 1; symm; apply decide_eq_false; omega
    · rw [decide_eq_false h1]; simp only [ashlarref01_Fixed.j0]; rw [if_neg (by decide)]
      by_cases h2 : n < 64
      · rw [if_pos h2]
        by_cases h3 : n < 43
        · rw [if_pos h3]; congr 1; symm; apply decide_eq_true; omega
        · rw [if_neg h3]; congr 1
          by_cases h4 : n = 63
          · subst h4; rfl
          · rw [beq_eq_false_iff_ne.2 h4]; symm; apply decide_eq_false; omega
      · rw [if_neg h2, tmod64 (by omega)]; congr 1; apply decide_eq_decide.2; omega
def desc (g : Int) : Int := if g < 0 ∨ 12 ≤ g then -1 else if g = 0 then 1 else 64 * g
theorem desc_f (g : Int) (k : Nat) : geom_Desc.f (k + 1) g = some (desc g) := by
  unfold geom_Desc.f desc
  by_cases h0 : g < 0
  · rw [if_pos h0, if_pos (by omega)]; simp only [geom_Desc.j0]; rw [if_pos trivial]
  · rw [if_neg h0]
    by_cases h1 : g ≥ 12
    · rw [decide_eq_true h1, if_pos (by omega)]; simp only [geom_Desc.j0]; rw [if_pos trivial]
    · rw [decide_eq_false h1, if_neg (by omega)]; simp only [geom_Desc.j0]; rw [if_neg (by decide)]
      by_cases h2 : g = 0
      · rw [if_pos h2, if_pos h2]
      · rw [if_neg h2, if_neg h2, w64 (by omega) (by omega), Int.mul_comm]
theorem rdesc_f (g : Int) (k : Nat) : ashlarref01_Desc.f (k + 1) g = some (desc g) := by
  unfold ashlarref01_Desc.f desc
  by_cases h0 : g < 0
  · rw [if_pos h0, if_pos (by omega)]; simp only [ashlarref01_Desc.j0]; rw [if_pos trivial]
  · rw [if_neg h0]
    by_cases h1 : g > 11
    · rw [decide_eq_true h1, if_pos (by omega)]; simp only [ashlarref01_Desc.j0]; rw [if_pos trivial]
    · rw [decide_eq_false h1, if_neg (by omega)]; simp only [ashlarref01_Desc.j0]; rw [if_neg (by decide)]
      by_cases h2 : g = 0
      · rw [if_pos h2, if_pos h2]
      · rw [if_neg h2, if_neg h2, w64 (by omega) (by omega)]
theorem owners_f (g : Int) (k : Nat) : ∃ r, geom_Owners.f (k + 1) g = some r ∧ ashlarref01_Owners.f (k + 1) g = some r := by
  unfold geom_Owners.f ashlarref01_Owners.f
  rw [desc_f, rdesc_f]
  simp only [Option.bind_some]
  by_cases h : desc g ≥ 0
  · rw [if_pos h, if_neg (by omega)]; exact ⟨_, rfl, rfl⟩
  · rw [if_neg h, if_pos (by omega)]; exact ⟨_, rfl, rfl⟩
theorem GeomTells : ashlarlaw04_GeomTells.Pure := by
  intro a n g wa wn wg
  have ha := i64_of_wf wa
  have hn := i64_of_wf wn
  obtain ⟨r, h1, h2⟩ := open_f a ha
  obtain ⟨gr, h3⟩ : ∃ gr, geom_Groups.f a = some gr := by
    unfold geom_Groups.f; rw [formed_f a ha]; cases formed a <;> exact ⟨_, rfl⟩
  have h4 : ashlarref01_Groups.f a = some gr := by rw [← groups_f a ha, h3]
  obtain ⟨gn, h5⟩ : ∃ gn, geom_Group.f n = some gn := by
    unfold geom_Group.f; split <;> exact ⟨_, rfl⟩
  have h6 : ashlarref01_Group.f n = some gn := by rw [← group_f n, h5]
  obtain ⟨ow, h7, h8⟩ := owners_f g 1598
  refine ⟨1600, ?_⟩
  unfold ashlarlaw04_GeomTells.f geom_Room.f ashlarref01_Room.f
  rw [tells_awake, formed_f a ha, rformed_f a]
  simp only [Option.bind_some, if_true, h1, h2, h3, h4, bne_self_eq_false, Bool.false_eq_true, if_false, ashlarlaw04_GeomTells.j0, h5, h6, h7, h8, fixed_f n hn 1598, rfixed_f n 1598, desc_f g 1598, rdesc_f g 1598, beq_self_eq_true]
end Go.Proofs.Ytpcdfmfmakahkaa.Pure
