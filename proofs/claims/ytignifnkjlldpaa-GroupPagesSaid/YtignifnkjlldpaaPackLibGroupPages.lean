/- What the printed functions of the packages pack and ashlarref01 (numbers in bytes, sums, sealed blocks) come to: plain Lean, no Go. -/
import Derived.Test.YtignifnkjlldpaaPackNum
import Derived.Test.YtignifnkjlldpaaPGroupPagesx2
import Derived.Test.YtignifnkjlldpaaPGroupPagesx3
import Derived.Test.YtignifnkjlldpaaPGroupPagesx4
import Derived.Test.YtignifnkjlldpaaPGroupPagesx5
namespace Go.Proofs.Ytignifnkjlldpaa.PureGroupPages
open Go.RowKit Go.Proofs.Ytignifnkjlldpaa.PGroupPages Go.Proofs.YtignifnkjlldpaaW.PrintWords Go.Proofs.YtignifnkjlldpaaW.PrintLast Go.Proofs.YtignifnkjlldpaaW.PrintMore Go.Proofs.Ytignifnkjlldpaa.Num

theorem clone_f (l : List Int) (h : l.length ≤ 140737488355327) : slices_Clone_byte_byte.f l = some l := by
  unfold slices_Clone_byte_byte.f; rw [if_pos (by omega)]
theorem concat_f (a b : List Int) (h : a.length + b.length ≤ 140737488355327) : slices_Concat_byte_byte.f [a, b] = some (a ++ b) := by
  unfold slices_Concat_byte_byte.f; rw [if_pos (by simp; omega)]; simp

theorem put_loop (l : List Int) (n : Int) (s : Nat) (hs : s ≤ 8) (hl : l.length ≤ 140737488355319) (d : Nat) : ∀ (k i : Nat), i + d = s → d < k →
    pack_Put.l0 k l n (l ++ putN n i ++ List.replicate d 0) s i = some (l ++ putN n s) := by
  induction d with
  | zero =>
    intro k i hi hk
    obtain ⟨k, rfl⟩ : ∃ m, k = m + 1 := ⟨k - 1, by omega⟩
    obtain rfl : i = s := by omega
    simp only [pack_Put.l0]; rw [if_neg (by omega)]; simp
  | succ d ih =>
    intro k i hi hk
    obtain ⟨k, rfl⟩ : ∃ m, k = m + 1 := ⟨k - 1, by omega⟩
    have hi' : i < 8 := by omega
    have e1 : wrap64 (8 * (i : Int)) = 8 * (i : Int) := w64 (by omega) (by omega)
    have e2 : IntKind.u64.wrap (8 * (i : Int)) = 8 * (i : Int) := wu64 (by omega) (by omega)
    have e3 : wrap64 ((l.length : Int) + i) = (l.length : Int) + i := w64 (by omega) (by omega)
    have e4 : wrap64 ((i : Int) + 1) = ((i + 1 : Nat) : Int) := w64 (by omega) (by omega)
    simp only [pack_Put.l0, e1, e2, e3, e4]
    rw [if_pos (by omega), if_pos (by omega), if_pos (by omega), if_pos (by simp [putN_length]; omega), shr_byte n i hi', ← ih k (i + 1) (by omega) (by omega), putN_succ]
    congr 1
    have e5 : ((l.length : Int) + i).toNat = (l ++ putN n i).length := by simp [putN_length]; omega
    rw [e5, List.set_append_right _ _ (Nat.le_refl _), Nat.sub_self, List.replicate_succ, List.set_cons_zero]
    simp
theorem put_f (l : List Int) (n s : Int) (hl : l.length ≤ 140737488355319) (k : Nat) (hk : 10 ≤ k) :
    pack_Put.f k l n s = some (if 1 ≤ s ∧ s ≤ 8 then l ++ putN n s.toNat else l) := by
  obtain ⟨k, rfl⟩ : ∃ m, k = m + 1 := ⟨k - 1, by omega⟩
  unfold pack_Put.f
  by_cases h1 : s < 1
  · rw [if_pos h1, if_neg (by omega)]; simp only [pack_Put.j0]; rw [if_pos trivial, clone_f l (by omega)]; rfl
  · rw [if_neg h1]
    by_cases h2 : s > 8
    · rw [if_neg (by omega)]; simp only [pack_Put.j0, decide_eq_true h2]; rw [if_pos trivial, clone_f l (by omega)]; rfl
    · rw [if_pos (by omega)]; simp only [pack_Put.j0, decide_eq_false h2]
      rw [if_neg (by decide), if_pos (by omega), if_pos (by omega), concat_f l _ (by simp; omega)]
      simp only [Option.bind_some]
      obtain ⟨m, rfl⟩ := Int.eq_ofNat_of_zero_le (show 0 ≤ s by omega)
      have := put_loop l n m (by omega) hl m k 0 (by omega) (by omega)
      simpa [putN] using this

theorem rput_loop (l : List Int) (n : Int) (s : Nat) (hs : s ≤ 8) (hl : l.length ≤ 140737488355319) (d : Nat) : ∀ (k i : Nat), i + d = s → d < k →
    ashlarref01_Put.l0 k n (l ++ putN n i) s i = some (l ++ putN n s) := by
  induction d with
  | zero =>
    intro k i hi hk
    obtain ⟨k, rfl⟩ : ∃ m, k = m + 1 := ⟨k - 1, by omega⟩
    obtain rfl : i = s := by omega
    simp only [ashlarref01_Put.l0]; rw [if_neg (by omega)]
  | succ d ih =>
    intro k i hi hk
    obtain ⟨k, rfl⟩ : ∃ m, k = m + 1 := ⟨k - 1, by omega⟩
    have hi' : i < 8 := by omega
    have e1 : wrap64 (8 * (i : Int)) = 8 * (i : Int) := w64 (by omega) (by omega)
    have e4 : wrap64 ((i : Int) + 1) = ((i + 1 : Nat) : Int) := w64 (by omega) (by omega)
    simp only [ashlarref01_Put.l0, e1, e4]
    rw [if_pos (by omega), if_pos (by omega), if_pos (by simp [putN_length]; omega), shr_byte n i hi', ← ih k (i + 1) (by omega) (by omega), putN_succ, List.append_assoc]
theorem rput_f (l : List Int) (n s : Int) (hl : l.length ≤ 140737488355319) (k : Nat) (hk : 10 ≤ k) :
    ashlarref01_Put.f k l n s = some (if 1 ≤ s ∧ s ≤ 8 then l ++ putN n s.toNat else l) := by
  obtain ⟨k, rfl⟩ : ∃ m, k = m + 1 := ⟨k - 1, by omega⟩
  unfold ashlarref01_Put.f
  simp only [Option.bind_some, List.length_nil, List.nil_append]
  rw [if_pos (by omega)]
  by_cases h1 : s < 1
  · rw [if_pos h1, if_neg (by omega)]; simp only [ashlarref01_Put.j0]; rw [if_pos trivial]
  · rw [if_neg h1]
    by_cases h2 : s > 8
    · rw [if_neg (by omega)]; simp only [ashlarref01_Put.j0, decide_eq_true h2]; rw [if_pos trivial]
    · rw [if_pos (by omega)]; simp only [ashlarref01_Put.j0, decide_eq_false h2]
      rw [if_neg (by decide)]
      obtain ⟨m, rfl⟩ := Int.eq_ofNat_of_zero_le (show 0 ≤ s by omega)
      have := rput_loop l n m (by omega) hl m k 0 (by omega) (by omega)
      simpa [putN] using this
/-- The bytes of a number that stands somewhere. -/
def at_ (l : List Int) (a s : Nat) : List Int := (l.drop a).take s
theorem at_length (l : List Int) (a s : Nat) (h : a + s ≤ l.length) : (at_ l a s).length = s := by simp [at_]; omega
theorem at_bytes {l : List Int} (h : Bytes l) (a s : Nat) : Bytes (at_ l a s) := (h.drop a).take s
theorem at_cons (l : List Int) (a s : Nat) (h : a < l.length) : at_ l a (s + 1) = l[a] :: at_ l (a + 1) s := by
  unfold at_; rw [drop_cons h, List.take_succ_cons]
theorem at_snoc (l : List Int) (a s : Nat) (h : a + s < l.length) : at_ l a (s + 1) = at_ l a s ++ [l[a + s]] := by
  unfold at_
  rw [List.take_succ_eq_append_getElem (by simp; omega)]
  simp
theorem pow56 (s : Nat) (h : s ≤ 7) : (256 : Int) ^ s ≤ 72057594037927936 := by
  have h1 : (256 : Nat) ^ s ≤ 256 ^ 7 := Nat.pow_le_pow_right (by decide) h
  have h2 : ((256 ^ s : Nat) : Int) ≤ ((256 ^ 7 : Nat) : Int) := Int.ofNat_le.2 h1
  simpa using h2
theorem get_loop (l : List Int) (hb : Bytes l) (a s : Nat) (hs : s ≤ 8) (hl : a + s ≤ l.length) (hm : l.length ≤ 140737488355327) (d : Nat) : ∀ (k i : Nat), d = i → i ≤ s → d < k →
    pack_Get.l0 k l a (leval (at_ l (a + i) (s - i))) ((i : Int) - 1) = some (leval (at_ l a s), true) := by
  induction d with
  | zero =>
    intro k i hi his hk
    obtain ⟨k, rfl⟩ : ∃ m, k = m + 1 := ⟨k - 1, by omega⟩
    subst hi
    simp only [pack_Get.l0]; rw [if_neg (by omega)]; simp
  | succ d ih =>
    intro k i hi his hk
    obtain ⟨k, rfl⟩ : ∃ m, k = m + 1 := ⟨k - 1, by omega⟩
    obtain rfl : i = d + 1 := by omega
    have e1 : wrap64 ((a : Int) + (((d + 1 : Nat) : Int) - 1)) = ((a + d : Nat) : Int) := by rw [w64 (by omega) (by omega)]; omega
    have e2 : wrap64 (((d + 1 : Nat) : Int) - 1 - 1) = (d : Int) - 1 := by rw [w64 (by omega) (by omega)]; omega
    simp only [pack_Get.l0, e1, e2]
    rw [if_pos (by omega), if_pos (by omega), if_pos (by omega), rd_nat l (a + d) (by omega)]
    have hr := leval_range (at_bytes hb (a + (d + 1)) (s - (d + 1)))
    rw [at_length l _ _ (by omega)] at hr
    have hp := pow56 (s - (d + 1)) (by omega)
    have hx := hb.get (i := a + d) (by omega)
    rw [or_low _ _ hr.1 (by omega) hx.1 hx.2, ← ih k d rfl (by omega) (by omega)]
    rw [show s - d = (s - (d + 1)) + 1 by omega, at_cons l (a + d) _ (by omega)]
    rfl
theorem get_f (l : List Int) (hb : Bytes l) (hm : l.length ≤ 140737488355327) (a s : Int) (ha : -9223372036854775808 ≤ a) (k : Nat) (hk : 10 ≤ k) :
    pack_Get.f k l a s = some (if 1 ≤ s ∧ s ≤ 8 ∧ 0 ≤ a ∧ a ≤ l.length ∧ s ≤ l.length - a then (leval (at_ l a.toNat s.toNat), true) else (0, false)) := by
  obtain ⟨k, rfl⟩ : ∃ m, k = m + 1 := ⟨k - 1, by omega⟩
  unfold pack_Get.f
  have e0 : pack_Get.j0 (k + 1) l a s 0 true = some (0, false) := by simp only [pack_Get.j0]; rw [if_pos trivial]
  by_cases h1 : s < 1
  · rw [if_pos h1, e0, if_neg (by omega)]
  rw [if_neg h1]
  by_cases h2 : s > 8
  · rw [if_pos h2, e0, if_neg (by omega)]
  rw [if_neg h2]
  by_cases h3 : a < 0
  · rw [if_pos h3, e0, if_neg (by omega)]
  rw [if_neg h3]
  by_cases h4 : a > (l.length : Int)
  · rw [if_pos h4, e0, if_neg (by omega)]
  rw [if_neg h4, w64 (by omega) (by omega)]
  by_cases h5 : s > (l.length : Int) - a
  · rw [decide_eq_true h5, e0, if_neg (by omega)]
  · rw [decide_eq_false h5, if_pos (by omega)]
    simp only [pack_Get.j0]
    obtain ⟨a, rfl⟩ := Int.eq_ofNat_of_zero_le (show 0 ≤ a by omega)
    obtain ⟨s, rfl⟩ := Int.eq_ofNat_of_zero_le (show 0 ≤ s by omega)
    rw [if_neg (by decide), w64 (by omega) (by omega)]
    have := get_loop l hb a s (by omega) (by omega) hm s k s rfl (Nat.le_refl _) (by omega)
    simpa [at_, leval] using this
theorem rget_loop (l : List Int) (hb : Bytes l) (a s : Nat) (hs : s ≤ 8) (hl : a + s ≤ l.length) (hm : l.length ≤ 140737488355327) (d : Nat) : ∀ (k i : Nat), i + d = s → d < k →
    ashlarref01_Get.l0 k l a (leval (at_ l a i)) s i = some (leval (at_ l a s), true) := by
  induction d with
  | zero =>
    intro k i hi hk
    obtain ⟨k, rfl⟩ : ∃ m, k = m + 1 := ⟨k - 1, by omega⟩
    obtain rfl : i = s := by omega
    simp only [ashlarref01_Get.l0]; rw [if_neg (by omega)]
  | succ d ih =>
    intro k i hi hk
    obtain ⟨k, rfl⟩ : ∃ m, k = m + 1 := ⟨k - 1, by omega⟩
    have e1 : wrap64 ((a : Int) + (i : Int)) = ((a + i : Nat) : Int) := by rw [w64 (by omega) (by omega)]; omega
    have e2 : wrap64 (8 * (i : Int)) = 8 * (i : Int) := w64 (by omega) (by omega)
    have e4 : wrap64 ((i : Int) + 1) = ((i + 1 : Nat) : Int) := w64 (by omega) (by omega)
    simp only [ashlarref01_Get.l0, e1, e2, e4]
    rw [if_pos (by omega), if_pos (by omega), if_pos (by omega), if_pos (by omega), rd_nat l (a + i) (by omega)]
    have hr := leval_range (at_bytes hb a i)
    rw [at_length l _ _ (by omega)] at hr
    have hx := hb.get (i := a + i) (by omega)
    rw [or_high _ _ i (by omega) hr.1 hr.2 hx.1 hx.2, ← ih k (i + 1) (by omega) (by omega), at_snoc l a i (by omega), leval_snoc, at_length l _ _ (by omega)]
theorem rget_f (l : List Int) (hb : Bytes l) (hm : l.length ≤ 140737488355327) (a s : Int) (ha : -9223372036854775808 ≤ a) (k : Nat) (hk : 10 ≤ k) :
    ashlarref01_Get.f k l a s = some (if 1 ≤ s ∧ s ≤ 8 ∧ 0 ≤ a ∧ a ≤ l.length ∧ s ≤ l.length - a then (leval (at_ l a.toNat s.toNat), true) else (0, false)) := by
  obtain ⟨k, rfl⟩ : ∃ m, k = m + 1 := ⟨k - 1, by omega⟩
  unfold ashlarref01_Get.f
  have e0 : ashlarref01_Get.j0 (k + 1) l a s true = some (0, false) := by simp only [ashlarref01_Get.j0]; rw [if_pos trivial]
  by_cases h1 : s < 1
  · rw [if_pos h1, e0, if_neg (by omega)]
  rw [if_neg h1]
  by_cases h2 : s > 8
  · rw [if_pos h2, e0, if_neg (by omega)]
  rw [if_neg h2]
  by_cases h3 : a < 0
  · rw [if_pos h3, e0, if_neg (by omega)]
  rw [if_neg h3]
  by_cases h4 : a > (l.length : Int)
  · rw [if_pos h4, e0, if_neg (by omega)]
  rw [if_neg h4, w64 (by omega) (by omega)]
  by_cases h5 : s > (l.length : Int) - a
  · rw [decide_eq_true h5, e0, if_neg (by omega)]
  · rw [decide_eq_false h5, if_pos (by omega)]
    simp only [ashlarref01_Get.j0]
    obtain ⟨a, rfl⟩ := Int.eq_ofNat_of_zero_le (show 0 ≤ a by omega)
    obtain ⟨s, rfl⟩ := Int.eq_ofNat_of_zero_le (show 0 ≤ s by omega)
    rw [if_neg (by decide)]
    have := rget_loop l hb a s (by omega) (by omega) hm s k 0 (by omega) (by omega)
    simpa [at_, leval] using this
end Go.Proofs.Ytignifnkjlldpaa.PureGroupPages
