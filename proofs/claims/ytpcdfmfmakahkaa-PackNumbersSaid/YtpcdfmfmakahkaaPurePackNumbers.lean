/- The statement PackNumbers, over numbers and lists alone: any number is put and got as the document says, and what was put is got; for bytes of any number that memory bears. -/
import Derived.Test.YtpcdfmfmakahkaaPPackNumbersx2
import Derived.Test.YtpcdfmfmakahkaaPackLibPackNumbers
namespace Go.Proofs.Ytpcdfmfmakahkaa.Pure
open Go.RowKit Go.Proofs.Ytpcdfmfmakahkaa.PPackNumbers Go.Proofs.YtpcdfmfmakahkaaW.PrintWords Go.Proofs.YtpcdfmfmakahkaaW.PrintLast Go.Proofs.Ytpcdfmfmakahkaa.Num Go.Proofs.Ytpcdfmfmakahkaa.PurePackNumbers
theorem and_mask (n : Int) (s : Nat) (hs : s < 8) (h0 : 0 ≤ n) (h1 : n ≤ 18446744073709551615) : Go.bits .and .u64 n (256 ^ s - 1) = n % 256 ^ s := by
  obtain ⟨n, rfl⟩ := Int.eq_ofNat_of_zero_le h0
  have e : (256 : Nat) ^ s = 2 ^ (8 * s) := by rw [Nat.pow_mul]
  have hp : 0 < (256 : Nat) ^ s := Nat.pow_pos (by decide)
  have hle : (256 : Nat) ^ s ≤ 256 ^ 7 := Nat.pow_le_pow_right (by decide) (by omega)
  have e2 : ((256 : Int) ^ s - 1) = ((256 ^ s - 1 : Nat) : Int) := by
    rw [Int.ofNat_sub (by omega)]
    simp
  rw [e2, bits_and_u64_nat _ _ (by omega) (by omega), e, Nat.and_two_pow_sub_one_eq_mod, ← e]
  simp
theorem PackNumbers : ashlarlaw02_PackNumbers.Pure := by
  intro l n s a hm hl hw wn ws wa
  have hb := bytes_of_wf hw
  have hn := u64_of_wf wn
  have hs := i64_of_wf ws
  have ha := i64_of_wf wa
  have hlen : l.length ≤ 140737488351232 := by omega
  by_cases h : 1 ≤ s ∧ s ≤ 8
  · obtain ⟨s, rfl⟩ := Int.eq_ofNat_of_zero_le (show 0 ≤ s by omega)
    have hc : (l ++ putN n s).length = l.length + s := by simp [putN_length]
    have hg : pack_Get.f 300 (l ++ putN n s) (l.length : Int) s = some (n % 256 ^ s, true) := by
      rw [get_f _ (hb.append (putN_bytes n s)) (by omega) _ _ (by omega) 300 (by omega), if_pos (by rw [hc]; omega)]
      have e : at_ (l ++ putN n s) l.length s = putN n s := by
        unfold at_
        rw [List.drop_left, List.take_of_length_le (by rw [putN_length]; omega)]
      rw [Int.toNat_natCast, Int.toNat_natCast, e, leval_putN n hn.1]
    have hx := get_f l hb (by omega) a s ha.1 300 (by omega)
    have hy := rget_f l hb (by omega) a s ha.1 300 (by omega)
    refine ⟨300, l ++ putN n s, _, n % 256 ^ s, _, true, awake_f 300 (by omega), ?_, hx, hy, ?_, hg, ?_⟩
    · rw [put_f l n s (by omega) 300 (by omega), if_pos h]; rfl
    · rw [rput_f l n s (by omega) 300 (by omega), if_pos h]; rfl
    · rcases Nat.lt_or_ge s 8 with h8 | h8
      · exact .inr (.inl ⟨by omega, by omega, rfl, by rw [Int.toNat_natCast, and_mask n s h8 hn.1 hn.2]⟩)
      · obtain rfl : s = 8 := by omega
        exact .inr (.inr ⟨rfl, rfl, by rw [Int.emod_eq_of_lt hn.1 (by omega)]⟩)
  · have hx := get_f l hb (by omega) a s ha.1 300 (by omega)
    have hy := rget_f l hb (by omega) a s ha.1 300 (by omega)
    refine ⟨300, l, _, 0, _, false, awake_f 300 (by omega), ?_, hx, hy, ?_, ?_, .inl ⟨by omega, rfl, rfl⟩⟩
    · rw [put_f l n s (by omega) 300 (by omega), if_neg h]
    · rw [rput_f l n s (by omega) 300 (by omega), if_neg h]
    · rw [get_f l hb (by omega) _ s (by omega) 300 (by omega), if_neg (by omega)]
end Go.Proofs.Ytpcdfmfmakahkaa.Pure
