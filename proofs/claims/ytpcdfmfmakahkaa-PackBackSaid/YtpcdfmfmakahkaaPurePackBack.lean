/- The statement PackBack, over numbers and lists alone: what is sealed opens again, and a block of which one byte is turned does not. -/
import Derived.Test.YtpcdfmfmakahkaaPPackBackx2
import Derived.Test.YtpcdfmfmakahkaaPackLibPackBack
namespace Go.Proofs.Ytpcdfmfmakahkaa.Pure
open Go.RowKit Go.Proofs.Ytpcdfmfmakahkaa.PPackBack Go.Proofs.YtpcdfmfmakahkaaW.PrintWords Go.Proofs.YtpcdfmfmakahkaaW.PrintLast Go.Proofs.Ytpcdfmfmakahkaa.Num Go.Proofs.Ytpcdfmfmakahkaa.PurePackBack
theorem xor_u32 (a b : Int) : Go.bits .xor .u32 a b = ((BitVec.ofInt 32 a ^^^ BitVec.ofInt 32 b).toNat : Int) := by
  have : Go.bits .xor .u32 a b = IntKind.u32.wrap ((BitVec.ofInt 32 a ^^^ BitVec.ofInt 32 b).toNat : Int) := rfl
  have h := (BitVec.ofInt 32 a ^^^ BitVec.ofInt 32 b).isLt
  rw [this, IntKind.wrap_u32]
  omega
theorem xor_u8 (a b : Int) : Go.bits .xor .u8 a b = ((BitVec.ofInt 8 a ^^^ BitVec.ofInt 8 b).toNat : Int) := by
  have : Go.bits .xor .u8 a b = IntKind.u8.wrap ((BitVec.ofInt 8 a ^^^ BitVec.ofInt 8 b).toNat : Int) := rfl
  have h := (BitVec.ofInt 8 a ^^^ BitVec.ofInt 8 b).isLt
  rw [this, IntKind.wrap_u8]
  omega
theorem ofInt_inj32 {a c : Int} (ha : 0 ≤ a ∧ a < 4294967296) (hc : 0 ≤ c ∧ c < 4294967296) (h : BitVec.ofInt 32 a = BitVec.ofInt 32 c) : a = c := by
  have := congrArg BitVec.toNat h
  simp only [BitVec.toNat_ofInt] at this
  omega
theorem ofInt_inj8 {a c : Int} (ha : 0 ≤ a ∧ a ≤ 255) (hc : 0 ≤ c ∧ c ≤ 255) (h : BitVec.ofInt 8 a = BitVec.ofInt 8 c) : a = c := by
  have := congrArg BitVec.toNat h
  simp only [BitVec.toNat_ofInt] at this
  omega
theorem xor_cancel {n : Nat} {a b c : BitVec n} (h : a ^^^ b = c ^^^ b) : a = c := by
  have := congrArg (· ^^^ b) h
  simpa [BitVec.xor_assoc] using this
theorem xor_cancel' {n : Nat} {a b c : BitVec n} (h : b ^^^ a = b ^^^ c) : a = c := xor_cancel (b := b) (by rw [BitVec.xor_comm a b, BitVec.xor_comm c b]; exact h)
theorem toNat_inj {n : Nat} {a b : BitVec n} (h : (a.toNat : Int) = (b.toNat : Int)) : a = b := BitVec.eq_of_toNat_eq (Int.ofNat.inj h)
theorem mul_inj1 {a c : Int} (h : a * 16777619 % 4294967296 = c * 16777619 % 4294967296) : ∃ q, a * 16777619 - c * 16777619 = 4294967296 * q := by
  have h1 := Int.emod_add_mul_ediv (a * 16777619) 4294967296
  have h2 := Int.emod_add_mul_ediv (c * 16777619) 4294967296
  generalize a * 16777619 / 4294967296 = x at *
  generalize c * 16777619 / 4294967296 = y at *
  refine ⟨x - y, ?_⟩
  rw [Int.mul_sub, ← h1, ← h2, h]
  generalize (4294967296:Int) * x = u
  generalize (4294967296:Int) * y = v
  generalize c * 16777619 % 4294967296 = z
  omega
theorem mul_inj2 {d q : Int} (h2 : d * 16777619 = 4294967296 * q) : ∃ z, d = 4294967296 * z := by
  refine ⟨899433627 * q - 3513497 * d, ?_⟩
  have h3 : (d * 16777619) * 899433627 = (4294967296 * q) * 899433627 := by rw [h2]
  clear h2
  omega
theorem mul_inj {a c : Int} (ha : 0 ≤ a ∧ a < 4294967296) (hc : 0 ≤ c ∧ c < 4294967296) (h : a * 16777619 % 4294967296 = c * 16777619 % 4294967296) : a = c := by
  obtain ⟨q, hq⟩ := mul_inj1 h
  rw [← Int.sub_mul] at hq
  obtain ⟨z, hz⟩ := mul_inj2 hq
  clear h hq
  omega
theorem step_inj {n m b : Int} (hn : 0 ≤ n ∧ n < 4294967296) (hm : 0 ≤ m ∧ m < 4294967296)
    (h : ((Go.bits .xor .u32 n (b % 4294967296)) * 16777619) % 4294967296 = ((Go.bits .xor .u32 m (b % 4294967296)) * 16777619) % 4294967296) : n = m := by
  have h1 := mul_inj (xor_u32_range _ _) (xor_u32_range _ _) h
  rw [xor_u32, xor_u32] at h1
  exact ofInt_inj32 hn hm (xor_cancel (toNat_inj h1))
theorem step_inj' {n b c : Int} (hb : 0 ≤ b ∧ b ≤ 255) (hc : 0 ≤ c ∧ c ≤ 255)
    (h : ((Go.bits .xor .u32 n (b % 4294967296)) * 16777619) % 4294967296 = ((Go.bits .xor .u32 n (c % 4294967296)) * 16777619) % 4294967296) : b = c := by
  have h1 := mul_inj (xor_u32_range _ _) (xor_u32_range _ _) h
  rw [xor_u32, xor_u32] at h1
  have := ofInt_inj32 (by omega) (by omega) (xor_cancel' (toNat_inj h1))
  omega
theorem fnv_inj : ∀ (l : List Int) {n m : Int}, 0 ≤ n ∧ n < 4294967296 → 0 ≤ m ∧ m < 4294967296 → fnv n l = fnv m l → n = m
  | [], _, _, _, _, h => h
  | b :: t, n, m, hn, hm, h => step_inj (b := b) hn hm (fnv_inj t (by omega) (by omega) h)
theorem fnv_set : ∀ (l : List Int) (j : Nat) (n v : Int), Bytes l → 0 ≤ v ∧ v ≤ 255 → (hj : j < l.length) → v ≠ l[j] → fnv n (l.set j v) ≠ fnv n l
  | b :: t, 0, n, v, hb, hv, _, hne, h => hne (step_inj' hv hb.cons.1 (fnv_inj t (by omega) (by omega) h))
  | b :: t, j + 1, n, v, hb, hv, hj, hne, h => fnv_set t j _ v hb.cons.2 hv (Nat.lt_of_succ_lt_succ hj) hne h
theorem leval_set : ∀ (l : List Int) (j : Nat) (v : Int), (hj : j < l.length) → v ≠ l[j] → leval (l.set j v) ≠ leval l
  | b :: t, 0, v, _, hne, h => hne (by simp only [List.set_cons_zero, leval] at h; simp only [List.getElem_cons_zero]; omega)
  | b :: t, j + 1, v, hj, hne, h => leval_set t j v (Nat.lt_of_succ_lt_succ hj) hne (by simp only [List.set_cons_succ, leval] at h; omega)
/-- The first part of a sealed block. -/
def front (l : List Int) : List Int := l ++ List.replicate (252 - l.length) 0
theorem front_length {l : List Int} (h : l.length ≤ 252) : (front l).length = 252 := by simp [front]; omega
theorem sealed_eq (l : List Int) : sealed l = front l ++ putN (sum (front l)) 4 := rfl
theorem leval_sum (b : List Int) : leval (putN (sum b) 4) = sum b := by
  have h := sum_range b
  rw [leval_putN _ h.1, show (256 : Int) ^ 4 = 4294967296 by decide]
  omega
theorem opened_of (a t : List Int) (ha : a.length = 252) (ht : t.length = 4) : opened (a ++ t) = if leval t % 4294967296 = sum a then (a, true) else ([], false) := by
  have e1 : (a ++ t).take 252 = a := by rw [← ha, List.take_left]
  have e2 : at_ (a ++ t) 252 4 = t := by
    unfold at_
    rw [show (252 : Nat) = a.length from ha.symm, List.drop_left, List.take_of_length_le (by omega)]
  unfold opened
  rw [e1, e2]
  by_cases h : leval t % 4294967296 = sum a
  · rw [if_pos h, if_pos ⟨by rw [List.length_append]; omega, h⟩]
  · rw [if_neg h, if_neg (fun h2 => h h2.2)]
theorem opened_sealed {l : List Int} (h : l.length ≤ 252) : opened (sealed l) = (front l, true) := by
  have hs := sum_range (front l)
  rw [sealed_eq, opened_of _ _ (front_length h) (by rw [putN_length]), leval_sum, if_pos (by omega)]
theorem opened_turned {l : List Int} (hb : Bytes l) (h : l.length ≤ 252) (j : Nat) (hj : j < 256) (hj' : j < (sealed l).length) (v : Int) (hv : 0 ≤ v ∧ v ≤ 255) (hne : v ≠ (sealed l)[j]) : (opened ((sealed l).set j v)).2 = false := by
  have hs := sum_range (front l)
  have hf := front_length h
  have hfb : Bytes (front l) := hb.append (Bytes.zeros _)
  have hpl : (putN (sum (front l)) 4).length = 4 := putN_length _ _
  by_cases c : j < 252
  · have e : (sealed l).set j v = (front l).set j v ++ putN (sum (front l)) 4 := by rw [sealed_eq, List.set_append_left _ _ (by omega)]
    have e2 : (sealed l)[j] = (front l)[j]'(by omega) := by simp only [sealed_eq]; rw [List.getElem_append_left]
    rw [e2] at hne
    have := fnv_set (front l) j 2166136261 v hfb hv (by omega) hne
    rw [e, opened_of _ _ (by rw [List.length_set]; exact hf) hpl, leval_sum, if_neg (fun h2 => this (by show sum _ = sum _; omega))]
  · have e : (sealed l).set j v = front l ++ (putN (sum (front l)) 4).set (j - 252) v := by rw [sealed_eq, List.set_append_right _ _ (by omega), hf]
    have e2 : (sealed l)[j] = (putN (sum (front l)) 4)[j - 252]'(by omega) := by simp only [sealed_eq]; rw [List.getElem_append_right (by omega)]; simp only [hf]
    rw [e2] at hne
    have h1 := leval_set (putN (sum (front l)) 4) (j - 252) v (by omega) hne
    have h2 := leval_range ((putN_bytes (sum (front l)) 4).set (j - 252) hv)
    rw [List.length_set, hpl, show (256 : Int) ^ 4 = 4294967296 by decide] at h2
    have h3 := leval_sum (front l)
    rw [e, opened_of _ _ hf (by rw [List.length_set]; exact hpl), if_neg (by omega)]
theorem PackBack : ashlarlaw02_PackBack.Pure := by
  intro l a1 a2 hm hl hw wa wb
  have hb := bytes_of_wf hw
  have ha := u64_of_wf wa
  have hy := u8_of_wf wb
  refine ⟨300, awake_f _ (by omega), ?_⟩
  have hs := seal_f l (by omega) 300 (by omega)
  by_cases c : l.length ≤ 252
  · rw [if_pos c] at hs
    refine .inr ⟨c, sealed l, front l, (opened ((sealed l).set (a1 % 256).toNat (Go.bits .xor .u8 (rd (sealed l) (a1 % 256)) a2))).1, hs, ?_, front_length c, by rw [front, List.take_left], sealed_length c, ?_⟩
    · rw [open_f _ (sealed_bytes hb) (by rw [sealed_length c]; omega) _ (by omega), opened_sealed c]
    · have hl' := sealed_length c
      obtain ⟨j, hj⟩ := Int.eq_ofNat_of_zero_le (show 0 ≤ a1 % 256 by omega)
      have hj' : j < 256 := by omega
      rw [hj, Int.toNat_natCast, rd_nat _ j (by omega)]
      have hx := (sealed_bytes hb).get (i := j) (by omega)
      have hv : 0 ≤ Go.bits .xor .u8 (sealed l)[j] a2 ∧ Go.bits .xor .u8 (sealed l)[j] a2 ≤ 255 := by
        have h := (BitVec.ofInt 8 (sealed l)[j] ^^^ BitVec.ofInt 8 a2).isLt
        rw [xor_u8]; omega
      rw [open_f _ ((sealed_bytes hb).set j hv) (by rw [List.length_set, hl']; omega) _ (by omega)]
      have key : (opened ((sealed l).set j (Go.bits .xor .u8 (sealed l)[j] a2))).2 = (a2 == 0) := by
        by_cases z : a2 = 0
        · subst z
          have e : Go.bits .xor .u8 (sealed l)[j] 0 = (sealed l)[j] := by
            rw [xor_u8, show BitVec.ofInt 8 0 = 0#8 from rfl, BitVec.xor_zero, BitVec.toNat_ofInt]
            omega
          rw [e, List.set_getElem_self, opened_sealed c]
          rfl
        · rw [opened_turned hb c j hj' (by omega) _ hv ?_]
          · exact (beq_eq_false_iff_ne.2 z).symm
          · intro e
            apply z
            rw [xor_u8] at e
            have e1 : BitVec.ofInt 8 (sealed l)[j] ^^^ BitVec.ofInt 8 a2 = BitVec.ofInt 8 (sealed l)[j] ^^^ 0#8 := by
              apply toNat_inj
              rw [e, BitVec.xor_zero, BitVec.toNat_ofInt]
              omega
            exact ofInt_inj8 hy (by omega) ((xor_cancel' e1).trans rfl)
      rw [← key]
  · rw [if_neg c] at hs
    exact .inl ⟨by omega, [], 1, hs, by decide⟩
end Go.Proofs.Ytpcdfmfmakahkaa.Pure
