/- Plain lemmas on numbers, bytes and bits that the proofs over the package pack use: no Go, no memory. Nothing is asked of the reader but that numbers are in range. -/
import Derived.Test.YtignifnkjlldpaaWMore
import Derived.Laws.Bits64b
import Derived.Laws.BitsLemmas
namespace Go.Proofs.Ytignifnkjlldpaa.Num
open Go.RowKit Go.Proofs.YtignifnkjlldpaaW.PrintWords Go.Proofs.YtignifnkjlldpaaW.PrintLast Go.Proofs.YtignifnkjlldpaaW.PrintMore

theorem w64 {x : Int} (h0 : -9223372036854775808 ≤ x) (h1 : x ≤ 9223372036854775807) : wrap64 x = x := by unfold wrap64; omega
theorem wu64 {x : Int} (h0 : 0 ≤ x) (h1 : x ≤ 18446744073709551615) : IntKind.u64.wrap x = x := by rw [IntKind.wrap_u64]; omega
def Bytes (l : List Int) : Prop := ∀ x ∈ l, 0 ≤ x ∧ x ≤ 255
theorem bytes_of_wf {l : List Int} (h : ∀ x ∈ l, (Lit.int .u8 x).wf = true) : Bytes l := fun x hx => by
  have := h x hx
  simp [Lit.wf, IntKind.min, IntKind.max, IntKind.signed, IntKind.bits] at this
  omega
theorem u64_of_wf {n : Int} (h : (Lit.int .u64 n).wf = true) : 0 ≤ n ∧ n ≤ 18446744073709551615 := by
  simp [Lit.wf, IntKind.min, IntKind.max, IntKind.signed, IntKind.bits] at h
  omega
theorem i64_of_wf {n : Int} (h : (Lit.int .i64 n).wf = true) : -9223372036854775808 ≤ n ∧ n ≤ 9223372036854775807 := by
  simp [Lit.wf, IntKind.min, IntKind.max, IntKind.signed, IntKind.bits] at h
  omega
theorem u8_of_wf {n : Int} (h : (Lit.int .u8 n).wf = true) : 0 ≤ n ∧ n ≤ 255 := by
  simp [Lit.wf, IntKind.min, IntKind.max, IntKind.signed, IntKind.bits] at h
  omega
theorem Bytes.nil : Bytes [] := fun x hx => by cases hx
theorem Bytes.cons {b : Int} {l : List Int} (h : Bytes (b :: l)) : (0 ≤ b ∧ b ≤ 255) ∧ Bytes l := ⟨h b List.mem_cons_self, fun x hx => h x (List.mem_cons_of_mem _ hx)⟩
theorem Bytes.append {a b : List Int} (ha : Bytes a) (hb : Bytes b) : Bytes (a ++ b) := fun x hx => by
  rcases List.mem_append.1 hx with h | h
  · exact ha x h
  · exact hb x h
theorem Bytes.take {a : List Int} (ha : Bytes a) (n : Nat) : Bytes (a.take n) := fun x hx => ha x (List.mem_of_mem_take hx)
theorem Bytes.drop {a : List Int} (ha : Bytes a) (n : Nat) : Bytes (a.drop n) := fun x hx => ha x (List.mem_of_mem_drop hx)
theorem Bytes.zeros (n : Nat) : Bytes (List.replicate n 0) := fun x hx => by have := List.eq_of_mem_replicate hx; omega
theorem Bytes.get {a : List Int} (ha : Bytes a) {i : Nat} (h : i < a.length) : 0 ≤ a[i] ∧ a[i] ≤ 255 := ha _ (List.getElem_mem h)
theorem Bytes.set {a : List Int} (ha : Bytes a) (i : Nat) {v : Int} (h : 0 ≤ v ∧ v ≤ 255) : Bytes (a.set i v) := fun x hx => by
  rcases List.mem_or_eq_of_mem_set hx with h' | h'
  · exact ha x h'
  · subst h'; exact h

/-- The byte i of a number. -/
def byteAt (n : Int) (i : Nat) : Int := n / 256 ^ i % 256
theorem byteAt_range (n : Int) (i : Nat) : 0 ≤ byteAt n i ∧ byteAt n i ≤ 255 := by unfold byteAt; omega
theorem shr_byte (n : Int) (i : Nat) (hi : i < 8) : shr .u64 n (8 * (i : Int)) % 256 = byteAt n i := by
  unfold shr byteAt
  have e : min (8 * (i : Int)).toNat (IntKind.bits .u64) = 8 * i := by simp [IntKind.bits]; omega
  rw [e, Nat.pow_mul' |> fun _ => (show (2 : Int) ^ (8 * i) = 256 ^ i by rw [Int.pow_mul]; rfl)]
/-- The s bytes of a number, the least first. -/
def putN (n : Int) (s : Nat) : List Int := (List.range s).map (byteAt n)
theorem putN_length (n : Int) (s : Nat) : (putN n s).length = s := by simp [putN]
theorem putN_succ (n : Int) (s : Nat) : putN n (s + 1) = putN n s ++ [byteAt n s] := by simp [putN, List.range_succ]
theorem putN_bytes (n : Int) (s : Nat) : Bytes (putN n s) := fun x hx => by
  simp only [putN, List.mem_map] at hx
  obtain ⟨i, _, rfl⟩ := hx
  exact byteAt_range n i

/-- The number that bytes are, the least first. -/
def leval : List Int → Int
  | [] => 0
  | b :: t => b + 256 * leval t
theorem leval_range : ∀ {l : List Int}, Bytes l → 0 ≤ leval l ∧ leval l < 256 ^ l.length
  | [], _ => by simp [leval]
  | b :: t, h => by
    have h1 := h.cons
    have h2 := leval_range h1.2
    simp only [leval, List.length_cons, Int.pow_succ]
    omega
theorem leval_snoc : ∀ (l : List Int) (b : Int), leval (l ++ [b]) = leval l + b * 256 ^ l.length
  | [], b => by simp [leval]
  | c :: t, b => by
    simp only [List.cons_append, leval, leval_snoc t b, List.length_cons, Int.pow_succ]
    rw [Int.mul_add, ← Int.mul_assoc, Int.mul_comm 256 b, Int.mul_assoc, Int.mul_comm 256 (256 ^ t.length)]
    omega
theorem leval_putN (n : Int) (h : 0 ≤ n) : ∀ s, leval (putN n s) = n % 256 ^ s
  | 0 => by simp [putN, leval, Int.emod_one]
  | s + 1 => by
    rw [putN_succ, leval_snoc, leval_putN n h s, putN_length, byteAt, Int.pow_succ]
    have hp : (0 : Int) < 256 ^ s := Int.pow_pos (by decide)
    have h1 := Int.emod_add_mul_ediv n (256 ^ s)
    have h2 := Int.emod_add_mul_ediv (n / 256 ^ s) 256
    have h3 := Int.emod_add_mul_ediv n (256 ^ s * 256)
    have h4 : n / (256 ^ s * 256) = n / 256 ^ s / 256 := (Int.ediv_ediv_of_nonneg (Int.le_of_lt hp)).symm
    rw [h4] at h3
    have h5 : (256 : Int) ^ s * (n / 256 ^ s) = 256 ^ s * (n / 256 ^ s % 256) + 256 ^ s * 256 * (n / 256 ^ s / 256) := by
      conv => lhs; rw [← h2]
      rw [Int.mul_add, Int.mul_assoc]
    rw [Int.mul_comm (n / 256 ^ s % 256)]
    omega
theorem or_low (x b : Int) (hx0 : 0 ≤ x) (hx : x < 72057594037927936) (hb0 : 0 ≤ b) (hb : b ≤ 255) :
    Go.bits .or .u64 (IntKind.u64.wrap (x * 256)) (IntKind.u64.wrap b) = b + 256 * x := by
  obtain ⟨x, rfl⟩ := Int.eq_ofNat_of_zero_le hx0
  obtain ⟨b, rfl⟩ := Int.eq_ofNat_of_zero_le hb0
  rw [wu64 (by omega) (by omega), wu64 (by omega) (by omega)]
  have h := Nat.two_pow_add_eq_or_of_lt (i := 8) (b := b) (by omega) x
  have e : ((x : Int) * 256) = ((2 ^ 8 * x : Nat) : Int) := by simp; omega
  rw [e, bits_or_u64_nat _ _ (by omega) (by omega), ← h]
  simp; omega
theorem or_high (x b : Int) (i : Nat) (hi : i < 8) (hx0 : 0 ≤ x) (hx : x < 256 ^ i) (hb0 : 0 ≤ b) (hb : b ≤ 255) :
    Go.bits .or .u64 x (shl .u64 (IntKind.u64.wrap b) (8 * (i : Int))) = x + b * 256 ^ i := by
  obtain ⟨x, rfl⟩ := Int.eq_ofNat_of_zero_le hx0
  obtain ⟨b, rfl⟩ := Int.eq_ofNat_of_zero_le hb0
  rw [wu64 (by omega) (by omega)]
  unfold shl
  have e : min (8 * (i : Int)).toNat (IntKind.bits .u64) = 8 * i := by simp [IntKind.bits]; omega
  have e2 : (2 : Int) ^ (8 * i) = 256 ^ i := by rw [Int.pow_mul]; rfl
  have e3 : (2 : Nat) ^ (8 * i) = 256 ^ i := by rw [Nat.pow_mul]
  have hx' : x < 2 ^ (8 * i) := by
    rw [e3]
    have : ((256 ^ i : Nat) : Int) = (256 : Int) ^ i := by simp
    omega
  have hle : 256 ^ i ≤ 256 ^ 7 := Nat.pow_le_pow_right (by decide) (by omega)
  have hm : b * 256 ^ i ≤ 255 * 256 ^ 7 := Nat.mul_le_mul (by omega) hle
  have h := Nat.two_pow_add_eq_or_of_lt hx' b
  rw [e, e2]
  have e4 : ((b : Int) * 256 ^ i) = ((2 ^ (8 * i) * b : Nat) : Int) := by rw [e3, Nat.mul_comm]; simp
  rw [e4, wu64 (by omega) (by rw [e3, Nat.mul_comm]; omega), bits_or_u64_nat _ _ (by rw [e3] at hx'; omega) (by rw [e3, Nat.mul_comm]; omega), Nat.or_comm, ← h]
  push_cast
  omega
theorem xor_u32_range (a b : Int) : 0 ≤ Go.bits .xor .u32 a b ∧ Go.bits .xor .u32 a b < 4294967296 := by
  have : Go.bits .xor .u32 a b = IntKind.u32.wrap ((BitVec.ofInt 32 a ^^^ BitVec.ofInt 32 b).toNat : Int) := rfl
  rw [this, IntKind.wrap_u32]
  omega
theorem drop_cons {l : List Int} {i : Nat} (h : i < l.length) : l.drop i = l[i] :: l.drop (i + 1) := List.drop_eq_getElem_cons h
theorem rd_nat (l : List Int) (i : Nat) (h : i < l.length) : rd l (i : Int) = l[i] := by
  unfold rd
  rw [Int.toNat_natCast, List.getD_eq_getElem?_getD, List.getElem?_eq_getElem h]
  rfl
end Go.Proofs.Ytignifnkjlldpaa.Num
