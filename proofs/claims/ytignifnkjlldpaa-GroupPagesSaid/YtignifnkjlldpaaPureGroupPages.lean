/- The statement GroupPages, over numbers and lists alone: the package and the document make the same page of any owners, and the same owners of any page. -/
import Derived.Test.YtignifnkjlldpaaPGroupPagesx7
import Derived.Test.YtignifnkjlldpaaPackLibGroupPages
namespace Go.Proofs.Ytignifnkjlldpaa.Pure
open Go.RowKit Go.Proofs.Ytignifnkjlldpaa.PGroupPages Go.Proofs.YtignifnkjlldpaaW.PrintWords Go.Proofs.YtignifnkjlldpaaW.PrintLast Go.Proofs.Ytignifnkjlldpaa.Num Go.Proofs.Ytignifnkjlldpaa.PureGroupPages
set_option linter.unusedVariables false
set_option linter.unusedSimpArgs false
abbrev Ow := S100
def formedB (x y : Int) : Bool := if x = 0 ∨ x = 65535 then y == 0 else if x = 65534 then decide (y < 6) else if x < 48 then (decide (y < 138) || y == 65535) else false
theorem formed_f (k : Nat) (hk : 1 ≤ k) (x y : Int) : group_Formed.f k x y = some (formedB x y) := by
  obtain ⟨k, rfl⟩ : ∃ m, k = m + 1 := ⟨k - 1, by omega⟩
  unfold group_Formed.f formedB
  simp only [group_Formed.j0]
  by_cases h0 : x = 0
  · subst h0; simp
  · by_cases h1 : x = 65535
    · subst h1; simp
    · by_cases h2 : x = 65534
      · subst h2; simp
      · by_cases h3 : x < 48
        · by_cases h4 : y < 138 <;> simp [h0, h1, h2, h3, h4]
        · simp [h0, h1, h2, h3]
theorem rformed_f (k : Nat) (hk : 1 ≤ k) (x y : Int) : ashlarref05_FormedOwner.f k x y = some (formedB x y) := by
  obtain ⟨k, rfl⟩ : ∃ m, k = m + 1 := ⟨k - 1, by omega⟩
  unfold ashlarref05_FormedOwner.f formedB
  simp only [ashlarref05_FormedOwner.j0]
  by_cases h0 : x = 0
  · subst h0; simp
  · by_cases h1 : x = 65535
    · subst h1; simp
    · by_cases h2 : x = 65534
      · subst h2; simp
      · by_cases h3 : x < 48
        · have h3' : x ≤ 47 := by omega
          by_cases h4 : y < 138 <;> simp [h0, h1, h2, h3, h3', h4]
        · have h3' : ¬ x ≤ 47 := by omega
          simp [h0, h1, h2, h3, h3']
theorem rdO (l : List Ow) (i : Nat) (h : i < l.length) : rd_T100 l (i : Int) = l[i] := by
  unfold rd_T100
  rw [Int.toNat_natCast, List.getD_eq_getElem?_getD, List.getElem?_eq_getElem h]; rfl
def ok16 (o : Ow) : Prop := 0 ≤ o.f0 ∧ o.f0 ≤ 65535 ∧ 0 ≤ o.f1 ∧ o.f1 ≤ 65535
theorem or16 (x y : Int) (hx0 : 0 ≤ x) (hx : x ≤ 65535) (hy0 : 0 ≤ y) (hy : y ≤ 65535) : Go.bits .or .u64 (IntKind.u64.wrap x) (IntKind.u64.wrap (IntKind.u64.wrap y * 65536)) = x + y * 65536 := by
  rw [wu64 hx0 (by omega), wu64 hy0 (by omega), wu64 (by omega) (by omega)]
  obtain ⟨x, rfl⟩ := Int.eq_ofNat_of_zero_le hx0
  obtain ⟨y, rfl⟩ := Int.eq_ofNat_of_zero_le hy0
  have h := Nat.two_pow_add_eq_or_of_lt (i := 16) (b := x) (by omega) y
  have e : ((y : Int) * 65536) = ((2 ^ 16 * y : Nat) : Int) := by simp; omega
  rw [e, bits_or_u64_nat _ _ (by omega) (by omega), Nat.or_comm, ← h]
  simp; omega
theorem putN2 (x y : Int) (hx0 : 0 ≤ x) (hx : x ≤ 65535) (hy0 : 0 ≤ y) : putN (x + y * 65536) 4 = putN x 2 ++ putN y 2 := by
  have h1 : byteAt (x + y * 65536) 0 = byteAt x 0 := by unfold byteAt; omega
  have h2 : byteAt (x + y * 65536) 1 = byteAt x 1 := by unfold byteAt; omega
  have h3 : byteAt (x + y * 65536) 2 = byteAt y 0 := by unfold byteAt; omega
  have h4 : byteAt (x + y * 65536) 3 = byteAt y 1 := by unfold byteAt; omega
  have e4 : putN (x + y * 65536) 4 = [byteAt (x + y * 65536) 0, byteAt (x + y * 65536) 1, byteAt (x + y * 65536) 2, byteAt (x + y * 65536) 3] := rfl
  rw [e4, h1, h2, h3, h4]; rfl
/-- A page of owners, on from what there is. -/
def pg : List Ow → List Int → List Int × Int
  | [], acc => (acc, 0)
  | o :: t, acc => if formedB o.f0 o.f1 = true then pg t (acc ++ putN (o.f0 + o.f1 * 65536) 4) else ([], 1)
theorem drop_consO {l : List Ow} {i : Nat} (h : i < l.length) : l.drop i = l[i] :: l.drop (i + 1) := List.drop_eq_getElem_cons h
theorem page_loop (l : List Ow) (hl : l.length ≤ 1000) (hw : ∀ o ∈ l, ok16 o) (d : Nat) : ∀ (k i : Nat) (acc : List Int), i + d = l.length → d + 12 ≤ k → acc.length ≤ 4 * i →
    group_Page.l0 k acc l (l.length : Int) (i : Int) = some (pg (l.drop i) acc) := by
  induction d with
  | zero =>
    intro k i acc hi hk ha
    obtain ⟨k, rfl⟩ : ∃ m, k = m + 1 := ⟨k - 1, by omega⟩
    simp only [group_Page.l0]
    rw [if_neg (by omega), List.drop_of_length_le (by omega)]
    rfl
  | succ d ih =>
    intro k i acc hi hk ha
    obtain ⟨k, rfl⟩ : ∃ m, k = m + 1 := ⟨k - 1, by omega⟩
    have e4 : wrap64 ((i : Int) + 1) = ((i + 1 : Nat) : Int) := w64 (by omega) (by omega)
    have hil : i < l.length := by omega
    obtain ⟨h1, h2, h3, h4⟩ := hw l[i] (List.getElem_mem hil)
    simp only [group_Page.l0, e4]
    rw [if_pos (by omega), if_pos (by omega), if_pos (by omega), rdO l i hil, drop_consO hil, formed_f k (by omega)]
    simp only [Option.bind_some, pg]
    by_cases hf : formedB l[i].f0 l[i].f1 = true
    · rw [if_pos hf, if_pos hf, or16 _ _ h1 h2 h3 h4, put_f _ _ _ (by omega) k (by omega), if_pos (by decide)]
      simp only [Option.bind_some]
      exact ih k (i + 1) _ (by omega) (by omega) (by rw [List.length_append, putN_length]; show acc.length + 4 ≤ _; omega)
    · rw [if_neg hf, if_neg hf]
theorem rpage_loop (l : List Ow) (hl : l.length ≤ 1000) (hw : ∀ o ∈ l, ok16 o) (d : Nat) : ∀ (k i : Nat) (acc : List Int), i + d = l.length → d + 12 ≤ k → acc.length ≤ 4 * i →
    ashlarref05_Page.l0 k l acc (l.length : Int) (i : Int) = some (pg (l.drop i) acc) := by
  induction d with
  | zero =>
    intro k i acc hi hk ha
    obtain ⟨k, rfl⟩ : ∃ m, k = m + 1 := ⟨k - 1, by omega⟩
    simp only [ashlarref05_Page.l0]
    rw [if_neg (by omega), List.drop_of_length_le (by omega)]
    rfl
  | succ d ih =>
    intro k i acc hi hk ha
    obtain ⟨k, rfl⟩ : ∃ m, k = m + 1 := ⟨k - 1, by omega⟩
    have e4 : wrap64 ((i : Int) + 1) = ((i + 1 : Nat) : Int) := w64 (by omega) (by omega)
    have hil : i < l.length := by omega
    obtain ⟨h1, h2, h3, h4⟩ := hw l[i] (List.getElem_mem hil)
    simp only [ashlarref05_Page.l0, e4]
    rw [if_pos (by omega), if_pos (by omega), if_pos (by omega), rdO l i hil, drop_consO hil, rformed_f k (by omega)]
    simp only [Option.bind_some, pg]
    by_cases hf : formedB l[i].f0 l[i].f1 = true
    · rw [if_pos hf, if_pos hf, wu64 h1 (by omega), wu64 h3 (by omega), rput_f _ _ _ (by omega) k (by omega), if_pos (by decide)]
      simp only [Option.bind_some]
      rw [rput_f _ _ _ (by rw [List.length_append, putN_length]; show acc.length + 2 ≤ _; omega) k (by omega), if_pos (by decide)]
      simp only [Option.bind_some]
      rw [putN2 _ _ h1 h2 h3, ← List.append_assoc]
      exact ih k (i + 1) _ (by omega) (by omega) (by rw [List.length_append, List.length_append, putN_length, putN_length]; show acc.length + 2 + 2 ≤ _; omega)
    · rw [if_neg hf, if_neg hf]
def page (l : List Ow) : List Int × Int := if l.length = 64 then pg l [] else ([], 1)
theorem page_f (l : List Ow) (hl : l.length ≤ 1000) (hw : ∀ o ∈ l, ok16 o) (k : Nat) (hk : 100 ≤ k) : group_Page.f k l = some (page l) := by
  unfold group_Page.f page
  by_cases h : l.length = 64
  · rw [if_pos (by omega), if_pos h]
    have := page_loop l hl hw l.length k 0 [] (by omega) (by omega) (Nat.zero_le _)
    simpa using this
  · rw [if_neg (by omega), if_neg h]
theorem rpage_f (l : List Ow) (hl : l.length ≤ 1000) (hw : ∀ o ∈ l, ok16 o) (k : Nat) (hk : 100 ≤ k) : ashlarref05_Page.f k l = some (page l) := by
  unfold ashlarref05_Page.f page
  by_cases h : l.length = 64
  · rw [if_pos (by omega), if_pos h]
    have := rpage_loop l hl hw l.length k 0 [] (by omega) (by omega) (Nat.zero_le _)
    simpa using this
  · rw [if_neg (by omega), if_neg h]
theorem pg_err (l : List Ow) : ∀ acc, (pg l acc).2 = 0 ∨ (pg l acc).2 = 1 := by
  induction l with
  | nil => intro acc; exact .inl rfl
  | cons o t ih =>
    intro acc
    simp only [pg]
    split
    · exact ih _
    · exact .inr rfl
/-- The owner at place i of a page. -/
def ow (b : List Int) (i : Nat) : Ow := ⟨leval (at_ b (4 * i) 2), leval (at_ b (4 * i + 2) 2)⟩
def og (b : List Int) : Nat → Nat → List Ow → List Ow × Int
  | 0, _, acc => (acc, 0)
  | d + 1, i, acc => if formedB (ow b i).f0 (ow b i).f1 = true then og b d (i + 1) (acc ++ [ow b i]) else ([], 18)
theorem at2 (b : List Int) (a : Nat) (h : a + 2 ≤ b.length) : leval (at_ b a 2) = b[a] + 256 * b[a + 1] := by
  rw [at_cons b a 1 (by omega), at_cons b (a + 1) 0 (by omega)]
  simp [at_, leval]
theorem at4 (b : List Int) (a : Nat) (h : a + 4 ≤ b.length) : leval (at_ b a 4) = b[a] + 256 * (b[a + 1] + 256 * (b[a + 2] + 256 * b[a + 3])) := by
  rw [at_cons b a 3 (by omega), at_cons b (a + 1) 2 (by omega), at_cons b (a + 1 + 1) 1 (by omega), at_cons b (a + 1 + 1 + 1) 0 (by omega)]
  simp [at_, leval]
theorem u16_w (x : Int) : IntKind.u16.wrap x = x % 65536 := by simp [IntKind.wrap, IntKind.signed, IntKind.bits]
theorem own_split (b : List Int) (hb : Bytes b) (i : Nat) (h : 4 * i + 4 ≤ b.length) : (⟨IntKind.u16.wrap (leval (at_ b (4 * i) 4)), IntKind.u16.wrap (leval (at_ b (4 * i) 4) / 65536)⟩ : Ow) = ow b i := by
  unfold ow
  have h0 := hb.get (i := 4 * i) (by omega)
  have h1 := hb.get (i := 4 * i + 1) (by omega)
  have h2 := hb.get (i := 4 * i + 2) (by omega)
  have h3 := hb.get (i := 4 * i + 3) (by omega)
  rw [u16_w, u16_w, at4 b _ (by omega), at2 b _ (by omega), at2 b _ (by omega)]
  have e : b[4 * i + 2 + 1] = b[4 * i + 3] := rfl
  congr 1
  · omega
  · omega
theorem owners_loop (b : List Int) (hb : Bytes b) (hl : b.length = 256) (d : Nat) : ∀ (k i : Nat) (acc : List Ow), i + d = 64 → d + 12 ≤ k → acc.length ≤ i →
    group_Owners.l0 k b acc (i : Int) = some (og b d i acc) := by
  induction d with
  | zero =>
    intro k i acc hi hk ha
    obtain ⟨k, rfl⟩ : ∃ m, k = m + 1 := ⟨k - 1, by omega⟩
    simp only [group_Owners.l0]
    rw [if_neg (by omega)]
    rfl
  | succ d ih =>
    intro k i acc hi hk ha
    obtain ⟨k, rfl⟩ : ∃ m, k = m + 1 := ⟨k - 1, by omega⟩
    have e4 : wrap64 ((i : Int) + 1) = ((i + 1 : Nat) : Int) := w64 (by omega) (by omega)
    have e5 : wrap64 (4 * (i : Int)) = ((4 * i : Nat) : Int) := by rw [w64 (by omega) (by omega)]; omega
    simp only [group_Owners.l0, e4, e5]
    rw [if_pos (by omega), get_f b hb (by omega) _ _ (by omega) k (by omega), if_pos (by omega)]
    simp only [Option.bind_some, Int.toNat_natCast]
    have es := own_split b hb i (by omega)
    have e0 : IntKind.u16.wrap (leval (at_ b (4 * i) 4)) = (ow b i).f0 := congrArg (fun o : Ow => o.f0) es
    have e1 : IntKind.u16.wrap (leval (at_ b (4 * i) 4) / 65536) = (ow b i).f1 := congrArg (fun o : Ow => o.f1) es
    rw [show (4 : Int).toNat = 4 from rfl, e0, e1, formed_f k (by omega)]
    simp only [Option.bind_some, og]
    by_cases hf : formedB (ow b i).f0 (ow b i).f1 = true
    · rw [if_pos hf, if_pos hf, if_pos (by omega)]
      exact ih k (i + 1) _ (by omega) (by omega) (by rw [List.length_append]; show acc.length + 1 ≤ _; omega)
    · rw [if_neg hf, if_neg hf]
theorem two_f (b : List Int) (hb : Bytes b) (hl : b.length = 256) (a : Nat) (h : a + 2 ≤ 256) (k : Nat) (hk : 12 ≤ k) : ashlarref05_two.f k b (a : Int) = some (leval (at_ b a 2)) := by
  unfold ashlarref05_two.f
  rw [rget_f b hb (by omega) _ _ (by omega) k (by omega), if_pos (by omega)]
  simp only [Option.bind_some, Int.toNat_natCast]
  have h0 := hb.get (i := a) (by omega)
  have h1 := hb.get (i := a + 1) (by omega)
  have e := at2 b a (by omega)
  rw [show (2 : Int).toNat = 2 from rfl, w64 (by rw [e]; omega) (by rw [e]; omega)]
theorem rowners_loop (b : List Int) (hb : Bytes b) (hl : b.length = 256) (d : Nat) : ∀ (k i : Nat) (acc : List Ow), i + d = 64 → d + 14 ≤ k → acc.length ≤ i →
    ashlarref05_Owners.l0 k b acc (i : Int) = some (og b d i acc) := by
  induction d with
  | zero =>
    intro k i acc hi hk ha
    obtain ⟨k, rfl⟩ : ∃ m, k = m + 1 := ⟨k - 1, by omega⟩
    simp only [ashlarref05_Owners.l0]
    rw [if_neg (by omega)]
    rfl
  | succ d ih =>
    intro k i acc hi hk ha
    obtain ⟨k, rfl⟩ : ∃ m, k = m + 1 := ⟨k - 1, by omega⟩
    have e4 : wrap64 ((i : Int) + 1) = ((i + 1 : Nat) : Int) := w64 (by omega) (by omega)
    have e5 : wrap64 (4 * (i : Int)) = ((4 * i : Nat) : Int) := by rw [w64 (by omega) (by omega)]; omega
    have e6 : wrap64 (((4 * i : Nat) : Int) + 2) = ((4 * i + 2 : Nat) : Int) := by rw [w64 (by omega) (by omega)]; omega
    simp only [ashlarref05_Owners.l0, e4, e5, e6]
    rw [if_pos (by omega), two_f b hb hl _ (by omega) k (by omega)]
    simp only [Option.bind_some]
    rw [two_f b hb hl _ (by omega) k (by omega)]
    simp only [Option.bind_some]
    have h0 := hb.get (i := 4 * i) (by omega)
    have h1 := hb.get (i := 4 * i + 1) (by omega)
    have h2 := hb.get (i := 4 * i + 2) (by omega)
    have h3 := hb.get (i := 4 * i + 2 + 1) (by omega)
    have e0 : IntKind.u16.wrap (leval (at_ b (4 * i) 2)) = (ow b i).f0 := by show _ = leval (at_ b (4 * i) 2); rw [u16_w, at2 b _ (by omega)]; omega
    have e1 : IntKind.u16.wrap (leval (at_ b (4 * i + 2) 2)) = (ow b i).f1 := by show _ = leval (at_ b (4 * i + 2) 2); rw [u16_w, at2 b _ (by omega)]; omega
    rw [e0, e1, rformed_f k (by omega)]
    simp only [Option.bind_some, og]
    by_cases hf : formedB (ow b i).f0 (ow b i).f1 = true
    · rw [if_pos hf, if_pos hf, if_pos (by omega)]
      exact ih k (i + 1) _ (by omega) (by omega) (by rw [List.length_append]; show acc.length + 1 ≤ _; omega)
    · rw [if_neg hf, if_neg hf]
def owners (b : List Int) : List Ow × Int := if b.length = 256 then og b 64 0 [] else ([], 18)
theorem owners_f (b : List Int) (hb : Bytes b) (k : Nat) (hk : 100 ≤ k) : group_Owners.f k b = some (owners b) := by
  unfold group_Owners.f owners
  by_cases h : b.length = 256
  · rw [if_pos (by omega), if_pos h]
    exact owners_loop b hb h 64 k 0 [] (by omega) (by omega) (Nat.zero_le _)
  · rw [if_neg (by omega), if_neg h]
theorem rowners_f (b : List Int) (hb : Bytes b) (k : Nat) (hk : 100 ≤ k) : ashlarref05_Owners.f k b = some (owners b) := by
  unfold ashlarref05_Owners.f owners
  by_cases h : b.length = 256
  · rw [if_pos (by omega), if_pos h]
    exact rowners_loop b hb h 64 k 0 [] (by omega) (by omega) (Nat.zero_le _)
  · rw [if_neg (by omega), if_neg h]
theorem og_len (b : List Int) (d : Nat) : ∀ (i : Nat) (acc : List Ow), (og b d i acc).1.length ≤ acc.length + d := by
  induction d with
  | zero => intro i acc; exact Nat.le_refl _
  | succ d ih =>
    intro i acc
    simp only [og]
    split
    · refine Nat.le_trans (ih _ _) ?_
      rw [List.length_append]; show acc.length + 1 + d ≤ _; omega
    · exact Nat.zero_le _
theorem owners_len (b : List Int) : (owners b).1.length ≤ 64 := by
  unfold owners
  split
  · have := og_len b 64 0 []; simpa using this
  · exact Nat.zero_le _
theorem same_loop (l : List Ow) (hl : l.length ≤ 1000) (d : Nat) : ∀ (k i : Nat), i + d = l.length → d < k → ashlarlaw06_sameOwners.l0 k l l (l.length : Int) (i : Int) = some true := by
  induction d with
  | zero =>
    intro k i hi hk
    obtain ⟨k, rfl⟩ : ∃ m, k = m + 1 := ⟨k - 1, by omega⟩
    simp only [ashlarlaw06_sameOwners.l0]
    rw [if_neg (by omega)]
  | succ d ih =>
    intro k i hi hk
    obtain ⟨k, rfl⟩ : ∃ m, k = m + 1 := ⟨k - 1, by omega⟩
    have e4 : wrap64 ((i : Int) + 1) = ((i + 1 : Nat) : Int) := w64 (by omega) (by omega)
    simp only [ashlarlaw06_sameOwners.l0, e4]
    rw [if_pos (by omega), if_pos (by omega), if_pos (by omega), if_pos (by omega), if_neg (by simp)]
    exact ih k (i + 1) (by omega) (by omega)
theorem same_f (l : List Ow) (hl : l.length ≤ 1000) (k : Nat) (hk : l.length < k) : ashlarlaw06_sameOwners.f k l l = some true := by
  unfold ashlarlaw06_sameOwners.f
  rw [if_pos rfl]
  exact same_loop l hl l.length k 0 (by omega) hk
theorem of_loop (l : List Ow) (hl : l.length ≤ 1000) (g : Int) (d : Nat) : ∀ (k i : Nat), i + d = l.length → d < k → ashlarref05_Of.l0 k l (l.length : Int) (i : Int) g ((l.take i).map usedT) = some (g, l.map usedT, 0) := by
  induction d with
  | zero =>
    intro k i hi hk
    obtain ⟨k, rfl⟩ : ∃ m, k = m + 1 := ⟨k - 1, by omega⟩
    simp only [ashlarref05_Of.l0]
    rw [if_neg (by omega), List.take_of_length_le (by omega)]
  | succ d ih =>
    intro k i hi hk
    obtain ⟨k, rfl⟩ : ∃ m, k = m + 1 := ⟨k - 1, by omega⟩
    have e4 : wrap64 ((i : Int) + 1) = ((i + 1 : Nat) : Int) := w64 (by omega) (by omega)
    have hil : i < l.length := by omega
    simp only [ashlarref05_Of.l0, e4]
    rw [if_pos (by omega), if_pos (by omega), if_pos (by omega), if_pos (by rw [List.length_map, List.length_take]; omega), rdO l i hil]
    have e : (l.take i).map usedT ++ [l[i].f0 != 0] = (l.take (i + 1)).map usedT := by rw [List.take_succ_eq_append_getElem hil, List.map_append]; rfl
    rw [e]
    exact ih k (i + 1) (by omega) (by omega)
instance : DecidableEq Ow := fun a b => decidable_of_iff (a.f0 = b.f0 ∧ a.f1 = b.f1) (by cases a; cases b; simp)
def freshOk (g : Int) : Bool := match group_Fresh.f 300 g with
  | some fr => decide (ashlarref05_Fresh.f 300 g = some fr) && decide (fr.length ≤ 64)
  | none => false
theorem fresh_in : ∀ g : Fin 12, freshOk (g.val : Int) = true := by decide +kernel
theorem fresh_f (g : Int) : ∃ fr, group_Fresh.f 300 g = some fr ∧ ashlarref05_Fresh.f 300 g = some fr ∧ fr.length ≤ 64 := by
  by_cases h0 : g < 0
  · refine ⟨[], ?_, ?_, Nat.zero_le _⟩
    · unfold group_Fresh.f; rw [if_pos h0]; rfl
    · unfold ashlarref05_Fresh.f; rw [if_pos h0]; rfl
  · by_cases h1 : 12 ≤ g
    · refine ⟨[], ?_, ?_, Nat.zero_le _⟩
      · unfold group_Fresh.f; rw [if_neg h0, decide_eq_true (show g ≥ 12 by omega)]; rfl
      · unfold ashlarref05_Fresh.f; rw [if_neg h0, decide_eq_true (show g > 11 by omega)]; rfl
    · obtain ⟨n, rfl⟩ := Int.eq_ofNat_of_zero_le (show 0 ≤ g by omega)
      have h := fresh_in ⟨n, by omega⟩
      unfold freshOk at h
      cases hf : group_Fresh.f 300 (n : Int) with
      | none => rw [hf] at h; exact absurd h (by simp)
      | some fr =>
        rw [hf] at h
        simp only [Bool.and_eq_true, decide_eq_true_eq] at h
        exact ⟨fr, rfl, h.1, h.2⟩
set_option maxRecDepth 100000 in
theorem GroupPages : ashlarlaw06_GroupPages.Pure := by
  refine ⟨⟨300, by decide +kernel⟩, ?_⟩
  intro g l b hg0 hg1 hw hb hbl hl
  obtain ⟨fr, hf1, hf2, hfl⟩ := fresh_f g
  have hp := page_f l (by omega) hw 300 (by omega)
  have hq := rpage_f l (by omega) hw 300 (by omega)
  refine ⟨(page l).1, (page l).2, (owners b).1, (owners b).2, fr, ⟨300, hp⟩, ⟨300, hq⟩, ⟨300, owners_f b hb 300 (by omega)⟩, ⟨300, rowners_f b hb 300 (by omega)⟩, ⟨300, same_f _ (by have := owners_len b; omega) 300 (by have := owners_len b; omega)⟩, ?_, ?_, ⟨300, hf1⟩, ⟨300, hf2⟩, ⟨300, same_f fr (by omega) 300 (by omega)⟩⟩
  · intro i hi
    exact ⟨300, 300, _, formed_f 300 (by omega) _ _, rformed_f 300 (by omega) _ _⟩
  · by_cases h : (page l).2 = 0 ∧ 0 ≤ g ∧ g < 12
    · obtain ⟨he, h0, h1⟩ := h
      have hl64 : l.length = 64 := by
        by_cases c : l.length = 64
        · exact c
        · unfold page at he; rw [if_neg c] at he; exact absurd he (by decide)
      refine .inl ⟨he, hl64, h0, h1, 300, ?_⟩
      unfold ashlarref05_Of.f
      rw [hq]
      simp only [Option.bind_some]
      rw [if_neg (by omega), if_neg (by omega), he]
      have := of_loop l (by omega) g l.length 299 0 (by omega) (by omega)
      simpa [ashlarref05_Of.j0] using this
    · refine .inr ⟨by have := pg_err l []; omega, 300, ?_⟩
      unfold ashlarref05_Of.f
      rw [hq]
      simp only [Option.bind_some]
      by_cases h0 : g < 0
      · rw [if_pos h0]; rfl
      · rw [if_neg h0]
        by_cases h1 : g > 11
        · rw [if_pos h1]; rfl
        · rw [if_neg h1]
          have hne : (page l).2 ≠ 0 := fun e => h ⟨e, by omega, by omega⟩
          rw [show ((page l).2 != 0) = true from bne_iff_ne.mpr hne]; rfl
theorem split_reads {α : Type} {R1 : α → List Value → Prop} {Q : α → Prop} {C : Nat} {w : World} {A : Option Addr} {len : Nat} {l : List α} (h : ReadsRow (fun p c => R1 p c ∧ Q p) C w A len l) : ReadsRow R1 C w A len l ∧ ∀ p ∈ l, Q p := by
  obtain ⟨h1, h2, h3⟩ := h
  refine ⟨⟨h1, h2, fun hp => ?_⟩, fun p hp => ?_⟩
  · obtain ⟨ad, e, hc⟩ := h3 hp
    refine ⟨ad, e, fun j p hj => ?_⟩
    obtain ⟨c, hs, hr, hcell⟩ := hc j p hj
    exact ⟨c, hs, hr.1, hcell⟩
  · obtain ⟨j, hj⟩ := List.getElem?_of_mem hp
    have hjl : j < l.length := (List.getElem?_eq_some_iff.1 hj).1
    obtain ⟨ad, e, hc⟩ := h3 (by omega)
    obtain ⟨c, hs, hr, hcell⟩ := hc j p hj
    exact hr.2
theorem u16_of_wf {n : Int} (h : (Lit.int .u16 n).wf = true) : 0 ≤ n ∧ n ≤ 65535 := by
  simp [Lit.wf, IntKind.min, IntKind.max, IntKind.signed, IntKind.bits] at h
  omega
theorem GroupPages_walk (g : Int) (A1 : Option Addr) (c1 : Nat) (l : List Ow) (a2 : Option Addr) (len2 cap2 : Nat) (z2 : List Int) (w : World) (w0 : (Lit.int .i64 g).wf = true) (hr1 : Kd.C k100 w A1 l.length l) (hc1 : l.length ≤ c1) (hw1 : ∀ o ∈ l, ok16 o) (w2 : (a2 = none ∧ len2 = 0 ∧ cap2 = 0 ∧ z2 = []) ∨ ∃ x, a2 = some x ∧ len2 ≤ cap2 ∧ cap2 ≤ maxLen ∧ z2.length = cap2 ∧ (∀ i, i < z2.length → w.cell? (x.add i) = some (.int .u8 (z2.getD i 0))) ∧ ∀ n ∈ z2, (Lit.int .u8 n).wf = true) (y2 : len2 * 1 ≤ 140737488351232) :
    Calls Try.prog 11 #[.int .i64 g, .slice A1 l.length c1, .slice a2 len2 cap2] w fun e w' => e = .returned (.bool true) ∧ Below w.heap.size w w' := by
  obtain ⟨l0, rfl, hr0, hm0, hw0, hc0⟩ := ReadsInt.ofRowC w2
  exact ashlarlaw06_GroupPages.walk GroupPages g A1 c1 l a2 cap2 l0 w (Num.i64_of_wf w0) hr1 hc1 hw1 (Kd.C_of_reads (d := (0 : Int)) (h1 := fun _ => rfl) hr0) hc0 (Num.bytes_of_wf hw0) (by omega)
end Go.Proofs.Ytignifnkjlldpaa.Pure
